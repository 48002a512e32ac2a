/- Part of the proof. -/
import Derived.Test.YtpejealjkmhkgaaGreatDoorKAi
import Derived.RangeFuncNested
set_option linter.all false
set_option maxHeartbeats 16000000
set_option maxRecDepth 100000
open Nat renaming lt_succ_of_lt->YL
open Bool renaming and_eq_true->YM
open Array renaming toList_append->YN
namespace Go.AM
open Go.RowKit (Below)
def FW:fH->Bool
 |.cells .. =>false
 |.dead=>false
 |_=>true
variable{j:Nat}
section
variable{w0:World} {N0:Nat} {G:Nat->Prop} {ρ:Ren} {st:St} {w:World}
theorem dj.vL(t:dj w0 N0 G ρ st w){l:Loc}{o o2:fH}{co:Obj}(s:ρ j=some l)(Q:st.get j=some o)(Y:FW o=true)(T:FW o2=true)(d:vA ρ l o2 (some co)):
  dj w0 N0 G ρ (st.put j o2) {w with heap:=w.heap.setIfInBounds l.b co}:=by
 have J:=t.vt _ _ s;have m:∀k,k≠l.b->(w.heap.setIfInBounds l.b co)[k]?=w.heap[k]?:=fun k R=>Array.getElem?_setIfInBounds_ne (fun v=>R v.symm);have D:(w.heap.setIfInBounds l.b co)[l.b]?=some co:=Array.getElem?_setIfInBounds_self_of_lt J.2.2;have n:∀S K F,ρ S=some K->(st.put j o2).get S=some F->K.b=l.b->S=j∨F=.dead:=by
  intro S K F g I e;by_cases A:S=j
  ·exact .inl A
  ·rw[cW,if_neg A]at I;have:=t.sep _ _ _ _ _ _ s g e.symm Q I (fun v=>A v.symm);cases o<;>cases F<;>first|exact .inr rfl|exact this.elim|cases Y
 refine⟨⟨fun b o a=>?_,fun b c v p q a=>?_,t.wf.Kt⟩,?_,by simpa using t.Cu,t.HZ,fun b B a=>by have:=t.vt b B a;exact⟨this.1,this.2.1,by simpa using this.2.2⟩,fun b B o a f=>?_,fun b W h i X o2 E C P N L H=>?_⟩
 ·rw[cW]at a;split at a
  ·rename_i v;subst v;exact t.wf.lt _ _ Q
  ·exact t.wf.lt _ _ a
 ·rw[cW]at a;split at a
  ·cases a;cases T
  ·exact t.wf.dS _ _ _ _ _ a
 ·exact t.below.trans ⟨Z,Z,Z,by simp,fun k R=>m k om⟩
 ·show vA ρ B o (w.heap.setIfInBounds l.b co)[B.b]?;by_cases e:B.b=l.b
  ·rcases n _ _ _ a f e with rfl|rfl
   ·rw[cW,if_pos rfl]at f;cases f;rw[s]at a;cases a;rw[D];exact d
   ·trivial
  ·rw[m _ e];rw[cW]at f;split at f
   ·rename_i v;subst v;rw[s]at a;cases a;exact absurd rfl e
   ·exact t.obj _ _ _ a f
 ·by_cases e:h.b=l.b
  ·rcases n _ _ _ E N e with O|O
   ·rcases n _ _ _ C L (P▸e)with M|M
    ·exact absurd (O.trans M.symm) H
    ·subst M;cases X<;>trivial
   ·subst O;cases o2<;>trivial
  ·have V:b≠j:=fun v=>by subst v;rw[s]at E;cases E;exact e rfl
   have U:W≠j:=fun v=>by subst v;rw[s]at C;cases C;exact e P
   rw[cW,if_neg V]at N;rw[cW,if_neg U]at L;exact t.sep _ _ _ _ _ _ E C P N L H
end
section
variable{P:Program} {b:FB} {tm:Array Value} {df:List Deferred} {k:List Item} {cs:List Frame} {w:World}
theorem DK{f:Operand}{e:Array Tmp}{c n:Code}{l:Nat}{mark:List Deferred}{w1:World}{o:FuncId}{first a:Array Value}(A:BB tm f=.func (.func o) first a) 
  (s:(Instr.enterLoop b.fn tm e c n b.round).run P w=.ok (l,mark) w1) (B:(callFunc o (first++ #[.func (.yield l) #[] #[]]++a)).run P w1=.ok (.enter o (first++ #[.func (.yield l) #[] #[]]++a)) w1):
  step P (lone (ek b tm df (.code (.rangeFunc f e c n)::k)) cs w)=
   .next (lone (Frame.enter P o (first++ #[.func (.yield l) #[] #[]]++a) .normal) (ek b tm (mark++df) (.inRangeFunc l::k)::cs) w1):=by
 refine step_lone_go ?_;have t:=zR b tm (mark++df) (.inRangeFunc l::k);have m:(do let C<-resolve (ek b tm (mark++df) (.inRangeFunc l::k)).eval {callee:=.value f,args:= #[.const (.func (.yield l) #[] #[])],argTypes:= #[]} 0;invoke C.target C.args:Sem Next).run P w1=.ok (.enter o (first++ #[.func (.yield l) #[] #[]]++a)) w1:=by
  rw[t];unfold resolve;have v:Array.map (BB tm) #[.const (.func (.yield l) #[] #[])]= #[.func (.yield l) #[] #[]]:=by simp[BB]
  simp only[A,v];exact B
 simp only[ek]at m s⊢;simp[stepG,stepG.exec,Sem.runT_eq,s,stepG.apply,m]
theorem FX{l:Nat}{a:Option Code}{w1:World}(c:(Instr.endLoop l).run P w=.ok a w1):
  step P (lone (ek b tm df (.endRangeFunc l::k)) cs w)=.next (lone (ek b tm df ((a.map Item.code).toList++k)) cs w1):=
 step_lone_go (by simp[stepG,stepG.exec,ek,Sem.runT_eq,c])
end
variable{x:Fr} {y:Ex} {z:St} {q r:ec}
section
variable{C:dU} {w0:World} {N0:Nat} {G:Nat->Prop} {fc:FC} {b:FB} {rc:Rec}
theorem xr{ρ:Ren}{st E:St}{w:World}{D:Fr}{tm:Array Value}{df:List Deferred}{params:Array Tmp}{assign body:Code}{l:Nat}(H:codeOk assign=true/\codeOk body=true)(I:nH fc x params.toList assign body st=some (l,D,E))(A:dj w0 N0 G ρ st w)(m:ks ρ fc x b tm df):
  ∃t w1 v mark,ρ.le t/\dj w0 N0 G t E w1/\t l=some v/\(Instr.enterLoop b.fn tm params assign body b.round).run C.P w=.ok (v.b,mark) w1/\ks t fc D b tm (mark++df):=by
 unfold nH at I;split at I
 ·rename_i W e;split at I
  ·rename_i T P;simp only[Option.some.injEq,Prod.mk.injEq]at I;obtain⟨rfl,rfl,rfl⟩:=I;have n:=m.round;rw[e]at n;obtain⟨s,Q,M⟩:=n;obtain⟨V,O,S⟩:=A.obj _ _ _ Q P;have f:=A.gY
   let v:Loc:=⟨w.heap.size,0,0,0⟩
   have a:=er (l:=v) f;obtain⟨U,N,R⟩:=S.defers;refine⟨ρ.add st.n v,_,v,[],a,A.new (l:=v) (o:=.loop {state:=.ready,pending:=none,fn:=fc.fn,tm:=x.tm,nt:=fc.nt,params:=params.toList,assign,body,defers:=T.defers}) (co:=.loop {state:=.ready,pending:=none,fn:=b.fn,tmps:=tm,params,assign,body,defers:=V.defers}) Z trivial ?_,c6 _ _ _,?_,?_⟩
   ·exact⟨_,Z,Z,Z,m.fn,m.tm.mono a,Z,Z,Z,⟨U,a _ _ N,R⟩,H⟩
   ·rw[M];exact run_enterLoop_inner O _ _ _ _ _
   ·exact m.mono a
  ·cases I
 ·rename_i e;simp only[Option.some.injEq,Prod.mk.injEq]at I;obtain⟨rfl,rfl,rfl⟩:=I;have n:=m.round;rw[e]at n;have f:=A.gY
  let s:Loc:=⟨w.heap.size,0,0,0⟩
  have a:=er (l:=s) f;have F:=A.new (l:=s) (o:=.eG false) (co:=.deferred (some [])) rfl trivial rfl;have B:=F.gY
  let v:Loc:=⟨w.heap.size+1,0,0,0⟩
  have c:=er (l:=v) B;have J:((ρ.add st.n s).add (st.new (.eG false)).n v) st.n=some s:=c _ _ (c6 _ _ _);have L:=F.new (l:=v) (o:=.loop {state:=.ready,pending:=none,fn:=fc.fn,tm:=x.tm,nt:=fc.nt,params:=params.toList,assign,body,defers:=st.n}) (co:=.loop {state:=.ready,pending:=none,fn:=b.fn,tmps:=tm,params,assign,body,defers:=w.heap.size}) (by simp[v]) trivial
   ⟨_,rfl,rfl,rfl,m.fn,m.tm.mono (a.trans c),rfl,rfl,rfl,⟨s,J,rfl⟩,H⟩
  refine⟨_,_,v,[{target:=.collected w.heap.size,args:= #[]}],a.trans c,L,c6 _ _ _,?_,?_⟩
  ·have K:b.round=none:=n;rw[K];exact run_enterLoop_outer _ _ _ _ _
  ·have k:=m.mono (a.trans c);exact⟨k.fn,k.round,k.kind,k.tm,⟨⟨⟨s,J,Z⟩,.nil⟩,k.df⟩⟩
theorem N9.pass{P:Program}{l:Machine}{ρ:Ren}{k k':List Item}{tm:Array Value}{df:List Deferred}{cs:List Frame}{w:World}(hx:y≠.norm)(f:∀id,y=.exit id->exitTo id k'=exitTo id k)(a:N9 P l ρ b k' tm df cs w y):N9 P l ρ b k tm df cs w y:=by
 cases y with
 |norm=>exact absurd rfl hx
 |exit id=>obtain⟨c,s,e⟩:=a;exact⟨c,s,e.trans (f id rfl)⟩
 |ret=>exact a
 |panic m=>exact a
theorem hh.pass{ρ:Ren}{F:Machine}{k k':List Item}{n c:ec}{cs:List Frame}{s:Ex}{e:Fr}{a:St}(hx:s≠.norm)(w:∀id,s=.exit id->exitTo id k'=exitTo id k)(H:hh C w0 N0 G ρ fc F b k' n cs s e c a):hh C w0 N0 G ρ fc F b k n cs s e c a:=by
 obtain⟨l,v,m,o,f,B,E,A,D,t⟩:=H;exact⟨l,v,m,o,f,B,E,A,D,t.pass hx w⟩
theorem IB{ρ:Ren}{c:Code}{k:List Item}{tm:Array Value}{df:List Deferred}{w:World}{cs:List Frame}(T:hh C w0 N0 G ρ fc (lone (ek b tm df (.code (.loop c)::k)) cs w) b k q cs y x r z):
  hh C w0 N0 G ρ fc (lone (ek b tm df (.inLoop c::k)) cs w) b k q cs y x r z:=by
 have l:∀J,Steps C.P (lone (ek b tm df (.code (.loop c)::k)) cs w) J->J≠lone (ek b tm df (.code (.loop c)::k)) cs w->Steps C.P (lone (ek b tm df (.inLoop c::k)) cs w) J:=by
  rintro J ⟨Q,o⟩ B;cases Q with
  |zero=>simp[runN]at o;exact absurd o.symm B
  |succ Q=>
   simp only[runN,KB]at o;exact .head LW ⟨Q,o⟩
 have f:∀{M A:Frame} {v t:List Frame} {w1 I:World},lone M v w1=lone A t I->M=A:=by
  intro M A v t w1 I a;simp[lone]at a;exact a.2.1
 obtain⟨D,K,E,H,F,N,P,R,O,n⟩:=T;refine⟨D,K,E,H,F,N,P,R,O,?_⟩;cases y with
 |norm=>
  refine l _ n fun a=>?_;have:=congrArg Frame.todo (f a);simp only[ek]at this;exact absurd (congrArg List.length this) sm
 |exit id=>
  obtain⟨m,s,e⟩:=n;refine⟨m,l _ s fun a=>?_,e⟩;have:=congrArg Frame.todo (f a);simp[ek]at this
 |ret=>
  obtain⟨m,s⟩:=n;refine⟨m,l _ s fun a=>?_⟩;have:=congrArg Frame.todo (f a);simp[ek]at this
 |panic U=>
  obtain⟨m,L,S,s⟩:=n;refine⟨m,L,S,l _ s fun a=>?_⟩;have:=congrArg Frame.mode (f a);simp[ek]at this
end
section
variable{C:dU} {w0:World} {N0:Nat} {G:Nat->Prop} {fc:FC} {b:FB} {rc:Rec}
theorem qq(ba:l6 C)(aO:Cy C)(bc:mb C)(aC:C.P.follows .mixedOrders=true)(aJ:∀G,uf C w0 N0 G rc):∀(c:Code) (A:Fr) (v:ec) (st:St) (p:Ex) (o:Fr) (n:ec) (m:St),
  code C rc fc c A v st=some (p,o,n,m)->codeOk c=true->∀(ρ:Ren) (w:World) (tm:Array Value) (df:List Deferred) (cs:List Frame) (k:List Item),dj w0 N0 G ρ st w->ks ρ fc A b tm df->sa ρ fc.BA v cs->
  hh C w0 N0 G ρ fc (lone (ek b tm df (.code c::k)) cs w) b k v cs p o n m:=by
 intro c;induction c with
 |skip=>
  intro A v st p o n m f l ρ w tm df cs k B t E;simp only[code,Option.some.injEq,Prod.mk.injEq]at f;obtain⟨rfl,rfl,rfl,rfl⟩:=f;exact⟨ρ,w,tm,df,cs,Ren.le_refl _,B,t,.refl _ _,.one Ry⟩
 |region id bp be=>
  intro A v st p o n m f l ρ w tm df cs k B t E;simp only[code]at f;refine DJ ba aO bc aC aJ (fun bh=>?_) f k B t E;subst bh;exact l
 |seq a b R ah=>
  intro A v st p o n m f l ρ w tm df cs k B t E;simp only[codeOk,YM]at l;simp only[code]at f;cases U:code C rc fc a A v st with
  |none=>rw[U]at f;cases f
  |some aD=>
   obtain⟨j,d,ab,g⟩:=aD;have D:=R _ _ _ _ _ _ _ U l.1 ρ w tm df cs (.code b::k) B t E;have D:=D.of_steps (Ren.le_refl _) (.refl _ _) (.one (T1 (P:=C.P) (x:=a) (y:=b) (k:=k)));rw[U]at f;by_cases hx:j=.norm
   ·subst hx;obtain⟨H,w1,S,V,O,s,I,K,J,N⟩:=D;exact .of_steps s J N (ah _ _ _ _ _ _ _ f l.2 H w1 S V O k I K ((E.mono s).step J))
   ·have T:some (j,d,ab,g)=some (p,o,n,m):=by
     cases j with
     |norm=>exact absurd rfl hx
     |_=>exact f
    cases T;exact hh.pass (k':=.code b::k) hx (fun _ _=>Z) D
 |cond c a b R ah=>
  intro A v st p o n m f l ρ w tm df cs k B t E;simp only[codeOk,YM]at l;simp only[code]at f;split at f
  ·rename_i z;have Y:=nL t.tm c _ z;generalize u:BB tm c=ae at Y;cases Y;exact .of_steps (Ren.le_refl _) (.refl _ _) (.one (KA u)) (R _ _ _ _ _ _ _ f l.1 ρ w tm df cs k B t E)
  ·rename_i z;have Y:=nL t.tm c _ z;generalize u:BB tm c=ae at Y;cases Y;exact .of_steps (Ren.le_refl _) (.refl _ _) (.one (KA u)) (ah _ _ _ _ _ _ _ f l.2 ρ w tm df cs k B t E)
  ·cases f
 |block id a R=>
  intro A v st p o n m f l ρ w tm df cs k B t E;simp only[codeOk]at l;simp only[code]at f;cases U:code C rc fc a A v st with
  |none=>rw[U]at f;cases f
  |some aD=>
   obtain⟨j,d,ab,g⟩:=aD;have D:=R _ _ _ _ _ _ _ U l ρ w tm df cs (.inBlock id::k) B t E;have D:=D.of_steps (Ren.le_refl _) (.refl _ _) (.one (Oy (P:=C.P) (id:=id) (c:=a) (k:=k)));rw[U]at f;cases j with
   |norm=>
    cases f;obtain⟨H,w1,S,V,O,s,I,K,J,N⟩:=D;exact⟨H,w1,S,V,O,s,I,K,J,N.trans (.one It)⟩
   |exit au=>
    simp only at f;split at f
    ·rename_i hid;have hid:=Nat.eq_of_beq_eq_true hid;subst hid;cases f;obtain⟨H,w1,S,V,O,s,I,K,J,bi,N,aY⟩:=D;have aL:exitTo au bi=some k:=by rw[aY];simp[exitTo]
     exact⟨H,w1,S,V,O,s,I,K,J,N.trans (.one (Rz aL))⟩
    ·rename_i hid;cases f;refine D.pass (by intro e;cases e) fun bl am=>?_;cases am;have:=Nat.ne_of_beq_eq_false hid;simp only[exitTo];rw[if_neg (by simpa using fun e:id=au=>this e.symm)]
   |ret=>cases f;exact D.pass (by intro e;cases e) fun bl am=>by cases am
   |panic bo=>cases f;exact D.pass (by intro e;cases e) fun bl am=>by cases am
 |loop a R=>
  intro A v st p o n m f l ρ w tm df cs k B t E;simp only[codeOk]at l;simp only[code]at f;cases U:code C rc fc a A v st with
  |none=>rw[U]at f;cases f
  |some aD=>
   obtain⟨j,d,ab,g⟩:=aD;have D:=R _ _ _ _ _ _ _ U l ρ w tm df cs (.inLoop a::k) B t E;have D:=D.of_steps (Ren.le_refl _) (.refl _ _) (.one (KB (P:=C.P) (c:=a) (k:=k)));rw[U]at f;by_cases hx:j=.norm
   ·subst hx;obtain⟨H,w1,S,V,O,s,I,K,J,N⟩:=D;exact .of_steps s J N (IB ((aJ G).code _ _ _ _ _ _ _ _ _ f l H w1 b S V O k I K ((E.mono s).step J)))
   ·have T:some (j,d,ab,g)=some (p,o,n,m):=by
     cases j with
     |norm=>exact absurd rfl hx
     |_=>exact f
    cases T;exact hh.pass (k':=.inLoop a::k) hx (fun _ _=>Z) D
 |rangeFunc bj aQ aM bf _ _=>
  intro A v st p o n m f l ρ w tm df cs k B t E;simp only[codeOk,YM]at l;simp only[code]at f;split at f
  ·rename_i bq first W bg d g aW aF
   split at f
   ·cases f
   ·rename_i br aV;have Y:=nL t.tm bj _ aW;generalize u:BB tm bj=ae at Y;cases Y with
    |@func _ _ x _ M aj ap=>
    obtain⟨H,w1,ax,mark,s,I,aT,aG,K⟩:=xr (C:=C) l aF B t;have ai:=DK (P:=C.P) (df:=df) (k:=k) (cs:=cs) u aG (pt aO aV _);have aq:cU H (first.toList++[.func (.yield bg) #[] #[]]++W.toList) (x++ #[Value.func (.yield ax.b) #[] #[]]++M).toList:=by
     simp only[YN];exact((aj.mono s).append (.cons (.yield aT .nil .nil) .nil)).append (ap.mono s)
    cases z:rc.call bq (first.toList++[.func (.yield bg) #[] #[]]++W.toList) false .none g with
    |none=>rw[z]at f;cases f
    |some aD=>
     obtain⟨bb,bk,aS⟩:=aD;rw[z]at f;obtain⟨az,aK,F,bn,h,ag,aI,y,ay,an,ao,fn,ak,L⟩:=(aJ G).call _ _ _ _ _ _ _ _ z H w1 (x++ #[Value.func (.yield ax.b) #[] #[]]++M) (ek b tm (mark++df) (.inRangeFunc ax.b::k)::cs) I aq trivial;obtain⟨_,rfl⟩:=lH aI;have av:=K.mono h;cases bb with
     |ret bo=>
      simp only at f L;obtain⟨i,ae,L,_⟩:=L;have q:=step_leave_returned (P:=C.P) (c:=ek b tm (mark++df) (.inRangeFunc ax.b::k)) (cs:=cs) (w:=aK) (fr:=F) ⟨i,an,ao,fn,by rw[ay];exact ak,L⟩;have aH:(ek b tm (mark++df) (.inRangeFunc ax.b::k)).finish ae=ek b tm (mark++df) (.endRangeFunc ax.b::k):=rfl;rw[aH]at q;split at f
      ·rename_i af ar;have aw:=h _ _ aT;obtain⟨aB,aN,X⟩:=ag.obj _ _ _ aw ar;have aP:af.state≠.busy->∃aU,Dn af.pending=some aU/\(aU,d,v,aS.put bg (.loop {af with state:=.exhausted}))=(p,o,n,m):=by
        intro aa;split at f
        ·rename_i aX;exact absurd aX aa
        ·split at f
         ·rename_i aU r;cases f;exact⟨_,r,rfl⟩
         ·cases f
       have aa:af.state≠.busy:=by
        intro T;rw[T]at f;cases f
       obtain⟨aU,r,T⟩:=aP aa;cases T;have aE:=run_endLoop (P:=C.P) aN (by rw[X.state];exact aa);have aR:=ag.vL (o2:=.loop {af with state:=.exhausted}) (co:=.loop {aB with state:=.exhausted}) aw ar rfl rfl ⟨_,rfl,rfl,X.pending,X.fn,X.tm,X.params,X.assign,X.body,X.defers,X.ok⟩;have aA:=FX (P:=C.P) (b:=b) (tm:=tm) (df:=mark++df) (k:=k) (cs:=cs) aE;have Q:=Steps.head ai (y.trans (.head q (.one aA)));refine⟨az,_,tm,mark++df,cs,s.trans h,aR,av,.refl _ _,?_⟩;have ad:=X.pending;cases ac:af.pending with
       |none=>
        rw[ac]at ad r;cases r;have T:(Option.map Item.code aB.pending).toList++k=k:=by rw[ad];rfl
        rw[T]at Q;exact Q
       |some bm=>
        rw[ac]at ad r;have T:(Option.map Item.code aB.pending).toList++k=.code bm::k:=by rw[ad];rfl
        rw[T]at Q;cases bm with
        |ret=>cases r;exact⟨k,Q⟩
        |exit id=>cases r;exact⟨k,Q,rfl⟩
        |_=>cases r
      ·cases f
     |eE bo=>
      simp only at f L;cases f;obtain⟨ae,i,Y⟩:=L;have q:=step_leave_panicked (P:=C.P) (c:=ek b tm (mark++df) (.inRangeFunc ax.b::k)) (cs:=cs) (w:=aK) (fr:=F) ⟨i,an,fn,by rw[ay];exact ak⟩;exact⟨az,aK,tm,mark++df,cs,s.trans h,ag,av,.refl _ _,.inRangeFunc ax.b::k,ae,Y,Steps.head ai (y.trans (.one q))⟩
  ·cases f
 |exit id=>
  intro A v st p o n m f l ρ w tm df cs k B t E;simp only[code,Option.some.injEq,Prod.mk.injEq]at f;obtain⟨rfl,rfl,rfl,rfl⟩:=f;exact⟨ρ,w,tm,df,cs,Ren.le_refl _,B,t,.refl _ _,k,.refl _ _,Z⟩
 |ret=>
  intro A v st p o n m f l ρ w tm df cs k B t E;simp only[code,Option.some.injEq,Prod.mk.injEq]at f;obtain⟨rfl,rfl,rfl,rfl⟩:=f;exact⟨ρ,w,tm,df,cs,Ren.le_refl _,B,t,.refl _ _,k,.refl _ _⟩
 |scope _ _=>intro A v st p o n m f;cases f
 |label _=>intro A v st p o n m f;cases f
 |goto _=>intro A v st p o n m f;cases f
 |refuse _=>intro A v st p o n m f;cases f
end
def FY(ρ:Ren)(c:Mode)(b:FrameMode):Prop:=
 match c with
 |.returning=>b=.returning
 |.panicking v=>∃a,b=.panicking [{v:=a,recovered:=false}]/\cY ρ v a
theorem FY.mono{ρ a:Ren}(b:ρ.le a){f:Mode}{c:FrameMode}(k:FY ρ f c):FY a f c:=by
 cases f with
 |returning=>exact k
 |panicking n=>obtain⟨e,m,l⟩:=k;exact⟨e,m,l.mono b⟩
def L5(a:Mode):ec:=match a with|.returning=>.none|.panicking b=>.fu b
variable{p:List Deferred} {h:Value}
section
variable{P:Program} {F:Frame} {cs:List Frame} {w w1:World}
theorem KC{ρ:Ren}{e:Mode}{b:FrameMode}(c:FY ρ e b):b≠.run:=by
 cases e with
 |returning=>intro a;rw[a]at c;cases c
 |panicking k=>obtain⟨f,a,_⟩:=c;rw[a];intro a;cases a
theorem RC{args:Array Value}{b:List Deferred}(f:F.mode≠.run)(c:F.defers={target:=.collected j,args}::p)(e:(Instr.takeDeferred j).run P w=.ok b w1):
  step P (lone F cs w)=.next (lone {F with defers:=b++p} cs w1):=by
 refine step_lone_go ?_;cases a:F.mode with
 |run=>exact absurd a f
 |returning=>simp[stepG,a,unwind,c,Sem.runT_eq,e]
 |panicking k=>simp[stepG,a,unwind,c,Sem.runT_eq,e]
theorem FZ{f:FuncId}{args a:Array Value}(k:F.mode≠.run)(c:F.defers={target:=.fn (.func f) a,args}::p)(l:(callFunc f (args++a)).run P w=.ok (.enter f (args++a)) w1):
  step P (lone F cs w)=.next (lone (Frame.enter P f (args++a) .deferred) ({F with defers:=p}::cs) w1):=by
 have e:(invoke (.fn (.func f) a) args).run P w=.ok (.enter f (args++a)) w1:=l;refine step_lone_go ?_;cases b:F.mode with
 |run=>exact absurd b k
 |returning=>simp[stepG,b,unwind,c,callDeferred,Sem.runT_eq,e]
 |panicking m=>simp[stepG,b,unwind,c,callDeferred,Sem.runT_eq,e]
def F0(c:Frame):Frame:=
 match c.mode with
 |.panicking ({recovered:=true,.. }::a)=>
  match a.dropWhile (!·.goexit)with
  |[]=>{c with mode:=.returning}
  |rest=>{c with mode:=.panicking rest}
 |_=>c
theorem oI{c:Frame}{fn:Func}(b:F.mode=.returning)(a:F.defers=[])(e:F.kind=.deferred)(f:P.funcs[F.fn]?=some fn)(k:(results fn F.tmps).run P w=.ok h w):
  step P (lone F (c::cs) w)=.next (lone (F0 c) cs w):=by
 refine step_lone_go ?_;simp[stepG,b,unwind,a,f,Sem.runT_eq,k,doReturn,e,F0];rfl
end
section
variable{C:dU} {w0:World} {N0:Nat} {G:Nat->Prop} {rc:Rec} {b:FB}
theorem vM(ak:Cy C)(an:uf C w0 N0 G rc)(tm:Array Value)(c:List Item)(cs:List Frame):∀(Q:List Deferred) (m:Mode) (st:St) (g:Mode) (D:St),jI C rc Q m st=some (g,D)->
  ∀(ρ:Ren) (w:World) (df:List Deferred) (n:FrameMode),dj w0 N0 G ρ st w->zT ρ Q df->FY ρ m n->
  ∃k I s,ρ.le k/\dj w0 N0 G k D I/\FY k g s/\Steps C.P (lone {ek b tm df c with mode:=n} cs w) (lone {ek b tm [] c with mode:=s} cs I):=by
 intro Q;induction Q with
 |nil=>
  intro m st g D K ρ w df n R V o;simp only[jI,Option.some.injEq,Prod.mk.injEq]at K;obtain⟨rfl,rfl⟩:=K;cases df with
  |nil=>exact⟨ρ,w,n,Ren.le_refl _,R,o,.refl _ _⟩
  |cons aq df=>exact V.elim
 |cons aq Q ag=>
  intro m st g D K ρ w df n R V o;cases df with
  |nil=>exact V.elim
  |cons al df=>
  obtain⟨j,h⟩:=V;have t:=j.target;obtain⟨aC,args⟩:=aq;obtain⟨z,f⟩:=al;simp only[jI]at K;split at K
  ·rename_i ai;split at K
   ·rename_i aa;cases z with
    |collected av=>
     obtain⟨au,ad,rfl⟩:=t;have q:w.heap[au.b]?=some (.deferred (some [])):=R.obj _ _ _ ad aa;have O:=RC (P:=C.P) (F:={ek b tm ({target:=.collected au.b,args:=f}::df) c with mode:=n}) (cs:=cs) (KC o) rfl (run_takeDeferred q);have af:=R.vL (o2:=.eG true) (co:=.deferred none) ad aa rfl rfl rfl;obtain⟨k,I,s,U,L,M,l⟩:=ag _ _ _ _ K ρ _ df n af h o;exact⟨k,I,s,U,L,M,.head O l⟩
    |_=>exact t.elim
   ·cases K
  ·rename_i aw v;split at K
   ·rename_i aA aB aj ap ah ao;cases z with
    |fn ax a=>
     cases ax with
     |func az=>
      obtain⟨rfl,Y⟩:=t;have d:cU ρ (args.toList++v.toList) (f++a).toList:=by
       simp only[YN];exact j.args.append Y
      have O:=FZ (P:=C.P) (F:={ek b tm ({target:=.fn (.func aw) a,args:=f}::df) c with mode:=n}) (cs:=cs) (KC o) rfl (pt (w:=w) ak ah _);have ae:sa ρ true (L5 m) ({ek b tm df c with mode:=n}::cs):=by
       cases m with
       |returning=>exact⟨_,_,rfl,o⟩
       |panicking ar=>obtain⟨W,e,ai⟩:=o;exact⟨_,_,W,rfl,e,ai⟩
      obtain⟨i,x,F,y,A,ab,r,l,p,T,B,fn,N,E,W,S,_⟩:=an.call _ _ _ _ _ _ _ _ ao ρ w (f++a) ({ek b tm df c with mode:=n}::cs) R d ae;have X:∃H,FY i (match m,aj with|.panicking _,.pG=>.returning|m,_=>m) H/\step C.P (lone F y x)=.next (lone {ek b tm df c with mode:=H} cs x):=by
       rcases r with⟨rfl,rfl⟩|⟨ar,am,rfl,rfl⟩
       ·refine⟨n,?_,?_⟩
        ·cases m<;>exact o.mono A
        ·rw[oI E T B (by rw[p];exact N) S];cases m with
         |returning=>
          cases o;rfl
         |panicking ar=>
          obtain⟨W,rfl,ai⟩:=o;rfl
       ·cases m with
        |returning=>cases am
        |panicking ay=>
         obtain⟨W,rfl,ai⟩:=o;refine⟨.returning,Z,?_⟩;simp only[vI];rw[oI E T B (by rw[p];exact N) S];rfl
      obtain⟨H,ac,u⟩:=X;obtain⟨k,I,s,U,L,M,J⟩:=ag _ _ _ _ K i x df H ab (h.mono A) ac;exact⟨k,I,s,A.trans U,L,M,.head O (l.trans (.head u J))⟩
     |_=>exact t.elim
    |_=>exact t.elim
   ·cases K
  ·cases K
end
variable{g:List Value} {i:Array Value} {u:CR}
section
variable{C:dU} {w0:World} {N0:Nat} {G:Nat->Prop} {rc:Rec}
theorem DL(v:l6 C){ρ:Ren}{st:St}{w:World}{t:Tr Value}{tm:Array Value}(A:dj w0 N0 G ρ st w)(l:fU ρ j t tm){n:ResultVar}(k:zJ C t st n=some h):
  ∃a,((match n with|.tmp t=>pure (tm.getD t undef)|.cell o t=>do loadVar t (<-asAddr (tm.getD o undef))):Sem Value).run C.P w=.ok a w/\cY ρ h a:=by
 cases n with
 |tmp J=>exact⟨_,rfl,l.get k⟩
 |cell o D=>
  simp only[zJ]at k;split at k
  ·rename_i K B;split at k
   ·rename_i L s c;cases k;have f:=l.get B;obtain⟨a,m,E,_⟩:=Fp v A f c;refine⟨a,?_,E⟩;unfold vv at c;split at c
    ·rename_i H b I _;obtain⟨M,F,e⟩:=oF f;rw[e]at m;show(do loadVar D (<-asAddr (tm.getD o undef)):Sem Value).run C.P w=.ok a w;rw[e];exact m
    ·cases c
   ·cases k
  ·cases k
theorem BK(o:l6 C){ρ:Ren}{st:St}{w:World}{t:Tr Value}{tm:Array Value}(v:dj w0 N0 G ρ st w)(n:fU ρ j t tm):∀{k:List ResultVar} {b:List Value},oB C t st k=some b->
  ∃a,(k.mapM (fun E=>(match E with|.tmp t=>pure (tm.getD t undef)|.cell F t=>do loadVar t (<-asAddr (tm.getD F undef)):Sem Value))).run C.P w=.ok a w/\cU ρ b a:=by
 intro k;induction k with
 |nil=>intro b c;cases c;exact⟨[],rfl,.nil⟩
 |cons E k B=>
  intro b c;simp only[oB]at c;split at c
  ·rename_i H WX s m;cases c;obtain⟨l,A,D⟩:=DL o v n s;obtain⟨a,e,f⟩:=B m;refine⟨l::a,?_,.cons D f⟩;rw[List.mapM_cons,b5 _ A,b5 _ e];rfl
  ·cases c
theorem BL(l:l6 C){ρ:Ren}{st:St}{w:World}{t:Tr Value}{tm:Array Value}(k:dj w0 N0 G ρ st w)(n:fU ρ j t tm){fn:Func}(f:oB C t st fn.results.toList=some g):
  ∃c,(results fn tm).run C.P w=.ok c w/\cY ρ (s3 g) c:=by
 obtain⟨b,m,a⟩:=BK l k n f;have e:(fn.results.mapM (fun s=>(match s with|.tmp t=>pure (tm.getD t undef)|.cell B t=>do loadVar t (<-asAddr (tm.getD B undef)):Sem Value))).run C.P w=.ok b.toArray w:=by
  rw[Array.mapM_eq_mapM_toList];show(Functor.map List.toArray _:Sem (Array Value)).run C.P w=_;rw[map_eq_pure_bind,b5 _ m];rfl
 refine⟨if f:b.toArray.size=1 then b.toArray[0]else .tuple b.toArray,?_,?_⟩
 ·unfold results;exact(b5 _ e).trans Z
 ·have o:=a.length
  match g,b,a with
  |[],[],_=>exact .tuple .nil
  |[v],[c],.cons f _=>exact f
  |v::E::s,c::D::A,a=>
   rw[dif_neg sm];exact .tuple a
  |[],_::_,a=>cases a
  |_::_,[],a=>cases a
  |[_],_::_::_,a=>cases a with|cons _ t=>cases t
  |_::_::_,[_],a=>cases a with|cons _ t=>cases t
theorem L6(s:Cy C){ρ:Ren}{f:FuncId}{c:FI}(k:C.ff.get f=some c)(b:Bool)(o:g.length<=c.nt)(B:cU ρ g i.toList):
  ∃tm,Frame.enter C.P f i (kindOf b)=ek ⟨f,kindOf b,none⟩ tm [] [.code c.body]/\ks ρ ⟨f,c.nt,none,b⟩ ⟨eD 0 g .nil,[]⟩ ⟨f,kindOf b,none⟩ tm []:=by
 obtain⟨fn,n,m,t,_,_⟩:=s.fn _ _ k;have e:=B.length;refine⟨i++Array.replicate (c.nt-i.size) undef,?_,Z,Z,Z,⟨?_,fun w E v=>?_⟩,tv⟩
 ·simp[Frame.enter,ek,n,m,t]
 ·have:i.size=g.length:=by rw[e];simp
  simp;omega
 ·have a:(eD 0 g .nil).get w=some E:=v;rw[oE]at a;split at a
  ·rename_i F;have A:i.size=g.length:=by rw[e];simp
   obtain⟨l,G,D⟩:=B.get (i:=w) (by simpa using a);refine⟨l,?_,D⟩;rw[Array.getElem?_append_left om];simpa using G
  ·rw[nI]at a;cases a
theorem zY(ab:l6 C)(T:Cy C)(af:mb C)(d:C.P.follows .mixedOrders=true)(ak:∀f D,C.ff.get f=some D->codeOk D.body=true)(p:∀G,uf C w0 N0 G rc){f:FuncId}{a:Bool}{st L:St} 
  (t:vx C rc f g a q st=some (u,r,L)) {ρ:Ren} {w:World} {cs:List Frame} (ag:dj w0 N0 G ρ st w) (X:cU ρ g i.toList) (ah:sa ρ a q cs):zi C w0 N0 G ρ f i a q u r L cs w:=by
 unfold vx at t;split at t
 ·cases t
 ·rename_i D V;split at t
  ·cases t
  ·rename_i h;obtain⟨tm,O,z⟩:=L6 T V a (Nat.le_of_ble_eq_true h) X;obtain⟨fn,R,_,_,W,_⟩:=T.fn _ _ V;have P:∀{aj:Mode} {I:Fr} {M:ec} {J:St} {c:Ren} {w1:World} {o:Array Value} {l:List Deferred} {e:List Frame} {E:List Item} {m':FrameMode},finish C rc D aj I M J=some (u,r,L)->ρ.le c->dj w0 N0 G c J w1->
     ks c ⟨f,D.nt,none,a⟩ I ⟨f,kindOf a,none⟩ o l->nK q M cs e->FY c aj m'->
     Steps C.P (lone (ek ⟨f,kindOf a,none⟩ tm [] [.code D.body]) cs w) (lone {ek ⟨f,kindOf a,none⟩ o l E with mode:=m'} e w1)->zi C w0 N0 G ρ f i a q u r L cs w:=by
    intro aj I M J c w1 o l e E m' t A n k s ac m;unfold finish at t;split at t
    ·cases t
    ·rename_i v aa j;cases t;obtain⟨Q,x,ae,B,K,S,H⟩:=vM (b:=⟨f,kindOf a,none⟩) T (p G) o E e _ _ _ _ _ j c w1 l m' n k.df ac;obtain⟨N,rfl,U⟩:=S;exact⟨Q,x,_,e,A.trans B,K,s,by rw[O];exact m.trans H,rfl,rfl,rfl,fn,R,N,rfl,U⟩
    ·rename_i aa j;split at t
     ·rename_i an Y;cases t;obtain⟨Q,x,ae,B,K,S,H⟩:=vM (b:=⟨f,kindOf a,none⟩) T (p G) o E e _ _ _ _ _ j c w1 l m' n k.df ac;cases S;rw[<-W]at Y;obtain⟨N,ai,U⟩:=BL ab K (k.tm.mono B) Y;exact⟨Q,x,_,e,A.trans B,K,s,by rw[O];exact m.trans H,rfl,rfl,rfl,fn,R,rfl,N,ai,U⟩
     ·cases t
   cases y:code C rc ⟨f,D.nt,none,a⟩ D.body ⟨eD 0 g .nil,[]⟩ q st with
   |none=>rw[y]at t;cases t
   |some al=>
    obtain⟨am,I,M,J⟩:=al;rw[y]at t;obtain⟨c,w1,o,l,e,A,n,k,s,F⟩:=qq (b:=⟨f,kindOf a,none⟩) ab T af d p D.body _ _ _ _ _ _ _ y (ak _ _ V) ρ w tm [] cs [] ag z ah;cases am with
    |norm=>exact P t A n k s (m':=.returning) rfl (Steps.trans F (.one (T3 rfl)))
    |ret=>
     obtain⟨ad,m⟩:=F;exact P t A n k s (m':=.returning) Z (Steps.trans m (.one (T2 Z)))
    |panic v=>
     obtain⟨ad,N,U,m⟩:=F;exact P t A n k s (m':=.panicking [{v:=N,recovered:=false}]) ⟨N,Z,U⟩ m
    |exit id=>cases t
theorem BM{ρ:Ren}:∀{c:List Tmp} {b:List Value} {o f:Tr Value} {a:List Value} {tm:Array Value},lF c b j o=some f->cU ρ b a->fU ρ j o tm->
  c.length=a.length/\fU ρ j f ((c.zip a).foldl (fun m (D:Tmp×Value)=>m.setIfInBounds D.1 D.2) tm):=by
 intro c;induction c with
 |nil=>
  intro b o f a tm k e l;cases b with
  |nil=>cases e;cases k;exact⟨rfl,l⟩
  |cons C b=>cases k
 |cons E c A=>
  intro b o f a tm k e l;cases b with
  |nil=>cases k
  |cons C b=>
   cases e with
   |@cons _ G _ a e t=>
   simp only[lF]at k;split at k
   ·rename_i s;have n:=dz (fr:=⟨o,[]⟩) (nt:=j) (dst:=some E) (fr':=⟨o.set E C,[]⟩) l e (by simp only[gI,s]);obtain⟨w,v⟩:=A k t n.1;exact⟨by simp[w],v⟩
   ·cases k
end
section
variable{P:Program} {b:FB} {tm:Array Value} {df:List Deferred} {k:List Item} {cs:List Frame} {w w1:World} {c:Frame}
theorem BN{l:Nat}(a:b.round=some l)(c:(Instr.beginRound l).run P w=.ok () w1):
  step P (lone (ek b tm df (.beginRound::k)) cs w)=.next (lone (ek b tm df k) cs w1):=
 step_lone_go (by simp[stepG,stepG.exec,stepG.apply,ek,a,Sem.runT_eq,c,Result.andThen,Frame.finish])
theorem DM{l:Nat}(e:b.round=some l)(a:b.kind=.normal)(f:(Instr.endRound l none).run P w=.ok h w1):
  step P (lone (ek b tm df []) (c::cs) w)=.next (lone (c.finish h) cs w1):=
 step_lone_go (by simp[stepG,stepG.exec,ek,e,a,Sem.runT_eq,f,doReturn])
theorem DN{l:Nat}(e:b.round=some l)(a:b.kind=.normal)(f:(Instr.endRound l (some .ret)).run P w=.ok h w1):
  step P (lone (ek b tm df (.code .ret::k)) (c::cs) w)=.next (lone (c.finish h) cs w1):=
 step_lone_go (by simp[stepG,stepG.exec,ek,e,a,Sem.runT_eq,f,doReturn])
theorem BO{l id:Nat}(e:b.round=some l)(a:b.kind=.normal)(hx:exitTo id k=none)(f:(Instr.endRound l (some (.exit id))).run P w=.ok h w1):
  step P (lone (ek b tm df (.code (.exit id)::k)) (c::cs) w)=.next (lone (c.finish h) cs w1):=
 step_lone_go (by simp[stepG,stepG.exec,ek,e,a,hx,Sem.runT_eq,f,doReturn])
end
variable{d:FuncId->List Value->Option Value}
section
variable{C:dU} {w0:World} {N0:Nat} {G:Nat->Prop} {rc:Rec}
theorem F1(aw:l6 C)(af:Cy C)(ay:mb C)(V:C.P.follows .mixedOrders=true)(aM:∀G,uf C w0 N0 G rc){l:Nat}{st x:St} 
  (m:rX C rc l g st=some (u,x)) {ρ:Ren} {w:World} {O:Loc} (aG:dj w0 N0 G ρ st w) (ai:ρ l=some O) (j:cU ρ g i.toList):FJ C w0 N0 G ρ O i u x w:=by
 unfold rX at m;split at m
 ·rename_i o au;split at m
  ·cases m
  ·cases m
  ·rename_i bb tm aH ag;obtain⟨e,ar,L⟩:=aG.obj _ _ _ ai au;obtain⟨fn,ah,_,_,_,_⟩:=af.fn _ _ aH;obtain⟨Q,Y⟩:=BM ag j L.tm;rw[<-L.params]at Q Y;have aq:i.size=e.params.size:=by simpa using Q.symm
   have aP:=run_yield (P:=C.P) ar aq;refine⟨_,_,_,_,aP,fun c cs=>?_⟩;have p:(e.params.zip i).foldl (fun f (F:Tmp×Value)=>f.setIfInBounds F.1 F.2) e.tmps=(e.params.toList.zip i.toList).foldl (fun f (F:Tmp×Value)=>f.setIfInBounds F.1 F.2) e.tmps:=by
    rw[<-Array.foldl_toList,Array.toList_zip]
   rw[<-p]at Y;have X:Frame.round O.b e.fn ((e.params.zip i).foldl (fun f (F:Tmp×Value)=>f.setIfInBounds F.1 F.2) e.tmps) e.assign e.body .normal=
     ek ⟨e.fn,.normal,some O.b⟩ ((e.params.zip i).foldl (fun f (F:Tmp×Value)=>f.setIfInBounds F.1 F.2) e.tmps) [] (.code o.assign:: [.beginRound,.code o.body]):=by
    rw[<-L.assign,<-L.body];rfl
   have aK:ks ρ ⟨o.fn,o.nt,some l,false⟩ ⟨tm,[]⟩ ⟨e.fn,.normal,some O.b⟩ ((e.params.zip i).foldl (fun f (F:Tmp×Value)=>f.setIfInBounds F.1 F.2) e.tmps) []:=⟨L.fn,⟨O,ai,rfl⟩,rfl,Y,tv⟩;have aD:Frame.round O.b e.fn ((e.params.zip i).foldl (fun f (bf,a)=>f.setIfInBounds bf a) e.tmps) e.assign e.body .normal=ek ⟨e.fn,.normal,some O.b⟩ ((e.params.zip i).foldl (fun f (F:Tmp×Value)=>f.setIfInBounds F.1 F.2) e.tmps) [] (.code o.assign:: [.beginRound,.code o.body]):=X;rw[aD];simp only at m;cases ae:code C rc ⟨o.fn,o.nt,some l,false⟩ o.assign ⟨tm,[]⟩ .none st with
   |none=>rw[ae]at m;cases m
   |some bc=>
    obtain⟨F,aE,aT,aF⟩:=bc;rw[ae]at m;have az:=qq (b:=⟨e.fn,.normal,some O.b⟩) aw af ay V aM o.assign _ _ _ _ _ _ _ ae L.ok.1 ρ w _ [] (c::cs) [.beginRound,.code o.body] aG aK trivial;cases F with
    |exit id=>cases m
    |ret=>cases m
    |panic be=>cases m
    |norm=>
     obtain⟨ao,w1,aa,ab,aX,J,q,aL,aA,ad⟩:=az;obtain⟨_,rfl⟩:=lH aA;simp only at m;split at m
     ·rename_i ac d;split at m
      ·rename_i R;have T:=J _ _ ai;obtain⟨ap,aj,s⟩:=q.obj _ _ _ T d;have ax:=run_beginRound (P:=C.P) aj (by rw[s.state];exact R);have an:=q.vL (o2:=.loop {ac with state:=.busy}) (co:=.loop {ap with state:=.busy}) T d rfl rfl ⟨_,rfl,rfl,s.pending,s.fn,s.tm,s.params,s.assign,s.body,s.defers,s.ok⟩;have E:=Steps.trans ad (.one (BN (P:=C.P) (b:=⟨e.fn,.normal,some O.b⟩) (tm:=aa) (df:=ab) (k:=[.code o.body]) (cs:=c::cs) rfl ax));cases U:code C rc ⟨o.fn,o.nt,some l,false⟩ o.body aE .none (aF.put l (.loop {ac with state:=.busy}))with
       |none=>rw[U]at m;cases m
       |some aS=>
        obtain⟨aN,aV,aW,z⟩:=aS;rw[U]at m;obtain⟨M,av,ba,r,aY,B,W,aB,am,A⟩:=qq (b:=⟨e.fn,.normal,some O.b⟩) aw af ay V aM o.body _ _ _ _ _ _ _ U L.ok.2 ao _ aa ab (c::cs) [] an aL trivial;obtain⟨_,rfl⟩:=lH am;have y:=B _ _ T;have S:∀(v:Option Code) (t:Cs),z.get l=some (.loop t)->∃K,(Instr.endRound O.b v).run C.P av=.ok (.bool v.isNone) K/\dj w0 N0 G M (z.put l (.loop {t with state:=if v.isNone then .ready else .done,pending:=v})) K:=by
         intro v t n;obtain⟨aU,ak,D⟩:=W.obj _ _ _ y n;exact⟨_,run_endRound v ak,W.vL y n Z Z ⟨_,Z,Z,Z,D.fn,D.tm,D.params,D.assign,D.body,D.defers,D.ok⟩⟩
        cases aN with
        |norm=>
         simp only at m;split at m
         ·rename_i t n N;cases m;obtain⟨K,h,H⟩:=S none t n;exact⟨M,K,J.trans B,H,.bool true,.bool true,(E.trans A).trans (.one (DM Z Z h))⟩
         ·cases m
        |ret=>
         obtain⟨aI,I⟩:=A;simp only at m;split at m
         ·rename_i t n N;cases m;obtain⟨K,h,H⟩:=S (some .ret) t n;exact⟨M,K,J.trans B,H,.bool false,.bool false,(E.trans I).trans (.one (DN Z Z h))⟩
         ·cases m
        |exit id=>
         obtain⟨aI,I,aO⟩:=A;simp only at m;split at m
         ·rename_i t n N;cases m;obtain⟨K,h,H⟩:=S (some (.exit id)) t n;exact⟨M,K,J.trans B,H,.bool false,.bool false,(E.trans I).trans (.one (BO Z Z aO h))⟩
         ·cases m
        |panic be=>
         obtain⟨aI,aR,aQ,I⟩:=A;simp only at m;split at m
         ·rename_i N;cases m;have aJ:=aB.df;rw[N]at aJ;have aC:r=[]:=by
           cases r with
           |nil=>rfl
           |cons _ _=>exact aJ.elim
          subst aC;refine⟨M,av,J.trans B,W,aR,aQ,(E.trans I).trans (.one (step_leave_panicked ⟨Z,Z,fn,?_⟩))⟩;show C.P.funcs[e.fn]?=some fn;rw[L.fn];exact ah
         ·cases m
      ·cases m
     ·cases m
 ·cases m
def F2:Value->Bool
 |.tuple ⟨a⟩=>a.all flat
 |v=>flat v
def zZ(C:dU)(w0:World)(N0:Nat)(e:FuncId->List Value->Option Value):Prop:=
 ∀k b f,e k b=some f->(F2 f=true/\∀(ρ:Ren) (a:Array Value) (w:World),cU ρ b a.toList->Below N0 w0 w->N0<=w.heap.size->
  Calls C.P k a w fun n c=>n=.returned f/\Below w.heap.size w c)∨
  ∃m o,f=.agg ⟨[m,.iface o .nilIface]⟩/\flat m=true/\∀(ρ:Ren) (a:Array Value) (w:World),cU ρ b a.toList->Below N0 w0 w->N0<=w.heap.size->
   Calls C.P k a w fun n c=>∃l,n=.returned (.tuple ⟨[m,.iface o (.pointer (some ⟨l,0,none⟩))]⟩)/\w.heap.size<=l/\l<c.heap.size/\Below w.heap.size w c
theorem L7(a:F2 h=true)(ρ:Ren):cY ρ h h:=by
 unfold F2 at a;split at a
 ·exact .tuple (iO a ρ)
 ·exact r5 a ρ
theorem DO(b:F2 h=true)(a:ec)(st:St):ze h a st=some (.ret h,a,st):=by
 unfold ze;split
 ·simp[F2,flat]at b
 ·rfl
theorem IC(p:zZ C w0 N0 d){f:FuncId}(ab:d f g=some h){ρ:Ren}{st:St}{w:World}{cs:List Frame}(k:dj w0 N0 G ρ st w)(B:cU ρ g i.toList)(Q:ze h q st=some (u,r,z)):
  zi C w0 N0 G ρ f i false q u r z cs w:=by
 rcases p f g h ab with⟨D,R⟩|⟨a,ac,rfl,D,R⟩
 ·rw[DO D]at Q;cases Q;obtain⟨e,J,P,⟨rfl,F⟩,l,t,s,M,N,fn,v,A⟩:=R ρ i w B k.below k.Cu cs;exact⟨ρ,J,P,cs,Ren.le_refl _,k.Oj F,.refl _ _,l,t,M,N,fn,by rw[<-t];exact v,s,h,A,L7 D ρ⟩
 ·cases Q;obtain⟨e,J,P,⟨O,rfl,y,T,F⟩,l,t,s,M,N,fn,v,A⟩:=R ρ i w B k.below k.Cu cs;have H:=k.Oj F;have L:ρ.le (fun b=>if b=st.n then some ⟨O,0,1,1⟩else ρ b):=fun b I e=>by
   have:=(k.vt b I e).1;show(if b=st.n then _ else _)=_;rw[if_neg om];exact e
  have E:∀b o,st.get b=some o->b≠st.n:=fun b o e=>by have:=k.wf.lt b o e;omega
  have j:dj w0 N0 G (fun b=>if b=st.n then some ⟨O,0,1,1⟩else ρ b) {st with n:=st.n+1} J:=by
   refine⟨⟨fun b o e=>YL (k.wf.lt b o e),fun b c e f aa m=>⟨YL (k.wf.dS b c e f aa m).1,(k.wf.dS b c e f aa m).2⟩,fun f Y e=>YL (k.wf.Kt f Y e)⟩,H.below,H.Cu,fun b F=>?_,fun b I e=>?_,fun b I o e m=>?_,fun b K I X o W e m x U S V=>?_⟩
   ·have:=k.HZ b F;refine⟨?_,YL this.2⟩;show(if b=st.n then _ else _)=_;rw[if_neg om];exact this.1
   ·have e:(if b=st.n then some ⟨O,0,1,1⟩else ρ b)=some I:=e;split at e
    ·cases e
     subst_vars
     exact⟨Nat.lt_succ_self _,Nat.le_trans k.Cu y,T⟩
    ·have:=H.vt b I e;exact⟨YL this.1,this.2⟩
   ·have e:(if b=st.n then some ⟨O,0,1,1⟩else ρ b)=some I:=e;rw[if_neg (E b o m)]at e;exact(H.obj b I o e m).mono L
   ·have e:(if b=st.n then some ⟨O,0,1,1⟩else ρ b)=some I:=e;have m:(if K=st.n then some ⟨O,0,1,1⟩else ρ K)=some X:=m;rw[if_neg (E b o U)]at e;rw[if_neg (E K W S)]at m;exact H.sep b K I X o W e m x U S V
  refine⟨_,J,P,cs,L,j,.refl _ _,l,t,M,N,fn,by rw[<-t];exact v,s,_,A,.tuple (.cons (r5 D _) (.cons (.iface ac (.ptr (l:=⟨O,0,1,1⟩) (by
   show(if st.n=st.n then _ else _)=_;rw[if_pos rfl]))) .nil))⟩
theorem RD(n:l6 C)(o:Cy C)(s:mb C)(e:C.P.follows .mixedOrders=true)(I:∀L J,C.ff.get L=some J->codeOk J.body=true)(Q:zZ C w0 N0 d):∀K G,uf C w0 N0 G (iS C d K):=by
 intro K;induction K with
 |zero=>
  intro G;exact⟨fun _ _ _ _ _ _ _ _ _ l=>by(cases l),fun _ _ _ _ _ _ _ _ l=>by(cases l),fun _ _ _ _ _ l=>by(cases l)⟩
 |succ K A=>
  intro G;refine⟨fun fc c S M st V R E B l F ρ w b tm df cs k f P t=>?_,fun L m H M st N E B l ρ w v cs f a t=>?_,fun W m st N B l ρ w T v f O a=>?_⟩
  ·exact qq n o s e A c _ _ _ _ _ _ _ l F ρ w tm df cs k f P t
  ·cases H with
   |true=>exact zY n o s e I A l f a t
   |false=>
    cases D:d L m with
    |none=>
     simp only[iS,D]at l;exact zY n o s e I A l f a t
    |some U=>
     simp only[iS,D]at l;exact IC Q D f a l
  ·exact F1 n o s e A l f O a
theorem pO{ρ:Ren}{a:Value}(c:flat h=true)(b:cY ρ h a):a=h:=by
 cases b<;>first|rfl|cases c
theorem F3(N:l6 C)(O:Cy C)(P:mb C)(t:C.P.follows .mixedOrders=true)(U:∀f I,C.ff.get f=some I->codeOk I.body=true){w:World}(R:zZ C w w.heap.size d) 
  {n:Nat} {f:FuncId} {st:St} (a:(iS C d n).call f g false .none ⟨.nil,0,.nil⟩=some (.ret h,q,st)) (m:g.all flat=true) (T:flat h=true):
  Calls C.P f g.toArray w fun e v=>e=.returned h/\Below w.heap.size w v:=by
 intro cs;have l:∀L,(⟨.nil,0,.nil⟩:St).get L=none:=fun L=>nI L;have Q:dj w w.heap.size (fun _=>False) (fun _=>none) ⟨.nil,0,.nil⟩ w:=by
  refine⟨⟨fun b o a=>?_,fun b c e f r a=>?_,fun f J a=>?_⟩,.refl _ _,Nat.le_refl _,fun b a=>a.elim,fun b Y a=>by(cases a),fun b Y o a=>by(cases a),fun b i Y p o j a=>by(cases a)⟩
  ·rw[l]at a;cases a
  ·rw[l]at a;cases a
  ·have:(Tr.nil:Tr (List Nat)).get f=some J:=a;rw[nI]at this;cases this
 obtain⟨V,v,F,W,X,D,H,k,s,E,M,fn,A,S,K,B,G⟩:=(RD N O P t U R n (fun _=>False)).call _ _ _ _ _ _ _ _ a (fun _=>none) w g.toArray cs Q (by simpa using iO m _) trivial;obtain⟨_,rfl⟩:=lH H;have:=pO T G;subst this;exact⟨.returned K,v,F,⟨Z,D.below⟩,k,s,S,E,M,fn,by rw[s];exact A,B⟩
end
end Go.AM
