/- Part of the proof. -/
import Derived.Test.YthlkhjchcjflkaaGreatDoorKAd
import Derived.Lib.Bytealg
import Derived.Lib.IndexMore
set_option linter.all false
set_option maxHeartbeats 16000000
set_option maxRecDepth 100000
open Nat renaming lt_succ_of_lt->Yl,beq->Ym,mul_add->Yo
open Bool renaming eq_iff_iff->Yn
namespace Go.AM
open Go.RowKit (Below)
variable{j:Nat} {g:Value} {i:Ren} {e:List Value} {h:Array Value} {m q:eT} {o:CR}
section
variable{C:eD} {w0:World} {N0:Nat} {G:Nat->Prop} {rc:Rec}
theorem DT(v:mW C){st:St}{w:World}{t:Tr Value}{tm:Array Value}(x:dD w0 N0 G i st w)(n:gL i j t tm){r:ResultVar}(l:zN C t st r=some g):
  ∃a,((match r with|.tmp t=>pure (tm.getD t undef)|.cell u t=>do loadVar t (<-asAddr (tm.getD u undef))):Sem Value).run C.P w=.ok a w/\dg i g a:=by
 cases r with
 |tmp F=>exact⟨_,rfl,n.get l⟩
 |cell u z=>
  simp only[zN]at l;split at l
  ·rename_i H y;split at l
   ·rename_i I s c;cases l;have k:=n.get y;obtain⟨a,p,A,_⟩:=FP v x k c;refine⟨a,?_,A⟩;unfold vJ at c;split at c
    ·rename_i D b E _;obtain⟨J,B,f⟩:=px k;rw[f]at p;show(do loadVar z (<-asAddr (tm.getD u undef)):Sem Value).run C.P w=.ok a w;rw[f];exact p
    ·cases c
   ·cases l
  ·cases l
theorem BS(s:mW C){st:St}{w:World}{t:Tr Value}{tm:Array Value}(v:dD w0 N0 G i st w)(r:gL i j t tm):∀{l:List ResultVar} {b:List Value},pr C t st l=some b->
  ∃a,(l.mapM (fun A=>(match A with|.tmp t=>pure (tm.getD t undef)|.cell B t=>do loadVar t (<-asAddr (tm.getD B undef)):Sem Value))).run C.P w=.ok a w/\db i b a:=by
 intro l;induction l with
 |nil=>intro b c;cases c;exact⟨[],rfl,.nil⟩
 |cons A l y=>
  intro b c;simp only[pr]at c;split at c
  ·rename_i D Wm u p;cases c;obtain⟨n,x,z⟩:=DT s v r u;obtain⟨a,f,k⟩:=y p;refine⟨n::a,?_,.cons z k⟩;rw[List.mapM_cons,b9 _ x,b9 _ f];rfl
  ·cases c
theorem BT(r:mW C){st:St}{w:World}{t:Tr Value}{tm:Array Value}(l:dD w0 N0 G i st w)(p:gL i j t tm){fn:Func}(k:pr C t st fn.results.toList=some e):
  ∃c,(results fn tm).run C.P w=.ok c w/\dg i (tB e) c:=by
 obtain⟨b,n,a⟩:=BS r l p k;have f:(fn.results.mapM (fun u=>(match u with|.tmp t=>pure (tm.getD t undef)|.cell y t=>do loadVar t (<-asAddr (tm.getD y undef)):Sem Value))).run C.P w=.ok b.toArray w:=by
  rw[Array.mapM_eq_mapM_toList];show(Functor.map List.toArray _ : Sem (Array Value)).run C.P w=_;rw[map_eq_pure_bind,b9 _ n];rfl
 refine⟨if k:b.toArray.size=1 then b.toArray[0]else .tuple b.toArray,?_,?_⟩
 ·unfold results;exact(b9 _ f).trans Z
 ·have s:=a.length
  match e,b,a with
  |[],[],_=>exact .tuple .nil
  |[v],[c],.cons k _=>exact k
  |v::A::u,c::z::x,a=>
   rw[dif_neg sm];exact .tuple a
  |[],_::_,a=>cases a
  |_::_,[],a=>cases a
  |[_],_::_::_,a=>cases a with|cons _ t=>cases t
  |_::_::_,[_],a=>cases a with|cons _ t=>cases t
theorem L3(t:CQ C){f:FuncId}{c:FI}(l:C.ff.get f=some c)(b:Bool)(s:e.length<=c.nt)(y:db i e h.toList):
  ∃tm,Frame.enter C.P f h (kindOf b)=eW ⟨f,kindOf b,none⟩ tm [] [.code c.body]/\k4 i ⟨f,c.nt,none,b⟩ ⟨e9 0 e .nil,[]⟩ ⟨f,kindOf b,none⟩ tm []:=by
 obtain⟨fn,r,p,u,_,_⟩:=t.fn _ _ l;have k:=y.length;refine⟨h++Array.replicate (c.nt-h.size) undef,?_,Z,Z,Z,⟨?_,fun w A v=>?_⟩,tv⟩
 ·simp[Frame.enter,eW,r,p,u]
 ·have:h.size=e.length:=by rw[k];simp
  simp;omega
 ·have a:(e9 0 e .nil).get w=some A:=v;rw[pv]at a;split at a
  ·rename_i B;have x:h.size=e.length:=by rw[k];simp
   obtain⟨n,D,z⟩:=y.get (i:=w) (by simpa using a);refine⟨n,?_,z⟩;rw[Array.getElem?_append_left om];simpa using D
  ·rw[oF]at a;cases a
theorem z7(ac:mW C)(Q:CQ C)(ag:ng C)(W:C.P.follows .mixedOrders=true)(al:∀f z,C.ff.get f=some z->codeOk z.body=true)(d:∀G,uM C w0 N0 G rc){f:FuncId}{a:Bool}{st I:St} 
  (u:vL C rc f e a m st=some (o,q,I)) {w:World} {cs:List Frame} (ah:dD w0 N0 G i st w) (U:db i e h.toList) (ai:sM i a m cs):zj C w0 N0 G i f h a m o q I cs w:=by
 unfold vL at u;split at u
 ·cases u
 ·rename_i z S;split at u
  ·cases u
  ·rename_i X;obtain⟨tm,L,aa⟩:=L3 Q S a (Nat.le_of_ble_eq_true X) U;obtain⟨fn,O,_,_,T,_⟩:=Q.fn _ _ S;have M:∀{ak:Mode} {E:Fr} {J:eT} {F:St} {c:Ren} {w1:World} {s:Array Value} {n:List Deferred} {k:List Frame} {A:List Item} {m':FrameMode},finish C rc z ak E J F=some (o,q,I)->i.le c->dD w0 N0 G c F w1->
     k4 c ⟨f,z.nt,none,a⟩ E ⟨f,kindOf a,none⟩ s n->oH m J cs k->Gj c ak m'->
     Steps C.P (lone (eW ⟨f,kindOf a,none⟩ tm [] [.code z.body]) cs w) (lone {eW ⟨f,kindOf a,none⟩ s n A with mode:=m'} k w1)->zj C w0 N0 G i f h a m o q I cs w:=by
    intro ak E J F c w1 s n k A m' u x r l t ad p;unfold finish at u;split at u
    ·cases u
    ·rename_i v ab Y;cases u;obtain⟨N,g,af,y,H,P,D⟩:=v7 (b:=⟨f,kindOf a,none⟩) Q (d G) s A k _ _ _ _ _ Y c w1 n m' r l.df ad;obtain⟨K,rfl,R⟩:=P;exact⟨N,g,_,k,x.trans y,H,t,by rw[L];exact p.trans D,rfl,rfl,rfl,fn,O,K,rfl,R⟩
    ·rename_i ab Y;split at u
     ·rename_i ao V;cases u;obtain⟨N,g,af,y,H,P,D⟩:=v7 (b:=⟨f,kindOf a,none⟩) Q (d G) s A k _ _ _ _ _ Y c w1 n m' r l.df ad;cases P;rw[<-T]at V;obtain⟨K,aj,R⟩:=BT ac H (l.tm.mono y) V;exact⟨N,g,_,k,x.trans y,H,t,by rw[L];exact p.trans D,rfl,rfl,rfl,fn,O,rfl,K,aj,R⟩
     ·cases u
   cases j:code C rc ⟨f,z.nt,none,a⟩ z.body ⟨e9 0 e .nil,[]⟩ m st with
   |none=>rw[j]at u;cases u
   |some am=>
    obtain⟨an,E,J,F⟩:=am;rw[j]at u;obtain⟨c,w1,s,n,k,x,r,l,t,B⟩:=q6 (b:=⟨f,kindOf a,none⟩) ac Q ag W d z.body _ _ _ _ _ _ _ j (al _ _ S) i w tm [] cs [] ah aa ai;cases an with
    |norm=>exact M u x r l t (m':=.returning) rfl (Steps.trans B (.one (S1 rfl)))
    |ret=>
     obtain⟨ae,p⟩:=B;exact M u x r l t (m':=.returning) Z (Steps.trans p (.one (S0 Z)))
    |panic v=>
     obtain⟨ae,K,R,p⟩:=B;exact M u x r l t (m':=.panicking [{v:=K,recovered:=false}]) ⟨K,Z,R⟩ p
    |exit id=>cases u
theorem BU:∀{c:List Tmp} {b:List Value} {s k:Tr Value} {a:List Value} {tm:Array Value},mw c b j s=some k->db i b a->gL i j s tm->
  c.length=a.length/\gL i j k ((c.zip a).foldl (fun p (A:Tmp×Value)=>p.setIfInBounds A.1 A.2) tm):=by
 intro c;induction c with
 |nil=>
  intro b s k a tm l f n;cases b with
  |nil=>cases f;cases l;exact⟨rfl,n⟩
  |cons z b=>cases l
 |cons B c x=>
  intro b s k a tm l f n;cases b with
  |nil=>cases l
  |cons z b=>
   cases f with
   |@cons _ D _ a f u=>
   simp only[mw]at l;split at l
   ·rename_i t;have r:=dW (fr:=⟨s,[]⟩) (nt:=j) (dst:=some B) (fr':=⟨s.set B z,[]⟩) n f (by simp only[hS,t]);obtain⟨w,v⟩:=x l u r.1;exact⟨by simp[w],v⟩
   ·cases l
end
section
variable{P:Program} {b:FB} {tm:Array Value} {df:List Deferred} {k:List Item} {cs:List Frame} {w w1:World} {c:Frame}
theorem BV{l:Nat}(a:b.round=some l)(c:(Instr.beginRound l).run P w=.ok () w1):
  step P (lone (eW b tm df (.beginRound::k)) cs w)=.next (lone (eW b tm df k) cs w1):=
 step_lone_go (by simp[stepG,stepG.exec,stepG.apply,eW,a,Sem.runT_eq,c,Result.andThen,Frame.finish])
theorem DU{l:Nat}(f:b.round=some l)(a:b.kind=.normal)(k:(Instr.endRound l none).run P w=.ok g w1):
  step P (lone (eW b tm df []) (c::cs) w)=.next (lone (c.finish g) cs w1):=
 step_lone_go (by simp[stepG,stepG.exec,eW,f,a,Sem.runT_eq,k,doReturn])
theorem DV{l:Nat}(f:b.round=some l)(a:b.kind=.normal)(n:(Instr.endRound l (some .ret)).run P w=.ok g w1):
  step P (lone (eW b tm df (.code .ret::k)) (c::cs) w)=.next (lone (c.finish g) cs w1):=
 step_lone_go (by simp[stepG,stepG.exec,eW,f,a,Sem.runT_eq,n,doReturn])
theorem BW{l id:Nat}(n:b.round=some l)(a:b.kind=.normal)(p:exitTo id k=none)(f:(Instr.endRound l (some (.exit id))).run P w=.ok g w1):
  step P (lone (eW b tm df (.code (.exit id)::k)) (c::cs) w)=.next (lone (c.finish g) cs w1):=
 step_lone_go (by simp[stepG,stepG.exec,eW,n,a,p,Sem.runT_eq,f,doReturn])
end
variable{d:FuncId->List Value->Option Value}
section
variable{C:eD} {w0:World} {N0:Nat} {G:Nat->Prop} {rc:Rec}
theorem Gm(aw:mW C)(af:CQ C)(ay:ng C)(R:C.P.follows .mixedOrders=true)(aM:∀G,uM C w0 N0 G rc){l:Nat}{st j:St} 
  (n:sA C rc l e st=some (o,j)) {w:World} {K:Loc} (aG:dD w0 N0 G i st w) (ai:i l=some K) (X:db i e h.toList):F4 C w0 N0 G i K h o j w:=by
 unfold sA at n;split at n
 ·rename_i r au;split at n
  ·cases n
  ·cases n
  ·rename_i bc tm aH ag;obtain⟨a,ar,H⟩:=aG.obj _ _ _ ai au;obtain⟨fn,ah,_,_,_,_⟩:=af.fn _ _ aH;obtain⟨L,U⟩:=BU ag X H.tm;rw[<-H.params]at L U;have aq:h.size=a.params.size:=by simpa using L.symm
   have aP:=run_yield (P:=C.P) ar aq;refine⟨_,_,_,_,aP,fun c cs=>?_⟩;have Y:(a.params.zip h).foldl (fun f (A:Tmp×Value)=>f.setIfInBounds A.1 A.2) a.tmps=(a.params.toList.zip h.toList).foldl (fun f (A:Tmp×Value)=>f.setIfInBounds A.1 A.2) a.tmps:=by
    rw[<-Array.foldl_toList,Array.toList_zip]
   rw[<-Y]at U;have T:Frame.round K.b a.fn ((a.params.zip h).foldl (fun f (A:Tmp×Value)=>f.setIfInBounds A.1 A.2) a.tmps) a.assign a.body .normal=
     eW ⟨a.fn,.normal,some K.b⟩ ((a.params.zip h).foldl (fun f (A:Tmp×Value)=>f.setIfInBounds A.1 A.2) a.tmps) [] (.code r.assign:: [.beginRound,.code r.body]):=by
    rw[<-H.assign,<-H.body];rfl
   have aK:k4 i ⟨r.fn,r.nt,some l,false⟩ ⟨tm,[]⟩ ⟨a.fn,.normal,some K.b⟩ ((a.params.zip h).foldl (fun f (A:Tmp×Value)=>f.setIfInBounds A.1 A.2) a.tmps) []:=⟨H.fn,⟨K,ai,rfl⟩,rfl,U,tv⟩;have aD:Frame.round K.b a.fn ((a.params.zip h).foldl (fun f (bg,bb)=>f.setIfInBounds bg bb) a.tmps) a.assign a.body .normal=eW ⟨a.fn,.normal,some K.b⟩ ((a.params.zip h).foldl (fun f (A:Tmp×Value)=>f.setIfInBounds A.1 A.2) a.tmps) [] (.code r.assign:: [.beginRound,.code r.body]):=T;rw[aD];simp only at n;cases ae:code C rc ⟨r.fn,r.nt,some l,false⟩ r.assign ⟨tm,[]⟩ .none st with
   |none=>rw[ae]at n;cases n
   |some be=>
    obtain⟨A,aE,aT,aF⟩:=be;rw[ae]at n;have az:=q6 (b:=⟨a.fn,.normal,some K.b⟩) aw af ay R aM r.assign _ _ _ _ _ _ _ ae H.ok.1 i w _ [] (c::cs) [.beginRound,.code r.body] aG aK trivial;cases A with
    |exit id=>cases n
    |ret=>cases n
    |panic bf=>cases n
    |norm=>
     obtain⟨ao,w1,aa,ab,aX,E,d,aL,aA,ad⟩:=az;obtain⟨_,rfl⟩:=mz aA;simp only at n;split at n
     ·rename_i ac V;split at n
      ·rename_i M;have O:=E _ _ ai;obtain⟨ap,aj,s⟩:=d.obj _ _ _ O V;have ax:=run_beginRound (P:=C.P) aj (by rw[s.state];exact M);have an:=d.vZ (o2:=.loop {ac with state:=.busy}) (co:=.loop {ap with state:=.busy}) O V rfl rfl ⟨_,rfl,rfl,s.pending,s.fn,s.tm,s.params,s.assign,s.body,s.defers,s.ok⟩;have z:=Steps.trans ad (.one (BV (P:=C.P) (b:=⟨a.fn,.normal,some K.b⟩) (tm:=aa) (df:=ab) (k:=[.code r.body]) (cs:=c::cs) rfl ax));cases Q:code C rc ⟨r.fn,r.nt,some l,false⟩ r.body aE .none (aF.put l (.loop {ac with state:=.busy}))with
       |none=>rw[Q]at n;cases n
       |some aS=>
        obtain⟨aN,aV,aW,q⟩:=aS;rw[Q]at n;obtain⟨I,av,ba,g,aY,x,S,aB,am,v⟩:=q6 (b:=⟨a.fn,.normal,some K.b⟩) aw af ay R aM r.body _ _ _ _ _ _ _ Q H.ok.2 ao _ aa ab (c::cs) [] an aL trivial;obtain⟨_,rfl⟩:=mz am;have m:=x _ _ O;have N:∀(u:Option Code) (t:CK),q.get l=some (.loop t)->∃F,(Instr.endRound K.b u).run C.P av=.ok (.bool u.isNone) F/\dD w0 N0 G I (q.put l (.loop {t with state:=if u.isNone then .ready else .done,pending:=u})) F:=by
         intro u t p;obtain⟨aU,ak,y⟩:=S.obj _ _ _ m p;exact⟨_,run_endRound u ak,S.vZ m p Z Z ⟨_,Z,Z,Z,y.fn,y.tm,y.params,y.assign,y.body,y.defers,y.ok⟩⟩
        cases aN with
        |norm=>
         simp only at n;split at n
         ·rename_i t p J;cases n;obtain⟨F,W,B⟩:=N none t p;exact⟨I,F,E.trans x,B,.bool true,.bool true,(z.trans v).trans (.one (DU Z Z W))⟩
         ·cases n
        |ret=>
         obtain⟨aI,D⟩:=v;simp only at n;split at n
         ·rename_i t p J;cases n;obtain⟨F,W,B⟩:=N (some .ret) t p;exact⟨I,F,E.trans x,B,.bool false,.bool false,(z.trans D).trans (.one (DV Z Z W))⟩
         ·cases n
        |exit id=>
         obtain⟨aI,D,aO⟩:=v;simp only at n;split at n
         ·rename_i t p J;cases n;obtain⟨F,W,B⟩:=N (some (.exit id)) t p;exact⟨I,F,E.trans x,B,.bool false,.bool false,(z.trans D).trans (.one (BW Z Z aO W))⟩
         ·cases n
        |panic bf=>
         obtain⟨aI,aR,aQ,D⟩:=v;simp only at n;split at n
         ·rename_i J;cases n;have aJ:=aB.df;rw[J]at aJ;have aC:g=[]:=by
           cases g with
           |nil=>rfl
           |cons _ _=>exact aJ.elim
          subst aC;refine⟨I,av,E.trans x,S,aR,aQ,(z.trans D).trans (.one (step_leave_panicked ⟨Z,Z,fn,?_⟩))⟩;show C.P.funcs[a.fn]?=some fn;rw[H.fn];exact ah
         ·cases n
      ·cases n
     ·cases n
 ·cases n
def Gn:Value->Bool
 |.tuple ⟨a⟩=>a.all flat
 |v=>flat v
def Aa(C:eD)(w0:World)(N0:Nat)(k:FuncId->List Value->Option Value):Prop:=
 ∀n b l,k n b=some l->(Gn l=true/\∀(f:Ren) (a:Array Value) (w:World),db f b a.toList->Below N0 w0 w->N0<=w.heap.size->
  Calls C.P n a w fun s c=>s=.returned l/\Below w.heap.size w c)∨
  ∃r t,l=.agg ⟨[r,.iface t .nilIface]⟩/\flat r=true/\∀(f:Ren) (a:Array Value) (w:World),db f b a.toList->Below N0 w0 w->N0<=w.heap.size->
   Calls C.P n a w fun s c=>∃p,s=.returned (.tuple ⟨[r,.iface t (.pointer (some ⟨p,0,none⟩))]⟩)/\w.heap.size<=p/\p<c.heap.size/\Below w.heap.size w c
theorem L4(b:Gn g=true)(a:Ren):dg a g g:=by
 unfold Gn at b;split at b
 ·exact .tuple (jA b a)
 ·exact sH b a
theorem DW(b:Gn g=true)(a:eT)(st:St):zf g a st=some (.ret g,a,st):=by
 unfold zf;split
 ·simp[Gn,flat]at b
 ·rfl
theorem IZ(X:Aa C w0 N0 d){f:FuncId}(ab:d f e=some g){st:St}{w:World}{cs:List Frame}(a:dD w0 N0 G i st w)(v:db i e h.toList){H:St}(N:zf g m st=some (o,q,H)):
  zj C w0 N0 G i f h false m o q H cs w:=by
 rcases X f e g ab with⟨x,O⟩|⟨ad,ac,rfl,x,O⟩
 ·rw[DW x]at N;cases N;obtain⟨k,E,M,⟨rfl,z⟩,l,s,r,J,K,fn,t,u⟩:=O i h w v a.below a.CM cs;exact⟨i,E,M,cs,Ren.le_refl _,a.NM z,.refl _ _,l,s,J,K,fn,by rw[<-s];exact t,r,g,u,L4 x i⟩
 ·cases N;obtain⟨k,E,M,⟨L,rfl,j,Q,z⟩,l,s,r,J,K,fn,t,u⟩:=O i h w v a.below a.CM cs;have B:=a.NM z;have I:i.le (fun b=>if b=st.n then some ⟨L,0,1,1⟩else i b):=fun b D k=>by
   have:=(a.vH b D k).1;show(if b=st.n then _ else _)=_;rw[if_neg om];exact k
  have y:∀b A,st.get b=some A->b≠st.n:=fun b A k=>by have:=a.wf.lt b A k;omega
  have W:dD w0 N0 G (fun b=>if b=st.n then some ⟨L,0,1,1⟩else i b) {st with n:=st.n+1} E:=by
   refine⟨⟨fun b A k=>Yl (a.wf.lt b A k),fun b c k f aa p=>⟨Yl (a.wf.en b c k f aa p).1,(a.wf.en b c k f aa p).2⟩,fun f V k=>Yl (a.wf.Kz f V k)⟩,B.below,B.CM,fun b z=>?_,fun b D k=>?_,fun b D A k p=>?_,fun b F D U A T k p Y R P S=>?_⟩
   ·have:=a.Io b z;refine⟨?_,Yl this.2⟩;show(if b=st.n then _ else _)=_;rw[if_neg om];exact this.1
   ·have k:(if b=st.n then some ⟨L,0,1,1⟩else i b)=some D:=k;split at k
    ·cases k
     subst_vars
     exact⟨Nat.lt_succ_self _,Nat.le_trans a.CM j,Q⟩
    ·have:=B.vH b D k;exact⟨Yl this.1,this.2⟩
   ·have k:(if b=st.n then some ⟨L,0,1,1⟩else i b)=some D:=k;rw[if_neg (y b A p)]at k;exact(B.obj b D A k p).mono I
   ·have k:(if b=st.n then some ⟨L,0,1,1⟩else i b)=some D:=k;have p:(if F=st.n then some ⟨L,0,1,1⟩else i F)=some U:=p;rw[if_neg (y b A R)]at k;rw[if_neg (y F T P)]at p;exact B.sep b F D U A T k p Y R P S
  refine⟨_,E,M,cs,I,W,.refl _ _,l,s,J,K,fn,by rw[<-s];exact t,r,_,u,.tuple (.cons (sH x _) (.cons (.iface ac (.ptr (l:=⟨L,0,1,1⟩) (by
   show(if st.n=st.n then _ else _)=_;rw[if_pos rfl]))) .nil))⟩
theorem QC(r:mW C)(s:CQ C)(t:ng C)(f:C.P.follows .mixedOrders=true)(H:∀K I,C.ff.get K=some I->codeOk I.body=true)(P:Aa C w0 N0 d):∀J G,uM C w0 N0 G (jr C d J):=by
 intro J;induction J with
 |zero=>
  intro G;exact⟨fun _ _ _ _ _ _ _ _ _ n=>by(cases n),fun _ _ _ _ _ _ _ _ n=>by(cases n),fun _ _ _ _ _ n=>by(cases n)⟩
 |succ J x=>
  intro G;refine⟨fun R c S L D V Q B y n E z w b tm df cs k l O u=>?_,fun K p F L D M B y n z w v cs l a u=>?_,fun W p D M y n z w T v l N a=>?_⟩
  ·exact q6 r s t f x c _ _ _ _ _ _ _ n E z w tm df cs k l O u
  ·cases F with
   |true=>exact z7 r s t f H x n l a u
   |false=>
    cases A:d K p with
    |none=>
     simp only[jr,A]at n;exact z7 r s t f H x n l a u
    |some U=>
     simp only[jr,A]at n;exact IZ P A l a n
  ·exact Gm r s t f x n l N a
theorem qw{a:Value}(c:flat g=true)(b:dg i g a):a=g:=by
 cases b<;>first|rfl|cases c
theorem Gp(I:mW C)(J:CQ C)(K:ng C)(s:C.P.follows .mixedOrders=true)(P:∀f B,C.ff.get f=some B->codeOk B.body=true){w:World}(M:Aa C w w.heap.size d) 
  {n:Nat} {f:FuncId} {st:St} (a:(jr C d n).call f e false .none ⟨.nil,0,.nil⟩=some (.ret g,m,st)) (p:e.all flat=true) (O:flat g=true):
  Calls C.P f e.toArray w fun U t=>U=.returned g/\Below w.heap.size w t:=by
 intro cs;have l:∀G,(⟨.nil,0,.nil⟩:St).get G=none:=fun G=>oF G;have L:dD w w.heap.size (fun _=>False) (fun _=>none) ⟨.nil,0,.nil⟩ w:=by
  refine⟨⟨fun b R a=>?_,fun b c U f h a=>?_,fun f D a=>?_⟩,.refl _ _,Nat.le_refl _,fun b a=>a.elim,fun b V a=>by(cases a),fun b V R a=>by(cases a),fun b W V Y R X a=>by(cases a)⟩
  ·rw[l]at a;cases a
  ·rw[l]at a;cases a
  ·have:(Tr.nil:Tr (List Nat)).get f=some D:=a;rw[oF]at this;cases this
 obtain⟨Q,t,F,S,T,x,A,k,r,y,H,fn,u,N,E,v,z⟩:=(QC I J K s P M n (fun _=>False)).call _ _ _ _ _ _ _ _ a (fun _=>none) w e.toArray cs L (by simpa using jA p _) trivial;obtain⟨_,rfl⟩:=mz A;have:=qw O z;subst this;exact⟨.returned E,t,F,⟨Z,x.below⟩,k,r,N,y,H,fn,by rw[r];exact u,v⟩
end
def indexByte:List UInt8->Nat->Nat->Int
 |[],_,_=> -1
 |x::b,c,a=>match Ym x.toNat c with|true=>.ofNat a|false=>indexByte b c (a+1)
def r3:List UInt8->List UInt8->Bool
 |[],_=>true
 |_,[]=>false
 |a::f,b::c=>match Ym a.toNat b.toNat with|true=>r3 f c|false=>false
def ky(a:List UInt8):List UInt8->Bool
 |[]=>match a with|[]=>true|_=>false
 |x::b=>match r3 a (x::b)with|true=>true|false=>ky a b
def v8(a b:List UInt8):Int:=match cK a b with|true=> -1|false=>match lC a b with|true=>0|false=>1
def countB(c:Nat):List UInt8->Nat
 |[]=>0
 |x::a=>match Ym x.toNat c with|true=>countB c a+1|false=>countB c a
theorem Gq(b:UInt8){c:Nat}(a:c<256):(b==c.toUInt8)=Ym b.toNat c:=by
 rw[Yn];simp only[beq_iff_eq,Nat.beq_eq];constructor
 ·rintro rfl;simp[Nat.mod_eq_of_lt a]
 ·intro f;apply UInt8.toNat_inj.1;simp[Nat.mod_eq_of_lt a,f]
theorem CT(c b:UInt8):(c==b)=Ym c.toNat b.toNat:=by
 rw[Yn];simp only[beq_iff_eq,Nat.beq_eq];exact⟨fun a=>a▸Z,fun a=>UInt8.toNat_inj.1 a⟩
theorem QD(b a:UInt8):Nat.blt b.toNat a.toNat=decide (b<a):=by
 rw[Yn,decide_eq_true_eq,UInt8.lt_iff_toNat_lt];show Nat.ble (b.toNat+1) a.toNat=true↔_;rw[Nat.ble_eq];exact Iff.rfl
theorem DX{c:Nat}(l:c<256):∀(b:List UInt8) (a:Nat),indexByte b c a=if Lib.indexByte b c.toUInt8= -1 then-1 else(a:Int)+Lib.indexByte b c.toUInt8:=by
 intro b;induction b with
 |nil=>intro a;rfl
 |cons p b f=>
  intro a;simp only[indexByte,Lib.indexByte,Gq p l];cases Ym p.toNat c with
  |true=>simp
  |false=>
   simp only[f,Bool.false_eq_true,if_false,beq_iff_eq];have n:=Lib.indexByte_ge b c.toUInt8;by_cases k:Lib.indexByte b c.toUInt8= -1
   ·simp[k]
   ·rw[if_neg k,if_neg k,if_neg om];omega
theorem BX{c:Nat}(a:c<256)(l:List UInt8):indexByte l c 0=Lib.indexByte l c.toUInt8:=by
 rw[DX a];split
 ·rename_i b;exact b.symm
 ·simp
theorem I0{c:Nat}(b:c<256)(l:List UInt8):countB c l=Lib.countByte l c.toUInt8:=by
 unfold Lib.countByte;induction l with
 |nil=>rfl
 |cons f l a=>
  rw[List.count_cons,Gq f b];simp only[countB];cases Ym f.toNat c with
  |true=>simp[a]
  |false=>simp[a]
theorem N6:∀(k b:List UInt8),v8 k b=Lib.compareBytes k b:=by
 intro k;induction k with
 |nil=>intro b;cases b<;>rfl
 |cons n k a=>
  intro b;cases b with
  |nil=>rfl
  |cons l b=>
   have a:=a b;unfold v8 at a⊢;simp only[Lib.compareBytes,cK,lC,QD];by_cases p:n<l
   ·simp[p]
   ·simp only[p,decide_false,if_false];by_cases c:n=l
    ·subst c;simp only[Nat.beq_refl,p,if_false];exact a
    ·have r:Ym n.toNat l.toNat=false:=by
      rw[<-CT];simpa using c
     have f:l<n:=UInt8.lt_of_le_of_ne (UInt8.not_lt.1 p) (Ne.symm c);simp[r,f]
theorem L5:∀(a b:List UInt8),r3 a b=a.isPrefixOf b:=by
 intro a;induction a with
 |nil=>intro b;cases b<;>simp[r3]
 |cons k a c=>
  intro b;cases b with
  |nil=>simp[r3]
  |cons f b=>
   simp only[r3,List.isPrefixOf_cons_cons,CT k f,c];cases Ym k.toNat f.toNat<;>simp
theorem I1(a:List UInt8):∀(s:List UInt8),ky a s=Lib.contains s a:=by
 intro s;unfold Lib.contains;induction s with
 |nil=>cases a<;>simp[ky,Lib.index]
 |cons k s l=>
  rw[Yn,decide_eq_true_eq]at l⊢;have f:Lib.index (k::s) a=if a.isPrefixOf (k::s)then 0 else if Lib.index s a== -1 then-1 else Lib.index s a+1:=rfl
  have c:ky a (k::s)=match r3 a (k::s)with|true=>true|false=>ky a s:=rfl
  rw[L5]at c;have n:=Lib.index_ge s a;by_cases b:a.isPrefixOf (k::s)=true
  ·rw[if_pos b]at f;rw[b]at c;rw[f,c];simp
  ·rw[if_neg b]at f;rw[Bool.not_eq_true]at b;rw[b]at c;rw[f,c];show ky a s=true↔_;rw[l];by_cases p:Lib.index s a= -1
   ·simp[p]
   ·rw[if_neg (by simpa using p)];omega
def pB{b:Type}(p:Nat->b->Prop):Nat->Nat->Tr b->Prop
 |_,_,.nil=>True
 |mul,a,.node k l f=>(match k with|some c=>p a c|none=>True)/\pB p (2*mul) (mul+a) l/\pB p (2*mul) (2*mul+a) f
theorem DY{v:Type}{p:Nat->v->Prop}:∀(y:Tr v) (a b k r:Nat),r<=k->pB p a b y->∀s,iE (qm k r) y=some s->p (a*r+b) s:=by
 intro y;induction y with
 |nil=>intro a b k r _ _ s x;rw[pu]at x;cases x
 |node G H F u w=>
  intro a b k r D x s c;obtain⟨t,z,A⟩:=x;cases k with
  |zero=>
   have:r=0:=om;subst this;simp only[qm,iE]at c;subst c;simpa using t
  |succ k=>
   cases r with
   |zero=>
    simp only[qm,iE]at c;subst c;simpa using t
   |succ f=>
    simp only[qm]at c;cases n:Ym (f%2) 0 with
    |true=>
     rw[n]at c;simp only[iE]at c;have:=u _ _ k (f/2) om z s c;have B:=Nat.eq_of_beq_eq_true n;have C:2*a*(f/2)+(a+b)=a*(f+1)+b:=by
      have l:f=2*(f/2):=om;generalize f/2=E at l;subst l;rw[Yo,Nat.mul_comm 2 a,Nat.mul_assoc];omega
     rw[<-C];exact this
    |false=>
     rw[n]at c;simp only[iE]at c;have:=w _ _ k (f/2) om A s c;have B:=Nat.ne_of_beq_eq_false n;have C:2*a*(f/2)+(2*a+b)=a*(f+1)+b:=by
      have l:f=2*(f/2)+1:=om;generalize f/2=E at l;subst l;rw[Yo,Yo,Nat.mul_comm 2 a,Nat.mul_assoc];omega
     rw[<-C];exact this
theorem pB.get{a:Type}{p:Nat->a->Prop}{t:Tr a}(f:pB p 1 0 t){n:Nat}{b:a}(c:t.get n=some b):p n b:=by
 have:=DY t 1 0 n n (Nat.le_refl _) f b c;simpa using this
end Go.AM
