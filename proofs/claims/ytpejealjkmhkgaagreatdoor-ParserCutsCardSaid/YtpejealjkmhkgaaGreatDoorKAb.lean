/- Part of the proof. -/
import Derived.Test.YtpejealjkmhkgaaGreatDoorKAa
import Derived.Below
set_option linter.all false
set_option maxHeartbeats 16000000
set_option maxRecDepth 100000
open Nat renaming beq->YL,testBit->YO,lt_succ_of_lt->YP,blt->YS
open List renaming length_cons->YM,range->YN,length_nil->YQ,getElem?_cons_succ->YT
open Array renaming getElem?_eq_getElem->YR
namespace Go.AM
def flat:Value->Bool
 |.bool _=>true
 |.int _ _=>true
 |.string _=>true
 |.pointer none=>true
 |.slice none 0 0=>true
 |.map none=>true
 |.nilFunc=>true
 |.nilIface=>true
 |_=>false
def pJ:Value->Bool
 |.agg ⟨a⟩=>a.all flat
 |v=>flat v
structure Rec where
 code:FC->Code->Fr->ec->St->Option (Ex×Fr×ec×St)
 call:FuncId->List Value->Bool->ec->St->Option (CR×ec×St)
 round:Nat->List Value->St->Option (CR×St)
def Rp:Rec:=⟨fun _ _ _ _ _=>none,fun _ _ _ _ _=>none,fun _ _ _=>none⟩
def iF(a:Fr):Operand->Option Value
 |.tmp d=>a.tm.get d
 |.const b=>match pJ b with
  |true=>some b
  |false=>none
 |.global _=>none
 |.func c=>some (.func (.func c) #[] #[])
def gI(c:Nat)(a:Fr)(b:Option Tmp)(e:Value):Option Fr:=
 match b with
 |none=>some a
 |some d=>match YS d c with
  |true=>some {a with tm:=a.tm.set d e}
  |false=>none
inductive yb where
 |next (fr:Fr) (ps:ec) (st:St)
 |eE (v:Value) (fr:Fr) (ps:ec) (st:St)
def yb.go(d:Nat)(e:Fr)(a:Option Tmp)(f:Value)(c:ec)(st:St):Option yb:=
 match gI d e a f with
 |some b=>some (.next b c st)
 |none=>none
def kS(C:dU)(i:Rec)(d:FC)(o:Oper)(b:Fr)(c:ec)(st:St):Option yb:=
 match h0 C (iF b) o st with
 |none=>none
 |some (.val f a)=>yb.go d.nt b o.dst f c a
 |some (.eE f a)=>some (.eE f b c a)
 |some (.enter m e)=>match i.call m e false .none st with
  |some (.ret f,_,a)=>yb.go d.nt b o.dst f c a
  |some (.eE f,_,a)=>some (.eE f b c a)
  |none=>none
 |some (.yield n e)=>match i.round n e st with
  |some (.ret f,a)=>yb.go d.nt b o.dst f c a
  |some (.eE f,a)=>some (.eE f b c a)
  |none=>none
 |some .recover=>match d.round with
  |some _=>none
  |none=>match d.BA,c with
   |true,.fu f=>yb.go d.nt b o.dst f .pG st
   |_,_=>yb.go d.nt b o.dst .nilIface c st
 |some (.defer l)=>match d.round with
  |some _=>none
  |none=>yb.go d.nt {b with df:=l::b.df} o.dst kn c st
def gw(b:List Oper)(d:Fr)(o:Oper):Option Bool:=
 match o.guard with
 |none=>some true
 |some (i,a)=>match nth b i with
  |none=>none
  |some c=>match c.dst with
   |none=>none
   |some e=>match d.tm.get e with
    |some (.bool f)=>some (match f,a with|true,true=>true|false,false=>true|_,_=>false)
    |some (.tuple _)=>some false
    |_=>none
def ji(C:dU)(e:Rec)(d:FC)(c:List Oper)(o:Oper)(a:Fr)(b:ec)(st:St):Option yb:=
 match gw c a o with
 |none=>none
 |some false=>yb.go d.nt a o.dst kn b st
 |some true=>kS C e d o a b st
def nF(C:dU)(e:Rec)(d:FC)(c:List Oper):List Oper->Fr->ec->St->Option (Ex×Fr×ec×St)
 |[],b,a,st=>some (.norm,b,a,st)
 |o::f,b,a,st=>match ji C e d c o b a st with
  |none=>none
  |some (.next b a st)=>nF C e d c f b a st
  |some (.eE i b a st)=>some (.panic i,b,a,st)
def fM:Op->Bool
 |.assign _|.store .. |.mapUpdate .. |.mapEntry .. |.entryStore .. |.insert .. |.ready _|.next .. |.go _|.defer _|.panic _|.send .. |.recv .. |.select .. =>true
 |.call {callee:=.builtin a,.. }=>match a with
  |.len|.cap|.min|.max=>false
  |_=>true
 |.call _=>true
 |_=>false
def ft:Op->Bool
 |.alloc _|.box .. |.buildSlice .. |.makeMap .. =>true
 |_=>false
def tS(a:List Oper)(b:Nat):Option Oper:=nth a b
def subset(a b:Nat):Bool:=YL (Nat.land a b) a
def Fk:Op->Bool
 |.store .. |.indexAddr .. |.fieldAddr .. =>true
 |_=>false
def chained(a:List Oper)(c:List Nat)(l:Nat):Bool:=
 (YN l).all fun d=>match nth a d with
  |none=>false
  |some e=> !(fM e.op)||(YN d).all fun f=>match nth a f with
   |none=>false
   |some b=> !(fM b.op)||(match nth c d with|some i=>YO i f|none=>false)
def zI(a:List Oper)(c:List Nat)(n b:Nat):Bool:=
 (YN (n-b)).all fun d=>(match nth c (b+d)with|some f=>subset (2^b-1) f|none=>false)&&(match nth a (b+d)with|some e=>Fk e.op&&e.guard.isNone|none=>false)
def Of(a:List Oper)(b:List Nat):Nat->Nat
 |0=>0
 |m+1=>match chained a b (m+1)&&zI a b a.length (m+1)with
  |true=>m+1
  |false=>Of a b m
structure WU where
 bs:List Nat
 m:Nat
 order:List Nat
def rV{a:Type}(n:Nat)(b:Nat->a):a:=
 match n with
 |0=>b 0
 |m+1=>b (m+1)
def Dm{a:Type}:List Nat->(List Nat->a)->a
 |[],b=>b []
 |x::c,b=>rV x fun x=>Dm c fun c=>b (x::c)
def rowOf(a:List Nat)(o:Oper):Nat:=o.after.toList.foldl (fun c b=>match Region.binds .any b with|true=>Nat.lor (Nat.lor c (2^b.on)) (match nth a b.on with|some d=>d|none=>0)|false=>c) 0
def Og:List Oper->List Nat->List Nat
 |[],a=>a
 |o::b,a=>Dm (a++[rowOf a o]) fun a=>Og b a
def Oh:List Oper->List Nat->Nat->Nat->Option Nat
 |o::d,e::b,c,a=>match fM o.op with
  |true=>match subset a e with
   |true=>rV (Nat.lor a (2^c)) fun a=>Oh d b (c+1) a
   |false=>some c
  |false=>Oh d b (c+1) a
 |_,_,_,_=>none
def Kp:List Oper->List Nat->Nat->Nat->List (Nat×Bool×Nat)
 |o::d,e::a,b,c+1=>(b,fM o.op,e)::Kp d a (b+1) c
 |_,_,_,_=>[]
def Fl:List (Nat×Bool×Nat)->Option Nat
 |[]=>none
 |(b,true,_)::_=>some b
 |(_,false,_)::a=>Fl a
def early(a:Nat):Nat×Bool×Nat->Bool
 |(_,true,_)=>false
 |(_,false,b)=> !(YO b a)
def Kq:Nat->List (Nat×Bool×Nat)->List Nat
 |0,_=>[]
 |a+1,c=>match Fl c with
  |none=>c.map (·.1)
  |some b=>(c.filter (early b)).map (·.1)++b::Kq a (c.filter fun d=> !(YL d.1 b)&& !(early b d))
def pK(a:List Oper):WU:=
 Dm (Og a []) fun c=>
 rV (match Oh a c 0 0 with|none=>a.length|some e=>Of a c e) fun d=>
 Dm (Kq (d+1) (Kp a c 0 d)) fun b=>⟨c,d,b⟩
inductive rF where
 |val (i:Nat) (v:Value)
 |obj (i:Nat) (v:Value) (b:Nat) (o:fH)
 |skip (i:Nat)
def Kr(a b:MapEntry):Bool:=lp a.key b.key&&lp a.val b.val&&YL a.born b.born
def ns:List MapEntry->List MapEntry->Bool
 |[],[]=>true
 |a::c,d::b=>Kr a d&&ns c b
 |_,_=>false
def rW:fH->fH->Bool
 |.cells q r n l,.cells d i e a=>xh q d&&YL r i&&YL n e&&YL l a
 |.map f p,.map b m=>ns f b&&YL p m
 |.iter o l,.iter c a=>nC o c&&YL l a
 |_,_=>false
def yc(b:Fr)(a:Option Tmp)(e:Value):Bool:=
 match a with
 |none=>true
 |some c=>match b.tm.get c with
  |some d=>lp d e
  |none=>false
def isSome(a:Option Bool)(b:Bool):Bool:=
 match a,b with
 |some true,true=>true
 |some false,false=>true
 |_,_=>false
def nG(C:dU)(a:List Oper)(b:Fr)(st:St):rF->Bool
 |.val f l=>match nth a f with
  |some c=>isSome (gw a b c) true&& !(ft c.op)&&yc b c.dst l&&(match h0 C (iF b) c st with
   |some (.val m n)=>lp m l&&YL n.n st.n
   |_=>false)
  |none=>false
 |.obj f l e i=>match nth a f with
  |some c=>isSome (gw a b c) true&&ft c.op&&yc b c.dst l&&(match st.get e with
   |some d=>rW d i
   |none=>false)&&(match h0 C (iF b) c ⟨.nil,e,.nil⟩with
   |some (.val m n)=>lp m l&&(match n.get e with
    |some d=>rW d i
    |none=>false)
   |_=>false)
  |none=>false
 |.skip f=>match nth a f with
  |some c=>isSome (gw a b c) false&&yc b c.dst kn
  |none=>false
def rF.idx:rF->Nat
 |.val a _=>a
 |.obj a _ _ _=>a
 |.skip a=>a
def mW(C:dU)(a:List Oper)(d:Fr)(st:St)(b:Nat):List rF->Bool
 |[]=>true
 |c::e=>(YO b c.idx||nG C a d st c)&&mW C a d st b e
def nu(b:List Oper)(a:Tr Value):Tr Value:=
 b.foldl (fun a c=>match c.dst with
  |some d=>match fM c.op with
   |true=>a
   |false=>a.put d none
  |none=>a) a
def eM(C:dU)(l:Rec)(e:FC)(b:List Oper)(m:List Nat):List Nat->Nat->List rF->Fr->ec->St->Option (Ex×Fr×ec×St)
 |[],o,c,a,d,st=>
  match mW C b a st o c with
  |true=>some (.norm,a,d,st)
  |false=>none
 |i::q,o,c,a,d,st=>
  match nth b i,nth m i with
  |some n,some r=>
   match fM n.op with
   |true=>
    match mW C b a st o c with
    |false=>none
    |true=>match ji C l e b n a d st with
     |none=>none
     |some (.eE p a d st)=>some (.panic p,{a with tm:=nu b a.tm},d,st)
     |some (.next a d st)=>eM C l e b m q r c a d st
   |false=>
    match gw b a n with
    |none=>none
    |some false=>match gI e.nt a n.dst kn with
     |some a=>eM C l e b m q o (.skip i::c) a d st
     |none=>none
    |some true=>match h0 C (iF a) n st with
     |some (.val p f)=>match gI e.nt a n.dst p with
      |none=>none
      |some a=>match ft n.op with
       |true=>match f.get st.n with
        |some s=>eM C l e b m q o (.obj i p st.n s::c) a d f
        |none=>none
       |false=>match YL f.n st.n with
        |true=>eM C l e b m q o (.val i p::c) a d f
        |false=>none
     |_=>none
  |_,_=>none
def apart(st:St)(b a:Nat):Bool:=
 match st.get b,st.get a with
 |some (.cells _ _ f1 _),some (.cells _ _ f2 _)=>
  !(YL b a)&& !(YL f1 f2)&&(match st.fm.get f2 with|none=>true|some _=>false)&&(match st.fm.get f1 with|none=>true|some ms=> !(ms.any (YL a)))
 |_,_=>false
def Fm(C:dU)(w:FC)(l s n:Oper)(a:Fr)(v:ec)(st:St):Option (Ex×Fr×ec×St):=
 match l.dst,s.dst,n.dst,s.op,n.op,fM l.op||ft l.op with
 |some x,none,none,.store t1 A u,.store t2 z B,false=>
  match h0 C (iF a) l st with
  |some (.val D t)=>match YL t.n st.n,gI w.nt a (some x) D with
   |true,some b=>match iF b A,iF b u,iF ⟨a.tm.put x none,a.df⟩ z,iF ⟨a.tm.put x none,a.df⟩ B with
    |some (.pointer (some ⟨d,r,none⟩)),some q,some (.pointer (some ⟨i,p,none⟩)),some o=>match apart st d i with
     |false=>none
     |true=>match hH C t1 (.pointer (some ⟨d,r,none⟩)) q st,hH C t2 (.pointer (some ⟨i,p,none⟩)) o st with
      |some (.val _ m),some (.val _ c)=>match h0 C (iF a) l c with
       |some (.val y f)=>match lp D y&&YL f.n c.n with
        |false=>none
        |true=>match hH C t2 (.pointer (some ⟨i,p,none⟩)) o m,hH C t1 (.pointer (some ⟨d,r,none⟩)) q c with
         |some (.val _ e),some (.val _ _)=>some (.norm,b,v,e)
         |_,_=>none
       |_=>none
      |_,_=>none
    |_,_,_,_=>none
   |_,_=>none
  |_=>none
 |_,_,_,_,_,_=>none
def Fo(C:dU)(r:FC)(o w f q:Oper)(a:Fr)(B:ec)(st:St):Option (Ex×Fr×ec×St):=
 match o.dst,w.dst,f.dst,q.dst,w.op,f.op,q.op,fM o.op||ft o.op with
 |some d,none,some c,none,.store t1 G A,.fieldAddr E z I,.store t2 F H,false=>
  match YL d c with
  |true=>none
  |false=>match h0 C (iF ⟨a.tm.put c none,a.df⟩) o st,iF ⟨a.tm.put d none,a.df⟩ z with
   |some (.val y x),some J=>match fa C E J I st with
    |some (.val l _)=>match YL x.n st.n,YS d r.nt&&YS c r.nt with
     |true,true=>match iF ⟨(a.tm.put c none).set d y,a.df⟩ G,iF ⟨(a.tm.put c none).set d y,a.df⟩ A,iF ⟨(a.tm.put d none).set c l,a.df⟩ F,iF ⟨(a.tm.put d none).set c l,a.df⟩ H with
      |some (.pointer (some ⟨e,v,none⟩)),some u,some (.pointer (some ⟨n,t,none⟩)),some s=>match apart st e n with
       |false=>none
       |true=>match hH C t1 (.pointer (some ⟨e,v,none⟩)) u st,hH C t2 (.pointer (some ⟨n,t,none⟩)) s st with
        |some (.val _ p),some (.val _ b)=>match h0 C (iF ⟨a.tm.put c none,a.df⟩) o b with
         |some (.val D m)=>match lp y D&&YL m.n b.n with
          |false=>none
          |true=>match hH C t2 (.pointer (some ⟨n,t,none⟩)) s p,hH C t1 (.pointer (some ⟨e,v,none⟩)) u b with
           |some (.val _ i),some (.val _ _)=>some (.norm,⟨(a.tm.set d y).set c l,a.df⟩,B,i)
           |_,_=>none
         |_=>none
        |_,_=>none
      |_,_,_,_=>none
     |_,_=>none
    |_=>none
   |_,_=>none
 |_,_,_,_,_,_,_,_=>none
def region(C:dU)(n:Rec)(e:FC)(a:Array Oper)(m:Bool)(c:Fr)(b:ec)(st:St):Option (Ex×Fr×ec×St):=
 match m with
 |false=>nF C n e a.toList a.toList c b st
 |true=>
  let d:=pK a.toList
  match eM C n e a.toList d.bs d.order 0 [] c b st with
  |some (.norm,c,b,st)=>match YL d.m a.toList.length with
   |true=>some (.norm,c,b,st)
   |false=>match a.toList.drop d.m,nth d.bs (d.m+1)with
    |[o,l,i],some f=>match YO f d.m with
     |true=>Fm C e o l i c b st
     |false=>none
    |[o,l,q,i],some f=>match YO f d.m,nth d.bs (d.m+3)with
     |true,some p=>match YO p (d.m+2)with
      |true=>Fo C e o l q i c b st
      |false=>none
     |_,_=>none
    |_,_=>none
  |r=>r
def nH(a:FC)(b:Fr)(params:List Tmp)(assign body:Code)(st:St):Option (Nat×Fr×St):=
 match a.round with
 |some f=>match st.get f with
  |some (.loop d)=>some (st.n,b,st.new (.loop {state:=.ready,pending:=none,fn:=a.fn,tm:=b.tm,nt:=a.nt,params,assign,body,defers:=d.defers}))
  |_=>none
 |none=>
  let e:=st.n
  let c:=st.new (.eG false)
  some (c.n,{b with df:={target:=.collected e,args:= #[]}::b.df},c.new (.loop {state:=.ready,pending:=none,fn:=a.fn,tm:=b.tm,nt:=a.nt,params,assign,body,defers:=e}))
def Dn:Option Code->Option Ex
 |none=>some .norm
 |some .ret=>some .ret
 |some (.exit id)=>some (.exit id)
 |_=>none
def code(C:dU)(d:Rec)(c:FC):Code->Fr->ec->St->Option (Ex×Fr×ec×St)
 |.skip,a,b,st=>some (.norm,a,b,st)
 |.region _ q p,a,b,st=>region C d c q p a b st
 |.seq s l,a,b,st=>match code C d c s a b st with
  |some (.norm,a,b,st)=>code C d c l a b st
  |r=>r
 |.cond y s l,a,b,st=>match iF a y with
  |some (.bool true)=>code C d c s a b st
  |some (.bool false)=>code C d c l a b st
  |_=>none
 |.block id l,a,b,st=>match code C d c l a b st with
  |some (.exit m,a,b,st)=>match YL m id with
   |true=>some (.norm,a,b,st)
   |false=>some (.exit m,a,b,st)
  |r=>r
 |.loop l,a,b,st=>match code C d c l a b st with
  |some (.norm,a,b,st)=>d.code c (.loop l) a b st
  |r=>r
 |.rangeFunc w i f n,a,b,st=>
  match iF a w,nH c a i.toList f n st with
  |some (.func (.func u) first e),some (t,a,st)=>
   match C.ff.get u with
   |none=>none
   |some _=>match d.call u (first.toList++[.func (.yield t) #[] #[]]++e.toList) false .none st with
    |some (.ret _,_,st)=>match st.get t with
     |some (.loop o)=>match o.state with
      |.busy=>none
      |_=>match Dn o.pending with
       |some x=>some (x,a,b,st.put t (.loop {o with state:=.exhausted}))
       |none=>none
     |_=>none
    |some (.eE v,_,st)=>some (.panic v,a,b,st)
    |none=>none
  |_,_=>none
 |.exit id,a,b,st=>some (.exit id,a,b,st)
 |.ret,a,b,st=>some (.ret,a,b,st)
 |_,_,_,_=>none
inductive Mode where
 |returning
 |panicking (v:Value)
def jI(C:dU)(b:Rec):List Deferred->Mode->St->Option (Mode×St)
 |[],m,st=>some (m,st)
 |d::c,m,st=>
  match d.target with
  |.collected i=>match st.get i with
   |some (.eG false)=>jI C b c m (st.put i (.eG true))
   |_=>none
  |.fn (.func f) a=>
   match C.ff.get f,b.call f (d.args.toList++a.toList) true (match m with|.returning=>.none|.panicking l=>.fu l) st with
   |some _,some (.ret _,e,st)=>jI C b c (match m,e with|.panicking _,.pG=>.returning|m,_=>m) st
   |_,_=>none
  |_=>none
def zJ(C:dU)(a:Tr Value)(st:St):ResultVar->Option Value
 |.tmp b=>a.get b
 |.cell c b=>match a.get c with
  |some e=>match vv C b e st with
   |some (.val d _)=>some d
   |_=>none
  |none=>none
def oB(C:dU)(a:Tr Value)(st:St):List ResultVar->Option (List Value)
 |[]=>some []
 |r::d=>match zJ C a st r,oB C a st d with
  |some c,some b=>some (c::b)
  |_,_=>none
def s3:List Value->Value
 |[b]=>b
 |a=>.tuple a.toArray
def finish(C:dU)(d:Rec)(e:FI)(f:Mode)(b:Fr)(a:ec)(st:St):Option (CR×ec×St):=
 match jI C d b.df f st with
 |none=>none
 |some (.panicking i,st)=>some (.eE i,a,st)
 |some (.returning,st)=>match oB C b.tm st e.Ro with
  |some c=>some (.ret (s3 c),a,st)
  |none=>none
def vx(C:dU)(e:Rec)(f:FuncId)(c:List Value)(i:Bool)(a:ec)(st:St):Option (CR×ec×St):=
 match C.ff.get f with
 |none=>none
 |some b=>match Nat.ble c.length b.nt with
  |false=>none
  |true=>match code C e ⟨f,b.nt,none,i⟩ b.body ⟨eD 0 c .nil,[]⟩ a st with
   |some (.norm,d,a,st)=>finish C e b .returning d a st
   |some (.ret,d,a,st)=>finish C e b .returning d a st
   |some (.panic l,d,a,st)=>finish C e b (.panicking l) d a st
   |_=>none
def lF:List Tmp->List Value->Nat->Tr Value->Option (Tr Value)
 |[],[],_,a=>some a
 |t::d,e::c,b,a=>match YS t b with
  |true=>lF d c b (a.set t e)
  |false=>none
 |_,_,_,_=>none
def rX(C:dU)(f:Rec)(l:Nat)(d:List Value)(st:St):Option (CR×St):=
 match st.get l with
 |some (.loop a)=>
  match C.ff.get a.fn,lF a.params d a.nt a.tm with
  |none,_=>none
  |_,none=>none
  |some _,some i=>
   let e:FC:=⟨a.fn,a.nt,some l,false⟩
   match code C f e a.assign ⟨i,[]⟩ .none st with
   |some (.norm,b,_,st)=>match st.get l with
    |some (.loop c)=>match c.state with
     |.ready=>match code C f e a.body b .none (st.put l (.loop {c with state:=.busy}))with
      |some (.norm,b,_,st)=>match st.get l,b.df with
       |some (.loop a),[]=>some (.ret (.bool true),st.put l (.loop {a with state:=.ready,pending:=none}))
       |_,_=>none
      |some (.ret,b,_,st)=>match st.get l,b.df with
       |some (.loop a),[]=>some (.ret (.bool false),st.put l (.loop {a with state:=.done,pending:=some .ret}))
       |_,_=>none
      |some (.exit id,b,_,st)=>match st.get l,b.df with
       |some (.loop a),[]=>some (.ret (.bool false),st.put l (.loop {a with state:=.done,pending:=some (.exit id)}))
       |_,_=>none
      |some (.panic m,b,_,st)=>match b.df with
       |[]=>some (.eE m,st)
       |_=>none
      |none=>none
     |_=>none
    |_=>none
   |_=>none
 |_=>none
def ze(v:Value)(a:ec)(st:St):Option (CR×ec×St):=match v with
 |.agg ⟨[b,.iface c .nilIface]⟩=>some (.ret (.tuple ⟨[b,.iface c (.pointer (some ⟨st.n,0,none⟩))]⟩),a,{st with n:=st.n+1})
 |v=>some (.ret v,a,st)
def iS(C:dU)(b:FuncId->List Value->Option Value):Nat->Rec
 |0=>Rp
 |n+1=>{
   code:=fun e l f c st=>code C (iS C b n) e l f c st
   call:=fun i a d c st=>match d,b i a with
    |false,some m=>ze m c st
    |_,_=>vx C (iS C b n) i a d c st
   round:=fun o a st=>rX C (iS C b n) o a st}
def hW(a:List Oper)(c:Nat):Bool:=match nth a c with|some b=>fM b.op|none=>false
def iG(a:List Nat)(d b:Nat):Bool:=match nth a d with|some c=>YO c b|none=>false
def zf(a:List Oper)(b:List Nat):List Nat->Bool
 |[]=>true
 |e::r=>(!(hW a e)||r.all fun c=>iG b c e)&&zf a b r
def tmpsOf:List Operand->List Tmp
 |[]=>[]
 |.tmp b::a=>b::tmpsOf a
 |_::a=>tmpsOf a
def oC(a:List Oper)(o:Oper):List Tmp:=
 tmpsOf o.op.operands.toList++(match o.guard with
  |none=>[]
  |some (d,_)=>match nth a d with
   |some b=>match b.dst with
    |some c=>[c]
    |none=>[]
   |none=>[])
def Ks(a:List Oper)(d:List Nat)(n:Nat):Bool:=
 (YN n).all fun f=>match nth a f with
  |none=>false
  |some b=>fM b.op||(match b.dst with
   |none=>true
   |some i=>(YN n).all fun e=>(match nth a e with
    |none=>false
    |some c=> !((oC a c).any (YL i))||iG d e f))
def Dp(a:List Oper):Bool:=
 let b:=pK a
 ((YN a.length).all fun c=>match nth a c with
  |none=>false
  |some d=>d.after.toList.all fun e=> !(Region.binds .any e)||YS e.on c)&&
 ((YN a.length).all fun c=>match nth a c,nth b.bs c with
  |some d,some f=>YL f (rowOf b.bs d)
  |_,_=>false)&&
 Nat.ble b.m a.length&&((YN b.m).all fun c=>b.order.any (YL c))&&(b.order.all fun c=>YS c b.m)&&YL b.order.length b.m&&
 zf a b.bs b.order&&Ks a b.bs a.length&&zI a b.bs a.length b.m
def codeOk:Code->Bool
 |.region _ c true=>Dp c.toList
 |.seq b a=>codeOk b&&codeOk a
 |.cond _ b a=>codeOk b&&codeOk a
 |.block _ a=>codeOk a
 |.loop a=>codeOk a
 |.rangeFunc _ _ b a=>codeOk b&&codeOk a
 |_=>true
open Go.RowKit (Below)
theorem H6(a:Nat):fT a 0=[]:=by cases a<;>rfl
theorem LB:∀(e a c b:Nat),c<=e->b<=a->fT e c=fT a b->c=b:=by
 intro e;induction e with
 |zero=>
  intro a c b l f d;have:c=0:=om;subst this;cases b with
  |zero=>rfl
  |succ b=>
   cases a with
   |zero=>omega
   |succ a=>simp[fT]at d
 |succ e i=>
  intro a c b l f d;cases c with
  |zero=>
   cases b with
   |zero=>rfl
   |succ b=>
    cases a with
    |zero=>omega
    |succ a=>simp[fT]at d
  |succ c=>
   cases b with
   |zero=>rw[H6]at d;simp[fT]at d
   |succ b=>
    cases a with
    |zero=>omega
    |succ a=>
     simp only[fT,List.cons.injEq]at d;have n:=i a (c/2) (b/2) om om d.2;have o:(c%2=0)↔(b%2=0):=by
      have m:=d.1;rw[Bool.eq_iff_iff,Nat.beq_eq,Nat.beq_eq]at m;exact m
     omega
theorem Oi{n a:Nat}(b:path n=path a):n=a:=LB n a n a (Nat.le_refl _) (Nat.le_refl _) b
theorem oD{a:Type}(p:List Bool):hV p (Tr.nil:Tr a)=none:=by cases p<;>rfl
theorem vy{b:Type}(o:Option b):∀(c:List Bool) (a:Tr b),hV c (kN o c a)=o:=by
 intro c;induction c with
 |nil=>intro a;cases a<;>rfl
 |cons e c d=>intro a;cases a<;>cases e<;>simp[kN,hV,d]
theorem yO{d:Type}(o:Option d):∀(c a:List Bool) (b:Tr d),c≠a->hV a (kN o c b)=hV a b:=by
 intro c;induction c with
 |nil=>
  intro a b f;cases a with
  |nil=>exact absurd rfl f
  |cons e a=>cases b<;>cases e<;>simp[kN,hV,oD]
 |cons i c n=>
  intro a b f;cases a with
  |nil=>cases b<;>cases i<;>simp[kN,hV]
  |cons e a=>
   have m:i=e->c≠a:=fun p l=>f (by rw[p,l]);cases b<;>cases i<;>cases e<;>simp_all [kN,hV,oD]
theorem cT{a:Type}(t:Tr a)(n b:Nat)(o:Option a):(t.put n o).get b=if b=n then o else t.get b:=by
 unfold Tr.get Tr.put;by_cases c:b=n
 ·subst c;rw[if_pos rfl,vy]
 ·rw[if_neg c,yO _ _ _ _ (fun d=>c (Oi d).symm)]
theorem cw{a:Type}(t:Tr a)(n b:Nat)(c:a):(t.set n c).get b=if b=n then some c else t.get b:=cT t n b (some c)
theorem nI{a:Type}(n:Nat):(Tr.nil:Tr a).get n=none:=oD _
theorem cv{d:Type}:∀(b:List d) (a:Nat),nth b a=b[a]?:=by
 intro b;induction b with
 |nil=>intro a;rfl
 |cons e b c=>intro a;cases a<;>simp[nth,c]
theorem oE{f:Type}:∀(c:List f) (b:Nat) (i:Tr f) (a:Nat),(eD b c i).get a=if b<=a/\a<b+c.length then c[a-b]? else i.get a:=by
 intro c;induction c with
 |nil=>intro b i a;simp only[eD,YQ];rw[if_neg om]
 |cons m c l=>
  intro b i a;simp only[eD,l,cw,YM];by_cases e:a=b
  ·subst e;rw[if_neg om,if_pos rfl,if_pos om,Nat.sub_self];rfl
  ·by_cases d:b+1<=a/\a<b+1+c.length
   ·rw[if_pos d,if_pos om,show a-b=(a-(b+1))+1 from by omega];rfl
   ·rw[if_neg d,if_neg e,if_neg om]
structure Loc where
 b:Nat
 d:Nat
 es:Nat
 sz:Nat
abbrev Ren:=Nat->Option Loc
def Ren.le(ρ a:Ren):Prop:=∀c b,ρ c=some b->a c=some b
theorem Ren.le_refl(ρ:Ren):ρ.le ρ:=fun _ _ a=>a
theorem Ren.le.trans{d b c:Ren}(f:d.le b)(i:b.le c):d.le c:=fun a e l=>i a e (f a e l)
mutual
inductive cY (ρ:Ren):Value->Value->Prop
 |bool (b:Bool):cY ρ (.bool b) (.bool b)
 |int (k:IntKind) (n:Int):cY ρ (.int k n) (.int k n)
 |string (s:ByteArray):cY ρ (.string s) (.string s)
 |H7:cY ρ (.pointer none) (.pointer none)
 |ptr {b o:Nat} {l:Loc} (h:ρ b=some l):cY ρ (.pointer (some ⟨b,o,none⟩)) (.pointer (some ⟨l.b,l.d+o,none⟩))
 |kT:cY ρ (.slice none 0 0) (.slice none 0 0)
 |iu (a a':Addr):cY ρ (.slice (some a) 0 0) (.slice (some a') 0 0)
 |slice {b o len cap TY:Nat} {l:Loc} (h:ρ b=some l) (hc:cap<=TY) (hb:l.d+o+TY*l.es<=l.sz):
   cY ρ (.slice (some ⟨b,o,none⟩) len cap) (.slice (some ⟨l.b,l.d+o,none⟩) len TY)
 |H8:cY ρ (.map none) (.map none)
 |map {r:Nat} {l:Loc} (h:ρ r=some l):cY ρ (.map (some r)) (.map (some l.b))
 |func (f:FuncId) {a a' c c':Array Value} (h1:cU ρ a.toList a'.toList) (h2:cU ρ c.toList c'.toList):cY ρ (.func (.func f) a c) (.func (.func f) a' c')
 |yield {r:Nat} {l:Loc} {a a' c c':Array Value} (h:ρ r=some l) (h1:cU ρ a.toList a'.toList) (h2:cU ρ c.toList c'.toList):
   cY ρ (.func (.yield r) a c) (.func (.yield l.b) a' c')
 |nilFunc:cY ρ .nilFunc .nilFunc
 |nilIface:cY ρ .nilIface .nilIface
 |iface (t:TypeId) {v v':Value} (h:cY ρ v v'):cY ρ (.iface t v) (.iface t v')
 |agg {a a':Array Value} (h:cU ρ a.toList a'.toList):cY ρ (.agg a) (.agg a')
 |tuple {a a':Array Value} (h:cU ρ a.toList a'.toList):cY ρ (.tuple a) (.tuple a')
inductive cU (ρ:Ren):List Value->List Value->Prop
 |nil:cU ρ [] []
 |cons {v v':Value} {l l':List Value} (h:cY ρ v v') (t:cU ρ l l'):cU ρ (v::l) (v'::l')
end
mutual
theorem cY.mono{ρ dm:Ren}(hle:ρ.le dm):∀{v v':Value},cY ρ v v'->cY dm v v'
 |_,_,.bool b=>.bool b
 |_,_,.int k n=>.int k n
 |_,_,.string s=>.string s
 |_,_,.H7=>.H7
 |_,_,.ptr h=>.ptr (hle _ _ h)
 |_,_,.kT=>.kT
 |_,_,.iu a a'=>.iu a a'
 |_,_,.slice h hc hb=>.slice (hle _ _ h) hc hb
 |_,_,.H8=>.H8
 |_,_,.map h=>.map (hle _ _ h)
 |_,_,.func f h1 h2=>.func f (cU.mono hle h1) (cU.mono hle h2)
 |_,_,.yield h h1 h2=>.yield (hle _ _ h) (cU.mono hle h1) (cU.mono hle h2)
 |_,_,.nilFunc=>.nilFunc
 |_,_,.nilIface=>.nilIface
 |_,_,.iface t h=>.iface t (cY.mono hle h)
 |_,_,.agg h=>.agg (cU.mono hle h)
 |_,_,.tuple h=>.tuple (cU.mono hle h)
theorem cU.mono{ρ dm:Ren}(hle:ρ.le dm):∀{l l':List Value},cU ρ l l'->cU dm l l'
 |_,_,.nil=>.nil
 |_,_,.cons h t=>.cons (cY.mono hle h) (cU.mono hle t)
end
variable{k:Value}
section vs
variable{ρ:Ren}
theorem cU.length{l a:List Value}(b:cU ρ l a):l.length=a.length:=by
 induction l generalizing a with
 |nil=>cases b;rfl
 |cons e l c=>cases b with|cons b d=>simp[c d]
theorem cU.append{f a c b:List Value}(d:cU ρ f a)(i:cU ρ c b):cU ρ (f++c) (a++b):=by
 induction f generalizing a with
 |nil=>cases d;exact i
 |cons m n e=>cases d with|cons d l=>exact .cons d (e l)
theorem cU.get{l c:List Value}(d:cU ρ l c){i:Nat}(a:l[i]?=some k):∃b,c[i]?=some b/\cY ρ k b:=by
 induction l generalizing c i with
 |nil=>simp at a
 |cons o l e=>
  cases d with
  |cons d m=>
   cases i with
   |zero=>simp at a;subst a;exact⟨_,by simp,d⟩
   |succ i=>simp at a;obtain⟨b,n,f⟩:=e m a;exact⟨b,by simpa using n,f⟩
theorem vz{l a:List Value}(c:l.length=a.length)(o:∀(d:Nat) (e:Value),l[d]?=some e->∃b,a[d]?=some b/\cY ρ e b):cU ρ l a:=by
 induction l generalizing a with
 |nil=>cases a with|nil=>exact .nil|cons _ _=>simp at c
 |cons p l m=>
  cases a with
  |nil=>simp at c
  |cons q a=>
   obtain⟨b,f,i⟩:=o 0 p rfl;simp at f;subst f;refine .cons i (m (by simpa using c) fun d e n=>?_);obtain⟨b,f,i⟩:=o (d+1) e (by simpa using n);exact⟨b,by simpa using f,i⟩
theorem cU.take{l a:List Value}(b:cU ρ l a)(n:Nat):cU ρ (l.take n) (a.take n):=by
 induction l generalizing a n with
 |nil=>cases b;cases n<;>exact .nil
 |cons e l c=>cases b with|cons b d=>cases n with
  |zero=>exact .nil
  |succ n=>exact .cons b (c d n)
theorem cU.drop{l a:List Value}(b:cU ρ l a)(n:Nat):cU ρ (l.drop n) (a.drop n):=by
 induction l generalizing a n with
 |nil=>cases b;cases n<;>exact .nil
 |cons e l c=>cases b with|cons b d=>cases n with
  |zero=>exact .cons b d
  |succ n=>exact c d n
theorem cY.cells{b a:Value}(c:cY ρ b a):cU ρ (cellsOf b) a.cells.toList:=by
 cases c<;>first|exact .cons (by constructor<;>assumption) .nil|skip
 all_goals first|assumption|exact .cons (.iu _ _) .nil
theorem cY.fs{b a:Value}(c:cY ρ b a):fs b=fs a:=by
 cases c<;>rfl
end vs
def fU(ρ:Ren)(c:Nat)(b:Tr Value)(e:Array Value):Prop:=
 e.size=c/\∀d f,b.get d=some f->∃a,e[d]?=some a/\cY ρ f a
def lv(ρ:Ren):List MapEntry->List MapEntry->Prop
 |[],[]=>True
 |e::c,a::b=>cY ρ e.key a.key/\cY ρ e.val a.val/\e.born=a.born/\lv ρ c b
 |_,_=>False
structure Rq (ρ:Ren) (al:Cs) (lo:Loop):Prop where
 state:lo.state=al.state
 pending:lo.pending=al.pending
 fn:lo.fn=al.fn
 tm:fU ρ al.nt al.tm lo.tmps
 params:lo.params.toList=al.params
 assign:lo.assign=al.assign
 body:lo.body=al.body
 defers:∃l,ρ al.defers=some l/\lo.defers=l.b
 ok:codeOk al.assign=true/\codeOk al.body=true
structure LC (ρ:Ren) (l:Loc) (c:List Value) (es:Nat) (c':Array Value) (lo hi:Nat):Prop where
 es:l.es=es
 size:c'.size=l.sz
 fits:l.d+c.length<=l.sz
 cell:∀(i:Nat) (v:Value),c[i]?=some v->∃v',c'[l.d+i]?=some v'/\cY ρ v v'
 H9:∀i,i<l.sz->¬(lo<=i/\i<hi)
def vA(ρ:Ren)(l:Loc)(o:fH)(co:Option Obj):Prop:=
 match o with
 |.cells q d _ _=>∃f e a i,co=some (.cells f e (a,i))/\LC ρ l q d f a i
 |.map d b=>∃c,co=some (.map c b)/\lv ρ d c.toList
 |.loop m=>∃a,co=some (.loop a)/\Rq ρ m a
 |.eG p=>co=some (.deferred (if p then none else some []))
 |.iter n r=>co=some (.stringIter n r)
 |.dead=>True
def vB(o d:fH)(l a:Loc):Prop:=
 match o,d with
 |.cells _ _ e f,.cells _ _ c b=>e=c/\l.d+b=a.d+f
 |.dead,_=>True
 |_,.dead=>True
 |_,_=>False
def rY(st:St)(b f:Nat):Prop:=
 match st.fm.get f with
 |none=>b=f
 |some a=>b∈a
structure WF (st:St):Prop where
 lt:∀b o,st.get b=some o->b<st.n
 dS:∀b c e f p,st.get b=some (.cells c e f p)->f<st.n/\rY st b f
 Kt:∀f ms,st.fm.get f=some ms->f<st.n
structure dj (w0:World) (N0:Nat) (G:Nat->Prop) (ρ:Ren) (st:St) (w:World):Prop where
 wf:WF st
 below:Below N0 w0 w
 Cu:N0<=w.heap.size
 HZ:∀b,G b->ρ b=none/\b<st.n
 vt:∀b l,ρ b=some l->b<st.n/\N0<=l.b/\l.b<w.heap.size
 obj:∀b l o,ρ b=some l->st.get b=some o->vA ρ l o w.heap[l.b]?
 sep:∀b b' l l' o o',ρ b=some l->ρ b'=some l'->l.b=l'.b->st.get b=some o->st.get b'=some o'->b≠b'->vB o o' l l'
theorem fU.mono{ρ a:Ren}(m:ρ.le a){c:Nat}{b:Tr Value}{i:Array Value}(f:fU ρ c b i):fU a c b i:=
 ⟨f.1,fun n o d=>let⟨e,p,l⟩:=f.2 n o d;⟨e,p,l.mono m⟩⟩
theorem lv.mono{ρ a:Ren}(c:ρ.le a):∀{e d:List MapEntry},lv ρ e d->lv a e d
 |[],[],_=>trivial
 |_::_,_::_,⟨b,i,l,f⟩=>⟨b.mono c,i.mono c,l,lv.mono c f⟩
 |[],_::_,b=>b.elim
 |_::_,[],b=>b.elim
theorem Rq.mono{ρ b:Ren}(d:ρ.le b){c:Cs}{lo:Loop}(a:Rq ρ c lo):Rq b c lo:=
 ⟨a.state,a.pending,a.fn,a.tm.mono d,a.params,a.assign,a.body,let⟨i,f,e⟩:=a.defers;⟨i,d _ _ f,e⟩,a.ok⟩
theorem LC.mono{ρ a:Ren}(n:ρ.le a){l:Loc}{c:List Value}{es:Nat}{d:Array Value}{lo e:Nat}(b:LC ρ l c es d lo e):LC a l c es d lo e:=
 ⟨b.es,b.size,b.fits,fun o p f=>let⟨i,q,m⟩:=b.cell o p f;⟨i,q,m.mono n⟩,b.H9⟩
theorem vA.mono{ρ a:Ren}(n:ρ.le a){l:Loc}{o:fH}{co:Option Obj}(e:vA ρ l o co):vA a l o co:=by
 cases o with
 |cells x q v u=>obtain⟨p,b,c,r,f,d⟩:=e;exact⟨p,b,c,r,f,d.mono n⟩
 |map q m=>obtain⟨i,f,d⟩:=e;exact⟨i,f,d.mono n⟩
 |loop t=>obtain⟨c,f,d⟩:=e;exact⟨c,f,d.mono n⟩
 |eG w=>exact e
 |iter s u=>exact e
 |dead=>trivial
def Ren.add(ρ:Ren)(b:Nat)(l:Loc):Ren:=fun a=>if a=b then some l else ρ a
theorem er{ρ:Ren}{b:Nat}{l:Loc}(e:ρ b=none):ρ.le (ρ.add b l):=by
 intro d f c;unfold Ren.add;by_cases a:d=b
 ·subst a;rw[e]at c;cases c
 ·rw[if_neg a];exact c
theorem c6(ρ:Ren)(b:Nat)(l:Loc):(ρ.add b l) b=some l:=if_pos rfl
theorem dZ(ρ:Ren){b a:Nat}(l:Loc)(c:a≠b):(ρ.add b l) a=ρ a:=if_neg c
theorem dl(st:St)(o:fH)(b:Nat):(st.new o).get b=if b=st.n then some o else st.get b:=cw _ _ _ _
theorem cW(st:St)(a:Nat)(o:fH)(b:Nat):(st.put a o).get b=if b=a then some o else st.get b:=cw _ _ _ _
def rZ(st:St):fH->Prop
 |.cells _ _ a _=>a=st.n
 |_=>True
theorem WF.new{st:St}(i:WF st){o:fH}(m:rZ st o):WF (st.new o):=by
 have f:st.fm.get st.n=none:=by
  cases n:st.fm.get st.n with
  |none=>rfl
  |some c=>exact absurd (i.Kt _ _ n) (Nat.lt_irrefl _)
 refine⟨fun d p a=>?_,fun d q n e r a=>?_,fun e c l=>YP (i.Kt e c l)⟩
 ·rw[dl]at a;show d<st.n+1;by_cases b:d=st.n
  ·omega
  ·rw[if_neg b]at a;exact YP (i.lt _ _ a)
 ·rw[dl]at a;show e<st.n+1/\rY (st.new o) d e;by_cases b:d=st.n
  ·rw[if_pos b]at a;cases a;have:e=st.n:=m;subst this;refine⟨Nat.lt_succ_self _,?_⟩;show match st.fm.get st.n with|none=>d=st.n|some c=>d∈c
   rw[f];exact b
  ·rw[if_neg b]at a;have:=i.dS _ _ _ _ _ a;exact⟨YP this.1,this.2⟩
variable{j:Program} {h:TypeId} {g:Nat×Nat}
section
variable{w0:World} {N0:Nat} {G:Nat->Prop} {ρ:Ren} {st:St} {w:World}
theorem dj.gY(b:dj w0 N0 G ρ st w):ρ st.n=none:=by
 cases a:ρ st.n with
 |none=>rfl
 |some c=>exact absurd (b.vt _ _ a).1 (Nat.lt_irrefl _)
theorem dj.new(f:dj w0 N0 G ρ st w){o:fH}{co:Obj}{l:Loc}(A:l.b=w.heap.size)(z:rZ st o)(B:vA (ρ.add st.n l) l o (some co)):
  dj w0 N0 G (ρ.add st.n l) (st.new o) {w with heap:=w.heap.push co}:=by
 have x:=er (l:=l) f.gY;have b:∀s,s<w.heap.size->(w.heap.push co)[s]?=w.heap[s]?:=fun s y=>by
  rw[Array.getElem?_push,if_neg om]
 refine⟨f.wf.new z,?_,?_,?_,?_,?_,?_⟩
 ·refine f.below.trans ⟨Z,Z,Z,by simp,fun s y=>b s (by have:=f.Cu;omega)⟩
 ·show N0<=(w.heap.push co).size;have:=f.Cu;simp;omega
 ·intro F D;have:=f.HZ F D;exact⟨by rw[dZ _ _ om];exact this.1,YP this.2⟩
 ·intro t n a;show t<st.n+1/\N0<=n.b/\n.b<(w.heap.push co).size;by_cases u:t=st.n
  ·subst u;rw[c6]at a;cases a;have:=f.Cu;simp;omega
  ·rw[dZ _ _ u]at a;have:=f.vt _ _ a;simp;omega
 ·intro t n C a i;show vA _ n C (w.heap.push co)[n.b]?;rw[dl]at i;by_cases u:t=st.n
  ·subst u;rw[c6]at a;cases a;rw[if_pos rfl]at i;cases i;rw[A,Array.getElem?_push_size];exact B
  ·rw[dZ _ _ u]at a;rw[if_neg u]at i;rw[b _ (f.vt _ _ a).2.2];exact(f.obj _ _ _ a i).mono x
 ·intro t v J K I H d c E r q p;rw[dl]at r q;by_cases m:t=st.n
  ·by_cases e:v=st.n
   ·exact absurd (m.trans e.symm) p
   ·subst m;rw[c6]at d;cases d;rw[dZ _ _ e]at c;have:=(f.vt _ _ c).2.2;omega
  ·by_cases e:v=st.n
   ·subst e;rw[c6]at c;cases c;rw[dZ _ _ m]at d;have:=(f.vt _ _ d).2.2;omega
   ·rw[dZ _ _ m]at d;rw[dZ _ _ e]at c;rw[if_neg m]at r;rw[if_neg e]at q;exact f.sep _ _ _ _ _ _ d c E r q p
theorem dj.Oj(a:dj w0 N0 G ρ st w){c:World}(b:Below w.heap.size w c):dj w0 N0 G ρ st c:=by
 refine⟨a.wf,a.below.trans (b.mono a.Cu),Nat.le_trans a.Cu b.size,a.HZ,fun f i d=>?_,fun f i l d e=>?_,a.sep⟩
 ·have:=a.vt _ _ d;have:=b.size;omega
 ·rw[b.block _ (a.vt _ _ d).2.2];exact a.obj _ _ _ d e
theorem mX{b o n:Nat}{c:List Value}(e:fY st b o n=some c):
  ∃a d i m,st.get b=some (.cells a d i m)/\o+n<=a.length/\c=(a.drop o).take n:=by
 unfold fY at e;split at e
 ·rename_i a d i m l;split at e
  ·rename_i f;refine⟨a,d,i,m,l,?_,?_⟩
   ·exact Nat.le_of_ble_eq_true f
   ·simpa using e.symm
  ·cases e
 ·cases e
theorem eZ{b o n:Nat}{c:List Value}(d:fY st b o n=some c):c.length=n:=by
 obtain⟨f,e,i,l,_,a,rfl⟩:=mX d;simp;omega
theorem run_load{w:World}{a:Addr}(b:w.cell? a=some k):(load a).run j w=.ok k w:=by
 simp[load,Sem.run,b]
theorem b5{i v:Type}{w m:World}{s:Sem i}{x:i}(r:i->Sem v)(a:s.run j w=.ok x m):(s>>=r).run j w=(r x).run j m:=by
 show(s.bind r).run j w=_;induction s generalizing w with
 |pure n=>simp only[Sem.run]at a;cases a;rfl
 |load q d c b=>
  simp only[Sem.bind,Sem.run]at a⊢;cases o:w.cell? d with
  |some p=>rw[o]at a;exact b p a
  |none=>
   rw[o]at a;simp only at a⊢;cases e:w.farLoad j d (q==.atomic)with
   |ok l=>rw[e]at a;exact b l.1 a
   |error n=>rw[e]at a;cases a
 |store q d p c b=>
  cases p with
  |agg n=>simp[Sem.run]at a
  |tuple n=>simp[Sem.run]at a
  |_=>
   simp only[Sem.bind,Sem.run]at a⊢;cases o:w.cell? d with
   |some p=>
    rw[o]at a;simp only at a⊢;split at a
    ·cases a
    ·rename_i u;rw[if_neg u];exact b a
   |none=>
    rw[o]at a;simp only at a⊢;cases e:w.farStore j d _ (q==.atomic)with
    |ok l=>rw[e]at a;exact b a
    |error n=>rw[e]at a;cases a
 |new t c b=>simp only[Sem.bind,Sem.run]at a⊢;exact b _ a
 |shape l c b=>simp only[Sem.bind,Sem.run]at a⊢;exact b _ a
 |freeze d y c b=>simp only[Sem.bind,Sem.run]at a⊢;exact b a
 |frozen d c b=>simp only[Sem.bind,Sem.run]at a⊢;exact b _ a
 |getObj l c b=>
  simp only[Sem.bind,Sem.run]at a⊢;split at a
  ·cases a
  ·exact b _ a
  ·cases a
 |setObj l t c b=>
  simp only[Sem.bind,Sem.run]at a⊢;split at a
  ·cases a
  ·exact b a
  ·cases a
 |choose z c b=>
  simp only[Sem.bind,Sem.run]at a⊢;split at a
  ·rename_i f;rw[if_pos f];exact b _ a
  ·rename_i f;rw[if_neg f];exact b _ a
 |sys A c b=>simp only[Sem.bind,Sem.run]at a⊢;exact b _ a
 |program c b=>simp only[Sem.bind,Sem.run]at a⊢;exact b _ a
 |mark q c b=>simp only[Sem.bind,Sem.run]at a⊢;exact b a
 |halt n=>simp[Sem.run]at a
theorem cell_of{w:World}{b:Nat}{c:Array Value}(d:w.heap[b]?=some (.cells c h g))(a:Nat):w.cell? ⟨b,a,none⟩=c[a]?:=by
 simp[World.cell?,d]
theorem j4(b o n:Nat):(⟨b,o,none⟩:Addr).add n=⟨b,o+n,none⟩:=by
 unfold Addr.add;split
 ·rename_i a;subst a;rfl
 ·rfl
theorem run_loadCellsFrom{P:Program}{w:World}{b o:Nat}{c:Array Value}(p:w.heap[b]?=some (.cells c h g)):
  ∀(f d:Nat) (a:Array Value),o+d+f<=c.size->(loadCellsFrom ⟨b,o,none⟩ d f a).run P w=.ok ⟨a.toList++(c.toList.drop (o+d)).take f⟩ w:=by
 intro f;induction f with
 |zero=>intro d a _;simp[loadCellsFrom,pure]
 |succ f l=>
  intro d a n;have e:o+d<c.size:=om;have m:w.cell? ((⟨b,o,none⟩:Addr).add d)=some c[o+d]:=by rw[j4,cell_of p];exact YR e
  rw[loadCellsFrom,b5 _ (run_load m),l (d+1) (a.push c[o+d]) om];have i:c.toList.drop (o+d)=c[o+d]::c.toList.drop (o+(d+1)):=by
   rw[List.drop_eq_getElem_cons (by simpa using e)];rfl
  rw[i];simp
theorem run_loadCells{w:World}{b o n:Nat}{c:Array Value}(d:w.heap[b]?=some (.cells c h g))(a:o+n<=c.size):
  (loadCells ⟨b,o,none⟩ n).run j w=.ok ⟨(c.toList.drop o).take n⟩ w:=by
 have:=run_loadCellsFrom (P:=j) (o:=o) d n 0 #[] om;simpa [loadCells]using this
theorem LC.slice{l:Loc}{c:List Value}{es:Nat}{d:Array Value}{lo i:Nat}(f:LC ρ l c es d lo i){o n:Nat}(m:o+n<=c.length):
  cU ρ ((c.drop o).take n) ((d.toList.drop (l.d+o)).take n):=by
 have p:=f.size;have q:=f.fits;refine vz (by simp;omega) fun t u a=>?_;rw[List.getElem?_take]at a⊢;split at a
 ·rename_i b;rw[if_pos b];rw[List.getElem?_drop]at a⊢;obtain⟨e,s,r⟩:=f.cell _ _ a;refine⟨e,?_,r⟩;rw[Array.getElem?_toList,<-s];congr 1;omega
 ·cases a
theorem dj.read(v:dj w0 N0 G ρ st w){b o n:Nat}{c:List Value}{l:Loc}(f:ρ b=some l)(e:fY st b o n=some c)(z:Program):
  ∃a,(loadCells ⟨l.b,l.d+o,none⟩ n).run z w=.ok a w/\cU ρ c a.toList:=by
 obtain⟨u,s,A,B,i,d,rfl⟩:=mX e;obtain⟨a,p,y,t,x,m⟩:=v.obj _ _ _ f i;have q:=m.size;have r:=m.fits;refine⟨_,run_loadCells x om,?_⟩;exact m.slice d
theorem kU:∀(b:List Value) (c:Nat) (a:List Value),(dw b c a).length=b.length:=by
 intro b;induction b with
 |nil=>intro c a;cases a<;>rfl
 |cons e b d=>
  intro c a;cases a with
  |nil=>rfl
  |cons f a=>cases c<;>simp[dw,d]
theorem ma:∀(e:List Value) (c:Nat) (a:List Value) (b:Nat),c+a.length<=e.length->(dw e c a)[b]?=if c<=b/\b<c+a.length then a[b-c]? else e[b]?:=by
 intro e;induction e with
 |nil=>
  intro c a b i;cases a with
  |nil=>simp only[dw,YQ];rw[if_neg om]
  |cons l a=>simp at i
 |cons m e f=>
  intro c a b i;cases a with
  |nil=>simp only[dw,YQ];rw[if_neg om]
  |cons l a=>
   simp only[YM]at i⊢;cases c with
   |zero=>
    cases b with
    |zero=>simp[dw]
    |succ b=>
     simp only[dw,YT];rw[f 0 a b om];by_cases d:b<a.length
     ·rw[if_pos om,if_pos om];simp
     ·rw[if_neg om,if_neg om]
   |succ c=>
    cases b with
    |zero=>simp[dw]
    |succ b=>
     simp only[dw,YT];rw[f c (l::a) b (by simp;omega)];simp only[YM];by_cases d:c<=b/\b<c+(a.length+1)
     ·rw[if_pos d,if_pos om,show b+1-(c+1)=b-c from by omega]
     ·rw[if_neg d,if_neg om]
structure TZ (w w':World) (b:Nat) (c:Array Value) (e:TypeId) (fz:Nat×Nat) (o:Nat) (vs:List Value):Prop where
 os:w'.os=w.os
 tape:w'.tape=w.tape
 output:w'.output=w.output
 size:w'.heap.size=w.heap.size
 other:∀k,k≠b->w'.heap[k]?=w.heap[k]?
 here:∃c',w'.heap[b]?=some (.cells c' e fz)/\c'.size=c.size/\∀i:Nat,c'[i]?=if o<=i/\i<o+vs.length then vs[i-o]? else c[i]?
theorem Ia{P:Program}{w:World}{b o:Nat}{v:Value}{c:Array Value}{lo a:Nat}(n:w.heap[b]?=some (.cells c h (lo,a)))(i:o<c.size)(e:¬(lo<=o/\o<a)) 
  (l:fs v=true):(store ⟨b,o,none⟩ v).run P w=.ok () (w.setCell ⟨b,o,none⟩ v):=by
 have m:w.cell? ⟨b,o,none⟩=some c[o]:=by rw[cell_of n];exact YR i
 have f:w.frozen? ⟨b,o,none⟩=false:=by
  simp only[World.frozen?,n];cases d:(decide (lo<=o)&&decide (o<a))with
  |false=>rfl
  |true=>simp at d;exact absurd d e
 cases v<;>first|(simp[fs]at l;done)|simp[store,Sem.run,m,f]
theorem Ib{w:World}{b o:Nat}{v:Value}{c:Array Value}(e:w.heap[b]?=some (.cells c h g)):
  (w.setCell ⟨b,o,none⟩ v).heap[b]?=some (.cells (c.setIfInBounds o v) h g)/\(∀a,a≠b->(w.setCell ⟨b,o,none⟩ v).heap[a]?=w.heap[a]?)/\(w.setCell ⟨b,o,none⟩ v).heap.size=w.heap.size:=by
 refine⟨?_,fun a d=>Below.heap_setCell _ _ _ _ d,by simp[World.setCell]⟩;simp only[World.setCell,Array.getElem?_modify,e];simp
theorem r1{P:Program}:∀(b:List Value) (w:World) (q c d:Nat) (r:Array Value) (v:TypeId) (l i:Nat),w.heap[q]?=some (.cells r v (l,i))->c+d+b.length<=r.size->
  (∀e,c+d<=e->e<c+d+b.length->¬(l<=e/\e<i))->(∀n∈b,fs n=true)->
  ∃m,(storeCells ⟨q,c,none⟩ b d).run P w=.ok () m/\TZ w m q r v (l,i) (c+d) b:=by
 intro b;induction b with
 |nil=>
  intro w q c d r v l i x _ _ _;refine⟨w,by simp[storeCells,pure],rfl,rfl,rfl,rfl,fun _ _=>rfl,r,x,rfl,fun e=>?_⟩;simp only[YQ];rw[if_neg om]
 |cons n b H=>
  intro w q c d r v l i x u a o;simp only[YM]at u a;have t:=Ia (P:=P) (v:=n) x (o:=c+d) om (a _ om om) (o n sm);obtain⟨C,z,E⟩:=Ib (o:=c+d) (v:=n) x;obtain⟨m,B,f⟩:=H (w.setCell ⟨q,c+d,none⟩ n) q c (d+1) _ v l i C (by simp;omega) (fun e t K=>a e om om) (fun L D=>o L (by simp[D]));refine⟨m,?_,?_⟩
  ·rw[storeCells,j4,b5 _ t];exact B
  ·obtain⟨y,F,A,G⟩:=f.here;refine⟨f.os,f.tape,f.output,f.size.trans E,fun J s=>(f.other J s).trans (z J s),y,F,by simpa using A,fun e=>?_⟩;rw[G];simp only[YM];by_cases I:e=c+d
   ·subst I;rw[if_neg om,if_pos om,Nat.sub_self,Array.getElem?_setIfInBounds_self_of_lt om];rfl
   ·by_cases p:c+(d+1)<=e/\e<c+(d+1)+b.length
    ·rw[if_pos p,if_pos om,show e-(c+d)=(e-(c+(d+1)))+1 from by omega];rfl
    ·rw[if_neg p,if_neg om,Array.getElem?_setIfInBounds_ne om]
end
end Go.AM
