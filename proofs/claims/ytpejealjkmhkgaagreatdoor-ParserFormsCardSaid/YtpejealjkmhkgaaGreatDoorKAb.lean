/- Part of the proof. -/
import Derived.Test.YtpejealjkmhkgaaGreatDoorKAa
import Derived.Below
set_option linter.all false
set_option maxHeartbeats 16000000
set_option maxRecDepth 100000
open Nat renaming beq->abK,testBit->aeu,lt_succ_of_lt->aev,blt->aeO
open List renaming length_cons->abL,range->aet,length_nil->aeM,getElem?_cons_succ->aeP
open Array renaming getElem?_eq_getElem->aeN
namespace Go.AM
def flat:Value->Bool
 |.bool _=>true
 |.int _ _=>true
 |.string _=>true
 |.pointer none=>true
 |.slice none 0 0=>true
 |.map none=>true
 |.nilFunc=>true
 |.nilIface=>true
 |_=>false
def rG:Value->Bool
 |.agg ⟨a⟩=>a.all flat
 |v=>flat v
structure Rec where
 code:FC->Code->Fr->dW->St->Option (Ex×Fr×dW×St)
 call:FuncId->List Value->Bool->dW->St->Option (CR×dW×St)
 round:Nat->List Value->St->Option (CR×St)
def VF:Rec:=⟨fun _ _ _ _ _=>none,fun _ _ _ _ _=>none,fun _ _ _=>none⟩
def jy(a:Fr):Operand->Option Value
 |.tmp d=>a.tm.get d
 |.const b=>match rG b with
  |true=>some b
  |false=>none
 |.global _=>none
 |.func c=>some (.func (.func c) #[] #[])
def gV(c:Nat)(a:Fr)(b:Option Tmp)(e:Value):Option Fr:=
 match b with
 |none=>some a
 |some d=>match aeO d c with
  |true=>some {a with tm:=a.tm.set d e}
  |false=>none
inductive AK where
 |next (fr:Fr) (ps:dW) (st:St)
 |eH (v:Value) (fr:Fr) (ps:dW) (st:St)
def AK.go(d:Nat)(e:Fr)(a:Option Tmp)(f:Value)(c:dW)(st:St):Option AK:=
 match gV d e a f with
 |some b=>some (.next b c st)
 |none=>none
def nT(C:dR)(h:Rec)(d:FC)(o:Oper)(b:Fr)(c:dW)(st:St):Option AK:=
 match j8 C (jy b) o st with
 |none=>none
 |some (.val f a)=>AK.go d.nt b o.dst f c a
 |some (.eH f a)=>some (.eH f b c a)
 |some (.enter l e)=>match h.call l e false .none st with
  |some (.ret f,_,a)=>AK.go d.nt b o.dst f c a
  |some (.eH f,_,a)=>some (.eH f b c a)
  |none=>none
 |some (.yield m e)=>match h.round m e st with
  |some (.ret f,a)=>AK.go d.nt b o.dst f c a
  |some (.eH f,a)=>some (.eH f b c a)
  |none=>none
 |some .recover=>match d.round with
  |some _=>none
  |none=>match d.DZ,c with
   |true,.gg f=>AK.go d.nt b o.dst f .rD st
   |_,_=>AK.go d.nt b o.dst .nilIface c st
 |some (.defer i)=>match d.round with
  |some _=>none
  |none=>AK.go d.nt {b with df:=i::b.df} o.dst lr c st
def gC(b:List Oper)(d:Fr)(o:Oper):Option Bool:=
 match o.guard with
 |none=>some true
 |some (h,a)=>match nth b h with
  |none=>none
  |some c=>match c.dst with
   |none=>none
   |some e=>match d.tm.get e with
    |some (.bool f)=>some (match f,a with|true,true=>true|false,false=>true|_,_=>false)
    |some (.tuple _)=>some false
    |_=>none
def kg(C:dR)(e:Rec)(d:FC)(c:List Oper)(o:Oper)(a:Fr)(b:dW)(st:St):Option AK:=
 match gC c a o with
 |none=>none
 |some false=>AK.go d.nt a o.dst lr b st
 |some true=>nT C e d o a b st
def pC(C:dR)(e:Rec)(d:FC)(c:List Oper):List Oper->Fr->dW->St->Option (Ex×Fr×dW×St)
 |[],b,a,st=>some (.norm,b,a,st)
 |o::f,b,a,st=>match kg C e d c o b a st with
  |none=>none
  |some (.next b a st)=>pC C e d c f b a st
  |some (.eH h b a st)=>some (.panic h,b,a,st)
def gb:Op->Bool
 |.assign _|.store .. |.mapUpdate .. |.mapEntry .. |.entryStore .. |.insert .. |.ready _|.next .. |.go _|.defer _|.panic _|.send .. |.recv .. |.select .. =>true
 |.call {callee:=.builtin a,.. }=>match a with
  |.len|.cap|.min|.max=>false
  |_=>true
 |.call _=>true
 |_=>false
def gh:Op->Bool
 |.alloc _|.box .. |.buildSlice .. |.makeMap .. =>true
 |_=>false
def xj(a:List Oper)(b:Nat):Option Oper:=nth a b
def subset(a b:Nat):Bool:=abK (Nat.land a b) a
def IB:Op->Bool
 |.store .. |.indexAddr .. |.fieldAddr .. =>true
 |_=>false
def chained(a:List Oper)(c:List Nat)(i:Nat):Bool:=
 (aet i).all fun d=>match nth a d with
  |none=>false
  |some e=> !(gb e.op)||(aet d).all fun f=>match nth a f with
   |none=>false
   |some b=> !(gb b.op)||(match nth c d with|some h=>aeu h f|none=>false)
def Cp(a:List Oper)(c:List Nat)(n b:Nat):Bool:=
 (aet (n-b)).all fun d=>(match nth c (b+d)with|some f=>subset (2^b-1) f|none=>false)&&(match nth a (b+d)with|some e=>IB e.op&&e.guard.isNone|none=>false)
def Sn(a:List Oper)(b:List Nat):Nat->Nat
 |0=>0
 |m+1=>match chained a b (m+1)&&Cp a b a.length (m+1)with
  |true=>m+1
  |false=>Sn a b m
structure adD where
 bs:List Nat
 m:Nat
 order:List Nat
def uf{a:Type}(n:Nat)(b:Nat->a):a:=
 match n with
 |0=>b 0
 |m+1=>b (m+1)
def Gk{a:Type}:List Nat->(List Nat->a)->a
 |[],b=>b []
 |x::c,b=>uf x fun x=>Gk c fun c=>b (x::c)
def rowOf(a:List Nat)(o:Oper):Nat:=o.after.toList.foldl (fun c b=>match Region.binds .any b with|true=>Nat.lor (Nat.lor c (2^b.on)) (match nth a b.on with|some d=>d|none=>0)|false=>c) 0
def So:List Oper->List Nat->List Nat
 |[],a=>a
 |o::b,a=>Gk (a++[rowOf a o]) fun a=>So b a
def Sp:List Oper->List Nat->Nat->Nat->Option Nat
 |o::d,e::b,c,a=>match gb o.op with
  |true=>match subset a e with
   |true=>uf (Nat.lor a (2^c)) fun a=>Sp d b (c+1) a
   |false=>some c
  |false=>Sp d b (c+1) a
 |_,_,_,_=>none
def NJ:List Oper->List Nat->Nat->Nat->List (Nat×Bool×Nat)
 |o::d,e::a,b,c+1=>(b,gb o.op,e)::NJ d a (b+1) c
 |_,_,_,_=>[]
def IC:List (Nat×Bool×Nat)->Option Nat
 |[]=>none
 |(b,true,_)::_=>some b
 |(_,false,_)::a=>IC a
def early(a:Nat):Nat×Bool×Nat->Bool
 |(_,true,_)=>false
 |(_,false,b)=> !(aeu b a)
def NK:Nat->List (Nat×Bool×Nat)->List Nat
 |0,_=>[]
 |a+1,c=>match IC c with
  |none=>c.map (·.1)
  |some b=>(c.filter (early b)).map (·.1)++b::NK a (c.filter fun d=> !(abK d.1 b)&& !(early b d))
def rH(a:List Oper):adD:=
 Gk (So a []) fun c=>
 uf (match Sp a c 0 0 with|none=>a.length|some e=>Sn a c e) fun d=>
 Gk (NK (d+1) (NJ a c 0 d)) fun b=>⟨c,d,b⟩
inductive tJ where
 |val (i:Nat) (v:Value)
 |obj (i:Nat) (v:Value) (b:Nat) (o:fX)
 |skip (i:Nat)
def NL(a b:MapEntry):Bool:=nV a.key b.key&&nV a.val b.val&&abK a.born b.born
def pi:List MapEntry->List MapEntry->Bool
 |[],[]=>true
 |a::c,d::b=>NL a d&&pi c b
 |_,_=>false
def yd:fX->fX->Bool
 |.cells p r m i,.cells d h e a=>zO p d&&abK r h&&abK m e&&abK i a
 |.map f o,.map b l=>pi f b&&abK o l
 |.iter n i,.iter c a=>pz n c&&abK i a
 |_,_=>false
def AL(b:Fr)(a:Option Tmp)(e:Value):Bool:=
 match a with
 |none=>true
 |some c=>match b.tm.get c with
  |some d=>nV d e
  |none=>false
def isSome(a:Option Bool)(b:Bool):Bool:=
 match a,b with
 |some true,true=>true
 |some false,false=>true
 |_,_=>false
def pD(C:dR)(a:List Oper)(b:Fr)(st:St):tJ->Bool
 |.val f i=>match nth a f with
  |some c=>isSome (gC a b c) true&& !(gh c.op)&&AL b c.dst i&&(match j8 C (jy b) c st with
   |some (.val l m)=>nV l i&&abK m.n st.n
   |_=>false)
  |none=>false
 |.obj f i e h=>match nth a f with
  |some c=>isSome (gC a b c) true&&gh c.op&&AL b c.dst i&&(match st.get e with
   |some d=>yd d h
   |none=>false)&&(match j8 C (jy b) c ⟨.nil,e,.nil⟩with
   |some (.val l m)=>nV l i&&(match m.get e with
    |some d=>yd d h
    |none=>false)
   |_=>false)
  |none=>false
 |.skip f=>match nth a f with
  |some c=>isSome (gC a b c) false&&AL b c.dst lr
  |none=>false
def tJ.idx:tJ->Nat
 |.val a _=>a
 |.obj a _ _ _=>a
 |.skip a=>a
def o7(C:dR)(a:List Oper)(d:Fr)(st:St)(b:Nat):List tJ->Bool
 |[]=>true
 |c::e=>(aeu b c.idx||pD C a d st c)&&o7 C a d st b e
def pj(b:List Oper)(a:Tr Value):Tr Value:=
 b.foldl (fun a c=>match c.dst with
  |some d=>match gb c.op with
   |true=>a
   |false=>a.put d none
  |none=>a) a
def eM(C:dR)(h:Rec)(e:FC)(b:List Oper)(l:List Nat):List Nat->Nat->List tJ->Fr->dW->St->Option (Ex×Fr×dW×St)
 |[],n,c,a,d,st=>
  match o7 C b a st n c with
  |true=>some (.norm,a,d,st)
  |false=>none
 |i::p,n,c,a,d,st=>
  match nth b i,nth l i with
  |some m,some r=>
   match gb m.op with
   |true=>
    match o7 C b a st n c with
    |false=>none
    |true=>match kg C h e b m a d st with
     |none=>none
     |some (.eH o a d st)=>some (.panic o,{a with tm:=pj b a.tm},d,st)
     |some (.next a d st)=>eM C h e b l p r c a d st
   |false=>
    match gC b a m with
    |none=>none
    |some false=>match gV e.nt a m.dst lr with
     |some a=>eM C h e b l p n (.skip i::c) a d st
     |none=>none
    |some true=>match j8 C (jy a) m st with
     |some (.val o f)=>match gV e.nt a m.dst o with
      |none=>none
      |some a=>match gh m.op with
       |true=>match f.get st.n with
        |some s=>eM C h e b l p n (.obj i o st.n s::c) a d f
        |none=>none
       |false=>match abK f.n st.n with
        |true=>eM C h e b l p n (.val i o::c) a d f
        |false=>none
     |_=>none
  |_,_=>none
def apart(st:St)(b a:Nat):Bool:=
 match st.get b,st.get a with
 |some (.cells _ _ f1 _),some (.cells _ _ f2 _)=>
  !(abK b a)&& !(abK f1 f2)&&(match st.fm.get f2 with|none=>true|some _=>false)&&(match st.fm.get f1 with|none=>true|some ms=> !(ms.any (abK a)))
 |_,_=>false
def ID(C:dR)(w:FC)(i s m:Oper)(a:Fr)(v:dW)(st:St):Option (Ex×Fr×dW×St):=
 match i.dst,s.dst,m.dst,s.op,m.op,gb i.op||gh i.op with
 |some x,none,none,.store t1 A u,.store t2 z B,false=>
  match j8 C (jy a) i st with
  |some (.val D t)=>match abK t.n st.n,gV w.nt a (some x) D with
   |true,some b=>match jy b A,jy b u,jy ⟨a.tm.put x none,a.df⟩ z,jy ⟨a.tm.put x none,a.df⟩ B with
    |some (.pointer (some ⟨d,r,none⟩)),some p,some (.pointer (some ⟨h,o,none⟩)),some n=>match apart st d h with
     |false=>none
     |true=>match iC C t1 (.pointer (some ⟨d,r,none⟩)) p st,iC C t2 (.pointer (some ⟨h,o,none⟩)) n st with
      |some (.val _ l),some (.val _ c)=>match j8 C (jy a) i c with
       |some (.val y f)=>match nV D y&&abK f.n c.n with
        |false=>none
        |true=>match iC C t2 (.pointer (some ⟨h,o,none⟩)) n l,iC C t1 (.pointer (some ⟨d,r,none⟩)) p c with
         |some (.val _ e),some (.val _ _)=>some (.norm,b,v,e)
         |_,_=>none
       |_=>none
      |_,_=>none
    |_,_,_,_=>none
   |_,_=>none
  |_=>none
 |_,_,_,_,_,_=>none
def IE(C:dR)(r:FC)(n w f p:Oper)(a:Fr)(B:dW)(st:St):Option (Ex×Fr×dW×St):=
 match n.dst,w.dst,f.dst,p.dst,w.op,f.op,p.op,gb n.op||gh n.op with
 |some d,none,some c,none,.store t1 G A,.fieldAddr E z I,.store t2 F H,false=>
  match abK d c with
  |true=>none
  |false=>match j8 C (jy ⟨a.tm.put c none,a.df⟩) n st,jy ⟨a.tm.put d none,a.df⟩ z with
   |some (.val y x),some J=>match fI C E J I st with
    |some (.val i _)=>match abK x.n st.n,aeO d r.nt&&aeO c r.nt with
     |true,true=>match jy ⟨(a.tm.put c none).set d y,a.df⟩ G,jy ⟨(a.tm.put c none).set d y,a.df⟩ A,jy ⟨(a.tm.put d none).set c i,a.df⟩ F,jy ⟨(a.tm.put d none).set c i,a.df⟩ H with
      |some (.pointer (some ⟨e,v,none⟩)),some u,some (.pointer (some ⟨m,t,none⟩)),some s=>match apart st e m with
       |false=>none
       |true=>match iC C t1 (.pointer (some ⟨e,v,none⟩)) u st,iC C t2 (.pointer (some ⟨m,t,none⟩)) s st with
        |some (.val _ o),some (.val _ b)=>match j8 C (jy ⟨a.tm.put c none,a.df⟩) n b with
         |some (.val D l)=>match nV y D&&abK l.n b.n with
          |false=>none
          |true=>match iC C t2 (.pointer (some ⟨m,t,none⟩)) s o,iC C t1 (.pointer (some ⟨e,v,none⟩)) u b with
           |some (.val _ h),some (.val _ _)=>some (.norm,⟨(a.tm.set d y).set c i,a.df⟩,B,h)
           |_,_=>none
         |_=>none
        |_,_=>none
      |_,_,_,_=>none
     |_,_=>none
    |_=>none
   |_,_=>none
 |_,_,_,_,_,_,_,_=>none
def region(C:dR)(m:Rec)(e:FC)(a:Array Oper)(l:Bool)(c:Fr)(b:dW)(st:St):Option (Ex×Fr×dW×St):=
 match l with
 |false=>pC C m e a.toList a.toList c b st
 |true=>
  let d:=rH a.toList
  match eM C m e a.toList d.bs d.order 0 [] c b st with
  |some (.norm,c,b,st)=>match abK d.m a.toList.length with
   |true=>some (.norm,c,b,st)
   |false=>match a.toList.drop d.m,nth d.bs (d.m+1)with
    |[n,i,h],some f=>match aeu f d.m with
     |true=>ID C e n i h c b st
     |false=>none
    |[n,i,p,h],some f=>match aeu f d.m,nth d.bs (d.m+3)with
     |true,some o=>match aeu o (d.m+2)with
      |true=>IE C e n i p h c b st
      |false=>none
     |_,_=>none
    |_,_=>none
  |r=>r
def pE(a:FC)(b:Fr)(params:List Tmp)(assign body:Code)(st:St):Option (Nat×Fr×St):=
 match a.round with
 |some f=>match st.get f with
  |some (.loop d)=>some (st.n,b,st.new (.loop {state:=.ready,pending:=none,fn:=a.fn,tm:=b.tm,nt:=a.nt,params,assign,body,defers:=d.defers}))
  |_=>none
 |none=>
  let e:=st.n
  let c:=st.new (.eI false)
  some (c.n,{b with df:={target:=.collected e,args:= #[]}::b.df},c.new (.loop {state:=.ready,pending:=none,fn:=a.fn,tm:=b.tm,nt:=a.nt,params,assign,body,defers:=e}))
def Gl:Option Code->Option Ex
 |none=>some .norm
 |some .ret=>some .ret
 |some (.exit id)=>some (.exit id)
 |_=>none
def code(C:dR)(d:Rec)(c:FC):Code->Fr->dW->St->Option (Ex×Fr×dW×St)
 |.skip,a,b,st=>some (.norm,a,b,st)
 |.region _ p o,a,b,st=>region C d c p o a b st
 |.seq s i,a,b,st=>match code C d c s a b st with
  |some (.norm,a,b,st)=>code C d c i a b st
  |r=>r
 |.cond y s i,a,b,st=>match jy a y with
  |some (.bool true)=>code C d c s a b st
  |some (.bool false)=>code C d c i a b st
  |_=>none
 |.block id i,a,b,st=>match code C d c i a b st with
  |some (.exit l,a,b,st)=>match abK l id with
   |true=>some (.norm,a,b,st)
   |false=>some (.exit l,a,b,st)
  |r=>r
 |.loop i,a,b,st=>match code C d c i a b st with
  |some (.norm,a,b,st)=>d.code c (.loop i) a b st
  |r=>r
 |.rangeFunc w h f m,a,b,st=>
  match jy a w,pE c a h.toList f m st with
  |some (.func (.func u) first e),some (t,a,st)=>
   match C.ff.get u with
   |none=>none
   |some _=>match d.call u (first.toList++[.func (.yield t) #[] #[]]++e.toList) false .none st with
    |some (.ret _,_,st)=>match st.get t with
     |some (.loop n)=>match n.state with
      |.busy=>none
      |_=>match Gl n.pending with
       |some x=>some (x,a,b,st.put t (.loop {n with state:=.exhausted}))
       |none=>none
     |_=>none
    |some (.eH v,_,st)=>some (.panic v,a,b,st)
    |none=>none
  |_,_=>none
 |.exit id,a,b,st=>some (.exit id,a,b,st)
 |.ret,a,b,st=>some (.ret,a,b,st)
 |_,_,_,_=>none
inductive Mode where
 |returning
 |panicking (v:Value)
def kB(C:dR)(b:Rec):List Deferred->Mode->St->Option (Mode×St)
 |[],m,st=>some (m,st)
 |d::c,m,st=>
  match d.target with
  |.collected h=>match st.get h with
   |some (.eI false)=>kB C b c m (st.put h (.eI true))
   |_=>none
  |.fn (.func f) a=>
   match C.ff.get f,b.call f (d.args.toList++a.toList) true (match m with|.returning=>.none|.panicking i=>.gg i) st with
   |some _,some (.ret _,e,st)=>kB C b c (match m,e with|.panicking _,.rD=>.returning|m,_=>m) st
   |_,_=>none
  |_=>none
def Cq(C:dR)(a:Tr Value)(st:St):ResultVar->Option Value
 |.tmp b=>a.get b
 |.cell c b=>match a.get c with
  |some e=>match ye C b e st with
   |some (.val d _)=>some d
   |_=>none
  |none=>none
def qt(C:dR)(a:Tr Value)(st:St):List ResultVar->Option (List Value)
 |[]=>some []
 |r::d=>match Cq C a st r,qt C a st d with
  |some c,some b=>some (c::b)
  |_,_=>none
def vD:List Value->Value
 |[b]=>b
 |a=>.tuple a.toArray
def finish(C:dR)(d:Rec)(e:FI)(f:Mode)(b:Fr)(a:dW)(st:St):Option (CR×dW×St):=
 match kB C d b.df f st with
 |none=>none
 |some (.panicking h,st)=>some (.eH h,a,st)
 |some (.returning,st)=>match qt C b.tm st e.VE with
  |some c=>some (.ret (vD c),a,st)
  |none=>none
def yg(C:dR)(e:Rec)(f:FuncId)(c:List Value)(h:Bool)(a:dW)(st:St):Option (CR×dW×St):=
 match C.ff.get f with
 |none=>none
 |some b=>match Nat.ble c.length b.nt with
  |false=>none
  |true=>match code C e ⟨f,b.nt,none,h⟩ b.body ⟨eE 0 c .nil,[]⟩ a st with
   |some (.norm,d,a,st)=>finish C e b .returning d a st
   |some (.ret,d,a,st)=>finish C e b .returning d a st
   |some (.panic i,d,a,st)=>finish C e b (.panicking i) d a st
   |_=>none
def nh:List Tmp->List Value->Nat->Tr Value->Option (Tr Value)
 |[],[],_,a=>some a
 |t::d,e::c,b,a=>match aeO t b with
  |true=>nh d c b (a.set t e)
  |false=>none
 |_,_,_,_=>none
def ug(C:dR)(f:Rec)(l:Nat)(d:List Value)(st:St):Option (CR×St):=
 match st.get l with
 |some (.loop a)=>
  match C.ff.get a.fn,nh a.params d a.nt a.tm with
  |none,_=>none
  |_,none=>none
  |some _,some h=>
   let e:FC:=⟨a.fn,a.nt,some l,false⟩
   match code C f e a.assign ⟨h,[]⟩ .none st with
   |some (.norm,b,_,st)=>match st.get l with
    |some (.loop c)=>match c.state with
     |.ready=>match code C f e a.body b .none (st.put l (.loop {c with state:=.busy}))with
      |some (.norm,b,_,st)=>match st.get l,b.df with
       |some (.loop a),[]=>some (.ret (.bool true),st.put l (.loop {a with state:=.ready,pending:=none}))
       |_,_=>none
      |some (.ret,b,_,st)=>match st.get l,b.df with
       |some (.loop a),[]=>some (.ret (.bool false),st.put l (.loop {a with state:=.done,pending:=some .ret}))
       |_,_=>none
      |some (.exit id,b,_,st)=>match st.get l,b.df with
       |some (.loop a),[]=>some (.ret (.bool false),st.put l (.loop {a with state:=.done,pending:=some (.exit id)}))
       |_,_=>none
      |some (.panic i,b,_,st)=>match b.df with
       |[]=>some (.eH i,st)
       |_=>none
      |none=>none
     |_=>none
    |_=>none
   |_=>none
 |_=>none
def BP(v:Value)(a:dW)(st:St):Option (CR×dW×St):=match v with
 |.agg ⟨[b,.iface c .nilIface]⟩=>some (.ret (.tuple ⟨[b,.iface c (.pointer (some ⟨st.n,0,none⟩))]⟩),a,{st with n:=st.n+1})
 |v=>some (.ret v,a,st)
def jN(C:dR)(b:ql):Nat->Rec
 |0=>VF
 |n+1=>{
   code:=fun e i f c st=>code C (jN C b n) e i f c st
   call:=fun h a d c st=>match d,b h a with
    |false,some l=>BP l c st
    |_,_=>yg C (jN C b n) h a d c st
   round:=fun m a st=>ug C (jN C b n) m a st}
def iO(a:List Oper)(c:Nat):Bool:=match nth a c with|some b=>gb b.op|none=>false
def jA(a:List Nat)(d b:Nat):Bool:=match nth a d with|some c=>aeu c b|none=>false
def BQ(a:List Oper)(b:List Nat):List Nat->Bool
 |[]=>true
 |e::r=>(!(iO a e)||r.all fun c=>jA b c e)&&BQ a b r
def tmpsOf:List Operand->List Tmp
 |[]=>[]
 |.tmp b::a=>b::tmpsOf a
 |_::a=>tmpsOf a
def qu(a:List Oper)(o:Oper):List Tmp:=
 tmpsOf o.op.operands.toList++(match o.guard with
  |none=>[]
  |some (d,_)=>match nth a d with
   |some b=>match b.dst with
    |some c=>[c]
    |none=>[]
   |none=>[])
def NM(a:List Oper)(d:List Nat)(n:Nat):Bool:=
 (aet n).all fun f=>match nth a f with
  |none=>false
  |some b=>gb b.op||(match b.dst with
   |none=>true
   |some h=>(aet n).all fun e=>(match nth a e with
    |none=>false
    |some c=> !((qu a c).any (abK h))||jA d e f))
def Gm(a:List Oper):Bool:=
 let b:=rH a
 ((aet a.length).all fun c=>match nth a c with
  |none=>false
  |some d=>d.after.toList.all fun e=> !(Region.binds .any e)||aeO e.on c)&&
 ((aet a.length).all fun c=>match nth a c,nth b.bs c with
  |some d,some f=>abK f (rowOf b.bs d)
  |_,_=>false)&&
 Nat.ble b.m a.length&&((aet b.m).all fun c=>b.order.any (abK c))&&(b.order.all fun c=>aeO c b.m)&&abK b.order.length b.m&&
 BQ a b.bs b.order&&NM a b.bs a.length&&Cp a b.bs a.length b.m
def codeOk:Code->Bool
 |.region _ c true=>Gm c.toList
 |.seq b a=>codeOk b&&codeOk a
 |.cond _ b a=>codeOk b&&codeOk a
 |.block _ a=>codeOk a
 |.loop a=>codeOk a
 |.rangeFunc _ _ b a=>codeOk b&&codeOk a
 |_=>true
open Go.RowKit (Below)
theorem Lj(a:Nat):hP a 0=[]:=by cases a<;>rfl
theorem Pb:∀(b k' a m:Nat),a<=b->m<=k'->hP b a=hP k' m->a=m:=by
 intro b;induction b with
 |zero=>
  intro k' a m e c h;have:a=0:=om;subst this;exact ack
 |succ b d=>
  intro k' a m e c h;cases a with
  |zero=>
   exact ack
  |succ a=>
   cases m with
   |zero=>rw[Lj]at h;simp[hP]at h
   |succ m=>
    cases k' with
    |zero=>omega
    |succ k'=>
     simp only[hP,List.cons.injEq]at h;have i:=d k' (a/2) (m/2) om om h.2;have l:(a%2=0)↔(m%2=0):=by
      have f:=h.1;rw[Bool.eq_iff_iff,Nat.beq_eq,Nat.beq_eq]at f;exact f
     omega
theorem Sq{n a:Nat}(b:path n=path a):n=a:=Pb n a n a (Nat.le_refl _) (Nat.le_refl _) b
theorem qv{a:Type}(p:List Bool):iN p (Tr.nil:Tr a)=none:=by cases p<;>rfl
theorem yh{b:Type}(o:Option b):∀(c:List Bool) (a:Tr b),iN c (l7 o c a)=o:=by
 intro c;induction c with
 |nil=>intro a;cases a<;>rfl
 |cons e c d=>intro a;cases a<;>cases e<;>simp[l7,iN,d]
theorem Br{d:Type}(o:Option d):∀(c a:List Bool) (b:Tr d),c≠a->iN a (l7 o c b)=iN a b:=by
 intro c;induction c with
 |nil=>
  intro a b f;cases a with
  |nil=>exact absurd rfl f
  |cons e a=>cases b<;>cases e<;>simp[l7,iN,qv]
 |cons h c m=>
  intro a b f;cases a with
  |nil=>cases b<;>cases h<;>simp[l7,iN]
  |cons e a=>
   have l:h=e->c≠a:=fun n i=>f (by rw[n,i]);cases b<;>cases h<;>cases e<;>simp_all [l7,iN,qv]
theorem cY{a:Type}(t:Tr a)(n b:Nat)(o:Option a):(t.put n o).get b=if b=n then o else t.get b:=by
 unfold Tr.get Tr.put;by_cases c:b=n
 ·subst c;rw[if_pos rfl,yh]
 ·rw[if_neg c,Br _ _ _ _ (fun d=>c (Sq d).symm)]
theorem cB{a:Type}(t:Tr a)(n b:Nat)(c:a):(t.set n c).get b=if b=n then some c else t.get b:=cY t n b (some c)
theorem pF{a:Type}(n:Nat):(Tr.nil:Tr a).get n=none:=qv _
theorem ck{d:Type}:∀(b:List d) (a:Nat),nth b a=b[a]?:=by
 intro b;induction b with
 |nil=>intro a;rfl
 |cons e b c=>intro a;cases a<;>simp[nth,c]
theorem qw{f:Type}:∀(c:List f) (b:Nat) (h:Tr f) (a:Nat),(eE b c h).get a=if b<=a/\a<b+c.length then c[a-b]? else h.get a:=by
 intro c;induction c with
 |nil=>intro b h a;simp only[eE,aeM];rw[if_neg om]
 |cons l c i=>
  intro b h a;simp only[eE,i,cB,abL];by_cases e:a=b
  ·subst e;rw[if_neg om,if_pos rfl,if_pos om,Nat.sub_self];rfl
  ·by_cases d:b+1<=a/\a<b+1+c.length
   ·rw[if_pos d,if_pos om,show a-b=(a-(b+1))+1 from by omega];rfl
   ·rw[if_neg d,if_neg e,if_neg om]
structure Loc where
 b:Nat
 d:Nat
 es:Nat
 sz:Nat
abbrev Ren:=Nat->Option Loc
def Ren.le(ρ a:Ren):Prop:=∀c b,ρ c=some b->a c=some b
theorem Ren.le_refl(ρ:Ren):ρ.le ρ:=fun _ _ a=>a
theorem Ren.le.trans{d b c:Ren}(f:d.le b)(h:b.le c):d.le c:=fun a e i=>h a e (f a e i)
mutual
inductive cX (ρ:Ren):Value->Value->Prop
 |bool (b:Bool):cX ρ (.bool b) (.bool b)
 |int (k:IntKind) (n:Int):cX ρ (.int k n) (.int k n)
 |string (s:ByteArray):cX ρ (.string s) (.string s)
 |Lk:cX ρ (.pointer none) (.pointer none)
 |ptr {b o:Nat} {l:Loc} (h:ρ b=some l):cX ρ (.pointer (some ⟨b,o,none⟩)) (.pointer (some ⟨l.b,l.d+o,none⟩))
 |me:cX ρ (.slice none 0 0) (.slice none 0 0)
 |jp (a a':Addr):cX ρ (.slice (some a) 0 0) (.slice (some a') 0 0)
 |slice {b o len cap aav:Nat} {l:Loc} (h:ρ b=some l) (hc:cap<=aav) (hb:l.d+o+aav*l.es<=l.sz):
   cX ρ (.slice (some ⟨b,o,none⟩) len cap) (.slice (some ⟨l.b,l.d+o,none⟩) len aav)
 |Ll:cX ρ (.map none) (.map none)
 |map {r:Nat} {l:Loc} (h:ρ r=some l):cX ρ (.map (some r)) (.map (some l.b))
 |func (f:FuncId) {a a' c c':Array Value} (h1:cT ρ a.toList a'.toList) (h2:cT ρ c.toList c'.toList):cX ρ (.func (.func f) a c) (.func (.func f) a' c')
 |yield {r:Nat} {l:Loc} {a a' c c':Array Value} (h:ρ r=some l) (h1:cT ρ a.toList a'.toList) (h2:cT ρ c.toList c'.toList):
   cX ρ (.func (.yield r) a c) (.func (.yield l.b) a' c')
 |nilFunc:cX ρ .nilFunc .nilFunc
 |nilIface:cX ρ .nilIface .nilIface
 |iface (t:TypeId) {v v':Value} (h:cX ρ v v'):cX ρ (.iface t v) (.iface t v')
 |agg {a a':Array Value} (h:cT ρ a.toList a'.toList):cX ρ (.agg a) (.agg a')
 |tuple {a a':Array Value} (h:cT ρ a.toList a'.toList):cX ρ (.tuple a) (.tuple a')
inductive cT (ρ:Ren):List Value->List Value->Prop
 |nil:cT ρ [] []
 |cons {v v':Value} {l l':List Value} (h:cX ρ v v') (t:cT ρ l l'):cT ρ (v::l) (v'::l')
end
mutual
theorem cX.mono{ρ dk:Ren}(hle:ρ.le dk):∀{v v':Value},cX ρ v v'->cX dk v v'
 |_,_,.bool b=>.bool b
 |_,_,.int k n=>.int k n
 |_,_,.string s=>.string s
 |_,_,.Lk=>.Lk
 |_,_,.ptr h=>.ptr (hle _ _ h)
 |_,_,.me=>.me
 |_,_,.jp a a'=>.jp a a'
 |_,_,.slice h hc hb=>.slice (hle _ _ h) hc hb
 |_,_,.Ll=>.Ll
 |_,_,.map h=>.map (hle _ _ h)
 |_,_,.func f h1 h2=>.func f (cT.mono hle h1) (cT.mono hle h2)
 |_,_,.yield h h1 h2=>.yield (hle _ _ h) (cT.mono hle h1) (cT.mono hle h2)
 |_,_,.nilFunc=>.nilFunc
 |_,_,.nilIface=>.nilIface
 |_,_,.iface t h=>.iface t (cX.mono hle h)
 |_,_,.agg h=>.agg (cT.mono hle h)
 |_,_,.tuple h=>.tuple (cT.mono hle h)
theorem cT.mono{ρ dk:Ren}(hle:ρ.le dk):∀{l l':List Value},cT ρ l l'->cT dk l l'
 |_,_,.nil=>.nil
 |_,_,.cons h t=>.cons (cX.mono hle h) (cT.mono hle t)
end
variable{q:Value}
section vs
variable{ρ:Ren}
theorem cT.length{l a:List Value}(b:cT ρ l a):l.length=a.length:=by
 induction l generalizing a with
 |nil=>cases b;rfl
 |cons e l c=>cases b with|cons b d=>simp[c d]
theorem cT.append{f a c b:List Value}(d:cT ρ f a)(h:cT ρ c b):cT ρ (f++c) (a++b):=by
 induction f generalizing a with
 |nil=>cases d;exact h
 |cons l m e=>cases d with|cons d i=>exact .cons d (e i)
theorem cT.get{l c:List Value}(d:cT ρ l c){i:Nat}(a:l[i]?=some q):∃b,c[i]?=some b/\cX ρ q b:=by
 induction l generalizing c i with
 |nil=>simp at a
 |cons n l e=>
  cases d with
  |cons d h=>
   cases i with
   |zero=>simp at a;subst a;exact⟨_,by simp,d⟩
   |succ i=>simp at a;obtain⟨b,m,f⟩:=e h a;exact⟨b,by simpa using m,f⟩
theorem yi{l a:List Value}(c:l.length=a.length)(n:∀(d:Nat) (e:Value),l[d]?=some e->∃b,a[d]?=some b/\cX ρ e b):cT ρ l a:=by
 induction l generalizing a with
 |nil=>cases a with|nil=>exact .nil|cons _ _=>simp at c
 |cons o l i=>
  cases a with
  |nil=>simp at c
  |cons p a=>
   obtain⟨b,f,h⟩:=n 0 o rfl;simp at f;subst f;refine .cons h (i (by simpa using c) fun d e m=>?_);obtain⟨b,f,h⟩:=n (d+1) e (by simpa using m);exact⟨b,by simpa using f,h⟩
theorem cT.take{l a:List Value}(b:cT ρ l a)(n:Nat):cT ρ (l.take n) (a.take n):=by
 induction l generalizing a n with
 |nil=>cases b;cases n<;>exact .nil
 |cons e l c=>cases b with|cons b d=>cases n with
  |zero=>exact .nil
  |succ n=>exact .cons b (c d n)
theorem cT.drop{l a:List Value}(b:cT ρ l a)(n:Nat):cT ρ (l.drop n) (a.drop n):=by
 induction l generalizing a n with
 |nil=>cases b;cases n<;>exact .nil
 |cons e l c=>cases b with|cons b d=>cases n with
  |zero=>exact .cons b d
  |succ n=>exact c d n
theorem cX.cells{b a:Value}(c:cX ρ b a):cT ρ (cellsOf b) a.cells.toList:=by
 cases c<;>first|exact .cons (by constructor<;>assumption) .nil|skip
 all_goals first|assumption|exact .cons (.jp _ _) .nil
theorem cX.fM{b a:Value}(c:cX ρ b a):fM b=fM a:=by
 cases c<;>rfl
end vs
def gB(ρ:Ren)(c:Nat)(b:Tr Value)(e:Array Value):Prop:=
 e.size=c/\∀d f,b.get d=some f->∃a,e[d]?=some a/\cX ρ f a
def mO(ρ:Ren):List MapEntry->List MapEntry->Prop
 |[],[]=>True
 |e::c,a::b=>cX ρ e.key a.key/\cX ρ e.val a.val/\e.born=a.born/\mO ρ c b
 |_,_=>False
structure VG (ρ:Ren) (al:Fg) (lo:Loop):Prop where
 state:lo.state=al.state
 pending:lo.pending=al.pending
 fn:lo.fn=al.fn
 tm:gB ρ al.nt al.tm lo.tmps
 params:lo.params.toList=al.params
 assign:lo.assign=al.assign
 body:lo.body=al.body
 defers:∃l,ρ al.defers=some l/\lo.defers=l.b
 ok:codeOk al.assign=true/\codeOk al.body=true
structure Pc (ρ:Ren) (l:Loc) (c:List Value) (es:Nat) (c':Array Value) (lo hi:Nat):Prop where
 es:l.es=es
 size:c'.size=l.sz
 fits:l.d+c.length<=l.sz
 cell:∀(i:Nat) (v:Value),c[i]?=some v->∃v',c'[l.d+i]?=some v'/\cX ρ v v'
 Lm:∀i,i<l.sz->¬(lo<=i/\i<hi)
def yj(ρ:Ren)(l:Loc)(o:fX)(co:Option Obj):Prop:=
 match o with
 |.cells p d _ _=>∃f e a h,co=some (.cells f e (a,h))/\Pc ρ l p d f a h
 |.map d b=>∃c,co=some (.map c b)/\mO ρ d c.toList
 |.loop i=>∃a,co=some (.loop a)/\VG ρ i a
 |.eI n=>co=some (.deferred (if n then none else some []))
 |.iter m r=>co=some (.stringIter m r)
 |.dead=>True
def yk(o d:fX)(l a:Loc):Prop:=
 match o,d with
 |.cells _ _ e f,.cells _ _ c b=>e=c/\l.d+b=a.d+f
 |.dead,_=>True
 |_,.dead=>True
 |_,_=>False
def uh(st:St)(b f:Nat):Prop:=
 match st.fm.get f with
 |none=>b=f
 |some a=>b∈a
structure WF (st:St):Prop where
 lt:∀b o,st.get b=some o->b<st.n
 dP:∀b c e f p,st.get b=some (.cells c e f p)->f<st.n/\uh st b f
 NN:∀f ms,st.fm.get f=some ms->f<st.n
structure di (w0:World) (N0:Nat) (G:Nat->Prop) (ρ:Ren) (st:St) (w:World):Prop where
 wf:WF st
 below:Below N0 w0 w
 Fi:N0<=w.heap.size
 K1:∀b,G b->ρ b=none/\b<st.n
 xT:∀b l,ρ b=some l->b<st.n/\N0<=l.b/\l.b<w.heap.size
 obj:∀b l o,ρ b=some l->st.get b=some o->yj ρ l o w.heap[l.b]?
 sep:∀b b' l l' o o',ρ b=some l->ρ b'=some l'->l.b=l'.b->st.get b=some o->st.get b'=some o'->b≠b'->yk o o' l l'
theorem gB.mono{ρ a:Ren}(l:ρ.le a){c:Nat}{b:Tr Value}{h:Array Value}(f:gB ρ c b h):gB a c b h:=
 ⟨f.1,fun m n d=>let⟨e,o,i⟩:=f.2 m n d;⟨e,o,i.mono l⟩⟩
theorem mO.mono{ρ a:Ren}(c:ρ.le a):∀{e d:List MapEntry},mO ρ e d->mO a e d
 |[],[],_=>trivial
 |_::_,_::_,⟨b,h,i,f⟩=>⟨b.mono c,h.mono c,i,mO.mono c f⟩
 |[],_::_,b=>b.elim
 |_::_,[],b=>b.elim
theorem VG.mono{ρ b:Ren}(d:ρ.le b){c:Fg}{lo:Loop}(a:VG ρ c lo):VG b c lo:=
 ⟨a.state,a.pending,a.fn,a.tm.mono d,a.params,a.assign,a.body,let⟨h,f,e⟩:=a.defers;⟨h,d _ _ f,e⟩,a.ok⟩
theorem Pc.mono{ρ a:Ren}(m:ρ.le a){l:Loc}{c:List Value}{es:Nat}{d:Array Value}{lo e:Nat}(b:Pc ρ l c es d lo e):Pc a l c es d lo e:=
 ⟨b.es,b.size,b.fits,fun n o f=>let⟨h,p,i⟩:=b.cell n o f;⟨h,p,i.mono m⟩,b.Lm⟩
theorem yj.mono{ρ a:Ren}(m:ρ.le a){l:Loc}{o:fX}{co:Option Obj}(e:yj ρ l o co):yj a l o co:=by
 cases o with
 |cells x p v u=>obtain⟨n,b,c,r,f,d⟩:=e;exact⟨n,b,c,r,f,d.mono m⟩
 |map p i=>obtain⟨h,f,d⟩:=e;exact⟨h,f,d.mono m⟩
 |loop t=>obtain⟨c,f,d⟩:=e;exact⟨c,f,d.mono m⟩
 |eI w=>exact e
 |iter s u=>exact e
 |dead=>trivial
def Ren.add(ρ:Ren)(b:Nat)(l:Loc):Ren:=fun a=>if a=b then some l else ρ a
theorem ei{ρ:Ren}{b:Nat}{l:Loc}(e:ρ b=none):ρ.le (ρ.add b l):=by
 intro d f c;unfold Ren.add;by_cases a:d=b
 ·subst a;rw[e]at c;cases c
 ·rw[if_neg a];exact c
theorem c7(ρ:Ren)(b:Nat)(l:Loc):(ρ.add b l) b=some l:=if_pos rfl
theorem dU(ρ:Ren){b a:Nat}(l:Loc)(c:a≠b):(ρ.add b l) a=ρ a:=if_neg c
theorem dm(st:St)(o:fX)(b:Nat):(st.new o).get b=if b=st.n then some o else st.get b:=cB _ _ _ _
theorem c8(st:St)(a:Nat)(o:fX)(b:Nat):(st.put a o).get b=if b=a then some o else st.get b:=cB _ _ _ _
def ui(st:St):fX->Prop
 |.cells _ _ a _=>a=st.n
 |_=>True
theorem WF.new{st:St}(h:WF st){o:fX}(l:ui st o):WF (st.new o):=by
 have f:st.fm.get st.n=none:=by
  cases m:st.fm.get st.n with
  |none=>rfl
  |some c=>exact absurd (h.NN _ _ m) (Nat.lt_irrefl _)
 refine⟨fun d n a=>?_,fun d p m e r a=>?_,fun e c i=>aev (h.NN e c i)⟩
 ·rw[dm]at a;show d<st.n+1;by_cases b:d=st.n
  ·omega
  ·rw[if_neg b]at a;exact aev (h.lt _ _ a)
 ·rw[dm]at a;show e<st.n+1/\uh (st.new o) d e;by_cases b:d=st.n
  ·rw[if_pos b]at a;cases a;have:e=st.n:=l;subst this;refine⟨Nat.lt_succ_self _,?_⟩;show match st.fm.get st.n with|none=>d=st.n|some c=>d∈c
   rw[f];exact b
  ·rw[if_neg b]at a;have:=h.dP _ _ _ _ _ a;exact⟨aev this.1,this.2⟩
variable{k:Program} {j:TypeId} {g:Nat×Nat}
section
variable{w0:World} {N0:Nat} {G:Nat->Prop} {ρ:Ren} {st:St} {w:World}
theorem di.ij(b:di w0 N0 G ρ st w):ρ st.n=none:=by
 cases a:ρ st.n with
 |none=>rfl
 |some c=>exact absurd (b.xT _ _ a).1 (Nat.lt_irrefl _)
theorem di.new(f:di w0 N0 G ρ st w){o:fX}{co:Obj}{l:Loc}(A:l.b=w.heap.size)(z:ui st o)(B:yj (ρ.add st.n l) l o (some co)):
  di w0 N0 G (ρ.add st.n l) (st.new o) {w with heap:=w.heap.push co}:=by
 have x:=ei (l:=l) f.ij;have b:∀s,s<w.heap.size->(w.heap.push co)[s]?=w.heap[s]?:=fun s y=>by
  rw[Array.getElem?_push,if_neg om]
 refine⟨f.wf.new z,?_,?_,?_,?_,?_,?_⟩
 ·refine f.below.trans ⟨Z,Z,Z,by simp,fun s y=>b s (by have:=f.Fi;omega)⟩
 ·show N0<=(w.heap.push co).size;have:=f.Fi;simp;omega
 ·intro F D;have:=f.K1 F D;exact⟨by rw[dU _ _ om];exact this.1,aev this.2⟩
 ·intro t m a;show t<st.n+1/\N0<=m.b/\m.b<(w.heap.push co).size;by_cases u:t=st.n
  ·subst u;rw[c7]at a;cases a;have:=f.Fi;simp;omega
  ·rw[dU _ _ u]at a;have:=f.xT _ _ a;simp;omega
 ·intro t m C a h;show yj _ m C (w.heap.push co)[m.b]?;rw[dm]at h;by_cases u:t=st.n
  ·subst u;rw[c7]at a;cases a;rw[if_pos rfl]at h;cases h;rw[A,Array.getElem?_push_size];exact B
  ·rw[dU _ _ u]at a;rw[if_neg u]at h;rw[b _ (f.xT _ _ a).2.2];exact(f.obj _ _ _ a h).mono x
 ·intro t v J K I H d c E r p n;rw[dm]at r p;by_cases i:t=st.n
  ·by_cases e:v=st.n
   ·exact absurd (i.trans e.symm) n
   ·subst i;rw[c7]at d;cases d;rw[dU _ _ e]at c;have:=(f.xT _ _ c).2.2;omega
  ·by_cases e:v=st.n
   ·subst e;rw[c7]at c;cases c;rw[dU _ _ i]at d;have:=(f.xT _ _ d).2.2;omega
   ·rw[dU _ _ i]at d;rw[dU _ _ e]at c;rw[if_neg i]at r;rw[if_neg e]at p;exact f.sep _ _ _ _ _ _ d c E r p n
theorem di.Sr(a:di w0 N0 G ρ st w){c:World}(b:Below w.heap.size w c):di w0 N0 G ρ st c:=by
 refine⟨a.wf,a.below.trans (b.mono a.Fi),Nat.le_trans a.Fi b.size,a.K1,fun f h d=>?_,fun f h i d e=>?_,a.sep⟩
 ·have:=a.xT _ _ d;have:=b.size;omega
 ·rw[b.block _ (a.xT _ _ d).2.2];exact a.obj _ _ _ d e
theorem o8{b o n:Nat}{c:List Value}(e:gq st b o n=some c):
  ∃a d h l,st.get b=some (.cells a d h l)/\o+n<=a.length/\c=(a.drop o).take n:=by
 unfold gq at e;split at e
 ·rename_i a d h l i;split at e
  ·rename_i f;refine⟨a,d,h,l,i,?_,?_⟩
   ·exact Nat.le_of_ble_eq_true f
   ·simpa using e.symm
  ·cases e
 ·cases e
theorem fk{b o n:Nat}{c:List Value}(d:gq st b o n=some c):c.length=n:=by
 obtain⟨f,e,h,i,_,a,rfl⟩:=o8 d;simp;omega
theorem run_load{w:World}{a:Addr}(b:w.cell? a=some q):(load a).run k w=.ok q w:=by
 simp[load,Sem.run,b]
theorem cb{h v:Type}{w l:World}{s:Sem h}{x:h}(r:h->Sem v)(a:s.run k w=.ok x l):(s>>=r).run k w=(r x).run k l:=by
 show(s.bind r).run k w=_;induction s generalizing w with
 |pure m=>simp only[Sem.run]at a;cases a;rfl
 |load p d c b=>
  simp only[Sem.bind,Sem.run]at a⊢;cases n:w.cell? d with
  |some o=>rw[n]at a;exact b o a
  |none=>
   rw[n]at a;simp only at a⊢;cases e:w.farLoad k d (p==.atomic)with
   |ok i=>rw[e]at a;exact b i.1 a
   |error m=>rw[e]at a;cases a
 |store p d o c b=>
  cases o with
  |agg m=>simp[Sem.run]at a
  |tuple m=>simp[Sem.run]at a
  |_=>
   simp only[Sem.bind,Sem.run]at a⊢;cases n:w.cell? d with
   |some o=>
    rw[n]at a;simp only at a⊢;split at a
    ·cases a
    ·rename_i u;rw[if_neg u];exact b a
   |none=>
    rw[n]at a;simp only at a⊢;cases e:w.farStore k d _ (p==.atomic)with
    |ok i=>rw[e]at a;exact b a
    |error m=>rw[e]at a;cases a
 |new t c b=>simp only[Sem.bind,Sem.run]at a⊢;exact b _ a
 |shape i c b=>simp only[Sem.bind,Sem.run]at a⊢;exact b _ a
 |freeze d y c b=>simp only[Sem.bind,Sem.run]at a⊢;exact b a
 |frozen d c b=>simp only[Sem.bind,Sem.run]at a⊢;exact b _ a
 |getObj i c b=>
  simp only[Sem.bind,Sem.run]at a⊢;split at a
  ·cases a
  ·exact b _ a
  ·cases a
 |setObj i t c b=>
  simp only[Sem.bind,Sem.run]at a⊢;split at a
  ·cases a
  ·exact b a
  ·cases a
 |choose z c b=>
  simp only[Sem.bind,Sem.run]at a⊢;split at a
  ·rename_i f;rw[if_pos f];exact b _ a
  ·rename_i f;rw[if_neg f];exact b _ a
 |sys A c b=>simp only[Sem.bind,Sem.run]at a⊢;exact b _ a
 |program c b=>simp only[Sem.bind,Sem.run]at a⊢;exact b _ a
 |mark p c b=>simp only[Sem.bind,Sem.run]at a⊢;exact b a
 |halt m=>simp[Sem.run]at a
theorem cell_of{w:World}{b:Nat}{c:Array Value}(d:w.heap[b]?=some (.cells c j g))(a:Nat):w.cell? ⟨b,a,none⟩=c[a]?:=by
 simp[World.cell?,d]
theorem kS(b o n:Nat):(⟨b,o,none⟩:Addr).add n=⟨b,o+n,none⟩:=by
 unfold Addr.add;split
 ·rename_i a;subst a;rfl
 ·rfl
theorem run_loadCellsFrom{P:Program}{w:World}{b o:Nat}{c:Array Value}(n:w.heap[b]?=some (.cells c j g)):
  ∀(f d:Nat) (a:Array Value),o+d+f<=c.size->(loadCellsFrom ⟨b,o,none⟩ d f a).run P w=.ok ⟨a.toList++(c.toList.drop (o+d)).take f⟩ w:=by
 intro f;induction f with
 |zero=>intro d a _;simp[loadCellsFrom,pure]
 |succ f i=>
  intro d a m;have e:o+d<c.size:=om;have l:w.cell? ((⟨b,o,none⟩:Addr).add d)=some c[o+d]:=by rw[kS,cell_of n];exact aeN e
  rw[loadCellsFrom,cb _ (run_load l),i (d+1) (a.push c[o+d]) om];have h:c.toList.drop (o+d)=c[o+d]::c.toList.drop (o+(d+1)):=by
   rw[List.drop_eq_getElem_cons (by simpa using e)];rfl
  rw[h];simp
theorem run_loadCells{w:World}{b o n:Nat}{c:Array Value}(d:w.heap[b]?=some (.cells c j g))(a:o+n<=c.size):
  (loadCells ⟨b,o,none⟩ n).run k w=.ok ⟨(c.toList.drop o).take n⟩ w:=by
 have:=run_loadCellsFrom (P:=k) (o:=o) d n 0 #[] om;simpa [loadCells]using this
theorem Pc.slice{l:Loc}{c:List Value}{es:Nat}{d:Array Value}{lo h:Nat}(f:Pc ρ l c es d lo h){o n:Nat}(i:o+n<=c.length):
  cT ρ ((c.drop o).take n) ((d.toList.drop (l.d+o)).take n):=by
 have m:=f.size;have p:=f.fits;refine yi (by simp;omega) fun t u a=>?_;rw[List.getElem?_take]at a⊢;split at a
 ·rename_i b;rw[if_pos b];rw[List.getElem?_drop]at a⊢;obtain⟨e,s,r⟩:=f.cell _ _ a;refine⟨e,?_,r⟩;rw[Array.getElem?_toList,<-s];congr 1;omega
 ·cases a
theorem di.read(v:di w0 N0 G ρ st w){b o n:Nat}{c:List Value}{l:Loc}(f:ρ b=some l)(e:gq st b o n=some c)(z:Program):
  ∃a,(loadCells ⟨l.b,l.d+o,none⟩ n).run z w=.ok a w/\cT ρ c a.toList:=by
 obtain⟨u,s,A,B,h,d,rfl⟩:=o8 e;obtain⟨a,m,y,t,x,i⟩:=v.obj _ _ _ f h;have p:=i.size;have r:=i.fits;refine⟨_,run_loadCells x om,?_⟩;exact i.slice d
theorem mf:∀(b:List Value) (c:Nat) (a:List Value),(dw b c a).length=b.length:=by
 intro b;induction b with
 |nil=>intro c a;cases a<;>rfl
 |cons e b d=>
  intro c a;cases a with
  |nil=>rfl
  |cons f a=>cases c<;>simp[dw,d]
theorem nW:∀(e:List Value) (c:Nat) (a:List Value) (b:Nat),c+a.length<=e.length->(dw e c a)[b]?=if c<=b/\b<c+a.length then a[b-c]? else e[b]?:=by
 intro e;induction e with
 |nil=>
  intro c a b h;cases a with
  |nil=>simp only[dw,aeM];rw[if_neg om]
  |cons i a=>simp at h
 |cons l e f=>
  intro c a b h;cases a with
  |nil=>simp only[dw,aeM];rw[if_neg om]
  |cons i a=>
   simp only[abL]at h⊢;cases c with
   |zero=>
    cases b with
    |zero=>simp[dw]
    |succ b=>
     simp only[dw,aeP];rw[f 0 a b om];by_cases d:b<a.length
     ·rw[if_pos om,if_pos om];simp
     ·rw[if_neg om,if_neg om]
   |succ c=>
    cases b with
    |zero=>simp[dw]
    |succ b=>
     simp only[dw,aeP];rw[f c (i::a) b (by simp;omega)];simp only[abL];by_cases d:c<=b/\b<c+(a.length+1)
     ·rw[if_pos d,if_pos om,show b+1-(c+1)=b-c from by omega]
     ·rw[if_neg d,if_neg om]
structure aaw (w w':World) (b:Nat) (c:Array Value) (e:TypeId) (fz:Nat×Nat) (o:Nat) (vs:List Value):Prop where
 os:w'.os=w.os
 tape:w'.tape=w.tape
 output:w'.output=w.output
 size:w'.heap.size=w.heap.size
 other:∀k,k≠b->w'.heap[k]?=w.heap[k]?
 here:∃c',w'.heap[b]?=some (.cells c' e fz)/\c'.size=c.size/\∀i:Nat,c'[i]?=if o<=i/\i<o+vs.length then vs[i-o]? else c[i]?
theorem Ln{P:Program}{w:World}{b o:Nat}{v:Value}{c:Array Value}{lo a:Nat}(m:w.heap[b]?=some (.cells c j (lo,a)))(h:o<c.size)(e:¬(lo<=o/\o<a)) 
  (i:fM v=true):(store ⟨b,o,none⟩ v).run P w=.ok () (w.setCell ⟨b,o,none⟩ v):=by
 have l:w.cell? ⟨b,o,none⟩=some c[o]:=by rw[cell_of m];exact aeN h
 have f:w.frozen? ⟨b,o,none⟩=false:=by
  simp only[World.frozen?,m];cases d:(decide (lo<=o)&&decide (o<a))with
  |false=>rfl
  |true=>simp at d;exact absurd d e
 cases v<;>first|(simp[fM]at i;done)|simp[store,Sem.run,l,f]
theorem Lo{w:World}{b o:Nat}{v:Value}{c:Array Value}(e:w.heap[b]?=some (.cells c j g)):
  (w.setCell ⟨b,o,none⟩ v).heap[b]?=some (.cells (c.setIfInBounds o v) j g)/\(∀a,a≠b->(w.setCell ⟨b,o,none⟩ v).heap[a]?=w.heap[a]?)/\(w.setCell ⟨b,o,none⟩ v).heap.size=w.heap.size:=by
 refine⟨?_,fun a d=>Below.heap_setCell _ _ _ _ d,by simp[World.setCell]⟩;simp only[World.setCell,Array.getElem?_modify,e];simp
theorem uj{P:Program}:∀(b:List Value) (w:World) (p c d:Nat) (r:Array Value) (v:TypeId) (i h:Nat),w.heap[p]?=some (.cells r v (i,h))->c+d+b.length<=r.size->
  (∀e,c+d<=e->e<c+d+b.length->¬(i<=e/\e<h))->(∀m∈b,fM m=true)->
  ∃l,(storeCells ⟨p,c,none⟩ b d).run P w=.ok () l/\aaw w l p r v (i,h) (c+d) b:=by
 intro b;induction b with
 |nil=>
  intro w p c d r v i h x _ _ _;refine⟨w,by simp[storeCells,pure],Z,Z,Z,Z,fun _ _=>Z,r,x,Z,fun e=>?_⟩;simp only[aeM];rw[if_neg om]
 |cons m b H=>
  intro w p c d r v i h x u a n;simp only[abL]at u a;have t:=Ln (P:=P) (v:=m) x (o:=c+d) om (a _ om om) (n m sm);obtain⟨C,z,E⟩:=Lo (o:=c+d) (v:=m) x;obtain⟨l,B,f⟩:=H (w.setCell ⟨p,c+d,none⟩ m) p c (d+1) _ v i h C (by simp;omega) (fun e t K=>a e om om) (fun L D=>n L (by simp[D]));refine⟨l,?_,?_⟩
  ·rw[storeCells,kS,cb _ t];exact B
  ·obtain⟨y,F,A,G⟩:=f.here;refine⟨f.os,f.tape,f.output,f.size.trans E,fun J s=>(f.other J s).trans (z J s),y,F,by simpa using A,fun e=>?_⟩;rw[G];simp only[abL];by_cases I:e=c+d
   ·subst I;rw[if_neg om,if_pos om,Nat.sub_self,Array.getElem?_setIfInBounds_self_of_lt om];rfl
   ·by_cases o:c+(d+1)<=e/\e<c+(d+1)+b.length
    ·rw[if_pos o,if_pos om,show e-(c+d)=(e-(c+(d+1)))+1 from by omega];rfl
    ·rw[if_neg o,if_neg om,Array.getElem?_setIfInBounds_ne om]
end
end Go.AM
