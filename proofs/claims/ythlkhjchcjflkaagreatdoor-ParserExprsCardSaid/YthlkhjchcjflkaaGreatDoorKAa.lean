/- Part of the proof. -/
import Derived.Calls
import Derived.Below
set_option linter.all false
set_option maxHeartbeats 16000000
set_option maxRecDepth 100000
open Nat renaming beq->Yl,ble->Ym,blt->Yn,testBit->Yr,lt_succ_of_lt->Ys,le_of_ble_eq_true->Yt,lt_or_ge->Yv
open List renaming length_cons->Yo,mem_cons->Yp,range->Yq,length_nil->Yu,getElem?_cons_succ->Yx,getElem?_eq_none->Yy
open Array renaming getElem?_eq_getElem->Yw
namespace Go.AM
variable{z:Prop}
theorem om(a:z:=by omega):z:=a
theorem dc(a:z:=by decide):z:=a
theorem sm(a:z:=by simp):z:=a
theorem tv:True:=trivial
theorem Z.{c}{a:Sort c}{b:a}:b=b:=rfl
inductive Tr (α:Type)where
 |nil
 |node (v:Option α) (l r:Tr α)
def qm:Nat->Nat->List Bool
 |0,_=>[]
 |k+1,n=>match n with
  |0=>[]
  |m+1=>(Yl (m%2) 0)::qm k (m/2)
def path(n:Nat):List Bool:=qm n n
def iE{a:Type}:List Bool->Tr a->Option a
 |_,.nil=>none
 |[],.node e _ _=>e
 |b::c,.node _ f d=>match b with
  |true=>iE c f
  |false=>iE c d
def lB{a:Type}(o:Option a):List Bool->Tr a->Tr a
 |[],.nil=>.node o .nil .nil
 |[],.node _ e d=>.node o e d
 |b::c,.nil=>match b with
  |true=>.node none (lB o c .nil) .nil
  |false=>.node none .nil (lB o c .nil)
 |b::c,.node f e d=>match b with
  |true=>.node f (lB o c e) d
  |false=>.node f e (lB o c d)
def Tr.get{a:Type}(t:Tr a)(n:Nat):Option a:=iE (path n) t
def Tr.put{a:Type}(t:Tr a)(n:Nat)(o:Option a):Tr a:=lB o (path n) t
def Tr.set{a:Type}(t:Tr a)(n:Nat)(b:a):Tr a:=t.put n (some b)
def e9{a:Type}:Nat->List a->Tr a->Tr a
 |_,[],b=>b
 |i,c::d,b=>e9 (i+1) d (b.set i c)
structure CK where
 state:LoopState
 pending:Option Code
 fn:FuncId
 tm:Tr Value
 nt:Nat
 params:List Tmp
 assign:Code
 body:Code
 defers:Nat
inductive gz where
 |cells (c:List Value) (es en fo:Nat)
 |map (entries:List MapEntry) (clock:Nat)
 |loop (l:CK)
 |fg (taken:Bool)
 |iter (s:ByteArray) (pos:Nat)
 |dead
structure St where
 hp:Tr gz
 n:Nat
 fm:Tr (List Nat)
structure Fr where
 tm:Tr Value
 df:List Deferred
structure FC where
 fn:FuncId
 nt:Nat
 round:Option Nat
 BG:Bool
inductive eT where
 |none
 |gu (v:Value)
 |qn
inductive Ex where
 |norm
 |exit (id:Nat)
 |ret
 |panic (v:Value)
inductive CR where
 |ret (v:Value)
 |fO (v:Value)
inductive AR where
 |val (v:Value) (st:St)
 |fO (v:Value) (st:St)
 |enter (f:FuncId) (args:List Value)
 |yield (l:Nat) (args:List Value)
 |recover
 |defer (d:Deferred)
structure TI where
 desc:TypeDesc
 size:Nat
 agg:Bool
 zero:List Value
 bytes:Nat
structure FI where
 nt:Nat
 body:Code
 Qn:List ResultVar
structure eD where
 P:Program
 tt:Tr TI
 ff:Tr FI
 ext:FuncId->List Value->Option Value
def eT.isNone:eT->Bool|.none=>true|_=>false
def St.new(st:St)(o:gz):St:={st with hp:=st.hp.set st.n o,n:=st.n+1}
def St.put(st:St)(b:Nat)(o:gz):St:={st with hp:=st.hp.set b o}
def St.get(st:St)(b:Nat):Option gz:=st.hp.get b
def overlaps(fo a lo hi:Nat):Bool:=Yn fo hi&&Yn lo (fo+a)
def eZ(b lo hi:Nat):List Nat->Tr gz->Tr gz×List Nat
 |[],a=>(a,[])
 |m::d,a=>
  match Yl m b with
  |true=>let e:=eZ b lo hi d a;(e.1,m::e.2)
  |false=>
   match a.get m with
   |some (.cells c _ _ fo)=>
    match overlaps fo c.length lo hi with
    |true=>eZ b lo hi d (a.set m .dead)
    |false=>let e:=eZ b lo hi d a;(e.1,m::e.2)
   |_=>let e:=eZ b lo hi d a;(e.1,m::e.2)
def St.kill(st:St)(en b lo hi:Nat):St:=
 match st.fm.get en with
 |none=>st
 |some a=>let c:=eZ b lo hi a st.hp;{st with hp:=c.1,fm:=st.fm.set en c.2}
def dU:List Value->Nat->List Value->List Value
 |c,_,[]=>c
 |[],_,_::_=>[]
 |x::c,n,b::a=>match n with
  |0=>b::dU c 0 a
  |m+1=>x::dU c m (b::a)
def gN(st:St)(b o n:Nat):Option (List Value):=
 match st.get b with
 |some (.cells c _ _ _)=>match Ym (o+n) c.length with
  |true=>some ((c.drop o).take n)
  |false=>none
 |_=>none
def gn:Value->Bool
 |.agg _|.tuple _=>false
 |_=>true
def gA(st:St)(b o:Nat)(a:List Value):Option St:=
 match st.get b with
 |some (.cells c es en fo)=>match Ym (o+a.length) c.length&&a.all gn with
  |true=>some ((st.put b (.cells (dU c o a) es en fo)).kill en b (fo+o) (fo+o+a.length))
  |false=>none
 |_=>none
def newRow(st:St)(es:Nat)(c:List Value):Nat×St:=(st.n,st.new (.cells c es st.n 0))
def FJ(a:Bool)(c:List Value):Option Value:=
 match a with
 |true=>some (.agg c.toArray)
 |false=>match c with
  |[b]=>some b
  |_=>none
def cellsOf:Value->List Value
 |.agg a=>a.toList
 |v=>[v]
def lC:List UInt8->List UInt8->Bool
 |[],[]=>true
 |a::d,b::c=>match Yl a.toNat b.toNat with
  |true=>lC d c
  |false=>false
 |_,_=>false
def cK:List UInt8->List UInt8->Bool
 |_,[]=>false
 |[],_::_=>true
 |a::d,b::c=>match Yn a.toNat b.toNat with
  |true=>true
  |false=>match Yl a.toNat b.toNat with
   |true=>cK d c
   |false=>false
def oy(a b:ByteArray):Bool:=lC a.data.toList b.data.toList
def CL(a b:ByteArray):Bool:=cK a.data.toList b.data.toList
def Ir(a b:ByteArray):ByteArray:=⟨⟨a.data.toList++b.data.toList⟩⟩
def Is(b:ByteArray)(l a:Nat):ByteArray:=⟨⟨(b.data.toList.take a).drop l⟩⟩
def pn:Int->Int->Bool
 |.ofNat a,.ofNat b=>Yl a b
 |.negSucc a,.negSucc b=>Yl a b
 |_,_=>false
def sp:IntKind->IntKind->Bool
 |.i8,.i8|.i16,.i16|.i32,.i32|.i64,.i64|.u8,.u8|.u16,.u16|.u32,.u32|.u64,.u64=>true
 |_,_=>false
def addrEq(a b:Addr):Bool:=Yl a.block b.block&&Yl a.off b.off&&(match a.spot,b.spot with|none,none=>true|_,_=>false)
def NH:Fn->Fn->Bool
 |.func b,.func a=>Yl b a
 |.yield b,.yield a=>Yl b a
 |_,_=>false
mutual
def mh:Value->Value->Bool
 |.bool a,.bool b=>a==b
 |.int k a,.int k' b=>sp k k'&&pn a b
 |.string a,.string b=>oy a b
 |.pointer none,.pointer none=>true
 |.pointer (some a),.pointer (some b)=>addrEq a b
 |.slice none l c,.slice none l' c'=>Yl l l'&&Yl c c'
 |.slice (some a) l c,.slice (some b) l' c'=>addrEq a b&&Yl l l'&&Yl c c'
 |.map none,.map none=>true
 |.map (some a),.map (some b)=>Yl a b
 |.func f ⟨a⟩ ⟨b⟩,.func f' ⟨a'⟩ ⟨b'⟩=>NH f f'&&xv a a'&&xv b b'
 |.nilFunc,.nilFunc=>true
 |.nilIface,.nilIface=>true
 |.iface t v,.iface t' v'=>Yl t t'&&mh v v'
 |.agg ⟨a⟩,.agg ⟨b⟩=>xv a b
 |.tuple ⟨a⟩,.tuple ⟨b⟩=>xv a b
 |_,_=>false
def xv:List Value->List Value->Bool
 |[],[]=>true
 |a::x,b::y=>mh a b&&xv x y
 |_,_=>false
end
def nth{a:Type}:List a->Nat->Option a
 |[],_=>none
 |x::b,n=>match n with
  |0=>some x
  |m+1=>nth b m
def sq:Int->Int->Bool
 |.ofNat a,.ofNat b=>Yn a b
 |.negSucc a,.negSucc b=>Yn b a
 |.negSucc _,.ofNat _=>true
 |.ofNat _,.negSucc _=>false
def uv(a:List Value):Nat->List Value
 |0=>[]
 |n+1=>a++uv a n
def po(a:Nat->Option (Nat×Nat)):List Value->List (Nat×Value)->Option (List Value)
 |cells,[]=>some cells
 |cells,(f,e)::d=>
  match a f with
  |none=>none
  |some (c,b)=>
   match Yl (cellsOf e).length b&&Ym (c+b) cells.length with
   |true=>po a (dU cells c (cellsOf e)) d
   |false=>none
def lD(a:Operand->Option Value):List (Nat×Operand)->Option (List (Nat×Value))
 |[]=>some []
 |(d,b)::c=>match a b,lD a c with
  |some e,some f=>some ((d,e)::f)
  |_,_=>none
def mr(a:Operand->Option Value):List Operand->Option (List Value)
 |[]=>some []
 |x::c=>match a x,mr a c with
  |some b,some d=>some (b::d)
  |_,_=>none
def val(a:Value)(st:St):Option AR:=some (.val a st)
def ptr(b o:Nat):Value:=.pointer (some ⟨b,o,none⟩)
def kX:Value:=.tuple #[]
def uZ(C:eD)(t:TypeId)(st:St):Option AR:=
 match C.tt.get t with
 |some a=>val (ptr st.n 0) (st.new (.cells a.zero a.size st.n 0))
 |none=>none
def It(a:Value)(st:St):Option AR:=
 match(cellsOf a).all gn with
 |true=>val (ptr st.n 0) (st.new (.cells (cellsOf a) (cellsOf a).length st.n 0))
 |false=>none
def hJ(C:eD)(a:Array Field)(d:Nat):Option (Nat×Nat):=
 match nth a.toList d with
 |some c=>match C.tt.get c.type with
  |some b=>some (c.offset,b.size)
  |none=>none
 |none=>none
def sr(C:eD)(t:TypeId)(e:List (Nat×Value))(st:St):Option AR:=
 match C.tt.get t with
 |some b=>
  match b.desc with
  |.struct a=>
   match(a.toList.all fun i=>(C.tt.get i.type).isSome),b.agg,po (hJ C a) b.zero e with
   |true,true,some c=>val (.agg c.toArray) st
   |_,_,_=>none
  |.array _ d=>
   match C.tt.get d,b.agg with
   |some f,true=>match po (fun k=>some (k*f.size,f.size)) b.zero e with
    |some c=>val (.agg c.toArray) st
    |none=>none
   |_,_=>none
  |_=>none
 |none=>none
def jP(C:eD)(t:TypeId)(len:Nat)(e:List (Nat×Value))(st:St):Option AR:=
 match C.tt.get t with
 |some d=>
  match d.desc with
  |.slice b=>
   match C.tt.get b with
   |some a=>
    match Yn 0 a.size&&Ym (len*a.size) 16777216&&Yl a.zero.length a.size,po (fun f=>some (f*a.size,a.size)) (uv a.zero len) e with
    |true,some c=>match c.all gn with
     |true=>val (.slice (some ⟨st.n,0,none⟩) len len) (st.new (.cells c a.size st.n 0))
     |false=>none
    |_,_=>none
   |none=>none
  |_=>none
 |none=>none
def vJ(C:eD)(t:TypeId)(d:Value)(st:St):Option AR:=
 match C.tt.get t,d with
 |some a,.pointer (some ⟨b,o,none⟩)=>
  match a.agg||Yl a.size 1,gN st b o a.size with
  |true,some c=>match FJ a.agg c with
   |some e=>val e st
   |none=>none
  |_,_=>none
 |_,_=>none
def ir(C:eD)(t:TypeId)(e d:Value)(st:St):Option AR:=
 match C.tt.get t,e with
 |some c,.pointer (some ⟨b,o,none⟩)=>
  match Yl (cellsOf d).length c.size with
  |true=>match gA st b o (cellsOf d)with
   |some a=>val kX a
   |none=>none
  |false=>none
 |_,_=>none
def mu(a:Value)(st:St):Option AR:=
 match a with
 |.pointer (some _)=>val a st
 |.iface _ _=>val a st
 |.func (.func _) _ _=>val a st
 |.func (.yield _) _ _=>val a st
 |_=>none
def jb:TypeDesc->Value->Value->Option Bool
 |.bool,.bool a,.bool b=>some (a==b)
 |.int _,.int d a,.int c b=>match sp d c with
  |true=>some (pn a b)
  |false=>none
 |.string,.string a,.string b=>some (oy a b)
 |_,_,_=>none
def ss(C:eD)(xs c:List Value):List Field->Option Bool
 |[]=>some true
 |f::e=>match f.name== "_" with
  |true=>none
  |false=>match C.tt.get f.type,nth xs f.offset,nth c f.offset with
   |some a,some d,some b=>match a.agg with
    |true=>none
    |false=>match jb a.desc d b with
     |some true=>ss C xs c e
     |some false=>some false
     |none=>none
   |_,_,_=>none
def kf:Operand->Bool
 |.const _=>true
 |_=>false
def Lw(C:eD)(t:TypeId)(r p:Operand)(l b:Value):Option Bool:=
 match C.tt.get t with
 |none=>none
 |some e=>
  match e.desc,l,b with
  |.pointer _,.pointer none,.pointer c=>some c.isNone
  |.pointer _,.pointer _,.pointer none=>some false
  |.pointer v,.pointer (some s),.pointer (some c)=>
   match C.tt.get v,s,c with
   |some f,⟨n,i,none⟩,⟨o,m,none⟩=>match Yn 0 f.size&&Yl n o with
    |true=>some (Yl i m)
    |false=>none
   |_,_,_=>none
  |.interface _,.nilIface,.nilIface=>match kf r||kf p with
   |true=>some true
   |false=>none
  |.interface _,.nilIface,.iface _ _=>some false
  |.interface _,.iface _ _,.nilIface=>some false
  |.struct a,.agg xs,.agg k=>match e.bytes with
   |_=>match C.P.eqGuardType C.P.depth t||C.P.stoodInHeld t with
    |true=>none
    |false=>ss C xs.toList k.toList a.toList
  |.slice _,.slice none _ _,.slice c _ _=>some c.isNone
  |.slice _,.slice _ _ _,.slice none _ _=>some false
  |.map _ _,.map none,.map c=>some c.isNone
  |.map _ _,.map _,.map none=>some false
  |.func _ _ _,.nilFunc,.nilFunc=>some true
  |.func _ _ _,.nilFunc,.func _ _ _=>some false
  |.func _ _ _,.func _ _ _,.nilFunc=>some false
  |d,l,b=>jb d l b
def su(d:BinOp)(a:IntKind)(c b:Int):Option Value:=
 match d with
 |.add=>some (.int a (a.wrap (c+b)))
 |.sub=>some (.int a (a.wrap (c-b)))
 |.mul=>some (.int a (a.wrap (c*b)))
 |.quo=>match pn b 0 with|true=>none|false=>some (.int a (a.wrap (c.tdiv b)))
 |.rem=>match pn b 0 with|true=>none|false=>some (.int a (c.tmod b))
 |.and=>some (.int a (a.wrap (BitVec.ofInt a.bits c&&&BitVec.ofInt a.bits b).toNat))
 |.or=>some (.int a (a.wrap (BitVec.ofInt a.bits c|||BitVec.ofInt a.bits b).toNat))
 |.xor=>some (.int a (a.wrap (BitVec.ofInt a.bits c^^^BitVec.ofInt a.bits b).toNat))
 |.andNot=>some (.int a (a.wrap (BitVec.ofInt a.bits c&&& ~~~ BitVec.ofInt a.bits b).toNat))
 |.eql=>some (.bool (pn c b))
 |.neq=>some (.bool (!(pn c b)))
 |.lss=>some (.bool (sq c b))
 |.leq=>some (.bool (!(sq b c)))
 |.gtr=>some (.bool (sq b c))
 |.geq=>some (.bool (!(sq c b)))
 |_=>none
def sv(c:BinOp)(a:IntKind)(d:Int)(b:Int):Option Value:=
 match b with
 |.ofNat n=>match c with
  |.shl=>some (.int a (a.wrap (d*2^(min n a.bits))))
  |.shr=>some (.int a (d.fdiv (2^(min n a.bits))))
  |_=>none
 |_=>none
def ze:BinOp->Bool
 |.shl=>true
 |.shr=>true
 |_=>false
def u0(c:BinOp)(a b:ByteArray):Option Value:=
 match c with
 |.add=>match Ym (a.data.toList.length+b.data.toList.length) 1099511627776 with
  |true=>some (.string (Ir a b))
  |false=>none
 |.eql=>some (.bool (oy a b))
 |.neq=>some (.bool (!(oy a b)))
 |.lss=>some (.bool (CL a b))
 |.leq=>some (.bool (CL a b||oy a b))
 |.gtr=>some (.bool (!(CL a b||oy a b)))
 |.geq=>some (.bool (!(CL a b)))
 |_=>none
def Du(C:eD)(c:BinOp)(t:TypeId)(k i:Operand)(a b:Value):Option Value:=
 match a,b with
 |.int e d,.int f n=>match ze c with
  |true=>sv c e d n
  |false=>match sp e f with
   |true=>su c e d n
   |false=>none
 |.string d,.string n=>u0 c d n
 |a,b=>match c with
  |.eql=>(Lw C t k i a b).map .bool
  |.neq=>(Lw C t k i a b).map fun l=>.bool (!l)
  |_=>none
def VY(c:UnOp)(d:Value):Option Value:=
 match c,d with
 |.neg,.int a n=>some (.int a (a.wrap (0-n)))
 |.xor,.int a n=>some (.int a (a.wrap (BitVec.ofInt a.bits (if a.signed then-1 else a.max)^^^BitVec.ofInt a.bits n).toNat))
 |.not,.bool b=>some (.bool (!b))
 |_,_=>none
def toByte:Value->Option UInt8
 |.int .u8 (.ofNat n)=>some (UInt8.ofNat n)
 |_=>none
def q0:List Value->Option (List UInt8)
 |[]=>some []
 |v::c=>match toByte v,q0 c with
  |some b,some a=>some (b::a)
  |_,_=>none
def ofBytes(l:List UInt8):List Value:=l.map fun b=>.int .u8 b.toNat
def ib(C:eD)(src d:TypeId)(l:Value)(st:St):Option AR:=
 match C.tt.get src,C.tt.get d with
 |some i,some f=>
  match i.desc,f.desc,l with
  |.int _,.int m,.int _ n=>val (.int m (m.wrap n)) st
  |.string,.string,.string _=>val l st
  |.string,.slice k,.string e=>
   match C.tt.get k with
   |some a=>match a.desc with
    |.int .u8=>val (.slice (some ⟨st.n,0,none⟩) e.data.toList.length e.data.toList.length) (st.new (.cells (ofBytes e.data.toList) 1 st.n 0))
    |_=>none
   |none=>none
  |.slice k,.string,.slice p len _=>
   match C.tt.get k with
   |some a=>match a.desc with
    |.int .u8=>match p with
     |none=>val (.string ⟨#[]⟩) st
     |some ⟨b,o,none⟩=>match gN st b o len with
      |some c=>match q0 c with
       |some r=>val (.string ⟨r.toArray⟩) st
       |none=>none
      |none=>none
     |_=>none
    |_=>none
   |none=>none
  |_,_,_=>none
 |_,_=>none
def hR(C:eD)(t:TypeId)(b:Value)(st:St):Option AR:=
 match C.tt.get t with
 |some a=>match a.desc with
  |.interface _=>none
  |_=>val (.iface t b) st
 |none=>none
def SV:Fn->Bool
 |.func _=>true
 |_=>false
def oz(C:eD)(t:TypeId)(l c:Value)(st:St):Option AR:=
 match C.tt.get t,l,c with
 |some d,.int .i64 (.ofNat l),.int .i64 (.ofNat c)=>
  match d.desc with
  |.slice b=>match C.tt.get b with
   |some a=>match Ym l c&&Yn 0 a.size&&Ym (c*a.bytes) 1099511627776&&Ym c 1099511627776&&Yl a.zero.length a.size with
    |true=>val (.slice (some ⟨st.n,0,none⟩) l c) (st.new (.cells (uv a.zero c) a.size st.n 0))
    |false=>none
   |none=>none
  |_=>none
 |_,_,_=>none
def kY:Option Value->Nat->Option Nat
 |none,a=>some a
 |some (.int _ (.ofNat n)),_=>some n
 |_,_=>none
def Lx(st:St)(b:Nat):Option Nat:=
 match st.get b with
 |some (.cells _ es _ _)=>some es
 |_=>none
def oA(C:eD)(t:TypeId)(s:Value)(lo hi k:Option Value)(st:St):Option AR:=
 match C.tt.get t with
 |none=>none
 |some l=>
  match l.desc,s with
  |.string,.string m=>
   match kY lo 0,kY hi m.data.toList.length,k with
   |some f,some i,none=>match Ym f i&&Ym i m.data.toList.length with
    |true=>val (.string (Is m f i)) st
    |false=>none
   |_,_,_=>none
  |.slice a,.slice r len d=>
   match C.tt.get a,kY lo 0,kY hi len,kY k d with
   |some e,some f,some i,some p=>
    match Ym f i&&Ym i p&&Ym p d&&(hi.isSome||k.isNone)with
    |false=>none
    |true=>
     match r with
     |none=>match Yl d 0 with
      |true=>val (.slice none 0 0) st
      |false=>none
     |some ⟨b,o,none⟩=>
      match Yl d 0 with
      |true=>val (.slice r 0 0) st
      |false=>match Lx st b with
       |some es=>match Yl es e.size with
        |true=>val (.slice (some ⟨b,o+f*e.size,none⟩) (i-f) (p-f)) st
        |false=>none
       |none=>none
     |_=>none
   |_,_,_,_=>none
  |.array n a,.pointer (some ⟨b,o,none⟩)=>
   match C.tt.get a,kY lo 0,kY hi n,k with
   |some e,some f,some i,none=>match Ym f i&&Ym i n&&(match st.get b with|some (.cells c es _ _)=>Yl es e.size&&Ym (o+n*e.size) c.length|_=>false)with
    |true=>val (.slice (some ⟨b,o+f*e.size,none⟩) (i-f) (n-f)) st
    |false=>none
   |_,_,_,_=>none
  |_,_=>none
def gb(C:eD)(k:TypeId)(i:Value)(f:Nat)(st:St):Option AR:=
 match C.tt.get k,i with
 |some e,.pointer (some ⟨b,o,none⟩)=>
  match e.desc with
  |.struct a=>match hJ C a f with
   |some (d,c)=>match Yn 0 c with
    |true=>val (ptr b (o+d)) st
    |false=>none
   |none=>none
  |_=>none
 |_,_=>none
def zK(C:eD)(t:TypeId)(c:List Value)(a:Nat):Option Value:=
 match C.tt.get t with
 |some b=>match b.agg with
  |true=>match Ym (a+b.size) c.length with
   |true=>some (.agg ((c.drop a).take b.size).toArray)
   |false=>none
  |false=>nth c a
 |none=>none
def u1(C:eD)(t:TypeId)(e:Value)(f:Nat)(st:St):Option AR:=
 match C.tt.get t,e with
 |some c,.agg d=>
  match c.desc with
  |.struct a=>match nth a.toList f with
   |some b=>match zK C b.type d.toList b.offset with
    |some i=>val i st
    |none=>none
   |none=>none
  |_=>none
 |_,_=>none
def gT(C:eD)(t:TypeId)(f i:Value)(st:St):Option AR:=
 match C.tt.get t,f,i with
 |some c,.slice (some ⟨b,o,none⟩) len _,.int _ (.ofNat e)=>
  match c.desc with
  |.slice a=>match C.tt.get a with
   |some d=>match Yn e len with
    |true=>val (ptr b (o+e*d.size)) st
    |false=>none
   |none=>none
  |_=>none
 |some c,.pointer (some ⟨b,o,none⟩),.int _ (.ofNat e)=>
  match c.desc with
  |.array len a=>match C.tt.get a with
   |some d=>match Yn e len with
    |true=>val (ptr b (o+e*d.size)) st
    |false=>none
   |none=>none
  |_=>none
 |_,_,_=>none
def sw(C:eD)(t:TypeId)(i l:Value)(st:St):Option AR:=
 match C.tt.get t,i,l with
 |some c,.string k,.int _ (.ofNat d)=>
  match c.desc with
  |.string=>match nth k.data.toList d with
   |some b=>val (.int .u8 b.toNat) st
   |none=>none
  |_=>none
 |some c,.agg f,.int _ (.ofNat d)=>
  match c.desc with
  |.array len a=>match C.tt.get a with
   |some e=>match Yn d len with
    |true=>match zK C a f.toList (d*e.size)with
     |some m=>val m st
     |none=>none
    |false=>none
   |none=>none
  |_=>none
 |_,_,_=>none
def qo(a:TypeDesc)(b:Value):List MapEntry->Nat->Option (Option (Nat×Value))
 |[],_=>some none
 |e::d,c=>match jb a b e.key with
  |some true=>some (some (c,e.val))
  |some false=>qo a b d (c+1)
  |none=>none
def qp:TypeDesc->Bool
 |.string=>true
 |.int _=>true
 |.bool=>true
 |_=>false
def pq(C:eD)(t:TypeId)(l n:Value)(a:Bool)(st:St):Option AR:=
 match C.tt.get t with
 |none=>none
 |some d=>
  match d.desc with
  |.map e f=>
   match C.tt.get e,C.tt.get f with
   |some c,some b=>
    match qp c.desc with
    |false=>none
    |true=>
     match(match l with
      |.map none=>some []
      |.map (some m)=>match st.get m with
       |some (.map es _)=>some es
       |_=>none
      |_=>none:Option (List MapEntry))with
     |none=>none
     |some es=>match qo c.desc n es 0 with
      |none=>none
      |some (some (_,k))=>val (if a then .tuple #[k,.bool true]else k) st
      |some none=>match FJ b.agg b.zero with
       |none=>none
       |some i=>val (if a then .tuple #[i,.bool false]else i) st
   |_,_=>none
  |_=>none
def u2:List MapEntry->Nat->Value->Value->List MapEntry
 |[],_,_,_=>[]
 |e::a,d,b,c=>match d with
  |0=>{e with key:=b,val:=c}::a
  |f+1=>e::u2 a f b c
def jc(C:eD)(t:TypeId)(l f i:Value)(st:St):Option AR:=
 match C.tt.get t,l with
 |some c,.map (some e)=>
  match c.desc with
  |.map d _=>
   match C.tt.get d,st.get e with
   |some b,some (.map es a)=>
    match qp b.desc with
    |false=>none
    |true=>match qo b.desc f es 0 with
     |none=>none
     |some (some (k,_))=>val kX (st.put e (.map (u2 es k f i) a))
     |some none=>val kX (st.put e (.map (es++[{key:=f,val:=i,born:=a}]) (a+1)))
   |_,_=>none
  |_=>none
 |_,_=>none
def iY(C:eD)(e:Value)(t:TypeId)(a:Bool)(st:St):Option AR:=
 match C.tt.get t with
 |none=>none
 |some b=>
  match b.desc with
  |.interface _=>none
  |_=>
   match e with
   |.iface f d=>match Yl f t with
    |true=>val (if a then .tuple #[d,.bool true]else d) st
    |false=>match a,FJ b.agg b.zero with
     |true,some c=>val (.tuple #[c,.bool false]) st
     |_,_=>none
   |.nilIface=>match a,FJ b.agg b.zero with
    |true,some c=>val (.tuple #[c,.bool false]) st
    |_,_=>none
   |_=>none
def oB(b:Value)(d:Nat)(st:St):Option AR:=
 match b with
 |.tuple a=>match nth a.toList d with
  |some c=>val c st
  |none=>none
 |_=>none
def ic(st:St)(es n:Nat):Value->Option (List Value)
 |.slice none _ _=>some []
 |.slice (some ⟨b,o,none⟩) _ _=>gN st b o (n*es)
 |.string a=>some (ofBytes (a.data.toList.take n))
 |_=>none
def p6:Value->Option Nat
 |.slice _ n _=>some n
 |.string a=>some a.data.toList.length
 |_=>none
def eE:Nat:=1099511627776
def gv(st:St)(es:Nat)(a:Option Addr)(len d:Nat)(n:Nat)(xs:List Value):Option AR:=
 match Ym (len+n) d with
 |true=>
  match a with
  |none=>val (.slice none (len+n) d) st
  |some ⟨b,o,none⟩=>
   match xs with
   |[]=>val (.slice a (len+n) d) st
   |_=>match gA st b (o+len*es) xs with
    |some k=>val (.slice a (len+n) d) k
    |none=>none
  |_=>none
 |false=>
  match a with
  |none=>val (.slice (some ⟨st.n,0,none⟩) n n) (st.new (.cells xs es st.n 0))
  |some ⟨b,o,none⟩=>
   match st.get b with
   |some (.cells c l en fo)=>
    match Yl l es,gN st b o (len*es)with
    |true,some old=>
     let e:=st.kill en st.n (fo+o+len*es) (fo+o+(len+n)*es)
     let i:=match e.fm.get en with|some i=>i|none=>if Ym c.length (o+len*es)then [b]else []
     let f:=if Ym c.length (o+len*es)then e else e.put b .dead
     val (.slice (some ⟨st.n,0,none⟩) (len+n) (len+n))
      {hp:=f.hp.set st.n (.cells (old++xs) es en (fo+o)),n:=st.n+1,fm:=f.fm.set en (st.n::i)}
    |_,_=>none
   |_=>none
  |_=>none
def nW(C:eD)(a:List TypeId)(c:List Value)(st:St):Option AR:=
 match a,c with
 |[l,m],[p,o]=>
  match C.tt.get l,C.tt.get m,p with
  |some k,some f,.slice d len i=>
   match k.desc with
   |.slice e=>
    match C.tt.get e with
    |some b=>
     match f.desc with
     |.int _=>none
     |_=>match p6 o with
      |none=>none
      |some n=>match ic st b.size n o with
       |none=>none
       |some xs=>match Yn 0 b.size&&Yl xs.length (n*b.size)&&xs.all gn&&Ym ((len+n)*b.bytes) eE&&Ym (len+n) eE&&Yl b.zero.length b.size with
        |true=>gv st b.size d len i n xs
        |false=>none
    |none=>none
   |_=>none
  |_,_,_=>none
 |_,_=>none
def FK(C:eD)(c:List TypeId)(e:List Value)(st:St):Option AR:=
 match c,e with
 |ts::_,[.slice f a _,src]=>
  match C.tt.get ts with
  |some l=>
   match l.desc with
   |.slice i=>match C.tt.get i,p6 src with
    |some m,some d=>
     match ic st m.size (Nat.min d a) src with
     |some xs=>match f,xs with
      |none,_=>val (.int .i64 (.ofNat (Nat.min d a))) st
      |_,[]=>val (.int .i64 (.ofNat (Nat.min d a))) st
      |some ⟨b,o,none⟩,xs=>match gA st b o xs with
       |some k=>val (.int .i64 (.ofNat (Nat.min d a))) k
       |none=>none
      |_,_=>none
     |none=>none
    |_,_=>none
   |_=>none
  |none=>none
 |_,_=>none
def vK(C:eD)(a:List TypeId)(b:List Value)(st:St):Option AR:=
 match a,b with
 |t::_,d::_=>
  match C.tt.get t with
  |none=>none
  |some c=>
   match c.desc,d with
   |.string,.string e=>val (.int .i64 (.ofNat e.data.toList.length)) st
   |.array n _,_=>val (.int .i64 (.ofNat n)) st
   |.slice _,.slice _ n _=>val (.int .i64 (.ofNat n)) st
   |.map _ _,.map none=>val (.int .i64 (.ofNat 0)) st
   |.map _ _,.map (some f)=>match st.get f with
    |some (.map es _)=>val (.int .i64 (.ofNat es.length)) st
    |_=>none
   |_,_=>none
 |_,_=>none
def lE(c:Bool):Value->List Value->Option Value
 |.int d a,[]=>some (.int d a)
 |.int d a,.int _ b::e=>lE c (.int d (if(match c with|true=>sq a b|false=>sq b a)then b else a)) e
 |_,_=>none
def jp(C:eD)(b:Builtin)(a:List TypeId)(c:List Value)(st:St):Option AR:=
 match b with
 |.append=>nW C a c st
 |.copy=>FK C a c st
 |.len=>vK C a c st
 |.max=>match c with
  |x::e=>match lE true x e with
   |some d=>val d st
   |none=>none
  |[]=>none
 |.min=>match c with
  |x::e=>match lE false x e with
   |some d=>val d st
   |none=>none
  |[]=>none
 |.recover=>some .recover
 |_=>none
def kZ(C:eD)(f:Value)(b:List Value)(st:St):Option AR:=
 match f with
 |.func (.func d) first a=>
  let c:=first.toList++b++a.toList
  match C.ff.get d with
  |some _=>some (.enter d c)
  |none=>match C.ext d c with
   |some e=>val e st
   |none=>none
 |.func (.yield i) first _=>match first.toList with
  |[]=>some (.yield i b)
  |_=>none
 |_=>none
def zL(f:Value)(args:List Value):Option AR:=
 match f with
 |.func (.func b) first a=>some (.defer {target:=.fn (.func b) a,args:=(first.toList++args).toArray})
 |_=>none
def iX(C:eD)(a:Operand->Option Value)(o:Oper)(st:St):Option AR:=
 match o.op with
 |.move f=>match a f with|some d=>val d st|none=>none
 |.assign f=>match a f with|some d=>val d st|none=>none
 |.pick c p b=>match a c,a p,a b with
  |some (.bool e),some k,some d=>val (match e with|true=>k|false=>d) st
  |_,_,_=>none
 |.alloc e=>uZ C e st
 |.box _ f=>match a f with|some d=>It d st|none=>none
 |.build e r=>match lD a r.toList with|some l=>sr C e l st|none=>none
 |.buildSlice e n r=>match lD a r.toList with|some l=>jP C e n l st|none=>none
 |.load e p=>match a p with|some d=>vJ C e d st|none=>none
 |.store e p f=>match a p,a f with|some d,some k=>ir C e d k st|_,_=>none
 |.nilCheck f=>match a f with|some d=>mu d st|none=>none
 |.binOp w e f G _=>match a f,a G with
  |some k,some d=>match Du C w e f G k d with
   |some E=>val E st
   |none=>none
  |_,_=>none
 |.unOp w _ f=>match a f with
  |some k=>match VY w k with
   |some E=>val E st
   |none=>none
  |none=>none
 |.convert I H f=>match a f with|some d=>ib C I H d st|none=>none
 |.makeInterface e f=>match a f with|some d=>hR C e d st|none=>none
 |.makeFunc fn p b=>match SV fn,mr a p.toList,mr a b.toList with
  |true,some k,some d=>val (.func fn k.toArray d.toArray) st
  |_,_,_=>none
 |.makeMap _ none=>val (.map (some st.n)) (st.new (.map [] 0))
 |.makeSlice e l c=>match a l,a c with|some k,some d=>oz C e k d st|_,_=>none
 |.slice e f lo hi F=>match a f,(match lo with|none=>some none|some l=>(a l).map some),(match hi with|none=>some none|some l=>(a l).map some),(match F with|none=>some none|some l=>(a l).map some)with
  |some d,some l,some J,some m=>oA C e d l J m st
  |_,_,_,_=>none
 |.fieldAddr e f s=>match a f with|some d=>gb C e d s st|none=>none
 |.field e f s=>match a f with|some d=>u1 C e d s st|none=>none
 |.indexAddr e f x=>match a f,a x with|some k,some d=>gT C e k d st|_,_=>none
 |.index e f x=>match a f,a x with|some k,some d=>sw C e k d st|_,_=>none
 |.lookup e f x v=>match a f,a x with|some k,some d=>pq C e k d v st|_,_=>none
 |.mapUpdate e m t d=>match a m,a t,a d with|some m,some t,some d=>jc C e m t d st|_,_,_=>none
 |.insert e m t d=>match a m,a t,a d with|some m,some t,some d=>jc C e m t d st|_,_,_=>none
 |.typeAssert f _ e v=>match a f with|some d=>iY C d e v st|none=>none
 |.extract f x=>match a f with|some d=>oB d x st|none=>none
 |.call c=>match mr a c.args.toList with
  |none=>none
  |some i=>match c.callee with
   |.builtin b=>jp C b c.argTypes.toList i st
   |.value s=>match a s with
    |some d=>kZ C d i st
    |none=>none
   |.invoke _ _=>none
 |.defer c=>match mr a c.args.toList,c.callee with
  |some i,.value s=>match a s with
   |some d=>zL d i
   |none=>none
  |_,_=>none
 |.panic f=>match a f with
  |some (.iface e d)=>some (.fO (.iface e d) st)
  |_=>none
 |_=>none
def flat:Value->Bool
 |.bool _=>true
 |.int _ _=>true
 |.string _=>true
 |.pointer none=>true
 |.slice none 0 0=>true
 |.map none=>true
 |.nilFunc=>true
 |.nilIface=>true
 |_=>false
def qq:Value->Bool
 |.agg ⟨a⟩=>a.all flat
 |v=>flat v
structure Rec where
 code:FC->Code->Fr->eT->St->Option (Ex×Fr×eT×St)
 call:FuncId->List Value->Bool->eT->St->Option (CR×eT×St)
 round:Nat->List Value->St->Option (CR×St)
def Qo:Rec:=⟨fun _ _ _ _ _=>none,fun _ _ _ _ _=>none,fun _ _ _=>none⟩
def jq(a:Fr):Operand->Option Value
 |.tmp d=>a.tm.get d
 |.const b=>match qq b with
  |true=>some b
  |false=>none
 |.global _=>none
 |.func c=>some (.func (.func c) #[] #[])
def hS(c:Nat)(a:Fr)(b:Option Tmp)(e:Value):Option Fr:=
 match b with
 |none=>some a
 |some d=>match Yn d c with
  |true=>some {a with tm:=a.tm.set d e}
  |false=>none
inductive yf where
 |next (fr:Fr) (ps:eT) (st:St)
 |fO (v:Value) (fr:Fr) (ps:eT) (st:St)
def yf.go(d:Nat)(e:Fr)(a:Option Tmp)(f:Value)(c:eT)(st:St):Option yf:=
 match hS d e a f with
 |some b=>some (.next b c st)
 |none=>none
def lF(C:eD)(i:Rec)(d:FC)(o:Oper)(b:Fr)(c:eT)(st:St):Option yf:=
 match iX C (jq b) o st with
 |none=>none
 |some (.val f a)=>yf.go d.nt b o.dst f c a
 |some (.fO f a)=>some (.fO f b c a)
 |some (.enter l e)=>match i.call l e false .none st with
  |some (.ret f,_,a)=>yf.go d.nt b o.dst f c a
  |some (.fO f,_,a)=>some (.fO f b c a)
  |none=>none
 |some (.yield m e)=>match i.round m e st with
  |some (.ret f,a)=>yf.go d.nt b o.dst f c a
  |some (.fO f,a)=>some (.fO f b c a)
  |none=>none
 |some .recover=>match d.round with
  |some _=>none
  |none=>match d.BG,c with
   |true,.gu f=>yf.go d.nt b o.dst f .qn st
   |_,_=>yf.go d.nt b o.dst .nilIface c st
 |some (.defer k)=>match d.round with
  |some _=>none
  |none=>yf.go d.nt {b with df:=k::b.df} o.dst kX c st
def hq(c:List Oper)(e:Fr)(o:Oper):Option Bool:=
 match o.guard with
 |none=>some true
 |some (i,a)=>match nth c i with
  |none=>none
  |some d=>match d.dst with
   |none=>none
   |some f=>match e.tm.get f with
    |some (.bool b)=>some (match b,a with|true,true=>true|false,false=>true|_,_=>false)
    |some (.tuple _)=>some false
    |_=>none
def jQ(C:eD)(e:Rec)(d:FC)(c:List Oper)(o:Oper)(a:Fr)(b:eT)(st:St):Option yf:=
 match hq c a o with
 |none=>none
 |some false=>yf.go d.nt a o.dst kX b st
 |some true=>lF C e d o a b st
def oC(C:eD)(e:Rec)(d:FC)(c:List Oper):List Oper->Fr->eT->St->Option (Ex×Fr×eT×St)
 |[],b,a,st=>some (.norm,b,a,st)
 |o::f,b,a,st=>match jQ C e d c o b a st with
  |none=>none
  |some (.next b a st)=>oC C e d c f b a st
  |some (.fO i b a st)=>some (.panic i,b,a,st)
def gH:Op->Bool
 |.assign _|.store .. |.mapUpdate .. |.mapEntry .. |.entryStore .. |.insert .. |.ready _|.next .. |.go _|.defer _|.panic _|.send .. |.recv .. |.select .. =>true
 |.call {callee:=.builtin b,.. }=>match b with
  |.len|.cap|.min|.max=>false
  |_=>true
 |.call _=>true
 |_=>false
def gp:Op->Bool
 |.alloc _|.box .. |.buildSlice .. |.makeMap .. =>true
 |_=>false
def mv(a:List Oper)(b:Nat):Option Oper:=nth a b
def subset(a b:Nat):Bool:=Yl (Nat.land a b) a
def FL:Op->Bool
 |.store .. |.indexAddr .. |.fieldAddr .. =>true
 |_=>false
def chained(a:List Oper)(d:List Nat)(k:Nat):Bool:=
 (Yq k).all fun e=>match nth a e with
  |none=>false
  |some f=> !(gH f.op)||(Yq e).all fun i=>match nth a i with
   |none=>false
   |some c=> !(gH c.op)||(match nth d e with|some b=>Yr b i|none=>false)
def zM(a:List Oper)(d:List Nat)(n c:Nat):Bool:=
 (Yq (n-c)).all fun e=>(match nth d (c+e)with|some b=>subset (2^c-1) b|none=>false)&&(match nth a (c+e)with|some o=>FL o.op&&o.guard.isNone|none=>false)
def NI(a:List Oper)(b:List Nat):Nat->Nat
 |0=>0
 |m+1=>match chained a b (m+1)&&zM a b a.length (m+1)with
  |true=>m+1
  |false=>NI a b m
structure Wj where
 bs:List Nat
 m:Nat
 order:List Nat
def sx{a:Type}(n:Nat)(b:Nat->a):a:=
 match n with
 |0=>b 0
 |m+1=>b (m+1)
def Dv{a:Type}:List Nat->(List Nat->a)->a
 |[],b=>b []
 |x::c,b=>sx x fun x=>Dv c fun c=>b (x::c)
def rowOf(c:List Nat)(o:Oper):Nat:=o.after.toList.foldl (fun d a=>match Region.binds .any a with|true=>Nat.lor (Nat.lor d (2^a.on)) (match nth c a.on with|some b=>b|none=>0)|false=>d) 0
def NJ:List Oper->List Nat->List Nat
 |[],a=>a
 |o::b,a=>Dv (a++[rowOf a o]) fun a=>NJ b a
def NK:List Oper->List Nat->Nat->Nat->Option Nat
 |o::e,b::c,d,a=>match gH o.op with
  |true=>match subset a b with
   |true=>sx (Nat.lor a (2^d)) fun a=>NK e c (d+1) a
   |false=>some d
  |false=>NK e c (d+1) a
 |_,_,_,_=>none
def Kv:List Oper->List Nat->Nat->Nat->List (Nat×Bool×Nat)
 |o::d,b::a,c,n+1=>(c,gH o.op,b)::Kv d a (c+1) n
 |_,_,_,_=>[]
def FM:List (Nat×Bool×Nat)->Option Nat
 |[]=>none
 |(b,true,_)::_=>some b
 |(_,false,_)::a=>FM a
def early(a:Nat):Nat×Bool×Nat->Bool
 |(_,true,_)=>false
 |(_,false,b)=> !(Yr b a)
def Kw:Nat->List (Nat×Bool×Nat)->List Nat
 |0,_=>[]
 |a+1,c=>match FM c with
  |none=>c.map (·.1)
  |some b=>(c.filter (early b)).map (·.1)++b::Kw a (c.filter fun d=> !(Yl d.1 b)&& !(early b d))
def qs(a:List Oper):Wj:=
 Dv (NJ a []) fun c=>
 sx (match NK a c 0 0 with|none=>a.length|some e=>NI a c e) fun d=>
 Dv (Kw (d+1) (Kv a c 0 d)) fun b=>⟨c,d,b⟩
inductive sf where
 |val (i:Nat) (v:Value)
 |obj (i:Nat) (v:Value) (b:Nat) (o:gz)
 |skip (i:Nat)
def Kx(a b:MapEntry):Bool:=mh a.key b.key&&mh a.val b.val&&Yl a.born b.born
def og:List MapEntry->List MapEntry->Bool
 |[],[]=>true
 |a::d,b::c=>Kx a b&&og d c
 |_,_=>false
def sy:gz->gz->Bool
 |.cells c p m k,.cells e i f a=>xv c e&&Yl p i&&Yl m f&&Yl k a
 |.map es o,.map b l=>og es b&&Yl o l
 |.iter n k,.iter d a=>oy n d&&Yl k a
 |_,_=>false
def yg(b:Fr)(a:Option Tmp)(e:Value):Bool:=
 match a with
 |none=>true
 |some c=>match b.tm.get c with
  |some d=>mh d e
  |none=>false
def isSome(a:Option Bool)(b:Bool):Bool:=
 match a,b with
 |some true,true=>true
 |some false,false=>true
 |_,_=>false
def oD(C:eD)(a:List Oper)(b:Fr)(st:St):sf->Bool
 |.val e i=>match nth a e with
  |some o=>isSome (hq a b o) true&& !(gp o.op)&&yg b o.dst i&&(match iX C (jq b) o st with
   |some (.val k l)=>mh k i&&Yl l.n st.n
   |_=>false)
  |none=>false
 |.obj e i d f=>match nth a e with
  |some o=>isSome (hq a b o) true&&gp o.op&&yg b o.dst i&&(match st.get d with
   |some c=>sy c f
   |none=>false)&&(match iX C (jq b) o ⟨.nil,d,.nil⟩with
   |some (.val k l)=>mh k i&&(match l.get d with
    |some c=>sy c f
    |none=>false)
   |_=>false)
  |none=>false
 |.skip e=>match nth a e with
  |some o=>isSome (hq a b o) false&&yg b o.dst kX
  |none=>false
def sf.idx:sf->Nat
 |.val a _=>a
 |.obj a _ _ _=>a
 |.skip a=>a
def nX(C:eD)(a:List Oper)(d:Fr)(st:St)(b:Nat):List sf->Bool
 |[]=>true
 |c::e=>(Yr b c.idx||oD C a d st c)&&nX C a d st b e
def oh(b:List Oper)(a:Tr Value):Tr Value:=
 b.foldl (fun a o=>match o.dst with
  |some c=>match gH o.op with
   |true=>a
   |false=>a.put c none
  |none=>a) a
def fy(C:eD)(l:Rec)(f:FC)(c:List Oper)(m:List Nat):List Nat->Nat->List sf->Fr->eT->St->Option (Ex×Fr×eT×St)
 |[],b,d,a,e,st=>
  match nX C c a st b d with
  |true=>some (.norm,a,e,st)
  |false=>none
 |i::p,b,d,a,e,st=>
  match nth c i,nth m i with
  |some o,some r=>
   match gH o.op with
   |true=>
    match nX C c a st b d with
    |false=>none
    |true=>match jQ C l f c o a e st with
     |none=>none
     |some (.fO n a e st)=>some (.panic n,{a with tm:=oh c a.tm},e,st)
     |some (.next a e st)=>fy C l f c m p r d a e st
   |false=>
    match hq c a o with
    |none=>none
    |some false=>match hS f.nt a o.dst kX with
     |some a=>fy C l f c m p b (.skip i::d) a e st
     |none=>none
    |some true=>match iX C (jq a) o st with
     |some (.val n k)=>match hS f.nt a o.dst n with
      |none=>none
      |some a=>match gp o.op with
       |true=>match k.get st.n with
        |some s=>fy C l f c m p b (.obj i n st.n s::d) a e k
        |none=>none
       |false=>match Yl k.n st.n with
        |true=>fy C l f c m p b (.val i n::d) a e k
        |false=>none
     |_=>none
  |_,_=>none
def apart(st:St)(b a:Nat):Bool:=
 match st.get b,st.get a with
 |some (.cells _ _ f1 _),some (.cells _ _ f2 _)=>
  !(Yl b a)&& !(Yl f1 f2)&&(match st.fm.get f2 with|none=>true|some _=>false)&&(match st.fm.get f1 with|none=>true|some ms=> !(ms.any (Yl a)))
 |_,_=>false
def FN(C:eD)(x:FC)(k s m:Oper)(a:Fr)(w:eT)(st:St):Option (Ex×Fr×eT×St):=
 match k.dst,s.dst,m.dst,s.op,m.op,gH k.op||gp k.op with
 |some E,none,none,.store t1 H v,.store t2 G I,false=>
  match iX C (jq a) k st with
  |some (.val J t)=>match Yl t.n st.n,hS x.nt a (some E) J with
   |true,some b=>match jq b H,jq b v,jq ⟨a.tm.put E none,a.df⟩ G,jq ⟨a.tm.put E none,a.df⟩ I with
    |some (.pointer (some ⟨d,r,none⟩)),some p,some (.pointer (some ⟨i,o,none⟩)),some n=>match apart st d i with
     |false=>none
     |true=>match ir C t1 (.pointer (some ⟨d,r,none⟩)) p st,ir C t2 (.pointer (some ⟨i,o,none⟩)) n st with
      |some (.val _ l),some (.val _ c)=>match iX C (jq a) k c with
       |some (.val F f)=>match mh J F&&Yl f.n c.n with
        |false=>none
        |true=>match ir C t2 (.pointer (some ⟨i,o,none⟩)) n l,ir C t1 (.pointer (some ⟨d,r,none⟩)) p c with
         |some (.val _ e),some (.val _ _)=>some (.norm,b,w,e)
         |_,_=>none
       |_=>none
      |_,_=>none
    |_,_,_,_=>none
   |_,_=>none
  |_=>none
 |_,_,_,_,_,_=>none
def FO(C:eD)(r:FC)(n x f p:Oper)(a:Fr)(I:eT)(st:St):Option (Ex×Fr×eT×St):=
 match n.dst,x.dst,f.dst,p.dst,x.op,f.op,p.op,gH n.op||gp n.op with
 |some d,none,some c,none,.store t1 M H,.fieldAddr K G O,.store t2 L N,false=>
  match Yl d c with
  |true=>none
  |false=>match iX C (jq ⟨a.tm.put c none,a.df⟩) n st,jq ⟨a.tm.put d none,a.df⟩ G with
   |some (.val F E),some P=>match gb C K P O st with
    |some (.val k _)=>match Yl E.n st.n,Yn d r.nt&&Yn c r.nt with
     |true,true=>match jq ⟨(a.tm.put c none).set d F,a.df⟩ M,jq ⟨(a.tm.put c none).set d F,a.df⟩ H,jq ⟨(a.tm.put d none).set c k,a.df⟩ L,jq ⟨(a.tm.put d none).set c k,a.df⟩ N with
      |some (.pointer (some ⟨e,w,none⟩)),some v,some (.pointer (some ⟨m,t,none⟩)),some s=>match apart st e m with
       |false=>none
       |true=>match ir C t1 (.pointer (some ⟨e,w,none⟩)) v st,ir C t2 (.pointer (some ⟨m,t,none⟩)) s st with
        |some (.val _ o),some (.val _ b)=>match iX C (jq ⟨a.tm.put c none,a.df⟩) n b with
         |some (.val J l)=>match mh F J&&Yl l.n b.n with
          |false=>none
          |true=>match ir C t2 (.pointer (some ⟨m,t,none⟩)) s o,ir C t1 (.pointer (some ⟨e,w,none⟩)) v b with
           |some (.val _ i),some (.val _ _)=>some (.norm,⟨(a.tm.set d F).set c k,a.df⟩,I,i)
           |_,_=>none
         |_=>none
        |_,_=>none
      |_,_,_,_=>none
     |_,_=>none
    |_=>none
   |_,_=>none
 |_,_,_,_,_,_,_,_=>none
def region(C:eD)(m:Rec)(e:FC)(a:Array Oper)(l:Bool)(c:Fr)(b:eT)(st:St):Option (Ex×Fr×eT×St):=
 match l with
 |false=>oC C m e a.toList a.toList c b st
 |true=>
  let d:=qs a.toList
  match fy C m e a.toList d.bs d.order 0 [] c b st with
  |some (.norm,c,b,st)=>match Yl d.m a.toList.length with
   |true=>some (.norm,c,b,st)
   |false=>match a.toList.drop d.m,nth d.bs (d.m+1)with
    |[n,k,i],some f=>match Yr f d.m with
     |true=>FN C e n k i c b st
     |false=>none
    |[n,k,p,i],some f=>match Yr f d.m,nth d.bs (d.m+3)with
     |true,some o=>match Yr o (d.m+2)with
      |true=>FO C e n k p i c b st
      |false=>none
     |_,_=>none
    |_,_=>none
  |r=>r
def oE(a:FC)(b:Fr)(params:List Tmp)(assign body:Code)(st:St):Option (Nat×Fr×St):=
 match a.round with
 |some f=>match st.get f with
  |some (.loop d)=>some (st.n,b,st.new (.loop {state:=.ready,pending:=none,fn:=a.fn,tm:=b.tm,nt:=a.nt,params,assign,body,defers:=d.defers}))
  |_=>none
 |none=>
  let e:=st.n
  let c:=st.new (.fg false)
  some (c.n,{b with df:={target:=.collected e,args:= #[]}::b.df},c.new (.loop {state:=.ready,pending:=none,fn:=a.fn,tm:=b.tm,nt:=a.nt,params,assign,body,defers:=e}))
def Dw:Option Code->Option Ex
 |none=>some .norm
 |some .ret=>some .ret
 |some (.exit id)=>some (.exit id)
 |_=>none
def code(C:eD)(f:Rec)(e:FC):Code->Fr->eT->St->Option (Ex×Fr×eT×St)
 |.skip,a,d,st=>some (.norm,a,d,st)
 |.region _ s p,a,d,st=>region C f e s p a d st
 |.seq t b,a,d,st=>match code C f e t a d st with
  |some (.norm,a,d,st)=>code C f e b a d st
  |r=>r
 |.cond c t b,a,d,st=>match jq a c with
  |some (.bool true)=>code C f e t a d st
  |some (.bool false)=>code C f e b a d st
  |_=>none
 |.block id b,a,d,st=>match code C f e b a d st with
  |some (.exit m,a,d,st)=>match Yl m id with
   |true=>some (.norm,a,d,st)
   |false=>some (.exit m,a,d,st)
  |r=>r
 |.loop b,a,d,st=>match code C f e b a d st with
  |some (.norm,a,d,st)=>f.code e (.loop b) a d st
  |r=>r
 |.rangeFunc E l k o,a,d,st=>
  match jq a E,oE e a l.toList k o st with
  |some (.func (.func w) first i),some (v,a,st)=>
   match C.ff.get w with
   |none=>none
   |some _=>match f.call w (first.toList++[.func (.yield v) #[] #[]]++i.toList) false .none st with
    |some (.ret _,_,st)=>match st.get v with
     |some (.loop n)=>match n.state with
      |.busy=>none
      |_=>match Dw n.pending with
       |some F=>some (F,a,d,st.put v (.loop {n with state:=.exhausted}))
       |none=>none
     |_=>none
    |some (.fO x,_,st)=>some (.panic x,a,d,st)
    |none=>none
  |_,_=>none
 |.exit id,a,d,st=>some (.exit id,a,d,st)
 |.ret,a,d,st=>some (.ret,a,d,st)
 |_,_,_,_=>none
inductive Mode where
 |returning
 |panicking (v:Value)
def kg(C:eD)(b:Rec):List Deferred->Mode->St->Option (Mode×St)
 |[],m,st=>some (m,st)
 |d::c,m,st=>
  match d.target with
  |.collected i=>match st.get i with
   |some (.fg false)=>kg C b c m (st.put i (.fg true))
   |_=>none
  |.fn (.func f) a=>
   match C.ff.get f,b.call f (d.args.toList++a.toList) true (match m with|.returning=>.none|.panicking k=>.gu k) st with
   |some _,some (.ret _,e,st)=>kg C b c (match m,e with|.panicking _,.qn=>.returning|m,_=>m) st
   |_,_=>none
  |_=>none
def zN(C:eD)(a:Tr Value)(st:St):ResultVar->Option Value
 |.tmp b=>a.get b
 |.cell c b=>match a.get c with
  |some e=>match vJ C b e st with
   |some (.val d _)=>some d
   |_=>none
  |none=>none
def pr(C:eD)(a:Tr Value)(st:St):List ResultVar->Option (List Value)
 |[]=>some []
 |r::d=>match zN C a st r,pr C a st d with
  |some c,some b=>some (c::b)
  |_,_=>none
def tB:List Value->Value
 |[b]=>b
 |a=>.tuple a.toArray
def finish(C:eD)(d:Rec)(e:FI)(f:Mode)(b:Fr)(a:eT)(st:St):Option (CR×eT×St):=
 match kg C d b.df f st with
 |none=>none
 |some (.panicking i,st)=>some (.fO i,a,st)
 |some (.returning,st)=>match pr C b.tm st e.Qn with
  |some c=>some (.ret (tB c),a,st)
  |none=>none
def vL(C:eD)(e:Rec)(f:FuncId)(c:List Value)(i:Bool)(a:eT)(st:St):Option (CR×eT×St):=
 match C.ff.get f with
 |none=>none
 |some b=>match Ym c.length b.nt with
  |false=>none
  |true=>match code C e ⟨f,b.nt,none,i⟩ b.body ⟨e9 0 c .nil,[]⟩ a st with
   |some (.norm,d,a,st)=>finish C e b .returning d a st
   |some (.ret,d,a,st)=>finish C e b .returning d a st
   |some (.panic k,d,a,st)=>finish C e b (.panicking k) d a st
   |_=>none
def mw:List Tmp->List Value->Nat->Tr Value->Option (Tr Value)
 |[],[],_,a=>some a
 |t::d,e::c,b,a=>match Yn t b with
  |true=>mw d c b (a.set t e)
  |false=>none
 |_,_,_,_=>none
def sA(C:eD)(f:Rec)(l:Nat)(d:List Value)(st:St):Option (CR×St):=
 match st.get l with
 |some (.loop a)=>
  match C.ff.get a.fn,mw a.params d a.nt a.tm with
  |none,_=>none
  |_,none=>none
  |some _,some i=>
   let e:FC:=⟨a.fn,a.nt,some l,false⟩
   match code C f e a.assign ⟨i,[]⟩ .none st with
   |some (.norm,b,_,st)=>match st.get l with
    |some (.loop c)=>match c.state with
     |.ready=>match code C f e a.body b .none (st.put l (.loop {c with state:=.busy}))with
      |some (.norm,b,_,st)=>match st.get l,b.df with
       |some (.loop a),[]=>some (.ret (.bool true),st.put l (.loop {a with state:=.ready,pending:=none}))
       |_,_=>none
      |some (.ret,b,_,st)=>match st.get l,b.df with
       |some (.loop a),[]=>some (.ret (.bool false),st.put l (.loop {a with state:=.done,pending:=some .ret}))
       |_,_=>none
      |some (.exit id,b,_,st)=>match st.get l,b.df with
       |some (.loop a),[]=>some (.ret (.bool false),st.put l (.loop {a with state:=.done,pending:=some (.exit id)}))
       |_,_=>none
      |some (.panic k,b,_,st)=>match b.df with
       |[]=>some (.fO k,st)
       |_=>none
      |none=>none
     |_=>none
    |_=>none
   |_=>none
 |_=>none
def zf(v:Value)(a:eT)(st:St):Option (CR×eT×St):=match v with
 |.agg ⟨[b,.iface c .nilIface]⟩=>some (.ret (.tuple ⟨[b,.iface c (.pointer (some ⟨st.n,0,none⟩))]⟩),a,{st with n:=st.n+1})
 |v=>some (.ret v,a,st)
def jr(C:eD)(b:FuncId->List Value->Option Value):Nat->Rec
 |0=>Qo
 |n+1=>{
   code:=fun f c i d st=>code C (jr C b n) f c i d st
   call:=fun k a e d st=>match e,b k a with
    |false,some l=>zf l d st
    |_,_=>vL C (jr C b n) k a e d st
   round:=fun m a st=>sA C (jr C b n) m a st}
def iF(a:List Oper)(b:Nat):Bool:=match nth a b with|some o=>gH o.op|none=>false
def js(a:List Nat)(d c:Nat):Bool:=match nth a d with|some b=>Yr b c|none=>false
def zg(a:List Oper)(b:List Nat):List Nat->Bool
 |[]=>true
 |e::r=>(!(iF a e)||r.all fun c=>js b c e)&&zg a b r
def tmpsOf:List Operand->List Tmp
 |[]=>[]
 |.tmp b::a=>b::tmpsOf a
 |_::a=>tmpsOf a
def pt(a:List Oper)(o:Oper):List Tmp:=
 tmpsOf o.op.operands.toList++(match o.guard with
  |none=>[]
  |some (d,_)=>match nth a d with
   |some b=>match b.dst with
    |some c=>[c]
    |none=>[]
   |none=>[])
def Ky(a:List Oper)(d:List Nat)(n:Nat):Bool:=
 (Yq n).all fun f=>match nth a f with
  |none=>false
  |some b=>gH b.op||(match b.dst with
   |none=>true
   |some i=>(Yq n).all fun e=>(match nth a e with
    |none=>false
    |some c=> !((pt a c).any (Yl i))||js d e f))
def Dx(a:List Oper):Bool:=
 let c:=qs a
 ((Yq a.length).all fun d=>match nth a d with
  |none=>false
  |some o=>o.after.toList.all fun e=> !(Region.binds .any e)||Yn e.on d)&&
 ((Yq a.length).all fun d=>match nth a d,nth c.bs d with
  |some o,some b=>Yl b (rowOf c.bs o)
  |_,_=>false)&&
 Ym c.m a.length&&((Yq c.m).all fun d=>c.order.any (Yl d))&&(c.order.all fun d=>Yn d c.m)&&Yl c.order.length c.m&&
 zg a c.bs c.order&&Ky a c.bs a.length&&zM a c.bs a.length c.m
def codeOk:Code->Bool
 |.region _ c true=>Dx c.toList
 |.seq a b=>codeOk a&&codeOk b
 |.cond _ a b=>codeOk a&&codeOk b
 |.block _ b=>codeOk b
 |.loop b=>codeOk b
 |.rangeFunc _ _ a b=>codeOk a&&codeOk b
 |_=>true
open Go.RowKit (Below)
theorem Iu(a:Nat):qm a 0=[]:=by cases a<;>rfl
theorem Ly:∀(d a n b:Nat),n<=d->b<=a->qm d n=qm a b->n=b:=by
 intro d;induction d with
 |zero=>
  intro a n b i e c;have:n=0:=om;subst this;cases b with
  |zero=>rfl
  |succ b=>
   cases a with
   |zero=>omega
   |succ a=>simp[qm]at c
 |succ d f=>
  intro a n b i e c;cases n with
  |zero=>
   cases b with
   |zero=>rfl
   |succ b=>
    cases a with
    |zero=>omega
    |succ a=>simp[qm]at c
  |succ n=>
   cases b with
   |zero=>rw[Iu]at c;simp[qm]at c
   |succ b=>
    cases a with
    |zero=>omega
    |succ a=>
     simp only[qm,List.cons.injEq]at c;have l:=f a (n/2) (b/2) om om c.2;have m:(n%2=0)↔(b%2=0):=by
      have k:=c.1;rw[Bool.eq_iff_iff,Nat.beq_eq,Nat.beq_eq]at k;exact k
     omega
theorem NL{n a:Nat}(b:path n=path a):n=a:=Ly n a n a (Nat.le_refl _) (Nat.le_refl _) b
theorem pu{a:Type}(p:List Bool):iE p (Tr.nil:Tr a)=none:=by cases p<;>rfl
theorem vM{a:Type}(o:Option a):∀(c:List Bool) (d:Tr a),iE c (lB o c d)=o:=by
 intro c;induction c with
 |nil=>intro d;cases d<;>rfl
 |cons b c e=>intro d;cases d<;>cases b<;>simp[lB,iE,e]
theorem yQ{f:Type}(o:Option f):∀(e a:List Bool) (d:Tr f),e≠a->iE a (lB o e d)=iE a d:=by
 intro e;induction e with
 |nil=>
  intro a d i;cases a with
  |nil=>exact absurd rfl i
  |cons c a=>cases d<;>cases c<;>simp[lB,iE,pu]
 |cons b e m=>
  intro a d i;cases a with
  |nil=>cases d<;>cases b<;>simp[lB,iE]
  |cons c a=>
   have l:b=c->e≠a:=fun n k=>i (by rw[n,k]);cases d<;>cases b<;>cases c<;>simp_all [lB,iE,pu]
theorem da{a:Type}(t:Tr a)(n b:Nat)(o:Option a):(t.put n o).get b=if b=n then o else t.get b:=by
 unfold Tr.get Tr.put;by_cases c:b=n
 ·subst c;rw[if_pos rfl,vM]
 ·rw[if_neg c,yQ _ _ _ _ (fun d=>c (NL d).symm)]
theorem cF{a:Type}(t:Tr a)(n b:Nat)(c:a):(t.set n c).get b=if b=n then some c else t.get b:=da t n b (some c)
theorem oF{a:Type}(n:Nat):(Tr.nil:Tr a).get n=none:=pu _
theorem cz{d:Type}:∀(b:List d) (a:Nat),nth b a=b[a]?:=by
 intro b;induction b with
 |nil=>intro a;rfl
 |cons e b c=>intro a;cases a<;>simp[nth,c]
theorem pv{f:Type}:∀(c:List f) (b:Nat) (i:Tr f) (a:Nat),(e9 b c i).get a=if b<=a/\a<b+c.length then c[a-b]? else i.get a:=by
 intro c;induction c with
 |nil=>intro b i a;simp only[e9,Yu];rw[if_neg om]
 |cons l c k=>
  intro b i a;simp only[e9,k,cF,Yo];by_cases e:a=b
  ·subst e;rw[if_neg om,if_pos rfl,if_pos om,Nat.sub_self];rfl
  ·by_cases d:b+1<=a/\a<b+1+c.length
   ·rw[if_pos d,if_pos om,show a-b=(a-(b+1))+1 from by omega];rfl
   ·rw[if_neg d,if_neg e,if_neg om]
structure Loc where
 b:Nat
 d:Nat
 es:Nat
 sz:Nat
abbrev Ren:=Nat->Option Loc
def Ren.le(ρ a:Ren):Prop:=∀b c,ρ b=some c->a b=some c
theorem Ren.le_refl(ρ:Ren):ρ.le ρ:=fun _ _ a=>a
theorem Ren.le.trans{d b c:Ren}(f:d.le b)(i:b.le c):d.le c:=fun a e k=>i a e (f a e k)
mutual
inductive dg (ρ:Ren):Value->Value->Prop
 |bool (b:Bool):dg ρ (.bool b) (.bool b)
 |int (k:IntKind) (n:Int):dg ρ (.int k n) (.int k n)
 |string (s:ByteArray):dg ρ (.string s) (.string s)
 |Iv:dg ρ (.pointer none) (.pointer none)
 |ptr {b o:Nat} {l:Loc} (h:ρ b=some l):dg ρ (.pointer (some ⟨b,o,none⟩)) (.pointer (some ⟨l.b,l.d+o,none⟩))
 |lG:dg ρ (.slice none 0 0) (.slice none 0 0)
 |jd (a a':Addr):dg ρ (.slice (some a) 0 0) (.slice (some a') 0 0)
 |slice {b o len cap SW:Nat} {l:Loc} (h:ρ b=some l) (hc:cap<=SW) (hb:l.d+o+SW*l.es<=l.sz):
   dg ρ (.slice (some ⟨b,o,none⟩) len cap) (.slice (some ⟨l.b,l.d+o,none⟩) len SW)
 |Iw:dg ρ (.map none) (.map none)
 |map {r:Nat} {l:Loc} (h:ρ r=some l):dg ρ (.map (some r)) (.map (some l.b))
 |func (f:FuncId) {a a' c c':Array Value} (h1:db ρ a.toList a'.toList) (h2:db ρ c.toList c'.toList):dg ρ (.func (.func f) a c) (.func (.func f) a' c')
 |yield {r:Nat} {l:Loc} {a a' c c':Array Value} (h:ρ r=some l) (h1:db ρ a.toList a'.toList) (h2:db ρ c.toList c'.toList):
   dg ρ (.func (.yield r) a c) (.func (.yield l.b) a' c')
 |nilFunc:dg ρ .nilFunc .nilFunc
 |nilIface:dg ρ .nilIface .nilIface
 |iface (t:TypeId) {v v':Value} (h:dg ρ v v'):dg ρ (.iface t v) (.iface t v')
 |agg {a a':Array Value} (h:db ρ a.toList a'.toList):dg ρ (.agg a) (.agg a')
 |tuple {a a':Array Value} (h:db ρ a.toList a'.toList):dg ρ (.tuple a) (.tuple a')
inductive db (ρ:Ren):List Value->List Value->Prop
 |nil:db ρ [] []
 |cons {v v':Value} {l l':List Value} (h:dg ρ v v') (t:db ρ l l'):db ρ (v::l) (v'::l')
end
mutual
theorem dg.mono{ρ dx:Ren}(hle:ρ.le dx):∀{v v':Value},dg ρ v v'->dg dx v v'
 |_,_,.bool b=>.bool b
 |_,_,.int k n=>.int k n
 |_,_,.string s=>.string s
 |_,_,.Iv=>.Iv
 |_,_,.ptr h=>.ptr (hle _ _ h)
 |_,_,.lG=>.lG
 |_,_,.jd a a'=>.jd a a'
 |_,_,.slice h hc hb=>.slice (hle _ _ h) hc hb
 |_,_,.Iw=>.Iw
 |_,_,.map h=>.map (hle _ _ h)
 |_,_,.func f h1 h2=>.func f (db.mono hle h1) (db.mono hle h2)
 |_,_,.yield h h1 h2=>.yield (hle _ _ h) (db.mono hle h1) (db.mono hle h2)
 |_,_,.nilFunc=>.nilFunc
 |_,_,.nilIface=>.nilIface
 |_,_,.iface t h=>.iface t (dg.mono hle h)
 |_,_,.agg h=>.agg (db.mono hle h)
 |_,_,.tuple h=>.tuple (db.mono hle h)
theorem db.mono{ρ dx:Ren}(hle:ρ.le dx):∀{l l':List Value},db ρ l l'->db dx l l'
 |_,_,.nil=>.nil
 |_,_,.cons h t=>.cons (dg.mono hle h) (db.mono hle t)
end
variable{A:Value}
section vs
variable{ρ:Ren}
theorem db.length{l a:List Value}(b:db ρ l a):l.length=a.length:=by
 induction l generalizing a with
 |nil=>cases b;rfl
 |cons e l c=>cases b with|cons b d=>simp[c d]
theorem db.append{f a c b:List Value}(d:db ρ f a)(i:db ρ c b):db ρ (f++c) (a++b):=by
 induction f generalizing a with
 |nil=>cases d;exact i
 |cons l m e=>cases d with|cons d k=>exact .cons d (e k)
theorem db.get{l c:List Value}(d:db ρ l c){i:Nat}(a:l[i]?=some A):∃b,c[i]?=some b/\dg ρ A b:=by
 induction l generalizing c i with
 |nil=>simp at a
 |cons n l e=>
  cases d with
  |cons d k=>
   cases i with
   |zero=>simp at a;subst a;exact⟨_,by simp,d⟩
   |succ i=>simp at a;obtain⟨b,m,f⟩:=e k a;exact⟨b,by simpa using m,f⟩
theorem vN{l a:List Value}(c:l.length=a.length)(n:∀(d:Nat) (e:Value),l[d]?=some e->∃b,a[d]?=some b/\dg ρ e b):db ρ l a:=by
 induction l generalizing a with
 |nil=>cases a with|nil=>exact .nil|cons _ _=>simp at c
 |cons o l k=>
  cases a with
  |nil=>simp at c
  |cons p a=>
   obtain⟨b,f,i⟩:=n 0 o rfl;simp at f;subst f;refine .cons i (k (by simpa using c) fun d e m=>?_);obtain⟨b,f,i⟩:=n (d+1) e (by simpa using m);exact⟨b,by simpa using f,i⟩
theorem db.take{l a:List Value}(b:db ρ l a)(n:Nat):db ρ (l.take n) (a.take n):=by
 induction l generalizing a n with
 |nil=>cases b;cases n<;>exact .nil
 |cons e l c=>cases b with|cons b d=>cases n with
  |zero=>exact .nil
  |succ n=>exact .cons b (c d n)
theorem db.drop{l a:List Value}(b:db ρ l a)(n:Nat):db ρ (l.drop n) (a.drop n):=by
 induction l generalizing a n with
 |nil=>cases b;cases n<;>exact .nil
 |cons e l c=>cases b with|cons b d=>cases n with
  |zero=>exact .cons b d
  |succ n=>exact c d n
theorem dg.cells{b a:Value}(c:dg ρ b a):db ρ (cellsOf b) a.cells.toList:=by
 cases c<;>first|exact .cons (by constructor<;>assumption) .nil|skip
 all_goals first|assumption|exact .cons (.jd _ _) .nil
theorem dg.gn{b a:Value}(c:dg ρ b a):gn b=gn a:=by
 cases c<;>rfl
end vs
def gL(ρ:Ren)(c:Nat)(b:Tr Value)(e:Array Value):Prop:=
 e.size=c/\∀d f,b.get d=some f->∃a,e[d]?=some a/\dg ρ f a
def ml(ρ:Ren):List MapEntry->List MapEntry->Prop
 |[],[]=>True
 |e::c,a::b=>dg ρ e.key a.key/\dg ρ e.val a.val/\e.born=a.born/\ml ρ c b
 |_,_=>False
structure Qp (ρ:Ren) (al:CK) (lo:Loop):Prop where
 state:lo.state=al.state
 pending:lo.pending=al.pending
 fn:lo.fn=al.fn
 tm:gL ρ al.nt al.tm lo.tmps
 params:lo.params.toList=al.params
 assign:lo.assign=al.assign
 body:lo.body=al.body
 defers:∃l,ρ al.defers=some l/\lo.defers=l.b
 ok:codeOk al.assign=true/\codeOk al.body=true
structure Lz (ρ:Ren) (l:Loc) (c:List Value) (es:Nat) (c':Array Value) (lo hi:Nat):Prop where
 es:l.es=es
 size:c'.size=l.sz
 fits:l.d+c.length<=l.sz
 cell:∀(i:Nat) (v:Value),c[i]?=some v->∃v',c'[l.d+i]?=some v'/\dg ρ v v'
 Ix:∀i,i<l.sz->¬(lo<=i/\i<hi)
def vO(ρ:Ren)(l:Loc)(o:gz)(co:Option Obj):Prop:=
 match o with
 |.cells c es _ _=>∃e d lo hi,co=some (.cells e d (lo,hi))/\Lz ρ l c es e lo hi
 |.map es a=>∃b,co=some (.map b a)/\ml ρ es b.toList
 |.loop f=>∃lo,co=some (.loop lo)/\Qp ρ f lo
 |.fg k=>co=some (.deferred (if k then none else some []))
 |.iter i m=>co=some (.stringIter i m)
 |.dead=>True
def vP(o d:gz)(l a:Loc):Prop:=
 match o,d with
 |.cells _ _ e f,.cells _ _ c b=>e=c/\l.d+b=a.d+f
 |.dead,_=>True
 |_,.dead=>True
 |_,_=>False
def sB(st:St)(b f:Nat):Prop:=
 match st.fm.get f with
 |none=>b=f
 |some a=>b∈a
structure WF (st:St):Prop where
 lt:∀b o,st.get b=some o->b<st.n
 en:∀b c e f p,st.get b=some (.cells c e f p)->f<st.n/\sB st b f
 Kz:∀f ms,st.fm.get f=some ms->f<st.n
structure dD (w0:World) (N0:Nat) (G:Nat->Prop) (ρ:Ren) (st:St) (w:World):Prop where
 wf:WF st
 below:Below N0 w0 w
 CM:N0<=w.heap.size
 Io:∀b,G b->ρ b=none/\b<st.n
 vH:∀b l,ρ b=some l->b<st.n/\N0<=l.b/\l.b<w.heap.size
 obj:∀b l o,ρ b=some l->st.get b=some o->vO ρ l o w.heap[l.b]?
 sep:∀b b' l l' o o',ρ b=some l->ρ b'=some l'->l.b=l'.b->st.get b=some o->st.get b'=some o'->b≠b'->vP o o' l l'
theorem gL.mono{ρ a:Ren}(l:ρ.le a){c:Nat}{b:Tr Value}{i:Array Value}(f:gL ρ c b i):gL a c b i:=
 ⟨f.1,fun m n d=>let⟨e,o,k⟩:=f.2 m n d;⟨e,o,k.mono l⟩⟩
theorem ml.mono{ρ a:Ren}(d:ρ.le a):∀{e b:List MapEntry},ml ρ e b->ml a e b
 |[],[],_=>trivial
 |_::_,_::_,⟨c,i,k,f⟩=>⟨c.mono d,i.mono d,k,ml.mono d f⟩
 |[],_::_,c=>c.elim
 |_::_,[],c=>c.elim
theorem Qp.mono{ρ b:Ren}(d:ρ.le b){c:CK}{lo:Loop}(a:Qp ρ c lo):Qp b c lo:=
 ⟨a.state,a.pending,a.fn,a.tm.mono d,a.params,a.assign,a.body,let⟨i,f,e⟩:=a.defers;⟨i,d _ _ f,e⟩,a.ok⟩
theorem Lz.mono{ρ a:Ren}(k:ρ.le a){l:Loc}{c:List Value}{es:Nat}{d:Array Value}{lo hi:Nat}(b:Lz ρ l c es d lo hi):Lz a l c es d lo hi:=
 ⟨b.es,b.size,b.fits,fun m n e=>let⟨f,o,i⟩:=b.cell m n e;⟨f,o,i.mono k⟩,b.Ix⟩
theorem vO.mono{ρ a:Ren}(m:ρ.le a){l:Loc}{o:gz}{co:Option Obj}(e:vO ρ l o co):vO a l o co:=by
 cases o with
 |cells c es t r=>obtain⟨n,b,lo,hi,f,d⟩:=e;exact⟨n,b,lo,hi,f,d.mono m⟩
 |map es k=>obtain⟨i,f,d⟩:=e;exact⟨i,f,d.mono m⟩
 |loop p=>obtain⟨lo,f,d⟩:=e;exact⟨lo,f,d.mono m⟩
 |fg v=>exact e
 |iter s r=>exact e
 |dead=>trivial
def Ren.add(ρ:Ren)(b:Nat)(l:Loc):Ren:=fun a=>if a=b then some l else ρ a
theorem e1{ρ:Ren}{b:Nat}{l:Loc}(e:ρ b=none):ρ.le (ρ.add b l):=by
 intro d f c;unfold Ren.add;by_cases a:d=b
 ·subst a;rw[e]at c;cases c
 ·rw[if_neg a];exact c
theorem dr(ρ:Ren)(b:Nat)(l:Loc):(ρ.add b l) b=some l:=if_pos rfl
theorem eI(ρ:Ren){b a:Nat}(l:Loc)(c:a≠b):(ρ.add b l) a=ρ a:=if_neg c
theorem dH(st:St)(o:gz)(b:Nat):(st.new o).get b=if b=st.n then some o else st.get b:=cF _ _ _ _
theorem de(st:St)(a:Nat)(o:gz)(b:Nat):(st.put a o).get b=if b=a then some o else st.get b:=cF _ _ _ _
def sC(st:St):gz->Prop
 |.cells _ _ a _=>a=st.n
 |_=>True
theorem WF.new{st:St}(k:WF st){o:gz}(m:sC st o):WF (st.new o):=by
 have i:st.fm.get st.n=none:=by
  cases n:st.fm.get st.n with
  |none=>rfl
  |some e=>exact absurd (k.Kz _ _ n) (Nat.lt_irrefl _)
 refine⟨fun b p a=>?_,fun b c n f r a=>?_,fun f e l=>Ys (k.Kz f e l)⟩
 ·rw[dH]at a;show b<st.n+1;by_cases d:b=st.n
  ·omega
  ·rw[if_neg d]at a;exact Ys (k.lt _ _ a)
 ·rw[dH]at a;show f<st.n+1/\sB (st.new o) b f;by_cases d:b=st.n
  ·rw[if_pos d]at a;cases a;have:f=st.n:=m;subst this;refine⟨Nat.lt_succ_self _,?_⟩;show match st.fm.get st.n with|none=>b=st.n|some e=>b∈e
   rw[i];exact d
  ·rw[if_neg d]at a;have:=k.en _ _ _ _ _ a;exact⟨Ys this.1,this.2⟩
variable{q:Program} {j:TypeId} {g:Nat×Nat}
section
variable{w0:World} {N0:Nat} {G:Nat->Prop} {ρ:Ren} {st:St} {w:World}
theorem dD.ie(b:dD w0 N0 G ρ st w):ρ st.n=none:=by
 cases a:ρ st.n with
 |none=>rfl
 |some c=>exact absurd (b.vH _ _ a).1 (Nat.lt_irrefl _)
theorem dD.new(i:dD w0 N0 G ρ st w){o:gz}{co:Obj}{l:Loc}(H:l.b=w.heap.size)(F:sC st o)(I:vO (ρ.add st.n l) l o (some co)):
  dD w0 N0 G (ρ.add st.n l) (st.new o) {w with heap:=w.heap.push co}:=by
 have C:=e1 (l:=l) i.ie;have c:∀t,t<w.heap.size->(w.heap.push co)[t]?=w.heap[t]?:=fun t E=>by
  rw[Array.getElem?_push,if_neg om]
 refine⟨i.wf.new F,?_,?_,?_,?_,?_,?_⟩
 ·refine i.below.trans ⟨Z,Z,Z,by simp,fun t E=>c t (by have:=i.CM;omega)⟩
 ·show N0<=(w.heap.push co).size;have:=i.CM;simp;omega
 ·intro M K;have:=i.Io M K;exact⟨by rw[eI _ _ om];exact this.1,Ys this.2⟩
 ·intro b n a;show b<st.n+1/\N0<=n.b/\n.b<(w.heap.push co).size;by_cases v:b=st.n
  ·subst v;rw[dr]at a;cases a;have:=i.CM;simp;omega
  ·rw[eI _ _ v]at a;have:=i.vH _ _ a;simp;omega
 ·intro b n J a k;show vO _ n J (w.heap.push co)[n.b]?;rw[dH]at k;by_cases v:b=st.n
  ·subst v;rw[dr]at a;cases a;rw[if_pos rfl]at k;cases k;rw[H,Array.getElem?_push_size];exact I
  ·rw[eI _ _ v]at a;rw[if_neg v]at k;rw[c _ (i.vH _ _ a).2.2];exact(i.obj _ _ _ a k).mono C
 ·intro b x P Q O N e d L s r p;rw[dH]at s r;by_cases m:b=st.n
  ·by_cases f:x=st.n
   ·exact absurd (m.trans f.symm) p
   ·subst m;rw[dr]at e;cases e;rw[eI _ _ f]at d;have:=(i.vH _ _ d).2.2;omega
  ·by_cases f:x=st.n
   ·subst f;rw[dr]at d;cases d;rw[eI _ _ m]at e;have:=(i.vH _ _ e).2.2;omega
   ·rw[eI _ _ m]at e;rw[eI _ _ f]at d;rw[if_neg m]at s;rw[if_neg f]at r;exact i.sep _ _ _ _ _ _ e d L s r p
theorem dD.NM(a:dD w0 N0 G ρ st w){d:World}(c:Below w.heap.size w d):dD w0 N0 G ρ st d:=by
 refine⟨a.wf,a.below.trans (c.mono a.CM),Nat.le_trans a.CM c.size,a.Io,fun b i e=>?_,fun b i o e f=>?_,a.sep⟩
 ·have:=a.vH _ _ e;have:=c.size;omega
 ·rw[c.block _ (a.vH _ _ e).2.2];exact a.obj _ _ _ e f
theorem nY{b o n:Nat}{c:List Value}(d:gN st b o n=some c):
  ∃a es f k,st.get b=some (.cells a es f k)/\o+n<=a.length/\c=(a.drop o).take n:=by
 unfold gN at d;split at d
 ·rename_i a es f k i;split at d
  ·rename_i e;refine⟨a,es,f,k,i,?_,?_⟩
   ·exact Yt e
   ·simpa using d.symm
  ·cases d
 ·cases d
theorem fP{b o n:Nat}{c:List Value}(d:gN st b o n=some c):c.length=n:=by
 obtain⟨e,es,f,i,_,a,rfl⟩:=nY d;simp;omega
theorem run_load{w:World}{a:Addr}(b:w.cell? a=some A):(load a).run q w=.ok A w:=by
 simp[load,Sem.run,b]
theorem b9{k E:Type}{w m:World}{s:Sem k}{F:k}(v:k->Sem E)(a:s.run q w=.ok F m):(s>>=v).run q w=(v F).run q m:=by
 show(s.bind v).run q w=_;induction s generalizing w with
 |pure o=>simp only[Sem.run]at a;cases a;rfl
 |load t e d b=>
  simp only[Sem.bind,Sem.run]at a⊢;cases p:w.cell? e with
  |some r=>rw[p]at a;exact b r a
  |none=>
   rw[p]at a;simp only at a⊢;cases f:w.farLoad q e (t==.atomic)with
   |ok l=>rw[f]at a;exact b l.1 a
   |error o=>rw[f]at a;cases a
 |store t e r d b=>
  cases r with
  |agg o=>simp[Sem.run]at a
  |tuple o=>simp[Sem.run]at a
  |_=>
   simp only[Sem.bind,Sem.run]at a⊢;cases p:w.cell? e with
   |some r=>
    rw[p]at a;simp only at a⊢;split at a
    ·cases a
    ·rename_i C;rw[if_neg C];exact b a
   |none=>
    rw[p]at a;simp only at a⊢;cases f:w.farStore q e _ (t==.atomic)with
    |ok l=>rw[f]at a;exact b a
    |error o=>rw[f]at a;cases a
 |new x d b=>simp only[Sem.bind,Sem.run]at a⊢;exact b _ a
 |shape l d b=>simp only[Sem.bind,Sem.run]at a⊢;exact b _ a
 |freeze e n d b=>simp only[Sem.bind,Sem.run]at a⊢;exact b a
 |frozen e d b=>simp only[Sem.bind,Sem.run]at a⊢;exact b _ a
 |getObj l d b=>
  simp only[Sem.bind,Sem.run]at a⊢;split at a
  ·cases a
  ·exact b _ a
  ·cases a
 |setObj l x d b=>
  simp only[Sem.bind,Sem.run]at a⊢;split at a
  ·cases a
  ·exact b a
  ·cases a
 |choose G d b=>
  simp only[Sem.bind,Sem.run]at a⊢;split at a
  ·rename_i i;rw[if_pos i];exact b _ a
  ·rename_i i;rw[if_neg i];exact b _ a
 |sys c d b=>simp only[Sem.bind,Sem.run]at a⊢;exact b _ a
 |program d b=>simp only[Sem.bind,Sem.run]at a⊢;exact b _ a
 |mark t d b=>simp only[Sem.bind,Sem.run]at a⊢;exact b a
 |halt o=>simp[Sem.run]at a
theorem cell_of{w:World}{b:Nat}{c:Array Value}(d:w.heap[b]?=some (.cells c j g))(a:Nat):w.cell? ⟨b,a,none⟩=c[a]?:=by
 simp[World.cell?,d]
theorem kE(b o n:Nat):(⟨b,o,none⟩:Addr).add n=⟨b,o+n,none⟩:=by
 unfold Addr.add;split
 ·rename_i a;subst a;rfl
 ·rfl
theorem run_loadCellsFrom{P:Program}{w:World}{b o:Nat}{c:Array Value}(m:w.heap[b]?=some (.cells c j g)):
  ∀(n d:Nat) (a:Array Value),o+d+n<=c.size->(loadCellsFrom ⟨b,o,none⟩ d n a).run P w=.ok ⟨a.toList++(c.toList.drop (o+d)).take n⟩ w:=by
 intro n;induction n with
 |zero=>intro d a _;simp[loadCellsFrom,pure]
 |succ n i=>
  intro d a l;have e:o+d<c.size:=om;have k:w.cell? ((⟨b,o,none⟩:Addr).add d)=some c[o+d]:=by rw[kE,cell_of m];exact Yw e
  rw[loadCellsFrom,b9 _ (run_load k),i (d+1) (a.push c[o+d]) om];have f:c.toList.drop (o+d)=c[o+d]::c.toList.drop (o+(d+1)):=by
   rw[List.drop_eq_getElem_cons (by simpa using e)];rfl
  rw[f];simp
theorem run_loadCells{w:World}{b o n:Nat}{c:Array Value}(d:w.heap[b]?=some (.cells c j g))(a:o+n<=c.size):
  (loadCells ⟨b,o,none⟩ n).run q w=.ok ⟨(c.toList.drop o).take n⟩ w:=by
 have:=run_loadCellsFrom (P:=q) (o:=o) d n 0 #[] om;simpa [loadCells]using this
theorem Lz.slice{l:Loc}{c:List Value}{es:Nat}{d:Array Value}{lo hi:Nat}(f:Lz ρ l c es d lo hi){o n:Nat}(i:o+n<=c.length):
  db ρ ((c.drop o).take n) ((d.toList.drop (l.d+o)).take n):=by
 have k:=f.size;have m:=f.fits;refine vN (by simp;omega) fun s t a=>?_;rw[List.getElem?_take]at a⊢;split at a
 ·rename_i b;rw[if_pos b];rw[List.getElem?_drop]at a⊢;obtain⟨e,r,p⟩:=f.cell _ _ a;refine⟨e,?_,p⟩;rw[Array.getElem?_toList,<-r];congr 1;omega
 ·cases a
theorem dD.read(t:dD w0 N0 G ρ st w){b o n:Nat}{c:List Value}{l:Loc}(k:ρ b=some l)(f:gN st b o n=some c)(x:Program):
  ∃a,(loadCells ⟨l.b,l.d+o,none⟩ n).run x w=.ok a w/\db ρ c a.toList:=by
 obtain⟨v,es,C,E,i,d,rfl⟩:=nY f;obtain⟨a,m,lo,hi,r,e⟩:=t.obj _ _ _ k i;have p:=e.size;have s:=e.fits;refine⟨_,run_loadCells r om,?_⟩;exact e.slice d
theorem lH:∀(c:List Value) (n:Nat) (a:List Value),(dU c n a).length=c.length:=by
 intro c;induction c with
 |nil=>intro n a;cases a<;>rfl
 |cons d c b=>
  intro n a;cases a with
  |nil=>rfl
  |cons e a=>cases n<;>simp[dU,b]
theorem nf:∀(c:List Value) (n:Nat) (a:List Value) (b:Nat),n+a.length<=c.length->(dU c n a)[b]?=if n<=b/\b<n+a.length then a[b-n]? else c[b]?:=by
 intro c;induction c with
 |nil=>
  intro n a b e;cases a with
  |nil=>simp only[dU,Yu];rw[if_neg om]
  |cons f a=>simp at e
 |cons i c d=>
  intro n a b e;cases a with
  |nil=>simp only[dU,Yu];rw[if_neg om]
  |cons f a=>
   simp only[Yo]at e⊢;cases n with
   |zero=>
    cases b with
    |zero=>simp[dU]
    |succ b=>
     simp only[dU,Yx];rw[d 0 a b om];by_cases hi:b<a.length
     ·rw[if_pos om,if_pos om];simp
     ·rw[if_neg om,if_neg om]
   |succ n=>
    cases b with
    |zero=>simp[dU]
    |succ b=>
     simp only[dU,Yx];rw[d n (f::a) b (by simp;omega)];simp only[Yo];by_cases hi:n<=b/\b<n+(a.length+1)
     ·rw[if_pos hi,if_pos om,show b+1-(n+1)=b-n from by omega]
     ·rw[if_neg hi,if_neg om]
structure SX (w w':World) (b:Nat) (c:Array Value) (e:TypeId) (fz:Nat×Nat) (o:Nat) (vs:List Value):Prop where
 os:w'.os=w.os
 tape:w'.tape=w.tape
 output:w'.output=w.output
 size:w'.heap.size=w.heap.size
 other:∀k,k≠b->w'.heap[k]?=w.heap[k]?
 here:∃c',w'.heap[b]?=some (.cells c' e fz)/\c'.size=c.size/\∀i:Nat,c'[i]?=if o<=i/\i<o+vs.length then vs[i-o]? else c[i]?
theorem Iy{P:Program}{w:World}{b o:Nat}{v:Value}{c:Array Value}{lo hi:Nat}(l:w.heap[b]?=some (.cells c j (lo,hi)))(f:o<c.size)(d:¬(lo<=o/\o<hi)) 
  (i:gn v=true):(store ⟨b,o,none⟩ v).run P w=.ok () (w.setCell ⟨b,o,none⟩ v):=by
 have k:w.cell? ⟨b,o,none⟩=some c[o]:=by rw[cell_of l];exact Yw f
 have e:w.frozen? ⟨b,o,none⟩=false:=by
  simp only[World.frozen?,l];cases a:(decide (lo<=o)&&decide (o<hi))with
  |false=>rfl
  |true=>simp at a;exact absurd a d
 cases v<;>first|(simp[gn]at i;done)|simp[store,Sem.run,k,e]
theorem Iz{w:World}{b o:Nat}{v:Value}{c:Array Value}(e:w.heap[b]?=some (.cells c j g)):
  (w.setCell ⟨b,o,none⟩ v).heap[b]?=some (.cells (c.setIfInBounds o v) j g)/\(∀a,a≠b->(w.setCell ⟨b,o,none⟩ v).heap[a]?=w.heap[a]?)/\(w.setCell ⟨b,o,none⟩ v).heap.size=w.heap.size:=by
 refine⟨?_,fun a d=>Below.heap_setCell _ _ _ _ d,by simp[World.setCell]⟩;simp only[World.setCell,Array.getElem?_modify,e];simp
theorem sD{P:Program}:∀(d:List Value) (w:World) (b o e:Nat) (c:Array Value) (t:TypeId) (lo hi:Nat),w.heap[b]?=some (.cells c t (lo,hi))->o+e+d.length<=c.size->
  (∀f,o+e<=f->f<o+e+d.length->¬(lo<=f/\f<hi))->(∀l∈d,gn l=true)->
  ∃k,(storeCells ⟨b,o,none⟩ d e).run P w=.ok () k/\SX w k b c t (lo,hi) (o+e) d:=by
 intro d;induction d with
 |nil=>
  intro w b o e c t lo hi v _ _ _;refine⟨w,by simp[storeCells,pure],rfl,rfl,rfl,rfl,fun _ _=>rfl,c,v,rfl,fun f=>?_⟩;simp only[Yu];rw[if_neg om]
 |cons l d L=>
  intro w b o e c t lo hi v s a m;simp only[Yo]at s a;have r:=Iy (P:=P) (v:=l) v (o:=o+e) om (a _ om om) (m l sm);obtain⟨G,C,I⟩:=Iz (o:=o+e) (v:=l) v;obtain⟨k,F,i⟩:=L (w.setCell ⟨b,o+e,none⟩ l) b o (e+1) _ t lo hi G (by simp;omega) (fun f r O=>a f om om) (fun Q H=>m Q (by simp[H]));refine⟨k,?_,?_⟩
  ·rw[storeCells,kE,b9 _ r];exact F
  ·obtain⟨x,J,E,K⟩:=i.here;refine⟨i.os,i.tape,i.output,i.size.trans I,fun N p=>(i.other N p).trans (C N p),x,J,by simpa using E,fun f=>?_⟩;rw[K];simp only[Yo];by_cases M:f=o+e
   ·subst M;rw[if_neg om,if_pos om,Nat.sub_self,Array.getElem?_setIfInBounds_self_of_lt om];rfl
   ·by_cases n:o+(e+1)<=f/\f<o+(e+1)+d.length
    ·rw[if_pos n,if_pos om,show f-(o+e)=(f-(o+(e+1)))+1 from by omega];rfl
    ·rw[if_neg n,if_neg om,Array.getElem?_setIfInBounds_ne om]
end
theorem sE(b lo hi:Nat):∀(e:List Nat) (a:Tr gz),
  (∀d,(eZ b lo hi e a).1.get d=a.get d∨((eZ b lo hi e a).1.get d=some .dead/\d≠b/\∃c p n i,a.get d=some (.cells c p n i)/\overlaps i c.length lo hi=true))/\
  (∀d,d∈e->d≠b->∀c p n i,(eZ b lo hi e a).1.get d=some (.cells c p n i)->overlaps i c.length lo hi=false)/\
  (∀d,d∈e->d∈(eZ b lo hi e a).2∨(eZ b lo hi e a).1.get d=some .dead):=by
 intro e;induction e with
 |nil=>intro a;exact⟨fun _=>.inl rfl,fun _ f=>by simp at f,fun _ f=>by simp at f⟩
 |cons r e L=>
  intro a;have m:∀(K:r≠b->∀c p n i,a.get r=some (.cells c p n i)->overlaps i c.length lo hi=false),
    (∀d,(eZ b lo hi e a).1.get d=a.get d∨((eZ b lo hi e a).1.get d=some .dead/\d≠b/\∃c p n i,a.get d=some (.cells c p n i)/\overlaps i c.length lo hi=true))/\
    (∀d,d∈r::e->d≠b->∀c p n i,(eZ b lo hi e a).1.get d=some (.cells c p n i)->overlaps i c.length lo hi=false)/\
    (∀d,d∈r::e->d∈r::(eZ b lo hi e a).2∨(eZ b lo hi e a).1.get d=some .dead):=by
   intro K;obtain⟨v,C,E⟩:=L a;refine⟨v,fun d hx s c p n i k=>?_,fun d hx=>?_⟩
   ·rcases Yp.1 hx with rfl|hx
    ·rcases v d with f|⟨f,_⟩
     ·exact K s c p n i (f▸k)
     ·rw[f]at k;cases k
    ·exact C d hx s c p n i k
   ·rcases Yp.1 hx with rfl|hx
    ·exact .inl sm
    ·exact(E d hx).imp (fun f=>by simp[f]) id
  unfold eZ;cases w:Yl r b with
  |true=>
   simp only;have:r=b:=Nat.eq_of_beq_eq_true w;exact m fun f=>absurd this f
  |false=>
   have s:r≠b:=Nat.ne_of_beq_eq_false w;simp only;cases k:a.get r with
   |none=>simp only;exact m fun _ c p n i f=>by rw[k]at f;cases f
   |some o=>
    cases o with
    |cells c p n i=>
     simp only;cases H:overlaps i c.length lo hi with
     |false=>
      simp only;exact m fun _ F G J M f=>by rw[k]at f;cases f;exact H
     |true=>
      simp only;obtain⟨v,C,E⟩:=L (a.set r .dead);have l:(eZ b lo hi e (a.set r .dead)).1.get r=some .dead:=by
       rcases v r with f|⟨f,_⟩
       ·rw[f,cF,if_pos rfl]
       ·exact f
      refine⟨fun d=>?_,fun d hx I F G J M t=>?_,fun d hx=>?_⟩
      ·by_cases x:d=r
       ·subst x;exact .inr ⟨l,s,c,p,n,i,k,H⟩
       ·have N:(a.set r .dead).get d=a.get d:=by rw[cF,if_neg x]
        have:=v d;rw[N]at this;exact this
      ·rcases Yp.1 hx with rfl|hx
       ·rw[l]at t;cases t
       ·exact C d hx I F G J M t
      ·rcases Yp.1 hx with rfl|hx
       ·exact .inr l
       ·exact E d hx
    |_=>simp only;exact m fun _ c p n i f=>by rw[k]at f;cases f
variable{y:Nat} {u:List Nat}
section
variable{st:St} {en b lo hi:Nat}
theorem hQ:(st.kill en b lo hi).n=st.n:=by
 unfold St.kill;split<;>rfl
theorem sF(a:Nat):(st.kill en b lo hi).get a=st.get a∨((st.kill en b lo hi).get a=some .dead/\a≠b/\∃c f e d,st.get a=some (.cells c f e d)/\overlaps d c.length lo hi=true):=by
 unfold St.kill;split
 ·exact .inl Z
 ·exact(sE b lo hi _ st.hp).1 a
theorem Dy:(st.kill en b lo hi).get b=st.get b:=by
 rcases sF (st:=st) (en:=en) (b:=b) (lo:=lo) (hi:=hi) b with a|⟨_,a,_⟩
 ·exact a
 ·exact absurd Z a
theorem uK(d:st.fm.get en=some u)(i:y∈u)(e:y≠b){c:List Value}{k f p:Nat} 
  (a:(st.kill en b lo hi).get y=some (.cells c k f p)):overlaps p c.length lo hi=false:=by
 unfold St.kill at a;rw[d]at a;exact(sE b lo hi u st.hp).2.1 y i e c k f p a
theorem jR{o:gz}(c:(st.kill en b lo hi).get y=some o):o=.dead∨st.get y=some o:=by
 rcases sF (st:=st) (en:=en) (b:=b) (lo:=lo) (hi:=hi) y with a|⟨a,_⟩
 ·exact .inr (a▸c)
 ·rw[a]at c;cases c;exact .inl rfl
theorem hz(a:st.fm.get en=none):st.kill en b lo hi=st:=by
 unfold St.kill;rw[a]
theorem ig(a:st.fm.get en=some u):st.kill en b lo hi={st with hp:=(eZ b lo hi u st.hp).1,fm:=st.fm.set en (eZ b lo hi u st.hp).2}:=by
 unfold St.kill;rw[a]
theorem WF.kill(m:WF st):WF (st.kill en b lo hi):=by
 cases a:st.fm.get en with
 |none=>rw[hz a];exact m
 |some n=>
  refine⟨fun s o f=>?_,fun s c r p v f=>?_,fun p t e=>?_⟩
  ·rw[hQ];rcases sF (st:=st) (en:=en) (b:=b) (lo:=lo) (hi:=hi) s with r|⟨_,_,c,k,p,v,r,_⟩
   ·exact m.lt _ _ (r▸f)
   ·exact m.lt _ _ r
  ·rcases jR f with k|k
   ·cases k
   ·have e:=m.en _ _ _ _ _ k;refine⟨by rw[hQ];exact e.1,?_⟩;have i:=e.2;unfold sB at i⊢;rw[ig a]at f⊢;simp only[cF];by_cases d:p=en
    ·subst d;rw[if_pos rfl];rw[a]at i;rcases(sE b lo hi n st.hp).2.2 s i with h1|h1
     ·exact h1
     ·exfalso;have l:(eZ b lo hi n st.hp).1.get s=some (.cells c r p v):=f;rw[h1]at l;cases l
    ·rw[if_neg d];exact i
  ·rw[hQ];rw[ig a]at e;simp only[cF]at e;by_cases d:p=en
   ·subst d;exact m.Kz _ _ a
   ·rw[if_neg d]at e;exact m.Kz _ _ e
theorem sG{fo b lo hi:Nat}(a:overlaps fo b lo hi=false):hi<=fo∨fo+b<=lo:=by
 unfold overlaps at a;rcases Yv fo hi with h1|h1
 ·rcases Yv lo (fo+b)with h2|h2
  ·rw[Nat.blt_eq.mpr h1,Nat.blt_eq.mpr h2]at a;cases a
  ·exact .inr h2
 ·exact .inl h1
theorem WF.zh(e:WF st){c l:List Value}{m f p:Nat}(i:st.get b=some (.cells c m f p)):WF (st.put b (.cells l m f p)):=by
 refine⟨fun k o a=>?_,fun k s r f1 n a=>?_,e.Kz⟩
 ·rw[de]at a;by_cases d:k=b
  ·subst d;exact e.lt _ _ i
  ·rw[if_neg d]at a;exact e.lt _ _ a
 ·rw[de]at a;by_cases d:k=b
  ·subst d;rw[if_pos rfl]at a;cases a;exact e.en _ _ _ _ _ i
  ·rw[if_neg d]at a;exact e.en _ _ _ _ _ a
end
variable{B h:List Value} {D:St}
section
variable{w0:World} {N0:Nat} {G:Nat->Prop} {ρ:Ren} {st:St} {w:World}
theorem db.KA(c:db ρ h B)(b:h.all gn=true):∀d∈B,gn d=true:=by
 induction h generalizing B with
 |nil=>cases c;intro d a;simp at a
 |cons i h e=>
  cases c with
  |cons c f=>
   simp only[List.all_cons,Bool.and_eq_true]at b;intro d a;rcases Yp.1 a with rfl|a
   ·rw[<-c.gn];exact b.1
   ·exact e f b.2 d a
theorem kF{b o:Nat}(d:gA st b o h=some D):
  ∃c es f e,st.get b=some (.cells c es f e)/\o+h.length<=c.length/\h.all gn=true/\
   D=(st.put b (.cells (dU c o h) es f e)).kill f b (e+o) (e+o+h.length):=by
 unfold gA at d;split at d
 ·rename_i c es f e i;split at d
  ·rename_i a;rw[Bool.and_eq_true]at a;exact⟨c,es,f,e,i,Yt a.1,a.2,by simpa using d.symm⟩
  ·cases d
 ·cases d
theorem dD.write(v:dD w0 N0 G ρ st w){b o:Nat}{l:Loc}(K:ρ b=some l)(ak:gA st b o h=some D)(Y:db ρ h B)(ap:Program):
  ∃J,(storeCells ⟨l.b,l.d+o,none⟩ B).run ap w=.ok () J/\dD w0 N0 G ρ D J/\D.n=st.n:=by
 obtain⟨c,es,ag,aC,E,ab,aa,rfl⟩:=kF ak;obtain⟨c',p,lo,hi,q,j⟩:=v.obj _ _ _ K E;have ai:=Y.length;have au:=j.size;have U:=j.fits;obtain⟨J,am,t⟩:=sD (P:=ap) B w l.b (l.d+o) 0 c' p lo hi q om (fun aA h1 h2=>j.Ix aA om) (Y.KA aa);obtain⟨P,z,aj,A⟩:=t.here;have af:=v.vH _ _ K;have an:=v.CM;have ac:=t.size;refine⟨J,am,?_,by rw[hQ];rfl⟩;refine⟨(v.wf.zh E).kill,?_,om,fun N d=>by rw[hQ];exact v.Io N d,?_,?_,?_⟩
 ·exact v.below.trans ⟨t.os,t.tape,t.output,om,fun N d=>t.other N om⟩
 ·intro N T d;rw[hQ];have:=v.vH _ _ d;exact⟨this.1,this.2.1,om⟩
 ·intro N T L d R;rcases jR R with rfl|a
  ·trivial
  ·rw[de]at a;by_cases e:N=b
   ·subst e;rw[if_pos rfl]at a;cases a;rw[K]at d;cases d;refine⟨P,p,lo,hi,z,j.es,om,by rw[lH];exact U,fun g az hi'=>?_,j.Ix⟩;rw[nf _ _ _ _ ab]at hi';rw[A];by_cases n:o<=g/\g<o+h.length
    ·rw[if_pos n]at hi';obtain⟨H,k,m⟩:=Y.get hi';refine⟨H,?_,m⟩;rw[if_pos om,<-k];congr 1;omega
    ·rw[if_neg n]at hi';have X:g<c.length:=by
      rcases Yv g c.length with s|s
      ·exact s
      ·rw[Yy s]at hi';cases hi'
     obtain⟨H,k,m⟩:=j.cell _ _ hi';exact⟨H,by rw[if_neg om];exact k,m⟩
   ·rw[if_neg e]at a;by_cases x:T.b=l.b
    ·have Q:=v.sep _ _ _ _ _ _ K d x.symm E a (fun q=>e q.symm);cases L with
     |dead=>trivial
     |cells y ax aE ay=>
      obtain⟨rfl,ao⟩:=Q;have f:=(v.wf.en _ _ _ _ _ a).2;have i:=(v.wf.en _ _ _ _ _ E).2;unfold sB at f i;cases F:st.fm.get ag with
      |none=>rw[F]at f i;exact absurd (f.trans i.symm) e
      |some ae=>
       rw[F]at f;have S:(st.put b (.cells (dU c o h) es ag aC)).fm.get ag=some ae:=F;have ar:=sG (uK S f e R);obtain⟨aw,ad,av,aq,M,I⟩:=v.obj _ _ _ d a;rw[x,q]at M;cases M;rw[x];refine⟨P,p,lo,hi,z,I.es,by rw[aj];exact I.size,I.fits,fun g az hi'=>?_,I.Ix⟩;have X:g<y.length:=by
        rcases Yv g y.length with s|s
        ·exact s
        ·rw[Yy s]at hi';cases hi'
       obtain⟨H,k,m⟩:=I.cell _ _ hi';refine⟨H,?_,m⟩;rw[A,if_neg om];exact k
     |_=>exact Q.elim
    ·rw[t.other _ x];exact v.obj _ _ _ d a
 ·intro N aD T aB L u d W V al ah C;rcases jR al with rfl|h1
  ·cases u<;>trivial
  ·rcases jR ah with rfl|h2
   ·cases L<;>trivial
   ·rw[de]at h1 h2;by_cases e:N=b
    ·subst e;rw[if_pos rfl]at h1;cases h1;rw[if_neg (fun q=>C q.symm)]at h2;have r:=v.sep _ _ _ _ _ _ d W V E h2 C;cases u<;>exact r
    ·rw[if_neg e]at h1;by_cases O:aD=b
     ·subst O;rw[if_pos rfl]at h2;cases h2;have r:=v.sep _ _ _ _ _ _ d W V h1 E C;cases L<;>exact r
     ·rw[if_neg O]at h2;exact v.sep _ _ _ _ _ _ d W V h1 h2 C
end
section
variable{w0:World} {N0:Nat} {G:Nat->Prop} {ρ:Ren} {st:St} {w:World}
theorem vP.symm{o a:gz}{l b:Loc}(e:vP o a l b):vP a o b l:=by
 cases o<;>cases a<;>first|trivial|exact e|(obtain⟨d,c⟩:=e;exact⟨d.symm,c.symm⟩)
theorem dD.extend(F:dD w0 N0 G ρ st w){eB:St}{w':World}{o:gz}{l:Loc}(V:eB.n=st.n+1)(J:∀n,eB.get n=if n=st.n then some o else st.get n)(K:WF eB) 
  (c:Below N0 w w') (M:N0<=l.b) (L:l.b<w'.heap.size)
  (x:∀n f r,ρ n=some f->st.get n=some r->vO ρ f r w'.heap[f.b]?)
  (C:vO (ρ.add st.n l) l o w'.heap[l.b]?)
  (v:∀n f r,ρ n=some f->st.get n=some r->f.b=l.b->vP r o f l):
  dD w0 N0 G (ρ.add st.n l) eB w':=by
 have N:=e1 (l:=l) F.ie;have O:=F.CM;have R:=c.size;refine⟨K,F.below.trans c,om,fun n P=>by have:=F.Io n P;exact⟨by rw[eI _ _ om];exact this.1,om⟩,?_,?_,?_⟩
 ·intro b Q a;by_cases H:b=st.n
  ·subst H;rw[dr]at a;cases a;exact⟨om,M,L⟩
  ·rw[eI _ _ H]at a;have:=F.vH _ _ a;exact⟨om,om,om⟩
 ·intro b Q U a d;rw[J]at d;by_cases H:b=st.n
  ·subst H;rw[dr]at a;cases a;rw[if_pos rfl]at d;cases d;exact C
  ·rw[eI _ _ H]at a;rw[if_neg H]at d;exact(x _ _ _ a d).mono N
 ·intro b I W X T S p k E m e t;rw[J]at m e;by_cases s:b=st.n
  ·by_cases i:I=st.n
   ·exact absurd (s.trans i.symm) t
   ·subst s;rw[dr]at p;cases p;rw[eI _ _ i]at k;rw[if_pos rfl]at m;cases m;rw[if_neg i]at e;exact(v _ _ _ k e E.symm).symm
  ·rw[eI _ _ s]at p;rw[if_neg s]at m;by_cases i:I=st.n
   ·subst i;rw[dr]at k;cases k;rw[if_pos rfl]at e;cases e;exact v _ _ _ p m E
   ·rw[eI _ _ i]at k;rw[if_neg i]at e;exact F.sep _ _ _ _ _ _ p k E m e t
theorem dD.weaken(c:dD w0 N0 G ρ st w)(k:D.n=st.n)(a:∀l o,D.get l=some o->o=.dead∨st.get l=some o)(e:WF D):dD w0 N0 G ρ D w:=by
 refine⟨e,c.below,c.CM,fun l v=>by rw[k];exact c.Io l v,fun b E C=>by rw[k];exact c.vH b E C,fun b E o C H=>?_,fun b F E I o t p m x s n d=>?_⟩
 ·rcases a _ _ H with rfl|r
  ·trivial
  ·exact c.obj _ _ _ C r
 ·rcases a _ _ s with rfl|f
  ·cases t<;>trivial
  ·rcases a _ _ n with rfl|i
   ·cases o<;>trivial
   ·exact c.sep _ _ _ _ _ _ p m x f i d
theorem WF.NN(e:WF st){b:Nat}(f:b<st.n):WF (st.put b .dead):=by
 refine⟨fun d o a=>?_,fun d l k f1 i a=>?_,e.Kz⟩
 ·rw[de]at a;by_cases c:d=b
  ·subst c;exact f
  ·rw[if_neg c]at a;exact e.lt _ _ a
 ·rw[de]at a;by_cases c:d=b
  ·subst c;rw[if_pos rfl]at a;cases a
  ·rw[if_neg c]at a;exact e.en _ _ _ _ _ a
def grown(st:St)(es en fo b o len n:Nat)(c old xs:List Value):St:=
 let a:=st.kill en st.n (fo+o+len*es) (fo+o+(len+n)*es)
 let e:=match a.fm.get en with|some e=>e|none=>if Ym c.length (o+len*es)then [b]else []
 let d:=if Ym c.length (o+len*es)then a else a.put b .dead
 {hp:=d.hp.set st.n (.cells (old++xs) es en (fo+o)),n:=st.n+1,fm:=d.fm.set en (st.n::e)}
def iJ(st:St)(es en fo b o len n:Nat)(c:List Value):St:=
 let a:=st.kill en st.n (fo+o+len*es) (fo+o+(len+n)*es)
 if Ym c.length (o+len*es)then a else a.put b .dead
variable{es en fo b o len n:Nat} {c old xs:List Value}
theorem oG:(iJ st es en fo b o len n c).n=st.n:=by
 unfold iJ;dsimp only;split
 ·exact hQ
 ·exact hQ (st:=st)
theorem jS{d:gz}(a:(iJ st es en fo b o len n c).get y=some d):d=.dead∨st.get y=some d:=by
 unfold iJ at a;dsimp only at a;split at a
 ·exact jR a
 ·rw[de]at a;split at a
  ·cases a;exact .inl rfl
  ·exact jR a
theorem CN(d:WF st)(a:b<st.n):WF (iJ st es en fo b o len n c):=by
 unfold iJ;dsimp only;split
 ·exact d.kill
 ·exact d.kill.NN (by rw[hQ];exact a)
theorem Dz(t:WF st)(r:st.get b=some (.cells c es en fo)){p l:Nat} 
  (a:(iJ st es en fo b o len n c).get y=some (.cells h p en l)):fo+o+(len+n)*es<=l∨l+h.length<=fo+o+len*es:=by
 have d:=(jS a).resolve_left (by intro x;cases x);have v:=t.lt _ _ d;have k:=(t.en _ _ _ _ _ d).2;have f:=(t.en _ _ _ _ _ r).2;unfold sB at k f;by_cases i:y=b
 ·subst i;rw[r]at d;cases d;unfold iJ at a;dsimp only at a;split at a
  ·rename_i s;have:=Yt s;exact .inr om
  ·rw[de,if_pos rfl]at a;cases a
 ·cases e:st.fm.get en with
  |none=>rw[e]at k f;exact absurd (k.trans f.symm) i
  |some w=>
   rw[e]at k;have m:(st.kill en st.n (fo+o+len*es) (fo+o+(len+n)*es)).get y=some (.cells h p en l):=by
    unfold iJ at a;dsimp only at a;split at a
    ·exact a
    ·rw[de,if_neg i]at a;exact a
   exact sG (uK e k om m)
theorem kh(a:Nat):(grown st es en fo b o len n c old xs).get a=if a=st.n then some (.cells (old++xs) es en (fo+o))else(iJ st es en fo b o len n c).get a:=by
 unfold grown iJ St.get;dsimp only;rw[cF]
theorem vQ(J:WF st)(C:st.get b=some (.cells c es en fo)):WF (grown st es en fo b o len n c old xs):=by
 have I:=J.lt _ _ C;have t:=CN (es:=es) (en:=en) (fo:=fo) (o:=o) (len:=len) (n:=n) (c:=c) J I;have v:=J.en _ _ _ _ _ C;refine⟨fun w K a=>?_,fun w L N f1 M a=>?_,fun s f e=>?_⟩
 ·show w<st.n+1;rw[kh]at a;by_cases H:w=st.n
  ·omega
  ·rw[if_neg H]at a;have:=t.lt _ _ a;rw[oG]at this;omega
 ·show f1<st.n+1/\sB _ w f1;rw[kh]at a;have l:(iJ st es en fo b o len n c).fm=(st.kill en st.n (fo+o+len*es) (fo+o+(len+n)*es)).fm:=by
   unfold iJ;dsimp only;split<;>rfl
  have m:∀s,(grown st es en fo b o len n c old xs).fm.get s=if s=en then some (st.n::(match(st.kill en st.n (fo+o+len*es) (fo+o+(len+n)*es)).fm.get en with|some f=>f|none=>if Ym c.length (o+len*es)then [b]else []))else(iJ st es en fo b o len n c).fm.get s:=by
   intro s;rw[l];unfold grown;dsimp only;rw[cF];split
   ·rfl
   ·split<;>rfl
  by_cases H:w=st.n
  ·subst H;rw[if_pos rfl]at a;cases a;refine⟨om,?_⟩;unfold sB;rw[m,if_pos rfl];simp
  ·rw[if_neg H]at a;have F:=t.en _ _ _ _ _ a;rw[oG]at F;refine⟨om,?_⟩;have d:=F.2;unfold sB at d⊢;rw[m];by_cases i:f1=en
   ·subst i;rw[if_pos rfl];rw[l]at d;refine Yp.2 (.inr ?_);cases k:(st.kill f1 st.n (fo+o+len*es) (fo+o+(len+n)*es)).fm.get f1 with
    |some f=>rw[k]at d;exact d
    |none=>
     rw[k]at d;have r:st.fm.get f1=none:=by
      cases G:st.fm.get f1 with
      |none=>rfl
      |some f=>rw[ig G]at k;simp only[cF]at k;simp at k
     have x:b=f1:=by have:=v.2;unfold sB at this;rw[r]at this;exact this
     have E:w=b:=by rw[x];exact d
     subst E;dsimp only;unfold iJ at a;dsimp only at a;split at a
     ·rename_i p;rw[if_pos p];simp
     ·rw[de,if_pos rfl]at a;cases a
   ·rw[if_neg i];exact d
 ·show s<st.n+1;unfold grown at e;dsimp only at e;rw[cF]at e;by_cases i:s=en
  ·subst i;omega
  ·rw[if_neg i]at e;have:s<(iJ st es en fo b o len n c).n:=by
    refine t.Kz s f ?_;unfold iJ;dsimp only;split<;>(rename_i p;simp only[p]at e;exact e)
   rw[oG]at this;omega
end
end Go.AM
