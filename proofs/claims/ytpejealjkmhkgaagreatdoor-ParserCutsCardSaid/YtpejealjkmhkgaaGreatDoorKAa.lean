/- Part of the proof. -/
import Derived.Calls
set_option linter.all false
set_option maxHeartbeats 16000000
set_option maxRecDepth 100000
open Nat renaming beq->YL,ble->YM,blt->YN
namespace Go.AM
variable{g:Prop}
theorem om(a:g:=by omega):g:=a
theorem dc(a:g:=by decide):g:=a
theorem sm(a:g:=by simp):g:=a
theorem tv:True:=trivial
theorem Z.{c}{a:Sort c}{b:a}:b=b:=rfl
inductive Tr (α:Type)where
 |nil
 |node (v:Option α) (l r:Tr α)
def fT:Nat->Nat->List Bool
 |0,_=>[]
 |k+1,a=>match a with
  |0=>[]
  |m+1=>(YL (m%2) 0)::fT k (m/2)
def path(n:Nat):List Bool:=fT n n
def hV{a:Type}:List Bool->Tr a->Option a
 |_,.nil=>none
 |[],.node e _ _=>e
 |b::c,.node _ f d=>match b with
  |true=>hV c f
  |false=>hV c d
def kN{a:Type}(o:Option a):List Bool->Tr a->Tr a
 |[],.nil=>.node o .nil .nil
 |[],.node _ e d=>.node o e d
 |b::c,.nil=>match b with
  |true=>.node none (kN o c .nil) .nil
  |false=>.node none .nil (kN o c .nil)
 |b::c,.node f e d=>match b with
  |true=>.node f (kN o c e) d
  |false=>.node f e (kN o c d)
def Tr.get{a:Type}(t:Tr a)(n:Nat):Option a:=hV (path n) t
def Tr.put{a:Type}(t:Tr a)(n:Nat)(o:Option a):Tr a:=kN o (path n) t
def Tr.set{a:Type}(t:Tr a)(n:Nat)(b:a):Tr a:=t.put n (some b)
def eD{a:Type}:Nat->List a->Tr a->Tr a
 |_,[],b=>b
 |i,c::d,b=>eD (i+1) d (b.set i c)
structure Cs where
 state:LoopState
 pending:Option Code
 fn:FuncId
 tm:Tr Value
 nt:Nat
 params:List Tmp
 assign:Code
 body:Code
 defers:Nat
inductive fH where
 |cells (c:List Value) (es dS fo:Nat)
 |map (entries:List MapEntry) (clock:Nat)
 |loop (l:Cs)
 |eG (taken:Bool)
 |iter (s:ByteArray) (pos:Nat)
 |dead
structure St where
 hp:Tr fH
 n:Nat
 fm:Tr (List Nat)
structure Fr where
 tm:Tr Value
 df:List Deferred
structure FC where
 fn:FuncId
 nt:Nat
 round:Option Nat
 BA:Bool
inductive ec where
 |none
 |fu (v:Value)
 |pG
inductive Ex where
 |norm
 |exit (id:Nat)
 |ret
 |panic (v:Value)
inductive CR where
 |ret (v:Value)
 |eE (v:Value)
inductive AR where
 |val (v:Value) (st:St)
 |eE (v:Value) (st:St)
 |enter (f:FuncId) (args:List Value)
 |yield (l:Nat) (args:List Value)
 |recover
 |defer (d:Deferred)
structure TI where
 desc:TypeDesc
 size:Nat
 agg:Bool
 zero:List Value
 bytes:Nat
structure FI where
 nt:Nat
 body:Code
 Ro:List ResultVar
structure dU where
 P:Program
 tt:Tr TI
 ff:Tr FI
 ext:FuncId->List Value->Option Value
def ec.isNone:ec->Bool|.none=>true|_=>false
def St.new(st:St)(o:fH):St:={st with hp:=st.hp.set st.n o,n:=st.n+1}
def St.put(st:St)(b:Nat)(o:fH):St:={st with hp:=st.hp.set b o}
def St.get(st:St)(b:Nat):Option fH:=st.hp.get b
def overlaps(fo b lo a:Nat):Bool:=YN fo a&&YN lo (fo+b)
def ep(b lo c:Nat):List Nat->Tr fH->Tr fH×List Nat
 |[],a=>(a,[])
 |m::d,a=>
  match YL m b with
  |true=>let e:=ep b lo c d a;(e.1,m::e.2)
  |false=>
   match a.get m with
   |some (.cells h _ _ f)=>
    match overlaps f h.length lo c with
    |true=>ep b lo c d (a.set m .dead)
    |false=>let e:=ep b lo c d a;(e.1,m::e.2)
   |_=>let e:=ep b lo c d a;(e.1,m::e.2)
def St.kill(st:St)(dS b lo c:Nat):St:=
 match st.fm.get dS with
 |none=>st
 |some a=>let d:=ep b lo c a st.hp;{st with hp:=d.1,fm:=st.fm.set dS d.2}
def dw:List Value->Nat->List Value->List Value
 |c,_,[]=>c
 |[],_,_::_=>[]
 |x::c,d,b::a=>match d with
  |0=>b::dw c 0 a
  |m+1=>x::dw c m (b::a)
def fY(st:St)(b o n:Nat):Option (List Value):=
 match st.get b with
 |some (.cells a _ _ _)=>match YM (o+n) a.length with
  |true=>some ((a.drop o).take n)
  |false=>none
 |_=>none
def fs:Value->Bool
 |.agg _|.tuple _=>false
 |_=>true
def fI(st:St)(b o:Nat)(a:List Value):Option St:=
 match st.get b with
 |some (.cells f e c d)=>match YM (o+a.length) f.length&&a.all fs with
  |true=>some ((st.put b (.cells (dw f o a) e c d)).kill c b (d+o) (d+o+a.length))
  |false=>none
 |_=>none
def newRow(st:St)(es:Nat)(c:List Value):Nat×St:=(st.n,st.new (.cells c es st.n 0))
def Fi(a:Bool)(c:List Value):Option Value:=
 match a with
 |true=>some (.agg c.toArray)
 |false=>match c with
  |[b]=>some b
  |_=>none
def cellsOf:Value->List Value
 |.agg a=>a.toList
 |v=>[v]
def kP:List UInt8->List UInt8->Bool
 |[],[]=>true
 |a::c,d::b=>match YL a.toNat d.toNat with
  |true=>kP c b
  |false=>false
 |_,_=>false
def cB:List UInt8->List UInt8->Bool
 |_,[]=>false
 |[],_::_=>true
 |a::d,b::c=>match YN a.toNat b.toNat with
  |true=>true
  |false=>match YL a.toNat b.toNat with
   |true=>cB d c
   |false=>false
def nC(a b:ByteArray):Bool:=kP a.data.toList b.data.toList
def Ct(a b:ByteArray):Bool:=cB a.data.toList b.data.toList
def H3(a b:ByteArray):ByteArray:=⟨⟨a.data.toList++b.data.toList⟩⟩
def H4(b:ByteArray)(l a:Nat):ByteArray:=⟨⟨(b.data.toList.take a).drop l⟩⟩
def oy:Int->Int->Bool
 |.ofNat a,.ofNat b=>YL a b
 |.negSucc a,.negSucc b=>YL a b
 |_,_=>false
def rO:IntKind->IntKind->Bool
 |.i8,.i8|.i16,.i16|.i32,.i32|.i64,.i64|.u8,.u8|.u16,.u16|.u32,.u32|.u64,.u64=>true
 |_,_=>false
def addrEq(a b:Addr):Bool:=YL a.block b.block&&YL a.off b.off&&(match a.spot,b.spot with|none,none=>true|_,_=>false)
def Oe:Fn->Fn->Bool
 |.func b,.func a=>YL b a
 |.yield b,.yield a=>YL b a
 |_,_=>false
mutual
def lp:Value->Value->Bool
 |.bool a,.bool b=>a==b
 |.int k a,.int k' b=>rO k k'&&oy a b
 |.string a,.string b=>nC a b
 |.pointer none,.pointer none=>true
 |.pointer (some a),.pointer (some b)=>addrEq a b
 |.slice none l c,.slice none l' c'=>YL l l'&&YL c c'
 |.slice (some a) l c,.slice (some b) l' c'=>addrEq a b&&YL l l'&&YL c c'
 |.map none,.map none=>true
 |.map (some a),.map (some b)=>YL a b
 |.func f ⟨a⟩ ⟨b⟩,.func f' ⟨a'⟩ ⟨b'⟩=>Oe f f'&&xh a a'&&xh b b'
 |.nilFunc,.nilFunc=>true
 |.nilIface,.nilIface=>true
 |.iface t v,.iface t' v'=>YL t t'&&lp v v'
 |.agg ⟨a⟩,.agg ⟨b⟩=>xh a b
 |.tuple ⟨a⟩,.tuple ⟨b⟩=>xh a b
 |_,_=>false
def xh:List Value->List Value->Bool
 |[],[]=>true
 |a::x,b::y=>lp a b&&xh x y
 |_,_=>false
end
def nth{a:Type}:List a->Nat->Option a
 |[],_=>none
 |x::b,c=>match c with
  |0=>some x
  |m+1=>nth b m
def rP:Int->Int->Bool
 |.ofNat a,.ofNat b=>YN a b
 |.negSucc a,.negSucc b=>YN b a
 |.negSucc _,.ofNat _=>true
 |.ofNat _,.negSucc _=>false
def tR(a:List Value):Nat->List Value
 |0=>[]
 |n+1=>a++tR a n
def oz(a:Nat->Option (Nat×Nat)):List Value->List (Nat×Value)->Option (List Value)
 |cells,[]=>some cells
 |cells,(f,e)::d=>
  match a f with
  |none=>none
  |some (c,b)=>
   match YL (cellsOf e).length b&&YM (c+b) cells.length with
   |true=>oz a (dw cells c (cellsOf e)) d
   |false=>none
def kQ(a:Operand->Option Value):List (Nat×Operand)->Option (List (Nat×Value))
 |[]=>some []
 |(d,b)::c=>match a b,kQ a c with
  |some e,some f=>some ((d,e)::f)
  |_,_=>none
def lD(a:Operand->Option Value):List Operand->Option (List Value)
 |[]=>some []
 |x::c=>match a x,lD a c with
  |some b,some d=>some (b::d)
  |_,_=>none
def val(a:Value)(st:St):Option AR:=some (.val a st)
def ptr(b o:Nat):Value:=.pointer (some ⟨b,o,none⟩)
def kn:Value:=.tuple #[]
def uG(C:dU)(t:TypeId)(st:St):Option AR:=
 match C.tt.get t with
 |some a=>val (ptr st.n 0) (st.new (.cells a.zero a.size st.n 0))
 |none=>none
def H5(a:Value)(st:St):Option AR:=
 match(cellsOf a).all fs with
 |true=>val (ptr st.n 0) (st.new (.cells (cellsOf a) (cellsOf a).length st.n 0))
 |false=>none
def gC(C:dU)(a:Array Field)(d:Nat):Option (Nat×Nat):=
 match nth a.toList d with
 |some c=>match C.tt.get c.type with
  |some b=>some (c.offset,b.size)
  |none=>none
 |none=>none
def rQ(C:dU)(t:TypeId)(d:List (Nat×Value))(st:St):Option AR:=
 match C.tt.get t with
 |some b=>
  match b.desc with
  |.struct a=>
   match(a.toList.all fun h=>(C.tt.get h.type).isSome),b.agg,oz (gC C a) b.zero d with
   |true,true,some f=>val (.agg f.toArray) st
   |_,_,_=>none
  |.array _ c=>
   match C.tt.get c,b.agg with
   |some e,true=>match oz (fun i=>some (i*e.size,e.size)) b.zero d with
    |some f=>val (.agg f.toArray) st
    |none=>none
   |_,_=>none
  |_=>none
 |none=>none
def jh(C:dU)(t:TypeId)(len:Nat)(d:List (Nat×Value))(st:St):Option AR:=
 match C.tt.get t with
 |some c=>
  match c.desc with
  |.slice b=>
   match C.tt.get b with
   |some a=>
    match YN 0 a.size&&YM (len*a.size) 16777216&&YL a.zero.length a.size,oz (fun f=>some (f*a.size,a.size)) (tR a.zero len) d with
    |true,some e=>match e.all fs with
     |true=>val (.slice (some ⟨st.n,0,none⟩) len len) (st.new (.cells e a.size st.n 0))
     |false=>none
    |_,_=>none
   |none=>none
  |_=>none
 |none=>none
def vv(C:dU)(t:TypeId)(d:Value)(st:St):Option AR:=
 match C.tt.get t,d with
 |some a,.pointer (some ⟨b,f,none⟩)=>
  match a.agg||YL a.size 1,fY st b f a.size with
  |true,some c=>match Fi a.agg c with
   |some e=>val e st
   |none=>none
  |_,_=>none
 |_,_=>none
def hH(C:dU)(t:TypeId)(e c:Value)(st:St):Option AR:=
 match C.tt.get t,e with
 |some b,.pointer (some ⟨d,f,none⟩)=>
  match YL (cellsOf c).length b.size with
  |true=>match fI st d f (cellsOf c)with
   |some a=>val kn a
   |none=>none
  |false=>none
 |_,_=>none
def lE(a:Value)(st:St):Option AR:=
 match a with
 |.pointer (some _)=>val a st
 |.iface _ _=>val a st
 |.func (.func _) _ _=>val a st
 |.func (.yield _) _ _=>val a st
 |_=>none
def io:TypeDesc->Value->Value->Option Bool
 |.bool,.bool a,.bool b=>some (a==b)
 |.int _,.int d a,.int c b=>match rO d c with
  |true=>some (oy a b)
  |false=>none
 |.string,.string a,.string b=>some (nC a b)
 |_,_,_=>none
def rR(C:dU)(xs b:List Value):List Field->Option Bool
 |[]=>some true
 |f::c=>match f.name== "_" with
  |true=>none
  |false=>match C.tt.get f.type,nth xs f.offset,nth b f.offset with
   |some a,some e,some d=>match a.agg with
    |true=>none
    |false=>match io a.desc e d with
     |some true=>rR C xs b c
     |some false=>some false
     |none=>none
   |_,_,_=>none
def jH:Operand->Bool
 |.const _=>true
 |_=>false
def Lz(C:dU)(t:TypeId)(p o:Operand)(k b:Value):Option Bool:=
 match C.tt.get t with
 |none=>none
 |some e=>
  match e.desc,k,b with
  |.pointer _,.pointer none,.pointer c=>some c.isNone
  |.pointer _,.pointer _,.pointer none=>some false
  |.pointer r,.pointer (some q),.pointer (some c)=>
   match C.tt.get r,q,c with
   |some f,⟨m,h,none⟩,⟨n,l,none⟩=>match YN 0 f.size&&YL m n with
    |true=>some (YL h l)
    |false=>none
   |_,_,_=>none
  |.interface _,.nilIface,.nilIface=>match jH p||jH o with
   |true=>some true
   |false=>none
  |.interface _,.nilIface,.iface _ _=>some false
  |.interface _,.iface _ _,.nilIface=>some false
  |.struct a,.agg j,.agg i=>match e.bytes with
   |_=>match C.P.eqGuardType C.P.depth t||C.P.stoodInHeld t with
    |true=>none
    |false=>rR C j.toList i.toList a.toList
  |.slice _,.slice none _ _,.slice c _ _=>some c.isNone
  |.slice _,.slice _ _ _,.slice none _ _=>some false
  |.map _ _,.map none,.map c=>some c.isNone
  |.map _ _,.map _,.map none=>some false
  |.func _ _ _,.nilFunc,.nilFunc=>some true
  |.func _ _ _,.nilFunc,.func _ _ _=>some false
  |.func _ _ _,.func _ _ _,.nilFunc=>some false
  |d,k,b=>io d k b
def rS(d:BinOp)(a:IntKind)(c b:Int):Option Value:=
 match d with
 |.add=>some (.int a (a.wrap (c+b)))
 |.sub=>some (.int a (a.wrap (c-b)))
 |.mul=>some (.int a (a.wrap (c*b)))
 |.quo=>match oy b 0 with|true=>none|false=>some (.int a (a.wrap (c.tdiv b)))
 |.rem=>match oy b 0 with|true=>none|false=>some (.int a (c.tmod b))
 |.and=>some (.int a (a.wrap (BitVec.ofInt a.bits c&&&BitVec.ofInt a.bits b).toNat))
 |.or=>some (.int a (a.wrap (BitVec.ofInt a.bits c|||BitVec.ofInt a.bits b).toNat))
 |.xor=>some (.int a (a.wrap (BitVec.ofInt a.bits c^^^BitVec.ofInt a.bits b).toNat))
 |.andNot=>some (.int a (a.wrap (BitVec.ofInt a.bits c&&& ~~~ BitVec.ofInt a.bits b).toNat))
 |.eql=>some (.bool (oy c b))
 |.neq=>some (.bool (!(oy c b)))
 |.lss=>some (.bool (rP c b))
 |.leq=>some (.bool (!(rP b c)))
 |.gtr=>some (.bool (rP b c))
 |.geq=>some (.bool (!(rP c b)))
 |_=>none
def rT(c:BinOp)(a:IntKind)(d:Int)(b:Int):Option Value:=
 match b with
 |.ofNat e=>match c with
  |.shl=>some (.int a (a.wrap (d*2^(min e a.bits))))
  |.shr=>some (.int a (d.fdiv (2^(min e a.bits))))
  |_=>none
 |_=>none
def zd:BinOp->Bool
 |.shl=>true
 |.shr=>true
 |_=>false
def uH(c:BinOp)(a b:ByteArray):Option Value:=
 match c with
 |.add=>match YM (a.data.toList.length+b.data.toList.length) 1099511627776 with
  |true=>some (.string (H3 a b))
  |false=>none
 |.eql=>some (.bool (nC a b))
 |.neq=>some (.bool (!(nC a b)))
 |.lss=>some (.bool (Ct a b))
 |.leq=>some (.bool (Ct a b||nC a b))
 |.gtr=>some (.bool (!(Ct a b||nC a b)))
 |.geq=>some (.bool (!(Ct a b)))
 |_=>none
def Dl(C:dU)(c:BinOp)(t:TypeId)(j i:Operand)(a b:Value):Option Value:=
 match a,b with
 |.int f e,.int h d=>match zd c with
  |true=>rT c f e d
  |false=>match rO f h with
   |true=>rS c f e d
   |false=>none
 |.string e,.string d=>uH c e d
 |a,b=>match c with
  |.eql=>(Lz C t j i a b).map .bool
  |.neq=>(Lz C t j i a b).map fun k=>.bool (!k)
  |_=>none
def WC(b:UnOp)(d:Value):Option Value:=
 match b,d with
 |.neg,.int a c=>some (.int a (a.wrap (0-c)))
 |.xor,.int a c=>some (.int a (a.wrap (BitVec.ofInt a.bits (if a.signed then-1 else a.max)^^^BitVec.ofInt a.bits c).toNat))
 |.not,.bool e=>some (.bool (!e))
 |_,_=>none
def toByte:Value->Option UInt8
 |.int .u8 (.ofNat a)=>some (UInt8.ofNat a)
 |_=>none
def qk:List Value->Option (List UInt8)
 |[]=>some []
 |v::c=>match toByte v,qk c with
  |some b,some a=>some (b::a)
  |_,_=>none
def ofBytes(l:List UInt8):List Value:=l.map fun a=>.int .u8 a.toNat
def gW(C:dU)(src b:TypeId)(i:Value)(st:St):Option AR:=
 match C.tt.get src,C.tt.get b with
 |some f,some d=>
  match f.desc,d.desc,i with
  |.int _,.int j,.int _ k=>val (.int j (j.wrap k)) st
  |.string,.string,.string _=>val i st
  |.string,.slice h,.string e=>
   match C.tt.get h with
   |some a=>match a.desc with
    |.int .u8=>val (.slice (some ⟨st.n,0,none⟩) e.data.toList.length e.data.toList.length) (st.new (.cells (ofBytes e.data.toList) 1 st.n 0))
    |_=>none
   |none=>none
  |.slice h,.string,.slice n c _=>
   match C.tt.get h with
   |some a=>match a.desc with
    |.int .u8=>match n with
     |none=>val (.string ⟨#[]⟩) st
     |some ⟨l,o,none⟩=>match fY st l o c with
      |some m=>match qk m with
       |some p=>val (.string ⟨p.toArray⟩) st
       |none=>none
      |none=>none
     |_=>none
    |_=>none
   |none=>none
  |_,_,_=>none
 |_,_=>none
def gH(C:dU)(t:TypeId)(b:Value)(st:St):Option AR:=
 match C.tt.get t with
 |some a=>match a.desc with
  |.interface _=>none
  |_=>val (.iface t b) st
 |none=>none
def TX:Fn->Bool
 |.func _=>true
 |_=>false
def iq(C:dU)(t:TypeId)(l c:Value)(st:St):Option AR:=
 match C.tt.get t,l,c with
 |some d,.int .i64 (.ofNat l),.int .i64 (.ofNat c)=>
  match d.desc with
  |.slice b=>match C.tt.get b with
   |some a=>match YM l c&&YN 0 a.size&&YM (c*a.bytes) 1099511627776&&YM c 1099511627776&&YL a.zero.length a.size with
    |true=>val (.slice (some ⟨st.n,0,none⟩) l c) (st.new (.cells (tR a.zero c) a.size st.n 0))
    |false=>none
   |none=>none
  |_=>none
 |_,_,_=>none
def ko:Option Value->Nat->Option Nat
 |none,a=>some a
 |some (.int _ (.ofNat b)),_=>some b
 |_,_=>none
def LA(st:St)(b:Nat):Option Nat:=
 match st.get b with
 |some (.cells _ a _ _)=>some a
 |_=>none
def nD(C:dU)(t:TypeId)(r:Value)(lo h f:Option Value)(st:St):Option AR:=
 match C.tt.get t with
 |none=>none
 |some o=>
  match o.desc,r with
  |.string,.string p=>
   match ko lo 0,ko h p.data.toList.length,f with
   |some d,some e,none=>match YM d e&&YM e p.data.toList.length with
    |true=>val (.string (H4 p d e)) st
    |false=>none
   |_,_,_=>none
  |.slice a,.slice q k b=>
   match C.tt.get a,ko lo 0,ko h k,ko f b with
   |some c,some d,some e,some n=>
    match YM d e&&YM e n&&YM n b&&(h.isSome||f.isNone)with
    |false=>none
    |true=>
     match q with
     |none=>match YL b 0 with
      |true=>val (.slice none 0 0) st
      |false=>none
     |some ⟨j,m,none⟩=>
      match YL b 0 with
      |true=>val (.slice q 0 0) st
      |false=>match LA st j with
       |some i=>match YL i c.size with
        |true=>val (.slice (some ⟨j,m+d*c.size,none⟩) (e-d) (n-d)) st
        |false=>none
       |none=>none
     |_=>none
   |_,_,_,_=>none
  |.array l a,.pointer (some ⟨j,m,none⟩)=>
   match C.tt.get a,ko lo 0,ko h l,f with
   |some c,some d,some e,none=>match YM d e&&YM e l&&(match st.get j with|some (.cells s i _ _)=>YL i c.size&&YM (m+l*c.size) s.length|_=>false)with
    |true=>val (.slice (some ⟨j,m+d*c.size,none⟩) (e-d) (l-d)) st
    |false=>none
   |_,_,_,_=>none
  |_,_=>none
def fa(C:dU)(h:TypeId)(e:Value)(f:Nat)(st:St):Option AR:=
 match C.tt.get h,e with
 |some d,.pointer (some ⟨i,j,none⟩)=>
  match d.desc with
  |.struct a=>match gC C a f with
   |some (c,b)=>match YN 0 b with
    |true=>val (ptr i (j+c)) st
    |false=>none
   |none=>none
  |_=>none
 |_,_=>none
def zG(C:dU)(t:TypeId)(c:List Value)(a:Nat):Option Value:=
 match C.tt.get t with
 |some b=>match b.agg with
  |true=>match YM (a+b.size) c.length with
   |true=>some (.agg ((c.drop a).take b.size).toArray)
   |false=>none
  |false=>nth c a
 |none=>none
def uI(C:dU)(t:TypeId)(e:Value)(f:Nat)(st:St):Option AR:=
 match C.tt.get t,e with
 |some c,.agg d=>
  match c.desc with
  |.struct a=>match nth a.toList f with
   |some b=>match zG C b.type d.toList b.offset with
    |some h=>val h st
    |none=>none
   |none=>none
  |_=>none
 |_,_=>none
def gf(C:dU)(t:TypeId)(i j:Value)(st:St):Option AR:=
 match C.tt.get t,i,j with
 |some c,.slice (some ⟨f,h,none⟩) b _,.int _ (.ofNat e)=>
  match c.desc with
  |.slice a=>match C.tt.get a with
   |some d=>match YN e b with
    |true=>val (ptr f (h+e*d.size)) st
    |false=>none
   |none=>none
  |_=>none
 |some c,.pointer (some ⟨f,h,none⟩),.int _ (.ofNat e)=>
  match c.desc with
  |.array b a=>match C.tt.get a with
   |some d=>match YN e b with
    |true=>val (ptr f (h+e*d.size)) st
    |false=>none
   |none=>none
  |_=>none
 |_,_,_=>none
def rU(C:dU)(t:TypeId)(h k:Value)(st:St):Option AR:=
 match C.tt.get t,h,k with
 |some b,.string i,.int _ (.ofNat d)=>
  match b.desc with
  |.string=>match nth i.data.toList d with
   |some j=>val (.int .u8 j.toNat) st
   |none=>none
  |_=>none
 |some b,.agg f,.int _ (.ofNat d)=>
  match b.desc with
  |.array c a=>match C.tt.get a with
   |some e=>match YN d c with
    |true=>match zG C a f.toList (d*e.size)with
     |some l=>val l st
     |none=>none
    |false=>none
   |none=>none
  |_=>none
 |_,_,_=>none
def pH(a:TypeDesc)(b:Value):List MapEntry->Nat->Option (Option (Nat×Value))
 |[],_=>some none
 |e::d,c=>match io a b e.key with
  |some true=>some (some (c,e.val))
  |some false=>pH a b d (c+1)
  |none=>none
def pI:TypeDesc->Bool
 |.string=>true
 |.int _=>true
 |.bool=>true
 |_=>false
def oA(C:dU)(t:TypeId)(k m:Value)(a:Bool)(st:St):Option AR:=
 match C.tt.get t with
 |none=>none
 |some e=>
  match e.desc with
  |.map f h=>
   match C.tt.get f,C.tt.get h with
   |some d,some c=>
    match pI d.desc with
    |false=>none
    |true=>
     match(match k with
      |.map none=>some []
      |.map (some l)=>match st.get l with
       |some (.map b _)=>some b
       |_=>none
      |_=>none:Option (List MapEntry))with
     |none=>none
     |some b=>match pH d.desc m b 0 with
      |none=>none
      |some (some (_,j))=>val (if a then .tuple #[j,.bool true]else j) st
      |some none=>match Fi c.agg c.zero with
       |none=>none
       |some i=>val (if a then .tuple #[i,.bool false]else i) st
   |_,_=>none
  |_=>none
def uJ:List MapEntry->Nat->Value->Value->List MapEntry
 |[],_,_,_=>[]
 |e::a,d,b,c=>match d with
  |0=>{e with key:=b,val:=c}::a
  |f+1=>e::uJ a f b c
def ir(C:dU)(t:TypeId)(k h i:Value)(st:St):Option AR:=
 match C.tt.get t,k with
 |some d,.map (some f)=>
  match d.desc with
  |.map e _=>
   match C.tt.get e,st.get f with
   |some c,some (.map b a)=>
    match pI c.desc with
    |false=>none
    |true=>match pH c.desc h b 0 with
     |none=>none
     |some (some (j,_))=>val kn (st.put f (.map (uJ b j h i) a))
     |some none=>val kn (st.put f (.map (b++[{key:=h,val:=i,born:=a}]) (a+1)))
   |_,_=>none
  |_=>none
 |_,_=>none
def ik(C:dU)(e:Value)(t:TypeId)(a:Bool)(st:St):Option AR:=
 match C.tt.get t with
 |none=>none
 |some b=>
  match b.desc with
  |.interface _=>none
  |_=>
   match e with
   |.iface f d=>match YL f t with
    |true=>val (if a then .tuple #[d,.bool true]else d) st
    |false=>match a,Fi b.agg b.zero with
     |true,some c=>val (.tuple #[c,.bool false]) st
     |_,_=>none
   |.nilIface=>match a,Fi b.agg b.zero with
    |true,some c=>val (.tuple #[c,.bool false]) st
    |_,_=>none
   |_=>none
def nE(b:Value)(d:Nat)(st:St):Option AR:=
 match b with
 |.tuple a=>match nth a.toList d with
  |some c=>val c st
  |none=>none
 |_=>none
def gX(st:St)(es n:Nat):Value->Option (List Value)
 |.slice none _ _=>some []
 |.slice (some ⟨b,c,none⟩) _ _=>fY st b c (n*es)
 |.string a=>some (ofBytes (a.data.toList.take n))
 |_=>none
def po:Value->Option Nat
 |.slice _ b _=>some b
 |.string a=>some a.data.toList.length
 |_=>none
def eF:Nat:=1099511627776
def fv(st:St)(es:Nat)(a:Option Addr)(len b:Nat)(n:Nat)(xs:List Value):Option AR:=
 match YM (len+n) b with
 |true=>
  match a with
  |none=>val (.slice none (len+n) b) st
  |some ⟨j,e,none⟩=>
   match xs with
   |[]=>val (.slice a (len+n) b) st
   |_=>match fI st j (e+len*es) xs with
    |some k=>val (.slice a (len+n) b) k
    |none=>none
  |_=>none
 |false=>
  match a with
  |none=>val (.slice (some ⟨st.n,0,none⟩) n n) (st.new (.cells xs es st.n 0))
  |some ⟨j,e,none⟩=>
   match st.get j with
   |some (.cells o m c i)=>
    match YL m es,fY st j e (len*es)with
    |true,some l=>
     let d:=st.kill c st.n (i+e+len*es) (i+e+(len+n)*es)
     let h:=match d.fm.get c with|some h=>h|none=>if YM o.length (e+len*es)then [j]else []
     let f:=if YM o.length (e+len*es)then d else d.put j .dead
     val (.slice (some ⟨st.n,0,none⟩) (len+n) (len+n))
      {hp:=f.hp.set st.n (.cells (l++xs) es c (i+e)),n:=st.n+1,fm:=f.fm.set c (st.n::h)}
    |_,_=>none
   |_=>none
  |_=>none
def mV(C:dU)(a:List TypeId)(d:List Value)(st:St):Option AR:=
 match a,d with
 |[m,n],[p,o]=>
  match C.tt.get m,C.tt.get n,p with
  |some l,some i,.slice f c k=>
   match l.desc with
   |.slice h=>
    match C.tt.get h with
    |some b=>
     match i.desc with
     |.int _=>none
     |_=>match po o with
      |none=>none
      |some j=>match gX st b.size j o with
       |none=>none
       |some e=>match YN 0 b.size&&YL e.length (j*b.size)&&e.all fs&&YM ((c+j)*b.bytes) eF&&YM (c+j) eF&&YL b.zero.length b.size with
        |true=>fv st b.size f c k j e
        |false=>none
    |none=>none
   |_=>none
  |_,_,_=>none
 |_,_=>none
def Fj(C:dU)(b:List TypeId)(d:List Value)(st:St):Option AR:=
 match b,d with
 |ts::_,[.slice f a _,src]=>
  match C.tt.get ts with
  |some j=>
   match j.desc with
   |.slice h=>match C.tt.get h,po src with
    |some k,some c=>
     match gX st k.size (Nat.min c a) src with
     |some e=>match f,e with
      |none,_=>val (.int .i64 (.ofNat (Nat.min c a))) st
      |_,[]=>val (.int .i64 (.ofNat (Nat.min c a))) st
      |some ⟨l,m,none⟩,e=>match fI st l m e with
       |some i=>val (.int .i64 (.ofNat (Nat.min c a))) i
       |none=>none
      |_,_=>none
     |none=>none
    |_,_=>none
   |_=>none
  |none=>none
 |_,_=>none
def vw(C:dU)(a:List TypeId)(b:List Value)(st:St):Option AR:=
 match a,b with
 |t::_,f::_=>
  match C.tt.get t with
  |none=>none
  |some c=>
   match c.desc,f with
   |.string,.string h=>val (.int .i64 (.ofNat h.data.toList.length)) st
   |.array d _,_=>val (.int .i64 (.ofNat d)) st
   |.slice _,.slice _ d _=>val (.int .i64 (.ofNat d)) st
   |.map _ _,.map none=>val (.int .i64 (.ofNat 0)) st
   |.map _ _,.map (some i)=>match st.get i with
    |some (.map e _)=>val (.int .i64 (.ofNat e.length)) st
    |_=>none
   |_,_=>none
 |_,_=>none
def kR(b:Bool):Value->List Value->Option Value
 |.int c a,[]=>some (.int c a)
 |.int c a,.int _ d::e=>kR b (.int c (if(match b with|true=>rP a d|false=>rP d a)then d else a)) e
 |_,_=>none
def iE(C:dU)(b:Builtin)(a:List TypeId)(c:List Value)(st:St):Option AR:=
 match b with
 |.append=>mV C a c st
 |.copy=>Fj C a c st
 |.len=>vw C a c st
 |.max=>match c with
  |x::e=>match kR true x e with
   |some d=>val d st
   |none=>none
  |[]=>none
 |.min=>match c with
  |x::e=>match kR false x e with
   |some d=>val d st
   |none=>none
  |[]=>none
 |.recover=>some .recover
 |_=>none
def kp(C:dU)(f:Value)(b:List Value)(st:St):Option AR:=
 match f with
 |.func (.func d) first a=>
  let c:=first.toList++b++a.toList
  match C.ff.get d with
  |some _=>some (.enter d c)
  |none=>match C.ext d c with
   |some e=>val e st
   |none=>none
 |.func (.yield h) first _=>match first.toList with
  |[]=>some (.yield h b)
  |_=>none
 |_=>none
def zH(f:Value)(args:List Value):Option AR:=
 match f with
 |.func (.func b) first a=>some (.defer {target:=.fn (.func b) a,args:=(first.toList++args).toArray})
 |_=>none
def h0(C:dU)(a:Operand->Option Value)(o:Oper)(st:St):Option AR:=
 match o.op with
 |.move d=>match a d with|some b=>val b st|none=>none
 |.assign d=>match a d with|some b=>val b st|none=>none
 |.pick i k s=>match a i,a k,a s with
  |some (.bool c),some f,some b=>val (match c with|true=>f|false=>b) st
  |_,_,_=>none
 |.alloc c=>uG C c st
 |.box _ d=>match a d with|some b=>H5 b st|none=>none
 |.build c l=>match kQ a l.toList with|some h=>rQ C c h st|none=>none
 |.buildSlice c z l=>match kQ a l.toList with|some h=>jh C c z h st|none=>none
 |.load c k=>match a k with|some b=>vv C c b st|none=>none
 |.store c k d=>match a k,a d with|some b,some f=>hH C c b f st|_,_=>none
 |.nilCheck d=>match a d with|some b=>lE b st|none=>none
 |.binOp q c d x _=>match a d,a x with
  |some f,some b=>match Dl C q c d x f b with
   |some t=>val t st
   |none=>none
  |_,_=>none
 |.unOp q _ d=>match a d with
  |some f=>match WC q f with
   |some t=>val t st
   |none=>none
  |none=>none
 |.convert A y d=>match a d with|some b=>gW C A y b st|none=>none
 |.makeInterface c d=>match a d with|some b=>gH C c b st|none=>none
 |.makeFunc fn k s=>match TX fn,lD a k.toList,lD a s.toList with
  |true,some f,some b=>val (.func fn f.toArray b.toArray) st
  |_,_,_=>none
 |.makeMap _ none=>val (.map (some st.n)) (st.new (.map [] 0))
 |.makeSlice c h i=>match a h,a i with|some f,some b=>iq C c f b st|_,_=>none
 |.slice c d w v u=>match a d,(match w with|none=>some none|some h=>(a h).map some),(match v with|none=>some none|some h=>(a h).map some),(match u with|none=>some none|some h=>(a h).map some)with
  |some b,some h,some B,some j=>nD C c b h B j st
  |_,_,_,_=>none
 |.fieldAddr c d m=>match a d with|some b=>fa C c b m st|none=>none
 |.field c d m=>match a d with|some b=>uI C c b m st|none=>none
 |.indexAddr c d r=>match a d,a r with|some f,some b=>gf C c f b st|_,_=>none
 |.index c d r=>match a d,a r with|some f,some b=>rU C c f b st|_,_=>none
 |.lookup c d r p=>match a d,a r with|some f,some b=>oA C c f b p st|_,_=>none
 |.mapUpdate c j n b=>match a j,a n,a b with|some j,some n,some b=>ir C c j n b st|_,_,_=>none
 |.insert c j n b=>match a j,a n,a b with|some j,some n,some b=>ir C c j n b st|_,_,_=>none
 |.typeAssert d _ c p=>match a d with|some b=>ik C b c p st|none=>none
 |.extract d r=>match a d with|some b=>nE b r st|none=>none
 |.call i=>match lD a i.args.toList with
  |none=>none
  |some e=>match i.callee with
   |.builtin s=>iE C s i.argTypes.toList e st
   |.value m=>match a m with
    |some b=>kp C b e st
    |none=>none
   |.invoke _ _=>none
 |.defer i=>match lD a i.args.toList,i.callee with
  |some e,.value m=>match a m with
   |some b=>zH b e
   |none=>none
  |_,_=>none
 |.panic d=>match a d with
  |some (.iface c b)=>some (.eE (.iface c b) st)
  |_=>none
 |_=>none
end Go.AM
