/- Part of the proof. -/
import Derived.Test.YtpejealjkmhkgaaGreatDoorKAc
set_option linter.all false
set_option maxHeartbeats 16000000
set_option maxRecDepth 100000
open List renaming map_congr_left->YL
open Nat renaming beq->YM,lt_of_lt_of_le->YO,blt->YP
open Int renaming ofNat->YN
namespace Go.VM
open Go.AM
inductive D where
 |bool (b:Bool)
 |int (k:IntKind) (n:Int)
 |str (s:List UInt8)
 |DR
 |cn
 |BQ
 |DS
 |vO
 |ps (b o es cap:Nat) (els:List (List D))
inductive V where
 |d (x:D)
 |bp (i f:Nat)
 |ptr (i es k f:Nat)
 |fp (b off:Nat) (cs:List D)
 |ms (i es k len cap:Nat)
 |map (i:Nat)
 |fn (f:Nat) (first T6:List V)
 |rN (l:Nat)
 |iface (t:Nat) (v:V)
 |agg (l:List V)
 |dV (l:List V)
def cx:D->Value
 |.bool c=>.bool c
 |.int f d=>.int f d
 |.str e=>.string ⟨⟨e⟩⟩
 |.DR=>.pointer none
 |.cn=>.slice none 0 0
 |.BQ=>.map none
 |.DS=>.nilFunc
 |.vO=>.nilIface
 |.ps c h _ b a=>.slice (some ⟨c,h,none⟩) a.length b
mutual
def erase(ρ:Nat->Nat):V->Value
 |.d x=>cx x
 |.bp i f=>.pointer (some ⟨ρ i,f,none⟩)
 |.ptr i es k f=>.pointer (some ⟨ρ i,k*es+f,none⟩)
 |.fp b off _=>.pointer (some ⟨b,off,none⟩)
 |.ms i es k len cap=>.slice (some ⟨ρ i,k*es,none⟩) len cap
 |.map i=>.map (some (ρ i))
 |.fn f first T6=>.func (.func f) ⟨cm ρ first⟩ ⟨cm ρ T6⟩
 |.rN l=>.func (.yield (ρ l)) #[] #[]
 |.iface t v=>.iface t (erase ρ v)
 |.agg l=>.agg ⟨cm ρ l⟩
 |.dV l=>.tuple ⟨cm ρ l⟩
def cm(ρ:Nat->Nat):List V->List Value
 |[]=>[]
 |v::l=>erase ρ v::cm ρ l
end
inductive RF where
 |DT (r:Nat)
 |fn (f:Nat) (T6:List V)
structure e8 where
 target:RF
 args:List V
structure jl where
 state:LoopState
 pending:Option Code
 fn:FuncId
 tm:List (Nat×V)
 nt:Nat
 params:List Tmp
 assign:Code
 body:Code
 defers:Nat
 fz:Nat->Bool
structure pP where
 key:V
 val:V
 born:Nat
inductive cL where
 |box (cs:List V)
 |row (es:Nat) (els:List (List V))
 |map (es:List pP) (clock:Nat)
 |loop (l:jl)
 |eG (taken:Bool)
 |gone
abbrev VS:=List cL
inductive lm where
 |none
 |fu (v:V)
 |pG
inductive zk where
 |norm
 |exit (id:Nat)
 |ret
 |panic (v:V)
inductive dC where
 |ret (v:V)
 |eE (v:V)
structure s7 where
 fn:FuncId
 nt:Nat
 round:Option Nat
 BA:Bool
 fz:Nat->Bool
 fl:Nat
inductive VR where
 |val (v:V) (σ:VS)
 |eE (v:V)
 |enter (f:FuncId) (args:List V)
 |yield (l:Nat) (args:List V)
 |recover
 |defer (d:e8)
def gy:V->Bool
 |.agg _=>false
 |.dV _=>false
 |_=>true
def Tv:Value->Option D
 |.bool d=>some (.bool d)
 |.int c a=>some (.int c a)
 |.string b=>some (.str b.data.toList)
 |.pointer none=>some .DR
 |.slice none 0 0=>some .cn
 |.map none=>some .BQ
 |.nilFunc=>some .DS
 |.nilIface=>some .vO
 |_=>none
def sb:List Value->Option (List V)
 |[]=>some []
 |v::b=>match Tv v,sb b with
  |some a,some c=>some (.d a::c)
  |_,_=>none
def Tw:Value->Option V
 |.agg ⟨b⟩=>match sb b with
  |some c=>some (.agg c)
  |none=>none
 |v=>match Tv v with
  |some a=>some (.d a)
  |none=>none
def fb:List (Nat×V)->Nat->Option V
 |[],_=>none
 |(b,c)::d,a=>match YM b a with
  |true=>some c
  |false=>fb d a
def CB(a:List (Nat×V)):Operand->Option V
 |.tmp d=>fb a d
 |.const c=>Tw c
 |.global _=>none
 |.func b=>some (.fn b [] [])
def dn{a:Type}(o:Option a)(b:a->Prop):Prop:=
 match o with
 |some c=>b c
 |none=>False
def hz(p a:Prop)(b:Bool):Prop:=
 match b with
 |true=>p
 |false=>a
def iY(p:Prop)(a:Prop):Prop:=p/\a
def dJ:V->List V
 |.agg a=>a
 |v=>[v]
def OG:Nat->List V->(List V->Prop)->Prop
 |0,_,a=>a []
 |_+1,[],_=>False
 |n+1,b::d,a=>OG n d fun c=>a (b::c)
def OH:List V->Nat->Nat->(List V->Prop)->Prop
 |e,0,a,b=>OG a e b
 |[],_+1,_,_=>False
 |_::d,c+1,a,b=>OH d c a b
def IF:Nat->List D->(List V->Prop)->Prop
 |0,_,a=>a []
 |_+1,[],_=>False
 |n+1,b::d,a=>IF n d fun c=>a (.d b::c)
def IG:Nat->List D->(List D->Prop)->Prop
 |0,b,a=>a b
 |_+1,[],_=>False
 |n+1,_::c,a=>IG n c a
def z1:List V->Nat->List V->(List V->Prop)->Prop
 |c,0,[],d=>d c
 |[],0,_::_,_=>False
 |_::c,0,f::a,d=>z1 c 0 a fun b=>d (f::b)
 |[],_+1,_,_=>False
 |x::c,e+1,a,d=>z1 c e a fun b=>d (x::b)
def OI:VS->cL->Nat->(Nat->VS->Prop)->Prop
 |[],d,c,a=>a c [d]
 |x::f,d,c,a=>OI f d (c+1) fun e b=>a e (x::b)
def yR:VS->Nat->cL->(VS->Prop)->Prop
 |[],_,_,_=>False
 |_::d,0,c,b=>b (c::d)
 |x::d,e+1,c,b=>yR d e c fun a=>b (x::a)
def z6(b:VS)(o:cL)(d:Nat->VS->Prop):Prop:=OI b o 0 fun c a=>rV c fun c=>d c a
def RG(a:Bool)(c:List V)(b:V->Prop):Prop:=
 match a with
 |true=>b (.agg c)
 |false=>match c with
  |[d]=>b d
  |_=>False
def Tx(a:List (List V))(b:Nat)(d:List V->Prop):Prop:=∃c,nth a b=some c/\d c
def DU(n:Int)(a:Nat->Prop):Prop:=∃m:Nat,n=YN m/\a m
def OJ(n:Nat)(b:Bool)(a:V)(h:VS)(l:V->Prop):Prop:=
 match a with
 |.bp m j=>match nth h m with
  |some (.box c)=>OH c j n fun f=>RG b f l
  |_=>False
 |.ptr m o k j=>match nth h m with
  |some (.row i d)=>match YM o i with
   |true=>Tx d k fun e=>OH e j n fun f=>RG b f l
   |false=>False
  |_=>False
 |.fp _ _ c=>IF n c fun f=>RG b f l
 |_=>False
def KD(C:dU)(t:TypeId)(c:V)(b:VS)(d:V->Prop):Prop:=
 match C.tt.get t with
 |some a=>match a.agg||YM a.size 1 with
  |true=>OJ a.size a.agg c b d
  |false=>False
 |none=>False
def kt(C:dU)(t:TypeId)(a k:V)(b:VS)(p:VS->Prop):Prop:=
 match C.tt.get t with
 |some l=>match YM (dJ k).length l.size&&(dJ k).all gy with
  |true=>match a with
   |.bp h m=>match nth b h with
    |some (.box n)=>z1 n m (dJ k) fun f=>yR b h (.box f) p
    |_=>False
   |.ptr h i d m=>match nth b h with
    |some (.row j c)=>match YM i j with
     |true=>Tx c d fun e=>z1 e m (dJ k) fun o=>yR b h (.row i (c.set d o)) p
     |false=>False
    |_=>False
   |_=>False
  |false=>False
 |none=>False
def z7(a:Operand->Option V):List (Nat×Operand)->Option (List (Nat×V))
 |[]=>some []
 |(d,b)::c=>match a b,z7 a c with
  |some e,some f=>some ((d,e)::f)
  |_,_=>none
def uj(a:Operand->Option V):List Operand->Option (List V)
 |[]=>some []
 |x::c=>match a x,uj a c with
  |some b,some d=>some (b::d)
  |_,_=>none
def F5(a:Nat->Option (Nat×Nat)):List V->List (Nat×V)->(List V->Prop)->Prop
 |cells,[],e=>e cells
 |cells,(h,f)::b,e=>
  match a h with
  |none=>False
  |some (d,c)=>match YM (dJ f).length c with
   |true=>z1 cells d (dJ f) fun i=>F5 a i b e
   |false=>False
def IH(C:dU)(t:TypeId)(d:List (Nat×V))(i:V->Prop):Prop:=
 match C.tt.get t with
 |some b=>
  match b.desc with
  |.struct a=>
   match(a.toList.all fun j=>(C.tt.get j.type).isSome),b.agg,sb b.zero with
   |true,true,some f=>F5 (gC C a) f d fun h=>i (.agg h)
   |_,_,_=>False
  |.array _ c=>
   match C.tt.get c,b.agg,sb b.zero with
   |some e,true,some f=>F5 (fun k=>some (k*e.size,e.size)) f d fun h=>i (.agg h)
   |_,_,_=>False
  |_=>False
 |none=>False
def uO(a:List V):Nat->List (List V)
 |0=>[]
 |n+1=>a::uO a n
def DV(b:Nat):List (List V)->List (Nat×V)->Option (List (List V))
 |a,[]=>some a
 |a,(e,d)::c=>match YM (dJ d).length b&&YP e a.length&&(dJ d).all gy with
  |true=>DV b (a.set e (dJ d)) c
  |false=>none
def CC(C:dU)(e:Operand->Option V):Op->Option cL
 |.alloc j=>match C.tt.get j with
  |some b=>match sb b.zero,YM b.zero.length b.size with
   |some i,true=>some (.box i)
   |_,_=>none
  |none=>none
 |.box _ l=>match e l with
  |some k=>match(dJ k).all gy with
   |true=>some (.box (dJ k))
   |false=>none
  |none=>none
 |.makeMap _ none=>some (.map [] 0)
 |.buildSlice j c h=>match z7 e h.toList,C.tt.get j with
  |some m,some b=>match b.desc with
   |.slice d=>match C.tt.get d with
    |some a=>match YP 0 a.size&&Nat.ble (c*a.size) 16777216&&YM a.zero.length a.size,sb a.zero with
     |true,some i=>match DV a.size (uO i c) m with
      |some f=>some (.row a.size f)
      |none=>none
     |_,_=>none
    |none=>none
   |_=>none
  |_,_=>none
 |_=>none
def T7:Op->cL->Nat->Option V
 |.alloc _,.box _,b=>some (.bp b 0)
 |.box _ _,.box _,b=>some (.bp b 0)
 |.makeMap _ _,.map _ _,b=>some (.map b)
 |.buildSlice _ a _,.row c _,b=>some (.ms b c 0 a a)
 |_,_,_=>none
def qs:List V->Option (List D)
 |[]=>some []
 |.d a::c=>match qs c with
  |some b=>some (a::b)
  |none=>none
 |_::_=>none
def oK:List (List V)->Option (List (List D))
 |[]=>some []
 |e::c=>match qs e,oK c with
  |some a,some b=>some (a::b)
  |_,_=>none
def lI:Op->Bool
 |.buildSlice _ _ _=>true
 |_=>false
def OK(C:dU)(f:Bool)(h:Operand->Option V)(a:Op)(e:VS)(j:V->VS->Prop):Prop:=
 match CC C h a with
 |some b=>match f&&lI a with
  |true=>match b with
   |.row i c=>match oK c with
    |some k=>∀l:Nat,j (.d (.ps l 0 i k.length k)) e
    |none=>False
   |_=>False
  |false=>z6 e b fun m d=>dn (T7 a b m) fun n=>j n d
 |none=>False
def xu(a:V)(b:V->Prop):Prop:=
 match a with
 |.bp _ _=>b a
 |.ptr _ _ _ _=>b a
 |.fp _ _ _=>b a
 |.iface _ _=>b a
 |.fn _ _ _=>b a
 |.rN _=>b a
 |_=>False
def ct(b:Bool):V:=.d (.bool b)
def DW(e:BinOp)(a:IntKind)(c b:Int)(d:V->Prop):Prop:=
 match e with
 |.add=>d (.d (.int a (a.wrap (c+b))))
 |.sub=>d (.d (.int a (a.wrap (c-b))))
 |.mul=>d (.d (.int a (a.wrap (c*b))))
 |.quo=>iY (b≠0) (d (.d (.int a (a.wrap (c.tdiv b)))))
 |.rem=>iY (b≠0) (d (.d (.int a (c.tmod b))))
 |.and=>d (.d (.int a (a.wrap (BitVec.ofInt a.bits c&&&BitVec.ofInt a.bits b).toNat)))
 |.or=>d (.d (.int a (a.wrap (BitVec.ofInt a.bits c|||BitVec.ofInt a.bits b).toNat)))
 |.xor=>d (.d (.int a (a.wrap (BitVec.ofInt a.bits c^^^BitVec.ofInt a.bits b).toNat)))
 |.andNot=>d (.d (.int a (a.wrap (BitVec.ofInt a.bits c&&& ~~~ BitVec.ofInt a.bits b).toNat)))
 |.eql=>d (ct (decide (c=b)))
 |.neq=>d (ct (!(decide (c=b))))
 |.lss=>d (ct (decide (c<b)))
 |.leq=>d (ct (decide (c<=b)))
 |.gtr=>d (ct (decide (b<c)))
 |.geq=>d (ct (decide (b<=c)))
 |_=>False
def OL(c:BinOp)(a:IntKind)(f b:Int)(e:V->Prop):Prop:=
 DU b fun d=>match c with
  |.shl=>e (.d (.int a (a.wrap (f*2^(min d a.bits)))))
  |.shr=>e (.d (.int a (f.fdiv (2^(min d a.bits)))))
  |_=>False
def DX(d:BinOp)(a b:List UInt8)(c:V->Prop):Prop:=
 match d with
 |.add=>iY (a.length+b.length<=1099511627776) (c (.d (.str (a++b))))
 |.eql=>c (ct (decide (a=b)))
 |.neq=>c (ct (!(decide (a=b))))
 |.lss=>c (ct (cB a b))
 |.leq=>c (ct (cB a b||decide (a=b)))
 |.gtr=>c (ct (!(cB a b||decide (a=b))))
 |.geq=>c (ct (!(cB a b)))
 |_=>False
def DY:V->Option (Nat×Bool)
 |.d .DR=>some (0,true)
 |.bp _ _=>some (0,false)
 |.ptr _ _ _ _=>some (0,false)
 |.fp _ _ _=>some (0,false)
 |.d .cn=>some (1,true)
 |.d (.ps _ _ _ _ _)=>some (1,false)
 |.ms _ _ _ _ _=>some (1,false)
 |.d .BQ=>some (2,true)
 |.map _=>some (2,false)
 |.d .DS=>some (3,true)
 |.fn _ _ _=>some (3,false)
 |.rN _=>some (3,false)
 |.d .vO=>some (4,true)
 |.iface _ _=>some (4,false)
 |_=>none
def F6:TypeDesc->Option Nat
 |.pointer _=>some 0
 |.slice _=>some 1
 |.map _ _=>some 2
 |.func _ _ _=>some 3
 |.interface _=>some 4
 |_=>none
def WG(C:dU)(t:TypeId)(l k:Operand)(a b:V)(h:Bool->Prop):Prop:=
 match a,b with
 |.d (.bool d),.d (.bool q)=>match C.tt.get t with
  |some c=>match c.desc with
   |.bool=>h (d==q)
   |_=>False
  |none=>False
 |.agg j,.agg m=>match qs j,qs m with
  |some j,some m=>∃n,Lz C t l k (.agg ⟨j.map cx⟩) (.agg ⟨m.map cx⟩)=some n/\h n
  |_,_=>False
 |a,b=>match C.tt.get t,DY a,DY b with
  |some c,some (f,d),some (i,q)=>match F6 c.desc with
   |some e=>match YM e f&&YM e i&&(d||q)&&(!(d&&q)|| !(YM e 4)||jH l||jH k)with
    |true=>h (d&&q)
    |false=>False
   |none=>False
  |_,_,_=>False
def T8(C:dU)(c:BinOp)(t:TypeId)(k j:Operand)(a b:V)(f:V->Prop):Prop:=
 match a,b with
 |.d (.int d m),.d (.int e h)=>match zd c with
  |true=>OL c d m h f
  |false=>match rO d e with
   |true=>DW c d m h f
   |false=>False
 |.d (.str m),.d (.str h)=>DX c m h f
 |a,b=>match c with
  |.eql=>WG C t k j a b fun i=>f (ct i)
  |.neq=>WG C t k j a b fun i=>f (ct (!i))
  |_=>False
def WY(b:UnOp)(e:V)(d:V->Prop):Prop:=
 match b,e with
 |.neg,.d (.int a c)=>d (.d (.int a (a.wrap (0-c))))
 |.xor,.d (.int a c)=>d (.d (.int a (a.wrap (BitVec.ofInt a.bits (if a.signed then-1 else a.max)^^^BitVec.ofInt a.bits c).toNat)))
 |.not,.d (.bool f)=>d (ct (!f))
 |_,_=>False
def gq(c:UInt8):V:=.d (.int .u8 (YN c.toNat))
def sc(c:UInt8):D:=.int .u8 (YN c.toNat)
def Aa(C:dU)(src d:TypeId)(k:V)(n:VS)(h:V->Prop):Prop:=
 match C.tt.get src,C.tt.get d with
 |some o,some l=>
  match o.desc,l.desc with
  |.int _,.int e=>match k with
   |.d (.int _ q)=>h (.d (.int e (e.wrap q)))
   |_=>False
  |.string,.string=>match k with
   |.d (.str r)=>h (.d (.str r))
   |_=>False
  |.slice t,.string=>
   match C.tt.get t with
   |some m=>match m.desc with
    |.int .u8=>match k with
     |.d .cn=>h (.d (.str []))
     |.d (.ps _ _ c _ a)=>∃j:List UInt8,c=1/\a=(j.map fun p=>[sc p])/\h (.d (.str j))
     |.ms s c f b _=>match nth n s with
      |some (.row i a)=>∃j:List UInt8,c=1/\i=1/\(a.drop f).take b=(j.map fun p=>[gq p])/\f+b<=a.length/\h (.d (.str j))
      |_=>False
     |_=>False
    |_=>False
   |none=>False
  |_,_=>False
 |_,_=>False
def II(C:dU)(e:Bool)(src a:TypeId)(l:V)(d:VS)(k:V->VS->Prop):Prop:=
 match C.tt.get src,C.tt.get a with
 |some i,some f=>
  match i.desc,f.desc,l with
  |.string,.slice o,.d (.str b)=>
   match C.tt.get o with
   |some h=>match h.desc with
    |.int .u8=>match e with
     |true=>∀m:Nat,k (.d (.ps m 0 1 b.length (b.map fun j=>[sc j]))) d
     |false=>z6 d (.row 1 (b.map fun j=>[gq j])) fun n c=>k (.ms n 1 0 b.length b.length) c
    |_=>False
   |none=>False
  |_,_,_=>False
 |_,_=>False
def RH(C:dU)(a:TypeId):Bool:=
 match C.tt.get a with
 |some b=>match b.desc with
  |.slice _=>true
  |_=>false
 |none=>false
def nO(C:dU)(t:TypeId)(b:V)(c:V->Prop):Prop:=
 match C.tt.get t with
 |some a=>match a.desc with
  |.interface _=>False
  |_=>c (.iface t b)
 |none=>False
def kg:Option V->Nat->(Nat->Prop)->Prop
 |none,b,a=>a b
 |some (.d (.int _ c)),_,a=>DU c a
 |_,_,_=>False
def IJ(C:dU)(t:TypeId)(o:V)(lo f e:Option V)(q:VS)(n:V->Prop):Prop:=
 match C.tt.get t with
 |none=>False
 |some r=>
  match r.desc,o with
  |.string,.d (.str s)=>match e with
   |none=>kg lo 0 fun d=>kg f s.length fun h=>iY (d<=h/\h<=s.length) (n (.d (.str ((s.take h).drop d))))
   |some _=>False
  |.slice i,o=>
   match C.tt.get i with
   |none=>False
   |some k=>match o with
    |.d .cn=>kg lo 0 fun d=>kg f 0 fun h=>kg e 0 fun m=>iY (d=0/\h=0/\m=0/\(f.isSome||e.isNone)=true) (n (.d .cn))
    |.d (.ps w v b a c)=>match e with
     |none=>kg lo 0 fun d=>kg f c.length fun h=>iY (d<=h/\h<=c.length/\c.length<=a/\0<a/\b=k.size) (n (.d (.ps w (v+d*b) b (a-d) ((c.take h).drop d))))
     |some _=>False
    |.ms u b p l a=>match nth q u with
     |some (.row j _)=>kg lo 0 fun d=>kg f l fun h=>kg e a fun m=>iY (d<=h/\h<=m/\m<=a/\0<=a/\b=k.size/\j=b/\(f.isSome||e.isNone)=true) (n (.ms u b (p+d) (h-d) (m-d)))
     |_=>False
    |_=>False
  |_,_=>False
def uP(C:dU)(n:TypeId)(m:V)(f:Nat)(j:V->Prop):Prop:=
 match C.tt.get n with
 |some h=>
  match h.desc with
  |.struct b=>match gC C b f with
   |some (a,e)=>match YP 0 e,m with
    |true,.bp k c=>rV (c+a) fun c=>j (.bp k c)
    |true,.ptr k l i c=>rV (c+a) fun c=>j (.ptr k l i c)
    |true,.fp p o d=>IG a d fun d=>j (.fp p (o+a) d)
    |_,_=>False
   |none=>False
  |_=>False
 |none=>False
def KE(C:dU)(t:TypeId)(c:List V)(a:Nat)(d:V->Prop):Prop:=
 match C.tt.get t with
 |some b=>match b.agg with
  |true=>OH c a b.size fun e=>d (.agg e)
  |false=>dn (nth c a) d
 |none=>False
def IK(C:dU)(t:TypeId)(e:V)(f:Nat)(h:V->Prop):Prop:=
 match C.tt.get t,e with
 |some c,.agg d=>
  match c.desc with
  |.struct a=>match nth a.toList f with
   |some b=>KE C b.type d b.offset h
   |none=>False
  |_=>False
 |_,_=>False
def uQ(C:dU)(t:TypeId)(n q:V)(k:V->Prop):Prop:=
 match C.tt.get t,q with
 |some f,.d (.int _ i)=>
  match f.desc with
  |.slice a=>match C.tt.get a with
   |some d=>match n with
    |.ms l b j c _=>match YM b d.size with
     |true=>DU i fun m=>iY (m<c) (k (.ptr l b (j+m) 0))
     |false=>False
    |.d (.ps p r b _ e)=>match YM b d.size with
     |true=>DU i fun m=>∃o,nth e m=some o/\k (.fp p (r+m*b) o)
     |false=>False
    |_=>False
   |none=>False
  |.array c a=>match C.tt.get a with
   |some d=>match n with
    |.bp l h=>DU i fun m=>iY (m<c) (rV (h+m*d.size) fun h=>k (.bp l h))
    |_=>False
   |none=>False
  |_=>False
 |_,_=>False
def IL(C:dU)(t:TypeId)(j l:V)(h:V->Prop):Prop:=
 match C.tt.get t,j,l with
 |some b,.d (.str k),.d (.int _ d)=>
  match b.desc with
  |.string=>DU d fun m=>∃i,nth k m=some i/\h (gq i)
  |_=>False
 |some b,.agg f,.d (.int _ d)=>
  match b.desc with
  |.array c a=>match C.tt.get a with
   |some e=>DU d fun m=>iY (m<c) (KE C a f (m*e.size) h)
   |none=>False
  |_=>False
 |_,_,_=>False
def eN(f:TypeDesc)(a:V):List pP->Nat->Option (Option (Nat×V))
 |[],_=>some none
 |e::h,b=>
  match f,a,e.key with
  |.string,.d (.str d),.d (.str c)=>match decide (d=c)with
   |true=>some (some (b,e.val))
   |false=>eN f a h (b+1)
  |.int _,.d (.int j d),.d (.int i c)=>match rO j i,decide (d=c)with
   |true,true=>some (some (b,e.val))
   |true,false=>eN f a h (b+1)
   |false,_=>none
  |.bool,.d (.bool d),.d (.bool c)=>match d==c with
   |true=>some (some (b,e.val))
   |false=>eN f a h (b+1)
  |_,_,_=>none
def vP(b:VS):V->Option (List pP)
 |.d .BQ=>some []
 |.map c=>match nth b c with
  |some (.map a _)=>some a
  |_=>none
 |_=>none
def DZ(C:dU)(t:TypeId)(o a:V)(d:Bool)(j:VS)(m:V->Prop):Prop:=
 match C.tt.get t with
 |none=>False
 |some f=>
  match f.desc with
  |.map h k=>
   match C.tt.get h,C.tt.get k with
   |some c,some b=>
    match pI c.desc,vP j o with
    |true,some i=>∃l,eN c.desc a i 0=some l/\(match l with
     |some (_,n)=>m (match d with|true=>.dV [n,ct true]|false=>n)
     |none=>dn (sb b.zero) fun e=>RG b.agg e fun e=>m (match d with|true=>.dV [e,ct false]|false=>e))
    |_,_=>False
   |_,_=>False
  |_=>False
def l8:List pP->Nat->V->V->List pP
 |[],_,_,_=>[]
 |e::a,d,b,c=>match d with
  |0=>{e with key:=b,val:=c}::a
  |f+1=>e::l8 a f b c
def qt(C:dU)(t:TypeId)(m key k:V)(c:VS)(j:VS->Prop):Prop:=
 match C.tt.get t,m with
 |some e,.map h=>
  match e.desc with
  |.map f _=>
   match C.tt.get f,nth c h with
   |some d,some (.map b a)=>
    match pI d.desc with
    |false=>False
    |true=>∃i,eN d.desc key b 0=some i/\(match i with
     |some (l,_)=>yR c h (.map (l8 b l key k) a) j
     |none=>yR c h (.map (b++[{key:=key,val:=k,born:=a}]) (a+1)) j)
   |_,_=>False
  |_=>False
 |_,_=>False
def sd(C:dU)(f:V)(t:TypeId)(c:Bool)(d:V->Prop):Prop:=
 match C.tt.get t with
 |none=>False
 |some a=>
  match a.desc with
  |.interface _=>False
  |_=>
   match f with
   |.iface h e=>match YM h t with
    |true=>d (match c with|true=>.dV [e,ct true]|false=>e)
    |false=>match c with
     |true=>dn (sb a.zero) fun b=>RG a.agg b fun b=>d (.dV [b,ct false])
     |false=>False
   |.d .vO=>match c with
    |true=>dn (sb a.zero) fun b=>RG a.agg b fun b=>d (.dV [b,ct false])
    |false=>False
   |_=>False
def Ab(b:V)(d:Nat)(c:V->Prop):Prop:=
 match b with
 |.dV a=>dn (nth a d) c
 |_=>False
def T9(C:dU)(d:TI)(j:V)(i:VS)(f:List (List V)->Prop):Prop:=
 match j with
 |.d .cn=>f []
 |.d (.ps _ _ c _ a)=>iY (c=d.size) (f (a.map fun n=>n.map V.d))
 |.ms l c e b _=>match nth i l with
  |some (.row h a)=>iY (c=d.size/\h=c/\e+b<=a.length) (match e,YM b a.length with
   |0,true=>f a
   |_,_=>f ((a.drop e).take b))
  |_=>False
 |.d (.str k)=>iY (d.size=1) (f (k.map fun m=>[gq m]))
 |_=>False
def D0(C:dU)(o:Bool)(h:List TypeId)(l:List V)(e:VS)(m:V->VS->Prop):Prop:=
 match h,l with
 |[v,w],[A,z]=>
  match C.tt.get v,C.tt.get w with
  |some u,some p=>
   match u.desc,p.desc with
   |_,.int _=>False
   |.slice n,_=>
    match C.tt.get n with
    |some c=>
     match YP 0 c.size&&YM c.zero.length c.size with
     |false=>False
     |true=>T9 C c z e fun a=>
      match A with
      |.d .cn=>iY (a.length*c.bytes<=eF/\a.length<=eF) (hz (m (.d .cn) e)
       (match o with
       |true=>dn (oK a) fun t=>∀r:Nat,m (.d (.ps r 0 c.size t.length t)) e
       |false=>z6 e (.row c.size a) fun s j=>m (.ms s c.size 0 a.length a.length) j) (YM a.length 0))
      |.ms s i k b f=>match nth e s with
       |some (.row q d)=>iY (i=c.size/\q=i/\k+b<=d.length/\b<=f/\(b+a.length)*c.bytes<=eF/\b+a.length<=eF) (hz (m (.ms s i k b f) e)
        (hz False
        (yR e s .gone fun e=>
        (match o with
        |true=>dn (oK ((d.drop k).take b++a)) fun t=>∀r:Nat,m (.d (.ps r 0 c.size t.length t)) e
        |false=>z6 e (.row c.size ((d.drop k).take b++a)) fun y j=>m (.ms y c.size 0 (b+a.length) (b+a.length)) j)) (Nat.ble (b+a.length) f)) (YM a.length 0))
       |_=>False
      |.d (.ps r x i f d)=>iY (d.length<=f/\a=[]/\d.length*c.bytes<=eF/\d.length<=eF) (m (.d (.ps r x i f d)) e)
      |_=>False
    |none=>False
   |_,_=>False
  |_,_=>False
 |_,_=>False
def Ua(C:dU)(a:List TypeId)(b:List V)(j:VS)(c:V->Prop):Prop:=
 match a,b with
 |t::_,f::_=>
  match C.tt.get t with
  |none=>False
  |some h=>
   match h.desc,f with
   |.string,.d (.str k)=>c (.d (.int .i64 (YN k.length)))
   |.array l _,_=>c (.d (.int .i64 (YN l)))
   |.slice _,.d .cn=>c (.d (.int .i64 (YN 0)))
   |.slice _,.d (.ps _ _ _ _ d)=>c (.d (.int .i64 (YN d.length)))
   |.slice _,.ms _ _ _ e _=>c (.d (.int .i64 (YN e)))
   |.map _ _,f=>dn (vP j f) fun i=>c (.d (.int .i64 (YN i.length)))
   |_,_=>False
 |_,_=>False
def Vy(c:Bool)(b:IntKind):Int->List V->(V->Prop)->Prop
 |a,[],d=>d (.d (.int b a))
 |a,.d (.int _ e)::f,d=>Vy c b (match c with|true=>max a e|false=>min a e) f d
 |_,_::_,_=>False
def OM(C:dU)(b:Builtin)(a:List TypeId)(c:List V)(i:VS)(f:V->Prop):Prop:=
 match b with
 |.len=>Ua C a c i f
 |.max=>match c with
  |.d (.int d h)::e=>Vy true d h e f
  |_=>False
 |.min=>match c with
  |.d (.int d h)::e=>Vy false d h e f
  |_=>False
 |_=>False
def KF(C:dU)(c:Nat)(a:List V)(d:VS)(e:VR->Prop):Prop:=
 hz (e (.enter c a)) (match qs a with
  |some f=>∃b,C.ext c (f.map cx)=some (cx b)/\flat (cx b)=true/\e (.val (.d b) d)
  |none=>False) (C.ff.get c).isSome
def Ac(C:dU)(f:V)(a:List V)(c:VS)(d:VR->Prop):Prop:=
 match f with
 |.fn e first b=>KF C e (first++a++b) c d
 |.rN h=>d (.yield h a)
 |_=>False
def ON(f:V)(args:List V)(c:VR->Prop):Prop:=
 match f with
 |.fn b first a=>c (.defer {target:=.fn b a,args:=first++args})
 |_=>False
def OO(a:Operand->Option V):Option Operand->Option (Option V)
 |none=>some none
 |some b=>match a b with
  |some c=>some (some c)
  |none=>none
def Ad(C:dU)(a:Operand->Option V)(i:Op)(h:VS)(e:V->Prop):Prop:=
 match i with
 |.move c=>dn (a c) e
 |.pick p n o=>match a p,a n,a o with
  |some (.d (.bool d)),some f,some b=>hz (e f) (e b) d
  |_,_,_=>False
 |.build d q=>dn (z7 a q.toList) fun v=>IH C d v e
 |.load d n=>dn (a n) fun b=>KD C d b h e
 |.nilCheck c=>dn (a c) fun b=>xu b e
 |.binOp i d c w _=>dn (a c) fun f=>dn (a w) fun b=>T8 C i d c w f b e
 |.unOp i _ c=>dn (a c) fun f=>WY i f e
 |.convert z y c=>dn (a c) fun b=>Aa C z y b h e
 |.makeInterface d c=>dn (a c) fun b=>nO C d b e
 |.makeFunc fn n o=>match fn with
  |.func x=>dn (uj a n.toList) fun f=>dn (uj a o.toList) fun b=>e (.fn x f b)
  |_=>False
 |.slice d c u t s=>dn (a c) fun b=>dn (OO a u) fun v=>dn (OO a t) fun A=>dn (OO a s) fun m=>IJ C d b v A m h e
 |.fieldAddr d c r=>dn (a c) fun b=>uP C d b r e
 |.field d c r=>dn (a c) fun b=>IK C d b r e
 |.indexAddr d c l=>dn (a c) fun f=>dn (a l) fun b=>uQ C d f b e
 |.index d c l=>dn (a c) fun f=>dn (a l) fun b=>IL C d f b e
 |.lookup d c l k=>dn (a c) fun f=>dn (a l) fun b=>DZ C d f b k h e
 |.typeAssert c _ d k=>dn (a c) fun b=>sd C b d k e
 |.extract c l=>dn (a c) fun b=>Ab b l e
 |.call p=>dn (uj a p.args.toList) fun j=>match p.callee with
   |.builtin o=>OM C o p.argTypes.toList j h e
   |_=>False
 |_=>False
def uR(C:dU)(t:TypeId)(l c:V)(h:VS)(k:V->VS->Prop):Prop:=
 match C.tt.get t with
 |some f=>match f.desc with
  |.slice b=>match C.tt.get b with
   |some a=>match YP 0 a.size&&YM a.zero.length a.size,sb a.zero with
    |true,some j=>match l,c with
     |.d (.int .i64 i),.d (.int .i64 m)=>DU i fun d=>iY (m=i/\d*a.bytes<=1099511627776/\d<=1099511627776) (z6 h (.row a.size (uO j d)) fun n e=>k (.ms n a.size 0 d d) e)
     |_,_=>False
    |_,_=>False
   |none=>False
  |_=>False
 |none=>False
def WZ(C:dU)(j:Bool)(b:Operand->Option V)(op:Op)(a:VS)(e:VR->Prop):Prop:=
 match op with
 |.assign i=>dn (b i) fun c=>e (.val c a)
 |.store h r i=>dn (b r) fun c=>dn (b i) fun q=>kt C h c q a fun a=>e (.val (.dV []) a)
 |.mapUpdate h m k c=>dn (b m) fun m=>dn (b k) fun k=>dn (b c) fun c=>qt C h m k c a fun a=>e (.val (.dV []) a)
 |.insert h m k c=>dn (b m) fun m=>dn (b k) fun k=>dn (b c) fun c=>qt C h m k c a fun a=>e (.val (.dV []) a)
 |.call f=>match f.callee with
  |.value n=>dn (uj b f.args.toList) fun d=>dn (b n) fun c=>Ac C c d a e
  |.builtin .append=>dn (uj b f.args.toList) fun d=>D0 C j f.argTypes.toList d a fun c a=>e (.val c a)
  |.builtin .recover=>dn (uj b f.args.toList) fun _=>e .recover
  |_=>Ad C b (.call f) a fun c=>e (.val c a)
 |.defer f=>dn (uj b f.args.toList) fun d=>match f.callee with
  |.value n=>dn (b n) fun c=>ON c d e
  |_=>False
 |.panic i=>match b i with
  |some (.iface h c)=>e (.eE (.iface h c))
  |_=>False
 |.convert p l i=>match RH C l with
  |true=>dn (b i) fun c=>II C j p l c a fun c a=>e (.val c a)
  |false=>Ad C b (.convert p l i) a fun c=>e (.val c a)
 |.makeSlice h o f=>dn (b o) fun o=>dn (b f) fun f=>uR C h o f a fun c a=>e (.val c a)
 |op=>match ft op with
  |true=>OK C j b op a fun c a=>e (.val c a)
  |false=>Ad C b op a fun c=>e (.val c a)
structure Fz where
 L9:Nat->Option fH
 BR:Nat->Prop
 qu:Nat->Prop
instance:CoeFun Fz (fun _=>Nat->Option fH):=⟨Fz.L9⟩
structure Fz.le (Φ dx:Fz):Prop where
 L9:∀b o,Φ b=some o->dx b=some o
 BR:∀b o,Φ b=some o->(dx.BR b↔Φ.BR b)
 qu:∀f,Φ.qu f->dx.qu f
theorem Fz.le_refl(Φ:Fz):Φ.le Φ:=⟨fun _ _ a=>a,fun _ _ _=>Iff.rfl,fun _ a=>a⟩
theorem Fz.le.trans{j b c:Fz}(f:j.le b)(h:b.le c):j.le c:=⟨fun a e d=>h.L9 a e (f.L9 a e d),fun a e d=>(h.BR a e (f.L9 a e d)).trans (f.BR a e d),fun i d=>h.qu i (f.qu i d)⟩
inductive uS (Φ:Fz):D->Prop
 |bool (b:Bool):uS Φ (.bool b)
 |int (k:IntKind) (n:Int):uS Φ (.int k n)
 |str (s:List UInt8):uS Φ (.str s)
 |DR:uS Φ .DR
 |cn:uS Φ .cn
 |BQ:uS Φ .BQ
 |DS:uS Φ .DS
 |vO:uS Φ .vO
 |ps {b o es cap:Nat} {els:List (List D)} {c:List Value} {f p:Nat} (h:Φ b=some (.cells c es f p)) (hl:∀e∈els,e.length=es)
   (hb:o+els.length*es<=c.length) (hc:(c.drop o).take (els.length*es)=els.flatten.map cx) (hs:∀e∈els,∀d∈e,uS Φ d) (hd:Φ.BR b):uS Φ (.ps b o es cap els)
theorem uS.mono{Φ dx:Fz}(j:Φ.le dx){i:D}(b:uS Φ i):uS dx i:=by
 induction b with
 |bool n=>exact .bool n
 |int m k=>exact .int m k
 |str l=>exact .str l
 |DR=>exact .DR
 |cn=>exact .cn
 |BQ=>exact .BQ
 |DS=>exact .DS
 |vO=>exact .vO
 |ps a e h f _ c d=>exact .ps (j.L9 _ _ a) e h f d ((j.BR _ _ a).2 c)
inductive eV (Φ:Fz) (m:Nat):V->Prop
 |d {x:D} (h:uS Φ x):eV Φ m (.d x)
 |bp {i f:Nat} (h:i<m):eV Φ m (.bp i f)
 |ptr {i es k f:Nat} (h:i<m):eV Φ m (.ptr i es k f)
 |fp {b off:Nat} {cs:List D} {c:List Value} {e f p:Nat} (h:Φ b=some (.cells c e f p)) (hb:off+cs.length<=c.length) (hc:(c.drop off).take cs.length=cs.map cx)
   (hs:∀d∈cs,uS Φ d) (hd:Φ.BR b):eV Φ m (.fp b off cs)
 |ms {i es k len cap:Nat} (h:i<m):eV Φ m (.ms i es k len cap)
 |map {i:Nat} (h:i<m):eV Φ m (.map i)
 |fn {f:Nat} {a c:List V} (h1:∀v∈a,eV Φ m v) (h2:∀v∈c,eV Φ m v):eV Φ m (.fn f a c)
 |rN {l:Nat} (h:l<m):eV Φ m (.rN l)
 |iface {t:Nat} {v:V} (h:eV Φ m v):eV Φ m (.iface t v)
 |agg {l:List V} (h:∀v∈l,eV Φ m v):eV Φ m (.agg l)
 |dV {l:List V} (h:∀v∈l,eV Φ m v):eV Φ m (.dV l)
def eP(Φ:Fz)(m:Nat)(l:List V):Prop:=∀a∈l,eV Φ m a
theorem eV.mono{Φ dx:Fz}{m m':Nat}(e:Φ.le dx)(p:m<=m'){o:V}(h:eV Φ m o):eV dx m' o:=by
 induction h with
 |d c=>exact .d (c.mono e)
 |bp a=>exact .bp om
 |ptr a=>exact .ptr om
 |fp a i n j l=>exact .fp (e.L9 _ _ a) i n (fun d c=>(j d c).mono e) ((e.BR _ _ a).2 l)
 |ms a=>exact .ms om
 |map a=>exact .map om
 |fn _ _ f k=>exact .fn f k
 |rN a=>exact .rN om
 |iface _ b=>exact .iface b
 |agg _ b=>exact .agg b
 |dV _ b=>exact .dV b
theorem eP.mono{Φ dx:Fz}{m m':Nat}(d:Φ.le dx)(a:m<=m'){l:List V}(c:eP Φ m l):eP dx m' l:=fun e b=>(c e b).mono d a
theorem dM(ρ:Nat->Nat):∀a:List V,cm ρ a=a.map (erase ρ):=by
 intro a;induction a with
 |nil=>simp[cm]
 |cons c a b=>simp[cm,b]
theorem e9(ρ:Nat->Nat)(a b:List V):cm ρ (a++b)=cm ρ a++cm ρ b:=by simp[dM]
theorem cX(ρ:Nat->Nat)(a:List V):(cm ρ a).length=a.length:=by simp[dM]
variable{g:V}
theorem yj{Φ:Fz}{m:Nat}{ρ dm:Nat->Nat}(c:∀h,h<m->dm h=ρ h)(f:eV Φ m g):erase dm g=erase ρ g:=by
 induction f with
 |d _=>simp[erase]
 |bp a=>simp[erase,c _ a]
 |ptr a=>simp[erase,c _ a]
 |fp=>simp[erase]
 |ms a=>simp[erase,c _ a]
 |map a=>simp[erase,c _ a]
 |fn _ _ e i=>
  simp only[erase,dM];rw[YL e,YL i]
 |rN a=>simp[erase,c _ a]
 |iface _ b=>simp[erase,b]
 |agg _ b=>simp only[erase,dM];rw[YL b]
 |dV _ b=>simp only[erase,dM];rw[YL b]
theorem D1{Φ:Fz}{m:Nat}{ρ dm:Nat->Nat}(d:∀c,c<m->dm c=ρ c){l:List V}(a:eP Φ m l):cm dm l=cm ρ l:=by
 rw[dM,dM];exact YL fun e b=>yj d (a e b)
theorem D2{ρ:Nat->Nat}(a:gy g=true):fs (erase ρ g)=true:=by
 cases g with
 |d b=>cases b<;>simp[erase,cx,fs]
 |agg _=>cases a
 |dV _=>cases a
 |_=>simp[erase,fs]
def gD(Φ:Fz)(ρ:Nat->Nat)(m:Nat)(l:List (Nat×V))(a:Tr Value):Prop:=
 ∀c b,fb l c=some b->a.get c=some (erase ρ b)/\eV Φ m b
def iv(ρ:Nat->Nat)(a:e8):Deferred:=
 {target:=(match a.target with|.DT d=>.collected (ρ d)|.fn c b=>.fn (.func c) ⟨cm ρ b⟩),args:=⟨cm ρ a.args⟩}
def F7(Φ:Fz)(m:Nat)(a:e8):Prop:=
 (match a.target with|.DT c=>c<m|.fn _ b=>eP Φ m b)/\eP Φ m a.args
def Ae(Φ:Fz)(ρ:Nat->Nat)(m:Nat)(l:List e8)(a:List Deferred):Prop:=a=l.map (iv ρ)/\∀b∈l,F7 Φ m b
def iT(ρ:Nat->Nat)(a:pP):MapEntry:={key:=erase ρ a.key,val:=erase ρ a.val,born:=a.born}
structure W0 (Φ:Fz) (ρ:Nat->Nat) (m:Nat) (L:jl) (al:Cs):Prop where
 state:al.state=L.state
 pending:al.pending=L.pending
 fn:al.fn=L.fn
 tm:gD Φ ρ m L.tm al.tm
 nt:al.nt=L.nt
 params:al.params=L.params
 assign:al.assign=L.assign
 body:al.body=L.body
 defers:al.defers=ρ L.defers
 fF:L.defers<m
def Fg(Φ:Fz)(ρ:Nat->Nat)(m:Nat)(st:St)(o:cL)(b:Nat):Prop:=
 match o with
 |.box d=>(st.get b=some (.cells (cm ρ d) d.length b 0)/\st.fm.get b=none)/\eP Φ m d/\(∀i∈d,gy i=true)
 |.row c a=>(∃j n,st.get b=some (.cells (cm ρ a.flatten) c j n))/\(∀e∈a,e.length=c)/\(∀e∈a,eP Φ m e)/\(∀e∈a,∀i∈e,gy i=true)
 |.map c f=>st.get b=some (.map (c.map (iT ρ)) f)/\∀e∈c,eV Φ m e.key/\eV Φ m e.val
 |.loop l=>∃h,st.get b=some (.loop h)/\W0 Φ ρ m l h
 |.eG k=>st.get b=some (.eG k)
 |.gone=>True
def live:cL->Bool
 |.gone=>false
 |_=>true
structure WM (st:St):Prop where
 lt:∀f ms x,st.fm.get f=some ms->x∈ms->x<st.n
 row:∀f ms x o,st.fm.get f=some ms->x∈ms->st.get x=some o->o=.dead∨∃c e p,o=.cells c e f p
theorem WM.mem{st:St}(l:WM st):∀c a d j b f k,st.fm.get c=some a->d∈a->st.get d=some (.cells j b f k)->f=c:=by
 intro c a d j b f k e i h;rcases l.row c a d _ e i h with b|⟨_,_,_,b⟩
 ·cases b
 ·cases b;rfl
structure Real (Φ:Fz) (ρ:Nat->Nat) (σ:VS) (st:St):Prop where
 wf:WF st
 wm:WM st
 fz:∀b o,Φ b=some o->st.get b=some o
 Ma:∀b,Φ b≠some .dead
 qu:∀f,Φ.qu f->st.fm.get f=none/\f<st.n
 Mb:∀x y c e f p c' e' p',Φ x=some (.cells c e f p)->Φ y=some (.cells c' e' f p')->x=y
 H0:∀i es els c e f p,σ[i]?=some (.row es els)->st.get (ρ i)=some (.cells c e f p)->¬Φ.qu f
 obj:∀i o,σ[i]?=some o->live o=true->Fg Φ ρ σ.length st o (ρ i)/\Φ (ρ i)=none
 inj:∀i j oi oj,σ[i]?=some oi->σ[j]?=some oj->live oi=true->live oj=true->ρ i=ρ j->i=j
 dS:∀i es els c e f p ms x,σ[i]?=some (.row es els)->st.get (ρ i)=some (.cells c e f p)->st.fm.get f=some ms->x∈ms->x≠ρ i->
  Φ x=none/\∀j o,σ[j]?=some o->live o=true->ρ j≠x
structure hU (Φ:Fz) (ρ:Nat->Nat) (m:Nat) (dx:Fz) (dm:Nat->Nat) (m':Nat):Prop where
 le:Φ.le dx
 rG:∀i,i<m->dm i=ρ i
 len:m<=m'
theorem hU.refl(Φ:Fz)(ρ:Nat->Nat)(m:Nat):hU Φ ρ m Φ ρ m:=⟨Fz.le_refl _,fun _ _=>rfl,Nat.le_refl _⟩
theorem hU.trans{Φ a d:Fz}{ρ b c:Nat->Nat}{m f e:Nat}(i:hU Φ ρ m a b f)(j:hU a b f d c e):hU Φ ρ m d c e:=
 ⟨i.le.trans j.le,fun k h=>(j.rG k (YO h i.len)).trans (i.rG k h),Nat.le_trans i.len j.len⟩
section
variable{Φ dx:Fz} {ρ dm:Nat->Nat} {m m':Nat}
theorem hU.erase(c:hU Φ ρ m dx dm m'){b:V}(a:eV Φ m b):erase dm b=erase ρ b:=yj c.rG a
theorem hU.cm(c:hU Φ ρ m dx dm m'){b:List V}(a:eP Φ m b):cm dm b=cm ρ b:=D1 c.rG a
theorem hU.ok(b:hU Φ ρ m dx dm m')(a:eV Φ m g):eV dx m' g:=a.mono b.le b.len
theorem hU.KG(b:hU Φ ρ m dx dm m'){c:List V}(a:eP Φ m c):eP dx m' c:=a.mono b.le b.len
theorem hU.tm(e:hU Φ ρ m dx dm m'){l:List (Nat×V)}{a:Tr Value}(h:gD Φ ρ m l a):gD dx dm m' l a:=fun f i c=>by
 obtain⟨d,b⟩:=h f i c;exact⟨by rw[d,e.erase b],e.ok b⟩
theorem hU.WH(c:hU Φ ρ m dx dm m'){d:e8}(h:F7 Φ m d):iv dm d=iv ρ d/\F7 dx m' d:=by
 obtain⟨f,k⟩:=d;obtain⟨a,b⟩:=h;cases f with
 |DT e=>exact⟨by simp only[iv];rw[c.rG e a,c.cm b],YO a c.len,c.KG b⟩
 |fn i j=>exact⟨by simp only[iv];rw[c.cm a,c.cm b],c.KG a,c.KG b⟩
theorem hU.df(e:hU Φ ρ m dx dm m'){l:List e8}{b:List Deferred}(d:Ae Φ ρ m l b):Ae dx dm m' l b:=
 ⟨by rw[d.1];exact(YL fun c a=>(e.WH (d.2 c a)).1).symm,fun c a=>(e.WH (d.2 c a)).2⟩
theorem hU.lo(c:hU Φ ρ m dx dm m'){d:jl}{b:Cs}(a:W0 Φ ρ m d b):W0 dx dm m' d b:=
 ⟨a.state,a.pending,a.fn,c.tm a.tm,a.nt,a.params,a.assign,a.body,by rw[a.defers,c.rG _ a.fF],YO a.fF c.len⟩
theorem D3{a:List (List V)}(e:∀d∈a,eP Φ m d):eP Φ m a.flatten:=fun f b=>by
 obtain⟨d,c,b⟩:=List.mem_flatten.1 b;exact e d c f b
theorem hU.Vz(j:hU Φ ρ m dx dm m'){st h:St}{o:cL}{b:Nat}(f:h.get b=st.get b)(q:∀n,o=.box n->h.fm.get b=none)(l:Fg Φ ρ m st o b):Fg dx dm m' h o b:=by
 cases o with
 |box n=>
  obtain⟨⟨c,v⟩,a,i⟩:=l;exact⟨⟨by rw[f,c,j.cm a],q _ rfl⟩,j.KG a,i⟩
 |row k t=>
  obtain⟨⟨u,w,c⟩,a,i,s⟩:=l;exact⟨⟨u,w,by rw[f,c,j.cm (D3 i)]⟩,a,fun e d=>j.KG (i e d),s⟩
 |map k p=>
  obtain⟨c,a⟩:=l;refine⟨?_,fun e d=>⟨j.ok (a e d).1,j.ok (a e d).2⟩⟩;rw[f,c];have:k.map (iT dm)=k.map (iT ρ):=YL fun e d=>by
   simp only[iT];rw[j.erase (a e d).1,j.erase (a e d).2]
  rw[this]
 |loop x=>
  obtain⟨r,c,a⟩:=l;exact⟨r,by rw[f,c],j.lo a⟩
 |eG y=>exact f.trans l
 |gone=>trivial
theorem hU.obj(h:hU Φ ρ m dx dm m'){st dI:St}{o:cL}{b:Nat}(f:dI.get b=st.get b)(a:∀j e c k,st.get b=some (.cells j e c k)->st.fm.get c=none->dI.fm.get c=none)(d:Fg Φ ρ m st o b):Fg dx dm m' dI o b:=
 h.Vz f (fun i e=>by subst e;exact a _ _ _ _ d.1.1 d.1.2) d
end
end Go.VM
