/- Part of the proof. -/
import Derived.Test.YtpejealjkmhkgaaGreatDoorKAc
set_option linter.all false
set_option maxHeartbeats 16000000
set_option maxRecDepth 100000
open List renaming map_congr_left->abK
open Nat renaming beq->abL,lt_of_lt_of_le->aeu,blt->aev
open Int renaming ofNat->aet
namespace Go.VM
open Go.AM
inductive D where
 |bool (b:Bool)
 |int (k:IntKind) (n:Int)
 |str (s:cq)
 |GQ
 |ci
 |En
 |GR
 |yx
 |ps (b o es cap:Nat) (els:List (List D))
abbrev cH:Type:=List D
inductive V where
 |d (x:D)
 |bp (i f:Nat)
 |ptr (i es k f:Nat)
 |fp (b off:Nat) (cs:List D)
 |ms (i es k len cap:Nat)
 |map (i:Nat)
 |fn (f:Nat) (first aaD:List V)
 |tR (l:Nat)
 |iface (t:Nat) (v:V)
 |agg (l:List V)
 |dS (l:List V)
def cz:D->Value
 |.bool c=>.bool c
 |.int f d=>.int f d
 |.str e=>.string ⟨⟨e⟩⟩
 |.GQ=>.pointer none
 |.ci=>.slice none 0 0
 |.En=>.map none
 |.GR=>.nilFunc
 |.yx=>.nilIface
 |.ps c h _ b a=>.slice (some ⟨c,h,none⟩) a.length b
mutual
def erase(ρ:Nat->Nat):V->Value
 |.d x=>cz x
 |.bp i f=>.pointer (some ⟨ρ i,f,none⟩)
 |.ptr i es k f=>.pointer (some ⟨ρ i,k*es+f,none⟩)
 |.fp b off _=>.pointer (some ⟨b,off,none⟩)
 |.ms i es k len cap=>.slice (some ⟨ρ i,k*es,none⟩) len cap
 |.map i=>.map (some (ρ i))
 |.fn f first aaD=>.func (.func f) ⟨cl ρ first⟩ ⟨cl ρ aaD⟩
 |.tR l=>.func (.yield (ρ l)) #[] #[]
 |.iface t v=>.iface t (erase ρ v)
 |.agg l=>.agg ⟨cl ρ l⟩
 |.dS l=>.tuple ⟨cl ρ l⟩
def cl(ρ:Nat->Nat):List V->List Value
 |[]=>[]
 |v::l=>erase ρ v::cl ρ l
end
inductive V0 where
 |GS (r:Nat)
 |fn (f:Nat) (aaD:List V)
structure fq where
 target:V0
 args:List V
structure ki where
 state:LoopState
 pending:Option Code
 fn:FuncId
 tm:List (Nat×V)
 nt:Nat
 params:List Tmp
 assign:Code
 body:Code
 defers:Nat
 fz:Nat->Bool
structure rL where
 key:V
 val:V
 born:Nat
inductive cN where
 |box (cs:List V)
 |row (es:Nat) (els:List (List V))
 |map (es:List rL) (clock:Nat)
 |loop (l:ki)
 |eI (taken:Bool)
 |gone
abbrev VS:=List cN
inductive lJ where
 |none
 |gg (v:V)
 |rD
inductive Bu where
 |norm
 |exit (id:Nat)
 |ret
 |panic (v:V)
inductive cO where
 |ret (v:V)
 |eH (v:V)
structure uw where
 fn:FuncId
 nt:Nat
 round:Option Nat
 DZ:Bool
 fz:Nat->Bool
 fl:Nat
inductive VR where
 |val (v:V) (σ:VS)
 |eH (v:V)
 |enter (f:FuncId) (args:List V)
 |yield (l:Nat) (args:List V)
 |recover
 |defer (d:fq)
def gE:V->Bool
 |.agg _=>false
 |.dS _=>false
 |_=>true
def ZD:Value->Option D
 |.bool d=>some (.bool d)
 |.int c a=>some (.int c a)
 |.string b=>some (.str b.data.toList)
 |.pointer none=>some .GQ
 |.slice none 0 0=>some .ci
 |.map none=>some .En
 |.nilFunc=>some .GR
 |.nilIface=>some .yx
 |_=>none
def ux:List Value->Option (List V)
 |[]=>some []
 |v::b=>match ZD v,ux b with
  |some a,some c=>some (.d a::c)
  |_,_=>none
def ZE:Value->Option V
 |.agg ⟨b⟩=>match ux b with
  |some c=>some (.agg c)
  |none=>none
 |v=>match ZD v with
  |some a=>some (.d a)
  |none=>none
def gm:List (Nat×V)->Nat->Option V
 |[],_=>none
 |(b,c)::d,a=>match abL b a with
  |true=>some c
  |false=>gm d a
def Fq(a:List (Nat×V)):Operand->Option V
 |.tmp d=>gm a d
 |.const c=>ZE c
 |.global _=>none
 |.func b=>some (.fn b [] [])
def dn{a:Type}(o:Option a)(b:a->Prop):Prop:=
 match o with
 |some c=>b c
 |none=>False
def jR(p a:Prop)(b:Bool):Prop:=
 match b with
 |true=>p
 |false=>a
def jS(p:Prop)(a:Prop):Prop:=p/\a
def dG:V->List V
 |.agg a=>a
 |v=>[v]
def SM:Nat->List V->(List V->Prop)->Prop
 |0,_,a=>a []
 |_+1,[],_=>False
 |n+1,b::d,a=>SM n d fun c=>a (b::c)
def SN:List V->Nat->Nat->(List V->Prop)->Prop
 |e,0,a,b=>SM a e b
 |[],_+1,_,_=>False
 |_::d,c+1,a,b=>SN d c a b
def LR:Nat->List D->(List V->Prop)->Prop
 |0,_,a=>a []
 |_+1,[],_=>False
 |n+1,b::d,a=>LR n d fun c=>a (.d b::c)
def LS:Nat->List D->(List D->Prop)->Prop
 |0,b,a=>a b
 |_+1,[],_=>False
 |n+1,_::c,a=>LS n c a
def CG:List V->Nat->List V->(List V->Prop)->Prop
 |c,0,[],d=>d c
 |[],0,_::_,_=>False
 |_::c,0,f::a,d=>CG c 0 a fun b=>d (f::b)
 |[],_+1,_,_=>False
 |x::c,e+1,a,d=>CG c e a fun b=>d (x::b)
def SO:VS->cN->Nat->(Nat->VS->Prop)->Prop
 |[],d,c,a=>a c [d]
 |x::f,d,c,a=>SO f d (c+1) fun e b=>a e (x::b)
def Bv:VS->Nat->cN->(VS->Prop)->Prop
 |[],_,_,_=>False
 |_::d,0,c,b=>b (c::d)
 |x::d,e+1,c,b=>Bv d e c fun a=>b (x::a)
def CH(σ:VS)(o:cN)(c:Nat->VS->Prop):Prop:=SO σ o 0 fun b a=>uf b fun b=>c b a
def V1(a:Bool)(c:List V)(b:V->Prop):Prop:=
 match a with
 |true=>b (.agg c)
 |false=>match c with
  |[d]=>b d
  |_=>False
def ZF(a:List (List V))(b:Nat)(d:List V->Prop):Prop:=∃c,nth a b=some c/\d c
def GU(n:Int)(a:Nat->Prop):Prop:=∃m:Nat,n=aet m/\a m
def SP(n:Nat)(a:Bool)(l:V)(σ:VS)(i:V->Prop):Prop:=
 match l with
 |.bp j f=>match nth σ j with
  |some (.box b)=>SN b f n fun d=>V1 a d i
  |_=>False
 |.ptr j k h f=>match nth σ j with
  |some (.row e c)=>match abL k e with
   |true=>ZF c h fun m=>SN m f n fun d=>V1 a d i
   |false=>False
  |_=>False
 |.fp _ _ b=>LR n b fun d=>V1 a d i
 |_=>False
def NX(C:dR)(t:TypeId)(b:V)(σ:VS)(c:V->Prop):Prop:=
 match C.tt.get t with
 |some a=>match a.agg||abL a.size 1 with
  |true=>SP a.size a.agg b σ c
  |false=>False
 |none=>False
def mU(C:dR)(t:TypeId)(n h:V)(σ:VS)(m:VS->Prop):Prop:=
 match C.tt.get t with
 |some i=>match abL (dG h).length i.size&&(dG h).all gE with
  |true=>match n with
   |.bp d j=>match nth σ d with
    |some (.box k)=>CG k j (dG h) fun c=>Bv σ d (.box c) m
    |_=>False
   |.ptr d e b j=>match nth σ d with
    |some (.row f a)=>match abL e f with
     |true=>ZF a b fun o=>CG o j (dG h) fun l=>Bv σ d (.row e (a.set b l)) m
     |false=>False
    |_=>False
   |_=>False
  |false=>False
 |none=>False
def CI(a:Operand->Option V):List (Nat×Operand)->Option (List (Nat×V))
 |[]=>some []
 |(d,b)::c=>match a b,CI a c with
  |some e,some f=>some ((d,e)::f)
  |_,_=>none
def wL(a:Operand->Option V):List Operand->Option (List V)
 |[]=>some []
 |x::c=>match a x,wL a c with
  |some b,some d=>some (b::d)
  |_,_=>none
def Jf(a:Nat->Option (Nat×Nat)):List V->List (Nat×V)->(List V->Prop)->Prop
 |cells,[],e=>e cells
 |cells,(h,f)::b,e=>
  match a h with
  |none=>False
  |some (d,c)=>match abL (dG f).length c with
   |true=>CG cells d (dG f) fun i=>Jf a i b e
   |false=>False
def LU(C:dR)(t:TypeId)(d:List (Nat×V))(i:V->Prop):Prop:=
 match C.tt.get t with
 |some b=>
  match b.desc with
  |.struct a=>
   match(a.toList.all fun j=>(C.tt.get j.type).isSome),b.agg,ux b.zero with
   |true,true,some f=>Jf (gJ C a) f d fun h=>i (.agg h)
   |_,_,_=>False
  |.array _ c=>
   match C.tt.get c,b.agg,ux b.zero with
   |some e,true,some f=>Jf (fun k=>some (k*e.size,e.size)) f d fun h=>i (.agg h)
   |_,_,_=>False
  |_=>False
 |none=>False
def xo(a:List V):Nat->List (List V)
 |0=>[]
 |n+1=>a::xo a n
def GV(b:Nat):List (List V)->List (Nat×V)->Option (List (List V))
 |a,[]=>some a
 |a,(e,d)::c=>match abL (dG d).length b&&aev e a.length&&(dG d).all gE with
  |true=>GV b (a.set e (dG d)) c
  |false=>none
def Fs(C:dR)(e:Operand->Option V):Op->Option cN
 |.alloc j=>match C.tt.get j with
  |some b=>match ux b.zero,abL b.zero.length b.size with
   |some i,true=>some (.box i)
   |_,_=>none
  |none=>none
 |.box _ l=>match e l with
  |some k=>match(dG k).all gE with
   |true=>some (.box (dG k))
   |false=>none
  |none=>none
 |.makeMap _ none=>some (.map [] 0)
 |.buildSlice j c h=>match CI e h.toList,C.tt.get j with
  |some m,some b=>match b.desc with
   |.slice d=>match C.tt.get d with
    |some a=>match aev 0 a.size&&Nat.ble (c*a.size) 16777216&&abL a.zero.length a.size,ux a.zero with
     |true,some i=>match GV a.size (xo i c) m with
      |some f=>some (.row a.size f)
      |none=>none
     |_,_=>none
    |none=>none
   |_=>none
  |_,_=>none
 |_=>none
def aaE:Op->cN->Nat->Option V
 |.alloc _,.box _,b=>some (.bp b 0)
 |.box _ _,.box _,b=>some (.bp b 0)
 |.makeMap _ _,.map _ _,b=>some (.map b)
 |.buildSlice _ a _,.row c _,b=>some (.ms b c 0 a a)
 |_,_,_=>none
def sq:List V->Option (List D)
 |[]=>some []
 |.d a::c=>match sq c with
  |some b=>some (a::b)
  |none=>none
 |_::_=>none
def qC:List (List V)->Option (List (List D))
 |[]=>some []
 |e::c=>match sq e,qC c with
  |some a,some b=>some (a::b)
  |_,_=>none
def nk:Op->Bool
 |.buildSlice _ _ _=>true
 |_=>false
def SQ(C:dR)(e:Bool)(f:Operand->Option V)(a:Op)(σ:VS)(i:V->VS->Prop):Prop:=
 match Fs C f a with
 |some b=>match e&&nk a with
  |true=>match b with
   |.row h c=>match qC c with
    |some j=>∀k:Nat,i (.d (.ps k 0 h j.length j)) σ
    |none=>False
   |_=>False
  |false=>CH σ b fun l d=>dn (aaE a b l) fun m=>i m d
 |none=>False
def zZ(a:V)(b:V->Prop):Prop:=
 match a with
 |.bp _ _=>b a
 |.ptr _ _ _ _=>b a
 |.fp _ _ _=>b a
 |.iface _ _=>b a
 |.fn _ _ _=>b a
 |.tR _=>b a
 |_=>False
def bX(b:Bool):V:=.d (.bool b)
def GW(e:BinOp)(a:IntKind)(c b:Int)(d:V->Prop):Prop:=
 match e with
 |.add=>d (.d (.int a (a.wrap (c+b))))
 |.sub=>d (.d (.int a (a.wrap (c-b))))
 |.mul=>d (.d (.int a (a.wrap (c*b))))
 |.quo=>jS (b≠0) (d (.d (.int a (a.wrap (c.tdiv b)))))
 |.rem=>jS (b≠0) (d (.d (.int a (c.tmod b))))
 |.and=>d (.d (.int a (a.wrap (BitVec.ofInt a.bits c&&&BitVec.ofInt a.bits b).toNat)))
 |.or=>d (.d (.int a (a.wrap (BitVec.ofInt a.bits c|||BitVec.ofInt a.bits b).toNat)))
 |.xor=>d (.d (.int a (a.wrap (BitVec.ofInt a.bits c^^^BitVec.ofInt a.bits b).toNat)))
 |.andNot=>d (.d (.int a (a.wrap (BitVec.ofInt a.bits c&&& ~~~ BitVec.ofInt a.bits b).toNat)))
 |.eql=>d (bX (decide (c=b)))
 |.neq=>d (bX (!(decide (c=b))))
 |.lss=>d (bX (decide (c<b)))
 |.leq=>d (bX (decide (c<=b)))
 |.gtr=>d (bX (decide (b<c)))
 |.geq=>d (bX (decide (b<=c)))
 |_=>False
def SS(c:BinOp)(a:IntKind)(f b:Int)(e:V->Prop):Prop:=
 GU b fun d=>match c with
  |.shl=>e (.d (.int a (a.wrap (f*2^(min d a.bits)))))
  |.shr=>e (.d (.int a (f.fdiv (2^(min d a.bits)))))
  |_=>False
def GX(d:BinOp)(a b:cq)(c:V->Prop):Prop:=
 match d with
 |.add=>jS (a.length+b.length<=1099511627776) (c (.d (.str (a++b))))
 |.eql=>c (bX (decide (a=b)))
 |.neq=>c (bX (!(decide (a=b))))
 |.lss=>c (bX (cE a b))
 |.leq=>c (bX (cE a b||decide (a=b)))
 |.gtr=>c (bX (!(cE a b||decide (a=b))))
 |.geq=>c (bX (!(cE a b)))
 |_=>False
def GY:V->Option (Nat×Bool)
 |.d .GQ=>some (0,true)
 |.bp _ _=>some (0,false)
 |.ptr _ _ _ _=>some (0,false)
 |.fp _ _ _=>some (0,false)
 |.d .ci=>some (1,true)
 |.d (.ps _ _ _ _ _)=>some (1,false)
 |.ms _ _ _ _ _=>some (1,false)
 |.d .En=>some (2,true)
 |.map _=>some (2,false)
 |.d .GR=>some (3,true)
 |.fn _ _ _=>some (3,false)
 |.tR _=>some (3,false)
 |.d .yx=>some (4,true)
 |.iface _ _=>some (4,false)
 |_=>none
def Jg:TypeDesc->Option Nat
 |.pointer _=>some 0
 |.slice _=>some 1
 |.map _ _=>some 2
 |.func _ _ _=>some 3
 |.interface _=>some 4
 |_=>none
def vEq(C:dR)(t:TypeId)(l k:Operand)(a b:V)(h:Bool->Prop):Prop:=
 match a,b with
 |.d (.bool d),.d (.bool q)=>match C.tt.get t with
  |some c=>match c.desc with
   |.bool=>h (d==q)
   |_=>False
  |none=>False
 |.agg j,.agg m=>match sq j,sq m with
  |some j,some m=>∃n,O9 C t l k (.agg ⟨j.map cz⟩) (.agg ⟨m.map cz⟩)=some n/\h n
  |_,_=>False
 |a,b=>match C.tt.get t,GY a,GY b with
  |some c,some (f,d),some (i,q)=>match Jg c.desc with
   |some e=>match abL e f&&abL e i&&(d||q)&&(!(d&&q)|| !(abL e 4)||kA l||kA k)with
    |true=>h (d&&q)
    |false=>False
   |none=>False
  |_,_,_=>False
def aaF(C:dR)(c:BinOp)(t:TypeId)(k j:Operand)(a b:V)(f:V->Prop):Prop:=
 match a,b with
 |.d (.int d m),.d (.int e h)=>match BO c with
  |true=>SS c d m h f
  |false=>match tY d e with
   |true=>GW c d m h f
   |false=>False
 |.d (.str m),.d (.str h)=>GX c m h f
 |a,b=>match c with
  |.eql=>vEq C t k j a b fun i=>f (bX i)
  |.neq=>vEq C t k j a b fun i=>f (bX (!i))
  |_=>False
def vUn(b:UnOp)(e:V)(d:V->Prop):Prop:=
 match b,e with
 |.neg,.d (.int a c)=>d (.d (.int a (a.wrap (0-c))))
 |.xor,.d (.int a c)=>d (.d (.int a (a.wrap (BitVec.ofInt a.bits (if a.signed then-1 else a.max)^^^BitVec.ofInt a.bits c).toNat)))
 |.not,.d (.bool f)=>d (bX (!f))
 |_,_=>False
def io(c:UInt8):V:=.d (.int .u8 (aet c.toNat))
def uy(c:UInt8):D:=.int .u8 (aet c.toNat)
def CJ(C:dR)(src d:TypeId)(m:V)(σ:VS)(h:V->Prop):Prop:=
 match C.tt.get src,C.tt.get d with
 |some n,some k=>
  match n.desc,k.desc with
  |.int _,.int e=>match m with
   |.d (.int _ p)=>h (.d (.int e (e.wrap p)))
   |_=>False
  |.string,.string=>match m with
   |.d (.str q)=>h (.d (.str q))
   |_=>False
  |.slice s,.string=>
   match C.tt.get s with
   |some l=>match l.desc with
    |.int .u8=>match m with
     |.d .ci=>h (.d (.str []))
     |.d (.ps _ _ c _ a)=>∃i:cq,c=1/\a=(i.map fun o=>[uy o])/\h (.d (.str i))
     |.ms r c f b _=>match nth σ r with
      |some (.row j a)=>∃i:cq,c=1/\j=1/\(a.drop f).take b=(i.map fun o=>[io o])/\f+b<=a.length/\h (.d (.str i))
      |_=>False
     |_=>False
    |_=>False
   |none=>False
  |_,_=>False
 |_,_=>False
def LV(C:dR)(d:Bool)(src a:TypeId)(k:V)(σ:VS)(j:V->VS->Prop):Prop:=
 match C.tt.get src,C.tt.get a with
 |some h,some e=>
  match h.desc,e.desc,k with
  |.string,.slice n,.d (.str b)=>
   match C.tt.get n with
   |some f=>match f.desc with
    |.int .u8=>match d with
     |true=>∀l:Nat,j (.d (.ps l 0 1 b.length (b.map fun i=>[uy i]))) σ
     |false=>CH σ (.row 1 (b.map fun i=>[io i])) fun m c=>j (.ms m 1 0 b.length b.length) c
    |_=>False
   |none=>False
  |_,_,_=>False
 |_,_=>False
def V2(C:dR)(a:TypeId):Bool:=
 match C.tt.get a with
 |some b=>match b.desc with
  |.slice _=>true
  |_=>false
 |none=>false
def pL(C:dR)(t:TypeId)(b:V)(c:V->Prop):Prop:=
 match C.tt.get t with
 |some a=>match a.desc with
  |.interface _=>False
  |_=>c (.iface t b)
 |none=>False
def lc:Option V->Nat->(Nat->Prop)->Prop
 |none,b,a=>a b
 |some (.d (.int _ c)),_,a=>GU c a
 |_,_,_=>False
def LW(C:dR)(t:TypeId)(o:V)(lo f e:Option V)(σ:VS)(n:V->Prop):Prop:=
 match C.tt.get t with
 |none=>False
 |some q=>
  match q.desc,o with
  |.string,.d (.str r)=>match e with
   |none=>lc lo 0 fun d=>lc f r.length fun h=>jS (d<=h/\h<=r.length) (n (.d (.str ((r.take h).drop d))))
   |some _=>False
  |.slice i,o=>
   match C.tt.get i with
   |none=>False
   |some k=>match o with
    |.d .ci=>lc lo 0 fun d=>lc f 0 fun h=>lc e 0 fun m=>jS (d=0/\h=0/\m=0/\(f.isSome||e.isNone)=true) (n (.d .ci))
    |.d (.ps v u b a c)=>match e with
     |none=>lc lo 0 fun d=>lc f c.length fun h=>jS (d<=h/\h<=c.length/\c.length<=a/\0<a/\b=k.size) (n (.d (.ps v (u+d*b) b (a-d) ((c.take h).drop d))))
     |some _=>False
    |.ms s b p l a=>match nth σ s with
     |some (.row j _)=>lc lo 0 fun d=>lc f l fun h=>lc e a fun m=>jS (d<=h/\h<=m/\m<=a/\0<=a/\b=k.size/\j=b/\(f.isSome||e.isNone)=true) (n (.ms s b (p+d) (h-d) (m-d)))
     |_=>False
    |_=>False
  |_,_=>False
def xq(C:dR)(s:TypeId)(m:V)(f:Nat)(j:V->Prop):Prop:=
 match C.tt.get s with
 |some h=>
  match h.desc with
  |.struct b=>match gJ C b f with
   |some (a,e)=>match aev 0 e,m with
    |true,.bp k c=>uf (c+a) fun c=>j (.bp k c)
    |true,.ptr k l i c=>uf (c+a) fun c=>j (.ptr k l i c)
    |true,.fp n o d=>LS a d fun d=>j (.fp n (o+a) d)
    |_,_=>False
   |none=>False
  |_=>False
 |none=>False
def NY(C:dR)(t:TypeId)(c:List V)(a:Nat)(d:V->Prop):Prop:=
 match C.tt.get t with
 |some b=>match b.agg with
  |true=>SN c a b.size fun e=>d (.agg e)
  |false=>dn (nth c a) d
 |none=>False
def LX(C:dR)(t:TypeId)(e:V)(f:Nat)(h:V->Prop):Prop:=
 match C.tt.get t,e with
 |some c,.agg d=>
  match c.desc with
  |.struct a=>match nth a.toList f with
   |some b=>NY C b.type d b.offset h
   |none=>False
  |_=>False
 |_,_=>False
def xu(C:dR)(t:TypeId)(n q:V)(k:V->Prop):Prop:=
 match C.tt.get t,q with
 |some f,.d (.int _ i)=>
  match f.desc with
  |.slice a=>match C.tt.get a with
   |some d=>match n with
    |.ms l b j c _=>match abL b d.size with
     |true=>GU i fun m=>jS (m<c) (k (.ptr l b (j+m) 0))
     |false=>False
    |.d (.ps p r b _ e)=>match abL b d.size with
     |true=>GU i fun m=>∃o,nth e m=some o/\k (.fp p (r+m*b) o)
     |false=>False
    |_=>False
   |none=>False
  |.array c a=>match C.tt.get a with
   |some d=>match n with
    |.bp l h=>GU i fun m=>jS (m<c) (uf (h+m*d.size) fun h=>k (.bp l h))
    |_=>False
   |none=>False
  |_=>False
 |_,_=>False
def LY(C:dR)(t:TypeId)(j l:V)(h:V->Prop):Prop:=
 match C.tt.get t,j,l with
 |some b,.d (.str k),.d (.int _ d)=>
  match b.desc with
  |.string=>GU d fun m=>∃i,nth k m=some i/\h (io i)
  |_=>False
 |some b,.agg f,.d (.int _ d)=>
  match b.desc with
  |.array c a=>match C.tt.get a with
   |some e=>GU d fun m=>jS (m<c) (NY C a f (m*e.size) h)
   |none=>False
  |_=>False
 |_,_,_=>False
def eN(f:TypeDesc)(a:V):List rL->Nat->Option (Option (Nat×V))
 |[],_=>some none
 |e::h,b=>
  match f,a,e.key with
  |.string,.d (.str d),.d (.str c)=>match decide (d=c)with
   |true=>some (some (b,e.val))
   |false=>eN f a h (b+1)
  |.int _,.d (.int j d),.d (.int i c)=>match tY j i,decide (d=c)with
   |true,true=>some (some (b,e.val))
   |true,false=>eN f a h (b+1)
   |false,_=>none
  |.bool,.d (.bool d),.d (.bool c)=>match d==c with
   |true=>some (some (b,e.val))
   |false=>eN f a h (b+1)
  |_,_,_=>none
def yy(σ:VS):V->Option (List rL)
 |.d .En=>some []
 |.map b=>match nth σ b with
  |some (.map a _)=>some a
  |_=>none
 |_=>none
def GZ(C:dR)(t:TypeId)(n a:V)(d:Bool)(σ:VS)(l:V->Prop):Prop:=
 match C.tt.get t with
 |none=>False
 |some f=>
  match f.desc with
  |.map h j=>
   match C.tt.get h,C.tt.get j with
   |some c,some b=>
    match rF c.desc,yy σ n with
    |true,some i=>∃k,eN c.desc a i 0=some k/\(match k with
     |some (_,m)=>l (match d with|true=>.dS [m,bX true]|false=>m)
     |none=>dn (ux b.zero) fun e=>V1 b.agg e fun e=>l (match d with|true=>.dS [e,bX false]|false=>e))
    |_,_=>False
   |_,_=>False
  |_=>False
def nR:List rL->Nat->V->V->List rL
 |[],_,_,_=>[]
 |e::a,d,b,c=>match d with
  |0=>{e with key:=b,val:=c}::a
  |f+1=>e::nR a f b c
def sr(C:dR)(t:TypeId)(m key j:V)(σ:VS)(i:VS->Prop):Prop:=
 match C.tt.get t,m with
 |some d,.map f=>
  match d.desc with
  |.map e _=>
   match C.tt.get e,nth σ f with
   |some c,some (.map b a)=>
    match rF c.desc with
    |false=>False
    |true=>∃h,eN c.desc key b 0=some h/\(match h with
     |some (k,_)=>Bv σ f (.map (nR b k key j) a) i
     |none=>Bv σ f (.map (b++[{key:=key,val:=j,born:=a}]) (a+1)) i)
   |_,_=>False
  |_=>False
 |_,_=>False
def uz(C:dR)(f:V)(t:TypeId)(c:Bool)(d:V->Prop):Prop:=
 match C.tt.get t with
 |none=>False
 |some a=>
  match a.desc with
  |.interface _=>False
  |_=>
   match f with
   |.iface h e=>match abL h t with
    |true=>d (match c with|true=>.dS [e,bX true]|false=>e)
    |false=>match c with
     |true=>dn (ux a.zero) fun b=>V1 a.agg b fun b=>d (.dS [b,bX false])
     |false=>False
   |.d .yx=>match c with
    |true=>dn (ux a.zero) fun b=>V1 a.agg b fun b=>d (.dS [b,bX false])
    |false=>False
   |_=>False
def CK(b:V)(d:Nat)(c:V->Prop):Prop:=
 match b with
 |.dS a=>dn (nth a d) c
 |_=>False
def aaG(C:dR)(d:TI)(i:V)(σ:VS)(f:List (List V)->Prop):Prop:=
 match i with
 |.d .ci=>f []
 |.d (.ps _ _ c _ a)=>jS (c=d.size) (f (a.map fun m=>m.map V.d))
 |.ms k c e b _=>match nth σ k with
  |some (.row h a)=>jS (c=d.size/\h=c/\e+b<=a.length) (match e,abL b a.length with
   |0,true=>f a
   |_,_=>f ((a.drop e).take b))
  |_=>False
 |.d (.str j)=>jS (d.size=1) (f (j.map fun l=>[io l]))
 |_=>False
def G0(C:dR)(n:Bool)(f:List TypeId)(k:List V)(σ:VS)(l:V->VS->Prop):Prop:=
 match f,k with
 |[u,v],[z,y]=>
  match C.tt.get u,C.tt.get v with
  |some t,some o=>
   match t.desc,o.desc with
   |_,.int _=>False
   |.slice m,_=>
    match C.tt.get m with
    |some c=>
     match aev 0 c.size&&abL c.zero.length c.size with
     |false=>False
     |true=>aaG C c y σ fun a=>
      match z with
      |.d .ci=>jS (a.length*c.bytes<=fy/\a.length<=fy) (jR (l (.d .ci) σ)
       (match n with
       |true=>dn (qC a) fun s=>∀q:Nat,l (.d (.ps q 0 c.size s.length s)) σ
       |false=>CH σ (.row c.size a) fun r i=>l (.ms r c.size 0 a.length a.length) i) (abL a.length 0))
      |.ms r h j b e=>match nth σ r with
       |some (.row p d)=>jS (h=c.size/\p=h/\j+b<=d.length/\b<=e/\(b+a.length)*c.bytes<=fy/\b+a.length<=fy) (jR (l (.ms r h j b e) σ)
        (jR False
        (Bv σ r .gone fun σ=>
        (match n with
        |true=>dn (qC ((d.drop j).take b++a)) fun s=>∀q:Nat,l (.d (.ps q 0 c.size s.length s)) σ
        |false=>CH σ (.row c.size ((d.drop j).take b++a)) fun x i=>l (.ms x c.size 0 (b+a.length) (b+a.length)) i)) (Nat.ble (b+a.length) e)) (abL a.length 0))
       |_=>False
      |.d (.ps q w h e d)=>jS (d.length<=e/\a=[]/\d.length*c.bytes<=fy/\d.length<=fy) (l (.d (.ps q w h e d)) σ)
      |_=>False
    |none=>False
   |_,_=>False
  |_,_=>False
 |_,_=>False
def aaH(C:dR)(a:List TypeId)(b:List V)(σ:VS)(c:V->Prop):Prop:=
 match a,b with
 |t::_,h::_=>
  match C.tt.get t with
  |none=>False
  |some f=>
   match f.desc,h with
   |.string,.d (.str j)=>c (.d (.int .i64 (aet j.length)))
   |.array k _,_=>c (.d (.int .i64 (aet k)))
   |.slice _,.d .ci=>c (.d (.int .i64 (aet 0)))
   |.slice _,.d (.ps _ _ _ _ d)=>c (.d (.int .i64 (aet d.length)))
   |.slice _,.ms _ _ _ e _=>c (.d (.int .i64 (aet e)))
   |.map _ _,h=>dn (yy σ h) fun i=>c (.d (.int .i64 (aet i.length)))
   |_,_=>False
 |_,_=>False
def vmm(c:Bool)(b:IntKind):Int->List V->(V->Prop)->Prop
 |a,[],d=>d (.d (.int b a))
 |a,.d (.int _ e)::f,d=>vmm c b (match c with|true=>max a e|false=>min a e) f d
 |_,_::_,_=>False
def SU(C:dR)(b:Builtin)(a:List TypeId)(c:List V)(σ:VS)(f:V->Prop):Prop:=
 match b with
 |.len=>aaH C a c σ f
 |.max=>match c with
  |.d (.int d h)::e=>vmm true d h e f
  |_=>False
 |.min=>match c with
  |.d (.int d h)::e=>vmm false d h e f
  |_=>False
 |_=>False
def NZ(C:dR)(c:Nat)(a:List V)(σ:VS)(K:VR->Prop):Prop:=
 jR (K (.enter c a)) (match sq a with
  |some d=>∃b,C.ext c (d.map cz)=some (cz b)/\flat (cz b)=true/\K (.val (.d b) σ)
  |none=>False) (C.ff.get c).isSome
def CL(C:dR)(f:V)(a:List V)(σ:VS)(K:VR->Prop):Prop:=
 match f with
 |.fn c first b=>NZ C c (first++a++b) σ K
 |.tR d=>K (.yield d a)
 |_=>False
def SV(f:V)(args:List V)(K:VR->Prop):Prop:=
 match f with
 |.fn b first a=>K (.defer {target:=.fn b a,args:=first++args})
 |_=>False
def SW(a:Operand->Option V):Option Operand->Option (Option V)
 |none=>some none
 |some b=>match a b with
  |some c=>some (some c)
  |none=>none
def CM(C:dR)(a:Operand->Option V)(h:Op)(σ:VS)(e:V->Prop):Prop:=
 match h with
 |.move c=>dn (a c) e
 |.pick o l n=>match a o,a l,a n with
  |some (.d (.bool d)),some f,some b=>jR (e f) (e b) d
  |_,_,_=>False
 |.build d p=>dn (CI a p.toList) fun u=>LU C d u e
 |.load d l=>dn (a l) fun b=>NX C d b σ e
 |.nilCheck c=>dn (a c) fun b=>zZ b e
 |.binOp h d c v _=>dn (a c) fun f=>dn (a v) fun b=>aaF C h d c v f b e
 |.unOp h _ c=>dn (a c) fun f=>vUn h f e
 |.convert y x c=>dn (a c) fun b=>CJ C y x b σ e
 |.makeInterface d c=>dn (a c) fun b=>pL C d b e
 |.makeFunc fn l n=>match fn with
  |.func w=>dn (wL a l.toList) fun f=>dn (wL a n.toList) fun b=>e (.fn w f b)
  |_=>False
 |.slice d c t s r=>dn (a c) fun b=>dn (SW a t) fun u=>dn (SW a s) fun z=>dn (SW a r) fun m=>LW C d b u z m σ e
 |.fieldAddr d c q=>dn (a c) fun b=>xq C d b q e
 |.field d c q=>dn (a c) fun b=>LX C d b q e
 |.indexAddr d c k=>dn (a c) fun f=>dn (a k) fun b=>xu C d f b e
 |.index d c k=>dn (a c) fun f=>dn (a k) fun b=>LY C d f b e
 |.lookup d c k j=>dn (a c) fun f=>dn (a k) fun b=>GZ C d f b j σ e
 |.typeAssert c _ d j=>dn (a c) fun b=>uz C b d j e
 |.extract c k=>dn (a c) fun b=>CK b k e
 |.call o=>dn (wL a o.args.toList) fun i=>match o.callee with
   |.builtin n=>SU C n o.argTypes.toList i σ e
   |_=>False
 |_=>False
def xv(C:dR)(t:TypeId)(l c:V)(σ:VS)(j:V->VS->Prop):Prop:=
 match C.tt.get t with
 |some f=>match f.desc with
  |.slice b=>match C.tt.get b with
   |some a=>match aev 0 a.size&&abL a.zero.length a.size,ux a.zero with
    |true,some i=>match l,c with
     |.d (.int .i64 h),.d (.int .i64 k)=>GU h fun d=>jS (k=h/\d*a.bytes<=1099511627776/\d<=1099511627776) (CH σ (.row a.size (xo i d)) fun m e=>j (.ms m a.size 0 d d) e)
     |_,_=>False
    |_,_=>False
   |none=>False
  |_=>False
 |none=>False
def vop(C:dR)(h:Bool)(a:Operand->Option V)(op:Op)(σ:VS)(K:VR->Prop):Prop:=
 match op with
 |.assign f=>dn (a f) fun b=>K (.val b σ)
 |.store e p f=>dn (a p) fun b=>dn (a f) fun o=>mU C e b o σ fun σ=>K (.val (.dS []) σ)
 |.mapUpdate e m i b=>dn (a m) fun m=>dn (a i) fun i=>dn (a b) fun b=>sr C e m i b σ fun σ=>K (.val (.dS []) σ)
 |.insert e m i b=>dn (a m) fun m=>dn (a i) fun i=>dn (a b) fun b=>sr C e m i b σ fun σ=>K (.val (.dS []) σ)
 |.call d=>match d.callee with
  |.value k=>dn (wL a d.args.toList) fun c=>dn (a k) fun b=>CL C b c σ K
  |.builtin .append=>dn (wL a d.args.toList) fun c=>G0 C h d.argTypes.toList c σ fun b σ=>K (.val b σ)
  |.builtin .recover=>dn (wL a d.args.toList) fun _=>K .recover
  |_=>CM C a (.call d) σ fun b=>K (.val b σ)
 |.defer d=>dn (wL a d.args.toList) fun c=>match d.callee with
  |.value k=>dn (a k) fun b=>SV b c K
  |_=>False
 |.panic f=>match a f with
  |some (.iface e b)=>K (.eH (.iface e b))
  |_=>False
 |.convert n j f=>match V2 C j with
  |true=>dn (a f) fun b=>LV C h n j b σ fun b σ=>K (.val b σ)
  |false=>CM C a (.convert n j f) σ fun b=>K (.val b σ)
 |.makeSlice e l d=>dn (a l) fun l=>dn (a d) fun d=>xv C e l d σ fun b σ=>K (.val b σ)
 |op=>match gh op with
  |true=>SQ C h a op σ fun b σ=>K (.val b σ)
  |false=>CM C a op σ fun b=>K (.val b σ)
structure Fz where
 Rv:Nat->Option fX
 Eo:Nat->Prop
 ss:Nat->Prop
instance:CoeFun Fz (fun _=>Nat->Option fX):=⟨Fz.Rv⟩
structure Fz.le (Φ du:Fz):Prop where
 Rv:∀b o,Φ b=some o->du b=some o
 Eo:∀b o,Φ b=some o->(du.Eo b↔Φ.Eo b)
 ss:∀f,Φ.ss f->du.ss f
theorem Fz.le_refl(Φ:Fz):Φ.le Φ:=⟨fun _ _ a=>a,fun _ _ _=>Iff.rfl,fun _ a=>a⟩
theorem Fz.le.trans{j b c:Fz}(f:j.le b)(h:b.le c):j.le c:=⟨fun a e d=>h.Rv a e (f.Rv a e d),fun a e d=>(h.Eo a e (f.Rv a e d)).trans (f.Eo a e d),fun i d=>h.ss i (f.ss i d)⟩
inductive xw (Φ:Fz):D->Prop
 |bool (b:Bool):xw Φ (.bool b)
 |int (k:IntKind) (n:Int):xw Φ (.int k n)
 |str (s:cq):xw Φ (.str s)
 |GQ:xw Φ .GQ
 |ci:xw Φ .ci
 |En:xw Φ .En
 |GR:xw Φ .GR
 |yx:xw Φ .yx
 |ps {b o es cap:Nat} {els:List cH} {c:List Value} {f p:Nat} (h:Φ b=some (.cells c es f p)) (hl:∀e∈els,e.length=es)
   (hb:o+els.length*es<=c.length) (hc:(c.drop o).take (els.length*es)=els.flatten.map cz) (hs:∀e∈els,∀d∈e,xw Φ d) (hd:Φ.Eo b):xw Φ (.ps b o es cap els)
theorem xw.mono{Φ du:Fz}(j:Φ.le du){i:D}(b:xw Φ i):xw du i:=by
 induction b with
 |bool n=>exact .bool n
 |int m k=>exact .int m k
 |str l=>exact .str l
 |GQ=>exact .GQ
 |ci=>exact .ci
 |En=>exact .En
 |GR=>exact .GR
 |yx=>exact .yx
 |ps a e h f _ c d=>exact .ps (j.Rv _ _ a) e h f d ((j.Eo _ _ a).2 c)
inductive e9 (Φ:Fz) (m:Nat):V->Prop
 |d {x:D} (h:xw Φ x):e9 Φ m (.d x)
 |bp {i f:Nat} (h:i<m):e9 Φ m (.bp i f)
 |ptr {i es k f:Nat} (h:i<m):e9 Φ m (.ptr i es k f)
 |fp {b off:Nat} {cs:cH} {c:List Value} {e f p:Nat} (h:Φ b=some (.cells c e f p)) (hb:off+cs.length<=c.length) (hc:(c.drop off).take cs.length=cs.map cz)
   (hs:∀d∈cs,xw Φ d) (hd:Φ.Eo b):e9 Φ m (.fp b off cs)
 |ms {i es k len cap:Nat} (h:i<m):e9 Φ m (.ms i es k len cap)
 |map {i:Nat} (h:i<m):e9 Φ m (.map i)
 |fn {f:Nat} {a c:List V} (h1:∀v∈a,e9 Φ m v) (h2:∀v∈c,e9 Φ m v):e9 Φ m (.fn f a c)
 |tR {l:Nat} (h:l<m):e9 Φ m (.tR l)
 |iface {t:Nat} {v:V} (h:e9 Φ m v):e9 Φ m (.iface t v)
 |agg {l:List V} (h:∀v∈l,e9 Φ m v):e9 Φ m (.agg l)
 |dS {l:List V} (h:∀v∈l,e9 Φ m v):e9 Φ m (.dS l)
def eV(Φ:Fz)(m:Nat)(l:List V):Prop:=∀a∈l,e9 Φ m a
theorem e9.mono{Φ du:Fz}{m m':Nat}(e:Φ.le du)(p:m<=m'){o:V}(h:e9 Φ m o):e9 du m' o:=by
 induction h with
 |d c=>exact .d (c.mono e)
 |bp a=>exact .bp om
 |ptr a=>exact .ptr om
 |fp a i n j l=>exact .fp (e.Rv _ _ a) i n (fun d c=>(j d c).mono e) ((e.Eo _ _ a).2 l)
 |ms a=>exact .ms om
 |map a=>exact .map om
 |fn _ _ f k=>exact .fn f k
 |tR a=>exact .tR om
 |iface _ b=>exact .iface b
 |agg _ b=>exact .agg b
 |dS _ b=>exact .dS b
theorem eV.mono{Φ du:Fz}{m m':Nat}(d:Φ.le du)(a:m<=m'){l:List V}(c:eV Φ m l):eV du m' l:=fun e b=>(c e b).mono d a
theorem dL(ρ:Nat->Nat):∀a:List V,cl ρ a=a.map (erase ρ):=by
 intro a;induction a with
 |nil=>simp[cl]
 |cons c a b=>simp[cl,b]
theorem fC(ρ:Nat->Nat)(a b:List V):cl ρ (a++b)=cl ρ a++cl ρ b:=by simp[dL]
theorem cW(ρ:Nat->Nat)(a:List V):(cl ρ a).length=a.length:=by simp[dL]
variable{g:V}
theorem AU{Φ:Fz}{m:Nat}{ρ dk:Nat->Nat}(c:∀h,h<m->dk h=ρ h)(f:e9 Φ m g):erase dk g=erase ρ g:=by
 induction f with
 |d _=>simp[erase]
 |bp a=>simp[erase,c _ a]
 |ptr a=>simp[erase,c _ a]
 |fp=>simp[erase]
 |ms a=>simp[erase,c _ a]
 |map a=>simp[erase,c _ a]
 |fn _ _ e i=>
  simp only[erase,dL];rw[abK e,abK i]
 |tR a=>simp[erase,c _ a]
 |iface _ b=>simp[erase,b]
 |agg _ b=>simp only[erase,dL];rw[abK b]
 |dS _ b=>simp only[erase,dL];rw[abK b]
theorem G1{Φ:Fz}{m:Nat}{ρ dk:Nat->Nat}(d:∀c,c<m->dk c=ρ c){l:List V}(a:eV Φ m l):cl dk l=cl ρ l:=by
 rw[dL,dL];exact abK fun e b=>AU d (a e b)
theorem G2{ρ:Nat->Nat}(a:gE g=true):fM (erase ρ g)=true:=by
 cases g with
 |d b=>cases b<;>simp[erase,cz,fM]
 |agg _=>cases a
 |dS _=>cases a
 |_=>simp[erase,fM]
def gK(Φ:Fz)(ρ:Nat->Nat)(m:Nat)(l:List (Nat×V))(a:Tr Value):Prop:=
 ∀c b,gm l c=some b->a.get c=some (erase ρ b)/\e9 Φ m b
def jq(ρ:Nat->Nat)(a:fq):Deferred:=
 {target:=(match a.target with|.GS d=>.collected (ρ d)|.fn c b=>.fn (.func c) ⟨cl ρ b⟩),args:=⟨cl ρ a.args⟩}
def Jh(Φ:Fz)(m:Nat)(a:fq):Prop:=
 (match a.target with|.GS c=>c<m|.fn _ b=>eV Φ m b)/\eV Φ m a.args
def CN(Φ:Fz)(ρ:Nat->Nat)(m:Nat)(l:List fq)(a:List Deferred):Prop:=a=l.map (jq ρ)/\∀b∈l,Jh Φ m b
def ke(ρ:Nat->Nat)(a:rL):MapEntry:={key:=erase ρ a.key,val:=erase ρ a.val,born:=a.born}
structure LOk (Φ:Fz) (ρ:Nat->Nat) (m:Nat) (L:ki) (al:Fg):Prop where
 state:al.state=L.state
 pending:al.pending=L.pending
 fn:al.fn=L.fn
 tm:gK Φ ρ m L.tm al.tm
 nt:al.nt=L.nt
 params:al.params=L.params
 assign:al.assign=L.assign
 body:al.body=L.body
 defers:al.defers=ρ L.defers
 ee:L.defers<m
def Ig(Φ:Fz)(ρ:Nat->Nat)(m:Nat)(st:St)(o:cN)(b:Nat):Prop:=
 match o with
 |.box d=>(st.get b=some (.cells (cl ρ d) d.length b 0)/\st.fm.get b=none)/\eV Φ m d/\(∀i∈d,gE i=true)
 |.row c a=>(∃j n,st.get b=some (.cells (cl ρ a.flatten) c j n))/\(∀f∈a,f.length=c)/\(∀f∈a,eV Φ m f)/\(∀f∈a,∀i∈f,gE i=true)
 |.map c e=>st.get b=some (.map (c.map (ke ρ)) e)/\∀f∈c,e9 Φ m f.key/\e9 Φ m f.val
 |.loop l=>∃h,st.get b=some (.loop h)/\LOk Φ ρ m l h
 |.eI k=>st.get b=some (.eI k)
 |.gone=>True
def live:cN->Bool
 |.gone=>false
 |_=>true
structure WM (st:St):Prop where
 lt:∀f ms x,st.fm.get f=some ms->x∈ms->x<st.n
 row:∀f ms x o,st.fm.get f=some ms->x∈ms->st.get x=some o->o=.dead∨∃c e p,o=.cells c e f p
theorem WM.mem{st:St}(l:WM st):∀c a d j b f k,st.fm.get c=some a->d∈a->st.get d=some (.cells j b f k)->f=c:=by
 intro c a d j b f k e i h;rcases l.row c a d _ e i h with b|⟨_,_,_,b⟩
 ·cases b
 ·cases b;rfl
structure Real (Φ:Fz) (ρ:Nat->Nat) (σ:VS) (st:St):Prop where
 wf:WF st
 wm:WM st
 fz:∀b o,Φ b=some o->st.get b=some o
 PJ:∀b,Φ b≠some .dead
 ss:∀f,Φ.ss f->st.fm.get f=none/\f<st.n
 PK:∀x y c e f p c' e' p',Φ x=some (.cells c e f p)->Φ y=some (.cells c' e' f p')->x=y
 K2:∀i es els c e f p,σ[i]?=some (.row es els)->st.get (ρ i)=some (.cells c e f p)->¬Φ.ss f
 obj:∀i o,σ[i]?=some o->live o=true->Ig Φ ρ σ.length st o (ρ i)/\Φ (ρ i)=none
 inj:∀i j oi oj,σ[i]?=some oi->σ[j]?=some oj->live oi=true->live oj=true->ρ i=ρ j->i=j
 dP:∀i es els c e f p ms x,σ[i]?=some (.row es els)->st.get (ρ i)=some (.cells c e f p)->st.fm.get f=some ms->x∈ms->x≠ρ i->
  Φ x=none/\∀j o,σ[j]?=some o->live o=true->ρ j≠x
structure iJ (Φ:Fz) (ρ:Nat->Nat) (m:Nat) (du:Fz) (dk:Nat->Nat) (m':Nat):Prop where
 le:Φ.le du
 vA:∀i,i<m->dk i=ρ i
 len:m<=m'
theorem iJ.refl(Φ:Fz)(ρ:Nat->Nat)(m:Nat):iJ Φ ρ m Φ ρ m:=⟨Fz.le_refl _,fun _ _=>rfl,Nat.le_refl _⟩
theorem iJ.trans{Φ a d:Fz}{ρ b c:Nat->Nat}{m f e:Nat}(i:iJ Φ ρ m a b f)(j:iJ a b f d c e):iJ Φ ρ m d c e:=
 ⟨i.le.trans j.le,fun k h=>(j.vA k (aeu h i.len)).trans (i.vA k h),Nat.le_trans i.len j.len⟩
section
variable{Φ du:Fz} {ρ dk:Nat->Nat} {m m':Nat}
theorem iJ.erase(c:iJ Φ ρ m du dk m'){b:V}(a:e9 Φ m b):erase dk b=erase ρ b:=AU c.vA a
theorem iJ.cl(c:iJ Φ ρ m du dk m'){b:List V}(a:eV Φ m b):cl dk b=cl ρ b:=G1 c.vA a
theorem iJ.ok(b:iJ Φ ρ m du dk m')(a:e9 Φ m g):e9 du m' g:=a.mono b.le b.len
theorem iJ.N1(b:iJ Φ ρ m du dk m'){c:List V}(a:eV Φ m c):eV du m' c:=a.mono b.le b.len
theorem iJ.tm(e:iJ Φ ρ m du dk m'){l:List (Nat×V)}{a:Tr Value}(h:gK Φ ρ m l a):gK du dk m' l a:=fun f i c=>by
 obtain⟨d,b⟩:=h f i c;exact⟨by rw[d,e.erase b],e.ok b⟩
theorem iJ.df1(c:iJ Φ ρ m du dk m'){d:fq}(h:Jh Φ m d):jq dk d=jq ρ d/\Jh du m' d:=by
 obtain⟨f,k⟩:=d;obtain⟨a,b⟩:=h;cases f with
 |GS e=>exact⟨by simp only[jq];rw[c.vA e a,c.cl b],aeu a c.len,c.N1 b⟩
 |fn i j=>exact⟨by simp only[jq];rw[c.cl a,c.cl b],c.N1 a,c.N1 b⟩
theorem iJ.df(e:iJ Φ ρ m du dk m'){l:List fq}{b:List Deferred}(d:CN Φ ρ m l b):CN du dk m' l b:=
 ⟨by rw[d.1];exact(abK fun c a=>(e.df1 (d.2 c a)).1).symm,fun c a=>(e.df1 (d.2 c a)).2⟩
theorem iJ.lo(c:iJ Φ ρ m du dk m'){d:ki}{b:Fg}(a:LOk Φ ρ m d b):LOk du dk m' d b:=
 ⟨a.state,a.pending,a.fn,c.tm a.tm,a.nt,a.params,a.assign,a.body,by rw[a.defers,c.vA _ a.ee],aeu a.ee c.len⟩
theorem G3{a:List (List V)}(e:∀d∈a,eV Φ m d):eV Φ m a.flatten:=fun f b=>by
 obtain⟨d,c,b⟩:=List.mem_flatten.1 b;exact e d c f b
theorem iJ.acy(i:iJ Φ ρ m du dk m'){st f:St}{o:cN}{b:Nat}(e:f.get b=st.get b)(q:∀n,o=.box n->f.fm.get b=none)(l:Ig Φ ρ m st o b):Ig du dk m' f o b:=by
 cases o with
 |box n=>
  obtain⟨⟨c,v⟩,a,h⟩:=l;exact⟨⟨by rw[e,c,i.cl a],q _ Z⟩,i.N1 a,h⟩
 |row j t=>
  obtain⟨⟨u,w,c⟩,a,h,s⟩:=l;exact⟨⟨u,w,by rw[e,c,i.cl (G3 h)]⟩,a,fun k d=>i.N1 (h k d),s⟩
 |map j p=>
  obtain⟨c,a⟩:=l;refine⟨?_,fun k d=>⟨i.ok (a k d).1,i.ok (a k d).2⟩⟩;rw[e,c];have:j.map (ke dk)=j.map (ke ρ):=abK fun k d=>by
   simp only[ke];rw[i.erase (a k d).1,i.erase (a k d).2]
  rw[this]
 |loop x=>
  obtain⟨r,c,a⟩:=l;exact⟨r,by rw[e,c],i.lo a⟩
 |eI y=>exact e.trans l
 |gone=>trivial
theorem iJ.obj(h:iJ Φ ρ m du dk m'){st dC:St}{o:cN}{b:Nat}(e:dC.get b=st.get b)(a:∀j f c k,st.get b=some (.cells j f c k)->st.fm.get c=none->dC.fm.get c=none)(d:Ig Φ ρ m st o b):Ig du dk m' dC o b:=
 h.acy e (fun i f=>by subst f;exact a _ _ _ _ d.1.1 d.1.2) d
end
end Go.VM
