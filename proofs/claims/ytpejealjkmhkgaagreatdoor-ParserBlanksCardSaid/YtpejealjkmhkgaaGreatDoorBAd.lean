/- Part of the proof. -/
import Derived.Test.YtpejealjkmhkgaaGreatDoorBAa
set_option linter.all false
set_option maxHeartbeats 16000000
set_option maxRecDepth 100000
open Nat renaming ble_eq_true_of_le->agj,eq_of_beq_eq_true->agk,ne_of_lt->agn,beq->agr,ble->agx,blt->agG,beq_refl->agI,lt_succ_of_lt->agJ,le_refl->agK,zero_mul->agR,succ_mul->agS,le_of_ble_eq_true->agT,mul_le_mul_right->agV,lt_of_lt_of_le->agZ,min_eq_left->ag5,lt_irrefl->aha,zero_add->ahb,add_zero->ahc,sub_mul->ahf,add_mul->ahg
open List renaming flatten_cons->agl,map_cons->agm,mem_of_mem_take->ago,mem_of_mem_drop->agp,length_map->agq,map_congr_left->ags,mem_map->agt,mem_cons->agu,length_append->agv,mem_of_getElem?->agw,length_drop->agy,mem_or_eq_of_mem_set->agA,getElem?_eq_some_iff->agB,cons_append->agC,all_eq_true->agD,mem_append->agE,drop_length_add_append->agH,map_take->agL,map_drop->agM,length_take->agO,length_cons->agP,take_of_length_le->agQ,nil_append->agU,drop_zero->agW,take_succ_cons->agX,drop_succ_cons->agY,take_append_of_le_length->ag0,mem_flatten->ag1,drop_append_of_le_length->ag2,take_length_add_append->ag6,take_take->ag7,drop_take->ag8,drop_drop->ag9,getElem?_eq_none->ahd,mem_cons_self->ahi
open Bool renaming and_eq_true->agz,and_self->agN
open Int renaming ofNat->agF,ofNat_eq_natCast->ahe,negSucc_lt_zero->ahh
open Option renaming map_some->ag3,map_none->ag4
namespace Go.VM
open Go.AM
inductive D where
 |bool (b:Bool)
 |int (k:IntKind) (n:Int)
 |str (s:cq)
 |GQ
 |ci
 |En
 |GR
 |yx
 |ps (b o es cap:Nat) (els:List (List D))
abbrev cH:Type:=List D
inductive V where
 |d (x:D)
 |bp (i f:Nat)
 |ptr (i es k f:Nat)
 |fp (b off:Nat) (cs:List D)
 |ms (i es k len cap:Nat)
 |map (i:Nat)
 |fn (f:Nat) (first aaD:List V)
 |tR (l:Nat)
 |iface (t:Nat) (v:V)
 |agg (l:List V)
 |dS (l:List V)
def cz:D->Value
 |.bool b=>.bool b
 |.int d n=>.int d n
 |.str c=>.string ⟨⟨c⟩⟩
 |.GQ=>.pointer none
 |.ci=>.slice none 0 0
 |.En=>.map none
 |.GR=>.nilFunc
 |.yx=>.nilIface
 |.ps b o _ a els=>.slice (some ⟨b,o,none⟩) els.length a
mutual
def erase(ρ:Nat->Nat):V->Value
 |.d x=>cz x
 |.bp i f=>.pointer (some ⟨ρ i,f,none⟩)
 |.ptr i es k f=>.pointer (some ⟨ρ i,k*es+f,none⟩)
 |.fp b off _=>.pointer (some ⟨b,off,none⟩)
 |.ms i es k len cap=>.slice (some ⟨ρ i,k*es,none⟩) len cap
 |.map i=>.map (some (ρ i))
 |.fn f first aaD=>.func (.func f) ⟨cl ρ first⟩ ⟨cl ρ aaD⟩
 |.tR l=>.func (.yield (ρ l)) #[] #[]
 |.iface t v=>.iface t (erase ρ v)
 |.agg l=>.agg ⟨cl ρ l⟩
 |.dS l=>.tuple ⟨cl ρ l⟩
def cl(ρ:Nat->Nat):List V->List Value
 |[]=>[]
 |v::l=>erase ρ v::cl ρ l
end
inductive V0 where
 |GS (r:Nat)
 |fn (f:Nat) (aaD:List V)
structure fq where
 target:V0
 args:List V
structure ki where
 state:LoopState
 pending:Option Code
 fn:FuncId
 tm:List (Nat×V)
 nt:Nat
 params:List Tmp
 assign:Code
 body:Code
 defers:Nat
 fz:Nat->Bool
structure rL where
 key:V
 val:V
 born:Nat
inductive cN where
 |box (cs:List V)
 |row (es:Nat) (els:List (List V))
 |map (es:List rL) (clock:Nat)
 |loop (l:ki)
 |eI (taken:Bool)
 |j2 (T e:Nat) (s:cq)
 |gone
abbrev VS:=List cN
inductive lJ where
 |none
 |gg (v:V)
 |rD
inductive Bu where
 |norm
 |exit (id:Nat)
 |ret
 |panic (v:V)
inductive cO where
 |ret (v:V)
 |eH (v:V)
structure uw where
 fn:FuncId
 nt:Nat
 round:Option Nat
 DZ:Bool
 fz:Nat->Bool
 fl:Nat
inductive VR where
 |val (v:V) (σ:VS)
 |eH (v:V)
 |enter (f:FuncId) (args:List V)
 |yield (l:Nat) (args:List V)
 |recover
 |defer (d:fq)
def gE:V->Bool
 |.agg _=>false
 |.dS _=>false
 |_=>true
def ZD:Value->Option D
 |.bool b=>some (.bool b)
 |.int c n=>some (.int c n)
 |.string a=>some (.str a.data.toList)
 |.pointer none=>some .GQ
 |.slice none 0 0=>some .ci
 |.map none=>some .En
 |.nilFunc=>some .GR
 |.nilIface=>some .yx
 |_=>none
def ux:List Value->Option (List V)
 |[]=>some []
 |v::b=>match ZD v,ux b with
  |some a,some c=>some (.d a::c)
  |_,_=>none
def ZE:Value->Option V
 |.agg ⟨b⟩=>match ux b with
  |some c=>some (.agg c)
  |none=>none
 |v=>match ZD v with
  |some a=>some (.d a)
  |none=>none
def gm:List (Nat×V)->Nat->Option V
 |[],_=>none
 |(a,b)::c,n=>match agr a n with
  |true=>some b
  |false=>gm c n
def Fq(a:List (Nat×V)):Operand->Option V
 |.tmp d=>gm a d
 |.const c=>ZE c
 |.global _=>none
 |.func b=>some (.fn b [] [])
def dn{a:Type}(o:Option a)(b:a->Prop):Prop:=
 match o with
 |some c=>b c
 |none=>False
def jR(p a:Prop)(b:Bool):Prop:=
 match b with
 |true=>p
 |false=>a
def jS(p:Prop)(a:Prop):Prop:=p/\a
def dG:V->List V
 |.agg a=>a
 |v=>[v]
def SM:Nat->List V->(List V->Prop)->Prop
 |0,_,a=>a []
 |_+1,[],_=>False
 |n+1,b::d,a=>SM n d fun c=>a (b::c)
def SN:List V->Nat->Nat->(List V->Prop)->Prop
 |e,0,n,a=>SM n e a
 |[],_+1,_,_=>False
 |_::c,b+1,n,a=>SN c b n a
def LR:Nat->List D->(List V->Prop)->Prop
 |0,_,a=>a []
 |_+1,[],_=>False
 |n+1,b::d,a=>LR n d fun c=>a (.d b::c)
def LS:Nat->List D->(List D->Prop)->Prop
 |0,b,a=>a b
 |_+1,[],_=>False
 |n+1,_::c,a=>LS n c a
def CG:List V->Nat->List V->(List V->Prop)->Prop
 |c,0,[],d=>d c
 |[],0,_::_,_=>False
 |_::c,0,f::a,d=>CG c 0 a fun b=>d (f::b)
 |[],_+1,_,_=>False
 |x::c,e+1,a,d=>CG c e a fun b=>d (x::b)
def SO:VS->cN->Nat->(Nat->VS->Prop)->Prop
 |[],o,i,a=>a i [o]
 |x::d,o,i,a=>SO d o (i+1) fun c b=>a c (x::b)
def Bv:VS->Nat->cN->(VS->Prop)->Prop
 |[],_,_,_=>False
 |_::a,0,o,b=>b (o::a)
 |x::a,i+1,o,b=>Bv a i o fun c=>b (x::c)
def CH(σ:VS)(o:cN)(b:Nat->VS->Prop):Prop:=SO σ o 0 fun i a=>uf i fun i=>b i a
def V1(a:Bool)(c:List V)(b:V->Prop):Prop:=
 match a with
 |true=>b (.agg c)
 |false=>match c with
  |[d]=>b d
  |_=>False
def ZF(els:List (List V))(a:Nat)(c:List V->Prop):Prop:=∃b,nth els a=some b/\c b
def GU(n:Int)(a:Nat->Prop):Prop:=∃m:Nat,n=agF m/\a m
def SP(n:Nat)(a:Bool)(j:V)(σ:VS)(h:V->Prop):Prop:=
 match j with
 |.bp i e=>match nth σ i with
  |some (.box b)=>SN b e n fun c=>V1 a c h
  |_=>False
 |.ptr i es f e=>match nth σ i with
  |some (.row d els)=>match agr es d with
   |true=>ZF els f fun k=>SN k e n fun c=>V1 a c h
   |false=>False
  |_=>False
 |.fp _ _ b=>LR n b fun c=>V1 a c h
 |_=>False
def NX(C:dR)(t:TypeId)(b:V)(σ:VS)(c:V->Prop):Prop:=
 match C.tt.get t with
 |some a=>match a.agg||agr a.size 1 with
  |true=>SP a.size a.agg b σ c
  |false=>False
 |none=>False
def mU(C:dR)(t:TypeId)(l d:V)(σ:VS)(k:VS->Prop):Prop:=
 match C.tt.get t with
 |some e=>match agr (dG d).length e.size&&(dG d).all gE with
  |true=>match l with
   |.bp i f=>match nth σ i with
    |some (.box h)=>CG h f (dG d) fun b=>Bv σ i (.box b) k
    |_=>False
   |.ptr i es a f=>match nth σ i with
    |some (.row c els)=>match agr es c with
     |true=>ZF els a fun m=>CG m f (dG d) fun j=>Bv σ i (.row es (els.set a j)) k
     |false=>False
    |_=>False
   |_=>False
  |false=>False
 |none=>False
def CI(ev:Operand->Option V):List (Nat×Operand)->Option (List (Nat×V))
 |[]=>some []
 |(i,a)::d=>match ev a,CI ev d with
  |some c,some b=>some ((i,c)::b)
  |_,_=>none
def wL(ev:Operand->Option V):List Operand->Option (List V)
 |[]=>some []
 |x::c=>match ev x,wL ev c with
  |some b,some a=>some (b::a)
  |_,_=>none
def Jf(a:Nat->Option (Nat×Nat)):List V->List (Nat×V)->(List V->Prop)->Prop
 |cells,[],f=>f cells
 |cells,(i,h)::b,f=>
  match a i with
  |none=>False
  |some (e,d)=>match agr (dG h).length d with
   |true=>CG cells e (dG h) fun c=>Jf a c b f
   |false=>False
def LU(C:dR)(t:TypeId)(e:List (Nat×V))(j:V->Prop):Prop:=
 match C.tt.get t with
 |some b=>
  match b.desc with
  |.struct a=>
   match(a.toList.all fun k=>(C.tt.get k.type).isSome),b.agg,ux b.zero with
   |true,true,some h=>Jf (gJ C a) h e fun c=>j (.agg c)
   |_,_,_=>False
  |.array _ d=>
   match C.tt.get d,b.agg,ux b.zero with
   |some f,true,some h=>Jf (fun i=>some (i*f.size,f.size)) h e fun c=>j (.agg c)
   |_,_,_=>False
  |_=>False
 |none=>False
def xo(a:List V):Nat->List (List V)
 |0=>[]
 |n+1=>a::xo a n
def GV(a:Nat):List (List V)->List (Nat×V)->Option (List (List V))
 |els,[]=>some els
 |els,(i,c)::b=>match agr (dG c).length a&&agG i els.length&&(dG c).all gE with
  |true=>GV a (els.set i (dG c)) b
  |false=>none
def Fs(C:dR)(ev:Operand->Option V):Op->Option cN
 |.alloc d=>match C.tt.get d with
  |some b=>match agr d C.bt with
   |true=>match b.zero with
    |[.pointer none,.slice none 0 0]=>some (.j2 d C.be [])
    |_=>none
   |false=>match ux b.zero,agr b.zero.length b.size with
    |some f,true=>some (.box f)
    |_,_=>none
  |none=>none
 |.box _ i=>match ev i with
  |some h=>match(dG h).all gE with
   |true=>some (.box (dG h))
   |false=>none
  |none=>none
 |.makeMap _ none=>some (.map [] 0)
 |.buildSlice d len e=>match CI ev e.toList,C.tt.get d with
  |some j,some b=>match b.desc with
   |.slice c=>match C.tt.get c with
    |some a=>match agG 0 a.size&&agx (len*a.size) 16777216&&agr a.zero.length a.size,ux a.zero with
     |true,some f=>match GV a.size (xo f len) j with
      |some els=>some (.row a.size els)
      |none=>none
     |_,_=>none
    |none=>none
   |_=>none
  |_,_=>none
 |_=>none
def aaE:Op->cN->Nat->Option V
 |.alloc _,.box _,i=>some (.bp i 0)
 |.alloc _,.j2 _ _ _,i=>some (.bp i 0)
 |.box _ _,.box _,i=>some (.bp i 0)
 |.makeMap _ _,.map _ _,i=>some (.map i)
 |.buildSlice _ len _,.row es _,i=>some (.ms i es 0 len len)
 |_,_,_=>none
def sq:List V->Option (List D)
 |[]=>some []
 |.d a::c=>match sq c with
  |some b=>some (a::b)
  |none=>none
 |_::_=>none
def qC:List (List V)->Option (List (List D))
 |[]=>some []
 |e::c=>match sq e,qC c with
  |some a,some b=>some (a::b)
  |_,_=>none
def nk:Op->Bool
 |.buildSlice _ _ _=>true
 |_=>false
def SQ(C:dR)(e:Bool)(ev:Operand->Option V)(a:Op)(σ:VS)(f:V->VS->Prop):Prop:=
 match Fs C ev a with
 |some c=>match e&&nk a with
  |true=>match c with
   |.row es els=>match qC els with
    |some h=>∀b:Nat,f (.d (.ps b 0 es h.length h)) σ
    |none=>False
   |_=>False
  |false=>CH σ c fun i d=>dn (aaE a c i) fun j=>f j d
 |none=>False
def zZ(a:V)(b:V->Prop):Prop:=
 match a with
 |.bp _ _=>b a
 |.ptr _ _ _ _=>b a
 |.fp _ _ _=>b a
 |.iface _ _=>b a
 |.fn _ _ _=>b a
 |.tR _=>b a
 |_=>False
def b6(b:Bool):V:=.d (.bool b)
def GW(e:BinOp)(a:IntKind)(c b:Int)(d:V->Prop):Prop:=
 match e with
 |.add=>d (.d (.int a (a.wrap (c+b))))
 |.sub=>d (.d (.int a (a.wrap (c-b))))
 |.mul=>d (.d (.int a (a.wrap (c*b))))
 |.quo=>jS (b≠0) (d (.d (.int a (a.wrap (c.tdiv b)))))
 |.rem=>jS (b≠0) (d (.d (.int a (c.tmod b))))
 |.and=>d (.d (.int a (a.wrap (BitVec.ofInt a.bits c&&&BitVec.ofInt a.bits b).toNat)))
 |.or=>d (.d (.int a (a.wrap (BitVec.ofInt a.bits c|||BitVec.ofInt a.bits b).toNat)))
 |.xor=>d (.d (.int a (a.wrap (BitVec.ofInt a.bits c^^^BitVec.ofInt a.bits b).toNat)))
 |.andNot=>d (.d (.int a (a.wrap (BitVec.ofInt a.bits c&&& ~~~ BitVec.ofInt a.bits b).toNat)))
 |.eql=>d (b6 (decide (c=b)))
 |.neq=>d (b6 (!(decide (c=b))))
 |.lss=>d (b6 (decide (c<b)))
 |.leq=>d (b6 (decide (c<=b)))
 |.gtr=>d (b6 (decide (b<c)))
 |.geq=>d (b6 (decide (b<=c)))
 |_=>False
def SS(c:BinOp)(a:IntKind)(d b:Int)(e:V->Prop):Prop:=
 GU b fun n=>match c with
  |.shl=>e (.d (.int a (a.wrap (d*2^(min n a.bits)))))
  |.shr=>e (.d (.int a (d.fdiv (2^(min n a.bits)))))
  |_=>False
def GX(d:BinOp)(a b:cq)(c:V->Prop):Prop:=
 match d with
 |.add=>jS (a.length+b.length<=1099511627776) (c (.d (.str (a++b))))
 |.eql=>c (b6 (decide (a=b)))
 |.neq=>c (b6 (!(decide (a=b))))
 |.lss=>c (b6 (cE a b))
 |.leq=>c (b6 (cE a b||decide (a=b)))
 |.gtr=>c (b6 (!(cE a b||decide (a=b))))
 |.geq=>c (b6 (!(cE a b)))
 |_=>False
def GY:V->Option (Nat×Bool)
 |.d .GQ=>some (0,true)
 |.bp _ _=>some (0,false)
 |.ptr _ _ _ _=>some (0,false)
 |.fp _ _ _=>some (0,false)
 |.d .ci=>some (1,true)
 |.d (.ps _ _ _ _ _)=>some (1,false)
 |.ms _ _ _ _ _=>some (1,false)
 |.d .En=>some (2,true)
 |.map _=>some (2,false)
 |.d .GR=>some (3,true)
 |.fn _ _ _=>some (3,false)
 |.tR _=>some (3,false)
 |.d .yx=>some (4,true)
 |.iface _ _=>some (4,false)
 |_=>none
def Jg:TypeDesc->Option Nat
 |.pointer _=>some 0
 |.slice _=>some 1
 |.map _ _=>some 2
 |.func _ _ _=>some 3
 |.interface _=>some 4
 |_=>none
def vEq(C:dR)(t:TypeId)(l k:Operand)(a b:V)(h:Bool->Prop):Prop:=
 match a,b with
 |.d (.bool d),.d (.bool q)=>match C.tt.get t with
  |some c=>match c.desc with
   |.bool=>h (d==q)
   |_=>False
  |none=>False
 |.agg j,.agg m=>match sq j,sq m with
  |some j,some m=>∃n,O9 C t l k (.agg ⟨j.map cz⟩) (.agg ⟨m.map cz⟩)=some n/\h n
  |_,_=>False
 |a,b=>match C.tt.get t,GY a,GY b with
  |some c,some (f,d),some (i,q)=>match Jg c.desc with
   |some e=>match agr e f&&agr e i&&(d||q)&&(!(d&&q)|| !(agr e 4)||kA l||kA k)with
    |true=>h (d&&q)
    |false=>False
   |none=>False
  |_,_,_=>False
def aaF(C:dR)(c:BinOp)(t:TypeId)(j i:Operand)(a b:V)(f:V->Prop):Prop:=
 match a,b with
 |.d (.int d m),.d (.int e n)=>match BO c with
  |true=>SS c d m n f
  |false=>match tY d e with
   |true=>GW c d m n f
   |false=>False
 |.d (.str m),.d (.str n)=>GX c m n f
 |a,b=>match c with
  |.eql=>vEq C t j i a b fun h=>f (b6 h)
  |.neq=>vEq C t j i a b fun h=>f (b6 (!h))
  |_=>False
def vUn(c:UnOp)(e:V)(d:V->Prop):Prop:=
 match c,e with
 |.neg,.d (.int a n)=>d (.d (.int a (a.wrap (0-n))))
 |.xor,.d (.int a n)=>d (.d (.int a (a.wrap (BitVec.ofInt a.bits (if a.signed then-1 else a.max)^^^BitVec.ofInt a.bits n).toNat)))
 |.not,.d (.bool b)=>d (b6 (!b))
 |_,_=>False
def io(c:UInt8):V:=.d (.int .u8 (agF c.toNat))
def uy(c:UInt8):D:=.int .u8 (agF c.toNat)
def CJ(C:dR)(src a:TypeId)(j:V)(σ:VS)(d:V->Prop):Prop:=
 match C.tt.get src,C.tt.get a with
 |some m,some k=>
  match m.desc,k.desc with
  |.int _,.int e=>match j with
   |.d (.int _ n)=>d (.d (.int e (e.wrap n)))
   |_=>False
  |.string,.string=>match j with
   |.d (.str p)=>d (.d (.str p))
   |_=>False
  |.slice o,.string=>
   match C.tt.get o with
   |some l=>match l.desc with
    |.int .u8=>match j with
     |.d .ci=>d (.d (.str []))
     |.d (.ps _ _ es _ els)=>∃f:cq,es=1/\els=(f.map fun c=>[uy c])/\d (.d (.str f))
     |.ms i es b len _=>match nth σ i with
      |some (.row h els)=>∃f:cq,es=1/\h=1/\(els.drop b).take len=(f.map fun c=>[io c])/\b+len<=els.length/\d (.d (.str f))
      |_=>False
     |_=>False
    |_=>False
   |none=>False
  |_,_=>False
 |_,_=>False
def LV(C:dR)(f:Bool)(src a:TypeId)(m:V)(σ:VS)(l:V->VS->Prop):Prop:=
 match C.tt.get src,C.tt.get a with
 |some k,some h=>
  match k.desc,h.desc,m with
  |.string,.slice n,.d (.str d)=>
   match C.tt.get n with
   |some j=>match j.desc with
    |.int .u8=>match f with
     |true=>∀b:Nat,l (.d (.ps b 0 1 d.length (d.map fun c=>[uy c]))) σ
     |false=>CH σ (.row 1 (d.map fun c=>[io c])) fun i e=>l (.ms i 1 0 d.length d.length) e
    |_=>False
   |none=>False
  |_,_,_=>False
 |_,_=>False
def V2(C:dR)(a:TypeId):Bool:=
 match C.tt.get a with
 |some b=>match b.desc with
  |.slice _=>true
  |_=>false
 |none=>false
def pL(C:dR)(t:TypeId)(b:V)(c:V->Prop):Prop:=
 match C.tt.get t with
 |some a=>match a.desc with
  |.interface _=>False
  |_=>c (.iface t b)
 |none=>False
def lc:Option V->Nat->(Nat->Prop)->Prop
 |none,b,a=>a b
 |some (.d (.int _ n)),_,a=>GU n a
 |_,_,_=>False
def LW(C:dR)(t:TypeId)(n:V)(lo hi e:Option V)(σ:VS)(k:V->Prop):Prop:=
 match C.tt.get t with
 |none=>False
 |some l=>
  match l.desc,n with
  |.string,.d (.str p)=>match e with
   |none=>lc lo 0 fun c=>lc hi p.length fun d=>jS (c<=d/\d<=p.length) (k (.d (.str ((p.take d).drop c))))
   |some _=>False
  |.slice f,n=>
   match C.tt.get f with
   |none=>False
   |some h=>match n with
    |.d .ci=>lc lo 0 fun c=>lc hi 0 fun d=>lc e 0 fun m=>jS (c=0/\d=0/\m=0/\(hi.isSome||e.isNone)=true) (k (.d .ci))
    |.d (.ps b o es a els)=>match e with
     |none=>lc lo 0 fun c=>lc hi els.length fun d=>jS (c<=d/\d<=els.length/\els.length<=a/\0<a/\es=h.size) (k (.d (.ps b (o+c*es) es (a-c) ((els.take d).drop c))))
     |some _=>False
    |.ms i es q len a=>match nth σ i with
     |some (.row j _)=>lc lo 0 fun c=>lc hi len fun d=>lc e a fun m=>jS (c<=d/\d<=m/\m<=a/\0<=a/\es=h.size/\j=es/\(hi.isSome||e.isNone)=true) (k (.ms i es (q+c) (d-c) (m-c)))
     |_=>False
    |_=>False
  |_,_=>False
def xq(C:dR)(n:TypeId)(m:V)(f:Nat)(l:V->Prop):Prop:=
 match C.tt.get n with
 |some j=>
  match j.desc with
  |.struct c=>match gJ C c f with
   |some (a,h)=>match agG 0 h,m with
    |true,.bp i d=>uf (d+a) fun d=>l (.bp i d)
    |true,.ptr i es k d=>uf (d+a) fun d=>l (.ptr i es k d)
    |true,.fp b o e=>LS a e fun e=>l (.fp b (o+a) e)
    |_,_=>False
   |none=>False
  |_=>False
 |none=>False
def NY(C:dR)(t:TypeId)(d:List V)(a:Nat)(e:V->Prop):Prop:=
 match C.tt.get t with
 |some b=>match b.agg with
  |true=>SN d a b.size fun c=>e (.agg c)
  |false=>dn (nth d a) e
 |none=>False
def LX(C:dR)(t:TypeId)(e:V)(f:Nat)(h:V->Prop):Prop:=
 match C.tt.get t,e with
 |some c,.agg d=>
  match c.desc with
  |.struct a=>match nth a.toList f with
   |some b=>NY C b.type d b.offset h
   |none=>False
  |_=>False
 |_,_=>False
def xu(C:dR)(t:TypeId)(k i:V)(h:V->Prop):Prop:=
 match C.tt.get t,i with
 |some d,.d (.int _ n)=>
  match d.desc with
  |.slice a=>match C.tt.get a with
   |some c=>match k with
    |.ms j es f len _=>match agr es c.size with
     |true=>GU n fun m=>jS (m<len) (h (.ptr j es (f+m) 0))
     |false=>False
    |.d (.ps b o es _ els)=>match agr es c.size with
     |true=>GU n fun m=>∃l,nth els m=some l/\h (.fp b (o+m*es) l)
     |false=>False
    |_=>False
   |none=>False
  |.array len a=>match C.tt.get a with
   |some c=>match k with
    |.bp j e=>GU n fun m=>jS (m<len) (uf (e+m*c.size) fun e=>h (.bp j e))
    |_=>False
   |none=>False
  |_=>False
 |_,_=>False
def LY(C:dR)(t:TypeId)(h i:V)(f:V->Prop):Prop:=
 match C.tt.get t,h,i with
 |some b,.d (.str j),.d (.int _ n)=>
  match b.desc with
  |.string=>GU n fun m=>∃c,nth j m=some c/\f (io c)
  |_=>False
 |some b,.agg e,.d (.int _ n)=>
  match b.desc with
  |.array len a=>match C.tt.get a with
   |some d=>GU n fun m=>jS (m<len) (NY C a e (m*d.size) f)
   |none=>False
  |_=>False
 |_,_,_=>False
def eN(d:TypeDesc)(a:V):List rL->Nat->Option (Option (Nat×V))
 |[],_=>some none
 |e::f,i=>
  match d,a,e.key with
  |.string,.d (.str c),.d (.str b)=>match decide (c=b)with
   |true=>some (some (i,e.val))
   |false=>eN d a f (i+1)
  |.int _,.d (.int j c),.d (.int h b)=>match tY j h,decide (c=b)with
   |true,true=>some (some (i,e.val))
   |true,false=>eN d a f (i+1)
   |false,_=>none
  |.bool,.d (.bool c),.d (.bool b)=>match c==b with
   |true=>some (some (i,e.val))
   |false=>eN d a f (i+1)
  |_,_,_=>none
def yy(σ:VS):V->Option (List rL)
 |.d .En=>some []
 |.map a=>match nth σ a with
  |some (.map es _)=>some es
  |_=>none
 |_=>none
def GZ(C:dR)(t:TypeId)(m a:V)(d:Bool)(σ:VS)(k:V->Prop):Prop:=
 match C.tt.get t with
 |none=>False
 |some f=>
  match f.desc with
  |.map h i=>
   match C.tt.get h,C.tt.get i with
   |some c,some b=>
    match rF c.desc,yy σ m with
    |true,some es=>∃j,eN c.desc a es 0=some j/\(match j with
     |some (_,l)=>k (match d with|true=>.dS [l,b6 true]|false=>l)
     |none=>dn (ux b.zero) fun e=>V1 b.agg e fun e=>k (match d with|true=>.dS [e,b6 false]|false=>e))
    |_,_=>False
   |_,_=>False
  |_=>False
def nR:List rL->Nat->V->V->List rL
 |[],_,_,_=>[]
 |e::c,i,a,b=>match i with
  |0=>{e with key:=a,val:=b}::c
  |d+1=>e::nR c d a b
def sr(C:dR)(t:TypeId)(m key j:V)(σ:VS)(h:VS->Prop):Prop:=
 match C.tt.get t,m with
 |some c,.map e=>
  match c.desc with
  |.map d _=>
   match C.tt.get d,nth σ e with
   |some b,some (.map es a)=>
    match rF b.desc with
    |false=>False
    |true=>∃f,eN b.desc key es 0=some f/\(match f with
     |some (i,_)=>Bv σ e (.map (nR es i key j) a) h
     |none=>Bv σ e (.map (es++[{key:=key,val:=j,born:=a}]) (a+1)) h)
   |_,_=>False
  |_=>False
 |_,_=>False
def uz(C:dR)(f:V)(t:TypeId)(c:Bool)(d:V->Prop):Prop:=
 match C.tt.get t with
 |none=>False
 |some a=>
  match a.desc with
  |.interface _=>False
  |_=>
   match f with
   |.iface h e=>match agr h t with
    |true=>d (match c with|true=>.dS [e,b6 true]|false=>e)
    |false=>match c with
     |true=>dn (ux a.zero) fun b=>V1 a.agg b fun b=>d (.dS [b,b6 false])
     |false=>False
   |.d .yx=>match c with
    |true=>dn (ux a.zero) fun b=>V1 a.agg b fun b=>d (.dS [b,b6 false])
    |false=>False
   |_=>False
def CK(b:V)(i:Nat)(c:V->Prop):Prop:=
 match b with
 |.dS a=>dn (nth a i) c
 |_=>False
def aaG(C:dR)(a:TI)(f:V)(σ:VS)(d:List (List V)->Prop):Prop:=
 match f with
 |.d .ci=>d []
 |.d (.ps _ _ es _ els)=>jS (es=a.size) (d (els.map fun j=>j.map V.d))
 |.ms i es b len _=>match nth σ i with
  |some (.row e els)=>jS (es=a.size/\e=es/\b+len<=els.length) (match b,agr len els.length with
   |0,true=>d els
   |_,_=>d ((els.drop b).take len))
  |_=>False
 |.d (.str h)=>jS (a.size=1) (d (h.map fun c=>[io c]))
 |_=>False
def G0(C:dR)(l:Bool)(d:List TypeId)(h:List V)(σ:VS)(k:V->VS->Prop):Prop:=
 match d,h with
 |[r,s],[x,v]=>
  match C.tt.get r,C.tt.get s with
  |some q,some m=>
   match q.desc,m.desc with
   |_,.int _=>False
   |.slice j,_=>
    match C.tt.get j with
    |some a=>
     match agG 0 a.size&&agr a.zero.length a.size with
     |false=>False
     |true=>aaG C a v σ fun xs=>
      match x with
      |.d .ci=>jS (xs.length*a.bytes<=fy/\xs.length<=fy) (jR (k (.d .ci) σ)
       (match l with
       |true=>dn (qC xs) fun n=>∀b:Nat,k (.d (.ps b 0 a.size n.length n)) σ
       |false=>CH σ (.row a.size xs) fun i e=>k (.ms i a.size 0 xs.length xs.length) e) (agr xs.length 0))
      |.ms i es f len c=>match nth σ i with
       |some (.row p els)=>jS (es=a.size/\p=es/\f+len<=els.length/\len<=c/\(len+xs.length)*a.bytes<=fy/\len+xs.length<=fy) (jR (k (.ms i es f len c) σ)
        (jR False
        (Bv σ i .gone fun σ=>
        (match l with
        |true=>dn (qC ((els.drop f).take len++xs)) fun n=>∀b:Nat,k (.d (.ps b 0 a.size n.length n)) σ
        |false=>CH σ (.row a.size ((els.drop f).take len++xs)) fun t e=>k (.ms t a.size 0 (len+xs.length) (len+xs.length)) e)) (agx (len+xs.length) c)) (agr xs.length 0))
       |_=>False
      |.d (.ps b o es c els)=>jS (els.length<=c/\xs=[]/\els.length*a.bytes<=fy/\els.length<=fy) (k (.d (.ps b o es c els)) σ)
      |_=>False
    |none=>False
   |_,_=>False
  |_,_=>False
 |_,_=>False
def aaH(C:dR)(a:List TypeId)(b:List V)(σ:VS)(c:V->Prop):Prop:=
 match a,b with
 |t::_,e::_=>
  match C.tt.get t with
  |none=>False
  |some d=>
   match d.desc,e with
   |.string,.d (.str f)=>c (.d (.int .i64 (agF f.length)))
   |.array n _,_=>c (.d (.int .i64 (agF n)))
   |.slice _,.d .ci=>c (.d (.int .i64 (agF 0)))
   |.slice _,.d (.ps _ _ _ _ els)=>c (.d (.int .i64 (agF els.length)))
   |.slice _,.ms _ _ _ len _=>c (.d (.int .i64 (agF len)))
   |.map _ _,e=>dn (yy σ e) fun es=>c (.d (.int .i64 (agF es.length)))
   |_,_=>False
 |_,_=>False
def vmm(c:Bool)(d:IntKind):Int->List V->(V->Prop)->Prop
 |a,[],e=>e (.d (.int d a))
 |a,.d (.int _ b)::f,e=>vmm c d (match c with|true=>max a b|false=>min a b) f e
 |_,_::_,_=>False
def SU(C:dR)(b:Builtin)(a:List TypeId)(c:List V)(σ:VS)(f:V->Prop):Prop:=
 match b with
 |.len=>aaH C a c σ f
 |.max=>match c with
  |.d (.int d h)::e=>vmm true d h e f
  |_=>False
 |.min=>match c with
  |.d (.int d h)::e=>vmm false d h e f
  |_=>False
 |_=>False
def NZ(C:dR)(c:Nat)(a:List V)(σ:VS)(d:VR->Prop):Prop:=
 jR (d (.enter c a)) (match sq a with
  |some e=>∃b,C.ext c (e.map cz)=some (cz b)/\flat (cz b)=true/\d (.val (.d b) σ)
  |none=>False) (C.ff.get c).isSome
def CL(C:dR)(f:V)(a:List V)(σ:VS)(c:VR->Prop):Prop:=
 match f with
 |.fn d first b=>NZ C d (first++a++b) σ c
 |.tR e=>c (.yield e a)
 |_=>False
def SV(f:V)(args:List V)(c:VR->Prop):Prop:=
 match f with
 |.fn b first a=>c (.defer {target:=.fn b a,args:=first++args})
 |_=>False
def SW(ev:Operand->Option V):Option Operand->Option (Option V)
 |none=>some none
 |some a=>match ev a with
  |some b=>some (some b)
  |none=>none
def CM(C:dR)(ev:Operand->Option V)(j:Op)(σ:VS)(f:V->Prop):Prop:=
 match j with
 |.move d=>dn (ev d) f
 |.pick c n b=>match ev c,ev n,ev b with
  |some (.d (.bool e)),some h,some a=>jR (f h) (f a) e
  |_,_,_=>False
 |.build e o=>dn (CI ev o.toList) fun r=>LU C e r f
 |.load e n=>dn (ev n) fun a=>NX C e a σ f
 |.nilCheck d=>dn (ev d) fun a=>zZ a f
 |.binOp j e d s _=>dn (ev d) fun h=>dn (ev s) fun a=>aaF C j e d s h a f
 |.unOp j _ d=>dn (ev d) fun h=>vUn j h f
 |.convert v t d=>dn (ev d) fun a=>CJ C v t a σ f
 |.makeInterface e d=>dn (ev d) fun a=>pL C e a f
 |.makeFunc fn n b=>match fn with
  |.func x=>dn (wL ev n.toList) fun h=>dn (wL ev b.toList) fun a=>f (.fn x h a)
  |_=>False
 |.slice e d lo hi q=>dn (ev d) fun a=>dn (SW ev lo) fun r=>dn (SW ev hi) fun z=>dn (SW ev q) fun m=>LW C e a r z m σ f
 |.fieldAddr e d p=>dn (ev d) fun a=>xq C e a p f
 |.field e d p=>dn (ev d) fun a=>LX C e a p f
 |.indexAddr e d i=>dn (ev d) fun h=>dn (ev i) fun a=>xu C e h a f
 |.index e d i=>dn (ev d) fun h=>dn (ev i) fun a=>LY C e h a f
 |.lookup e d i k=>dn (ev d) fun h=>dn (ev i) fun a=>GZ C e h a k σ f
 |.typeAssert d _ e k=>dn (ev d) fun a=>uz C a e k f
 |.extract d i=>dn (ev d) fun a=>CK a i f
 |.call c=>dn (wL ev c.args.toList) fun l=>match c.callee with
   |.builtin b=>SU C b c.argTypes.toList l σ f
   |_=>False
 |_=>False
def xv(C:dR)(t:TypeId)(l c:V)(σ:VS)(k:V->VS->Prop):Prop:=
 match C.tt.get t with
 |some f=>match f.desc with
  |.slice d=>match C.tt.get d with
   |some a=>match agG 0 a.size&&agr a.zero.length a.size,ux a.zero with
    |true,some j=>match l,c with
     |.d (.int .i64 h),.d (.int .i64 b)=>GU h fun n=>jS (b=h/\n*a.bytes<=1099511627776/\n<=1099511627776) (CH σ (.row a.size (xo j n)) fun i e=>k (.ms i a.size 0 n n) e)
     |_,_=>False
    |_,_=>False
   |none=>False
  |_=>False
 |none=>False
def vop(C:dR)(h:Bool)(ev:Operand->Option V)(op:Op)(σ:VS)(d:VR->Prop):Prop:=
 match op with
 |.assign f=>dn (ev f) fun a=>d (.val a σ)
 |.store e p f=>dn (ev p) fun a=>dn (ev f) fun o=>mU C e a o σ fun σ=>d (.val (.dS []) σ)
 |.mapUpdate e m i a=>dn (ev m) fun m=>dn (ev i) fun i=>dn (ev a) fun a=>sr C e m i a σ fun σ=>d (.val (.dS []) σ)
 |.insert e m i a=>dn (ev m) fun m=>dn (ev i) fun i=>dn (ev a) fun a=>sr C e m i a σ fun σ=>d (.val (.dS []) σ)
 |.call c=>match c.callee with
  |.value k=>dn (wL ev c.args.toList) fun b=>dn (ev k) fun a=>CL C a b σ d
  |.builtin .append=>dn (wL ev c.args.toList) fun b=>G0 C h c.argTypes.toList b σ fun a σ=>d (.val a σ)
  |.builtin .recover=>dn (wL ev c.args.toList) fun _=>d .recover
  |_=>CM C ev (.call c) σ fun a=>d (.val a σ)
 |.defer c=>dn (wL ev c.args.toList) fun b=>match c.callee with
  |.value k=>dn (ev k) fun a=>SV a b d
  |_=>False
 |.panic f=>match ev f with
  |some (.iface e a)=>d (.eH (.iface e a))
  |_=>False
 |.convert n j f=>match V2 C j with
  |true=>dn (ev f) fun a=>LV C h n j a σ fun a σ=>d (.val a σ)
  |false=>CM C ev (.convert n j f) σ fun a=>d (.val a σ)
 |.makeSlice e l c=>dn (ev l) fun l=>dn (ev c) fun c=>xv C e l c σ fun a σ=>d (.val a σ)
 |op=>match gh op with
  |true=>SQ C h ev op σ fun a σ=>d (.val a σ)
  |false=>CM C ev op σ fun a=>d (.val a σ)
structure Fz where
 Rv:Nat->Option fX
 Eo:Nat->Prop
 ss:Nat->Prop
instance:CoeFun Fz (fun _=>Nat->Option fX):=⟨Fz.Rv⟩
structure Fz.le (Φ du:Fz):Prop where
 Rv:∀b o,Φ b=some o->du b=some o
 Eo:∀b o,Φ b=some o->(du.Eo b↔Φ.Eo b)
 ss:∀f,Φ.ss f->du.ss f
theorem Fz.le_refl(Φ:Fz):Φ.le Φ:=⟨fun _ _ a=>a,fun _ _ _=>Iff.rfl,fun _ a=>a⟩
theorem Fz.le.trans{j b c:Fz}(f:j.le b)(h:b.le c):j.le c:=⟨fun a e d=>h.Rv a e (f.Rv a e d),fun a e d=>(h.Eo a e (f.Rv a e d)).trans (f.Eo a e d),fun i d=>h.ss i (f.ss i d)⟩
inductive xw (Φ:Fz):D->Prop
 |bool (b:Bool):xw Φ (.bool b)
 |int (k:IntKind) (n:Int):xw Φ (.int k n)
 |str (s:cq):xw Φ (.str s)
 |GQ:xw Φ .GQ
 |ci:xw Φ .ci
 |En:xw Φ .En
 |GR:xw Φ .GR
 |yx:xw Φ .yx
 |ps {b o es cap:Nat} {els:List cH} {c:List Value} {f p:Nat} (h:Φ b=some (.cells c es f p)) (hl:∀e∈els,e.length=es)
   (hb:o+els.length*es<=c.length) (hc:(c.drop o).take (els.length*es)=els.flatten.map cz) (hs:∀e∈els,∀d∈e,xw Φ d) (hd:Φ.Eo b):xw Φ (.ps b o es cap els)
variable{R:D}
theorem xw.mono{Φ du:Fz}(j:Φ.le du)(c:xw Φ R):xw du R:=by
 induction c with
 |bool b=>exact .bool b
 |int l n=>exact .int l n
 |str k=>exact .str k
 |GQ=>exact .GQ
 |ci=>exact .ci
 |En=>exact .En
 |GR=>exact .GR
 |yx=>exact .yx
 |ps a f i h _ d e=>exact .ps (j.Rv _ _ a) f i h e ((j.Eo _ _ a).2 d)
inductive e9 (Φ:Fz) (m:Nat):V->Prop
 |d {x:D} (h:xw Φ x):e9 Φ m (.d x)
 |bp {i f:Nat} (h:i<m):e9 Φ m (.bp i f)
 |ptr {i es k f:Nat} (h:i<m):e9 Φ m (.ptr i es k f)
 |fp {b off:Nat} {cs:cH} {c:List Value} {e f p:Nat} (h:Φ b=some (.cells c e f p)) (hb:off+cs.length<=c.length) (hc:(c.drop off).take cs.length=cs.map cz)
   (hs:∀d∈cs,xw Φ d) (hd:Φ.Eo b):e9 Φ m (.fp b off cs)
 |ms {i es k len cap:Nat} (h:i<m):e9 Φ m (.ms i es k len cap)
 |map {i:Nat} (h:i<m):e9 Φ m (.map i)
 |fn {f:Nat} {a c:List V} (h1:∀v∈a,e9 Φ m v) (h2:∀v∈c,e9 Φ m v):e9 Φ m (.fn f a c)
 |tR {l:Nat} (h:l<m):e9 Φ m (.tR l)
 |iface {t:Nat} {v:V} (h:e9 Φ m v):e9 Φ m (.iface t v)
 |agg {l:List V} (h:∀v∈l,e9 Φ m v):e9 Φ m (.agg l)
 |dS {l:List V} (h:∀v∈l,e9 Φ m v):e9 Φ m (.dS l)
def eV(Φ:Fz)(m:Nat)(l:List V):Prop:=∀a∈l,e9 Φ m a
theorem e9.mono{Φ du:Fz}{m m':Nat}(e:Φ.le du)(p:m<=m'){o:V}(h:e9 Φ m o):e9 du m' o:=by
 induction h with
 |d c=>exact .d (c.mono e)
 |bp a=>exact .bp om
 |ptr a=>exact .ptr om
 |fp a i n j l=>exact .fp (e.Rv _ _ a) i n (fun d c=>(j d c).mono e) ((e.Eo _ _ a).2 l)
 |ms a=>exact .ms om
 |map a=>exact .map om
 |fn _ _ f k=>exact .fn f k
 |tR a=>exact .tR om
 |iface _ b=>exact .iface b
 |agg _ b=>exact .agg b
 |dS _ b=>exact .dS b
theorem eV.mono{Φ du:Fz}{m m':Nat}(d:Φ.le du)(a:m<=m'){l:List V}(c:eV Φ m l):eV du m' l:=fun e b=>(c e b).mono d a
theorem dL(ρ:Nat->Nat):∀a:List V,cl ρ a=a.map (erase ρ):=by
 intro a;induction a with
 |nil=>simp[cl]
 |cons c a b=>simp[cl,b]
theorem fC(ρ:Nat->Nat)(a b:List V):cl ρ (a++b)=cl ρ a++cl ρ b:=by simp[dL]
theorem cW(ρ:Nat->Nat)(a:List V):(cl ρ a).length=a.length:=by simp[dL]
variable{X u:V}
theorem AU{Φ:Fz}{m:Nat}{ρ dk:Nat->Nat}(c:∀i,i<m->dk i=ρ i)(f:e9 Φ m u):erase dk u=erase ρ u:=by
 induction f with
 |d _=>simp[erase]
 |bp a=>simp[erase,c _ a]
 |ptr a=>simp[erase,c _ a]
 |fp=>simp[erase]
 |ms a=>simp[erase,c _ a]
 |map a=>simp[erase,c _ a]
 |fn _ _ e h=>
  simp only[erase,dL];rw[ags e,ags h]
 |tR a=>simp[erase,c _ a]
 |iface _ b=>simp[erase,b]
 |agg _ b=>simp only[erase,dL];rw[ags b]
 |dS _ b=>simp only[erase,dL];rw[ags b]
theorem G1{Φ:Fz}{m:Nat}{ρ dk:Nat->Nat}(d:∀i,i<m->dk i=ρ i){l:List V}(a:eV Φ m l):cl dk l=cl ρ l:=by
 rw[dL,dL];exact ags fun c b=>AU d (a c b)
theorem G2{ρ:Nat->Nat}(a:gE u=true):fM (erase ρ u)=true:=by
 cases u with
 |d b=>cases b<;>simp[erase,cz,fM]
 |agg _=>cases a
 |dS _=>cases a
 |_=>simp[erase,fM]
def gK(Φ:Fz)(ρ:Nat->Nat)(m:Nat)(l:List (Nat×V))(a:Tr Value):Prop:=
 ∀c b,gm l c=some b->a.get c=some (erase ρ b)/\e9 Φ m b
def jq(ρ:Nat->Nat)(a:fq):Deferred:=
 {target:=(match a.target with|.GS d=>.collected (ρ d)|.fn b c=>.fn (.func b) ⟨cl ρ c⟩),args:=⟨cl ρ a.args⟩}
def Jh(Φ:Fz)(m:Nat)(a:fq):Prop:=
 (match a.target with|.GS b=>b<m|.fn _ c=>eV Φ m c)/\eV Φ m a.args
def CN(Φ:Fz)(ρ:Nat->Nat)(m:Nat)(l:List fq)(a:List Deferred):Prop:=a=l.map (jq ρ)/\∀b∈l,Jh Φ m b
def ke(ρ:Nat->Nat)(a:rL):MapEntry:={key:=erase ρ a.key,val:=erase ρ a.val,born:=a.born}
structure LOk (Φ:Fz) (ρ:Nat->Nat) (m:Nat) (L:ki) (al:Fg):Prop where
 state:al.state=L.state
 pending:al.pending=L.pending
 fn:al.fn=L.fn
 tm:gK Φ ρ m L.tm al.tm
 nt:al.nt=L.nt
 params:al.params=L.params
 assign:al.assign=L.assign
 body:al.body=L.body
 defers:al.defers=ρ L.defers
 ee:L.defers<m
def Ig(Φ:Fz)(ρ:Nat->Nat)(m:Nat)(st:St)(o:cN)(b:Nat):Prop:=
 match o with
 |.box c=>(st.get b=some (.cells (cl ρ c) c.length b 0)/\st.fm.get b=none)/\eV Φ m c/\(∀f∈c,gE f=true)
 |.row es els=>(∃h n,st.get b=some (.cells (cl ρ els.flatten) es h n))/\(∀a∈els,a.length=es)/\(∀a∈els,eV Φ m a)/\(∀a∈els,∀f∈a,gE f=true)
 |.map es d=>st.get b=some (.map (es.map (ke ρ)) d)/\∀a∈es,e9 Φ m a.key/\e9 Φ m a.val
 |.loop k=>∃e,st.get b=some (.loop e)/\LOk Φ ρ m k e
 |.eI j=>st.get b=some (.eI j)
 |.j2 l a i=>st.get b=some (.j2 l a i)
 |.gone=>True
def live:cN->Bool
 |.gone=>false
 |_=>true
structure WM (st:St):Prop where
 lt:∀f ms x,st.fm.get f=some ms->x∈ms->x<st.n
 row:∀f ms x o,st.fm.get f=some ms->x∈ms->st.get x=some o->o=.dead∨∃c e p,o=.cells c e f p
theorem WM.mem{st:St}(l:WM st):∀d a e c b h k,st.fm.get d=some a->e∈a->st.get e=some (.cells c b h k)->h=d:=by
 intro d a e c b h k f j i;rcases l.row d a e _ f j i with b|⟨_,_,_,b⟩
 ·cases b
 ·cases b;rfl
structure Real (Φ:Fz) (ρ:Nat->Nat) (σ:VS) (st:St):Prop where
 wf:WF st
 wm:WM st
 fz:∀b o,Φ b=some o->st.get b=some o
 PJ:∀b,Φ b≠some .dead
 ss:∀f,Φ.ss f->st.fm.get f=none/\f<st.n
 PK:∀x y c e f p c' e' p',Φ x=some (.cells c e f p)->Φ y=some (.cells c' e' f p')->x=y
 K2:∀i es els c e f p,σ[i]?=some (.row es els)->st.get (ρ i)=some (.cells c e f p)->¬Φ.ss f
 obj:∀i o,σ[i]?=some o->live o=true->Ig Φ ρ σ.length st o (ρ i)/\Φ (ρ i)=none
 inj:∀i j oi oj,σ[i]?=some oi->σ[j]?=some oj->live oi=true->live oj=true->ρ i=ρ j->i=j
 dP:∀i es els c e f p ms x,σ[i]?=some (.row es els)->st.get (ρ i)=some (.cells c e f p)->st.fm.get f=some ms->x∈ms->x≠ρ i->
  Φ x=none/\∀j o,σ[j]?=some o->live o=true->ρ j≠x
 zr:Φ 0≠none
structure iJ (Φ:Fz) (ρ:Nat->Nat) (m:Nat) (du:Fz) (dk:Nat->Nat) (m':Nat):Prop where
 le:Φ.le du
 vA:∀i,i<m->dk i=ρ i
 len:m<=m'
theorem iJ.refl(Φ:Fz)(ρ:Nat->Nat)(m:Nat):iJ Φ ρ m Φ ρ m:=⟨Fz.le_refl _,fun _ _=>rfl,agK _⟩
theorem iJ.trans{Φ a d:Fz}{ρ b c:Nat->Nat}{m f e:Nat}(h:iJ Φ ρ m a b f)(j:iJ a b f d c e):iJ Φ ρ m d c e:=
 ⟨h.le.trans j.le,fun i hi=>(j.vA i (agZ hi h.len)).trans (h.vA i hi),Nat.le_trans h.len j.len⟩
variable{w:List V}
section
variable{Φ du:Fz} {ρ dk:Nat->Nat} {m m':Nat}
theorem iJ.erase(c:iJ Φ ρ m du dk m'){b:V}(a:e9 Φ m b):erase dk b=erase ρ b:=AU c.vA a
theorem iJ.cl(c:iJ Φ ρ m du dk m'){b:List V}(a:eV Φ m b):cl dk b=cl ρ b:=G1 c.vA a
theorem iJ.ok(b:iJ Φ ρ m du dk m')(a:e9 Φ m u):e9 du m' u:=a.mono b.le b.len
theorem iJ.N1(b:iJ Φ ρ m du dk m')(a:eV Φ m w):eV du m' w:=a.mono b.le b.len
theorem iJ.tm(e:iJ Φ ρ m du dk m'){l:List (Nat×V)}{a:Tr Value}(h:gK Φ ρ m l a):gK du dk m' l a:=fun f i c=>by
 obtain⟨d,b⟩:=h f i c;exact⟨by rw[d,e.erase b],e.ok b⟩
theorem iJ.df1(d:iJ Φ ρ m du dk m'){e:fq}(i:Jh Φ m e):jq dk e=jq ρ e/\Jh du m' e:=by
 obtain⟨h,k⟩:=e;obtain⟨a,b⟩:=i;cases h with
 |GS f=>exact⟨by simp only[jq];rw[d.vA f a,d.cl b],agZ a d.len,d.N1 b⟩
 |fn j c=>exact⟨by simp only[jq];rw[d.cl a,d.cl b],d.N1 a,d.N1 b⟩
theorem iJ.df(e:iJ Φ ρ m du dk m'){l:List fq}{b:List Deferred}(d:CN Φ ρ m l b):CN du dk m' l b:=
 ⟨by rw[d.1];exact(ags fun c a=>(e.df1 (d.2 c a)).1).symm,fun c a=>(e.df1 (d.2 c a)).2⟩
theorem iJ.lo(c:iJ Φ ρ m du dk m'){d:ki}{b:Fg}(a:LOk Φ ρ m d b):LOk du dk m' d b:=
 ⟨a.state,a.pending,a.fn,c.tm a.tm,a.nt,a.params,a.assign,a.body,by rw[a.defers,c.vA _ a.ee],agZ a.ee c.len⟩
theorem G3{els:List (List V)}(d:∀c∈els,eV Φ m c):eV Φ m els.flatten:=fun e a=>by
 obtain⟨c,b,a⟩:=ag1.1 a;exact d c b e a
theorem iJ.acy(i:iJ Φ ρ m du dk m'){st f:St}{o:cN}{b:Nat}(e:f.get b=st.get b)(p:∀l,o=.box l->f.fm.get b=none)(k:Ig Φ ρ m st o b):Ig du dk m' f o b:=by
 cases o with
 |box l=>
  obtain⟨⟨c,v⟩,a,h⟩:=k;exact⟨⟨by rw[e,c,i.cl a],p _ Z⟩,i.N1 a,h⟩
 |row es els=>
  obtain⟨⟨t,x,c⟩,a,h,r⟩:=k;exact⟨⟨t,x,by rw[e,c,i.cl (G3 h)]⟩,a,fun j d=>i.N1 (h j d),r⟩
 |map es n=>
  obtain⟨c,a⟩:=k;refine⟨?_,fun j d=>⟨i.ok (a j d).1,i.ok (a j d).2⟩⟩;rw[e,c];have:es.map (ke dk)=es.map (ke ρ):=ags fun j d=>by
   simp only[ke];rw[i.erase (a j d).1,i.erase (a j d).2]
  rw[this]
 |loop z=>
  obtain⟨q,c,a⟩:=k;exact⟨q,by rw[e,c],i.lo a⟩
 |eI D=>exact e.trans k
 |j2 C j s=>exact e.trans k
 |gone=>trivial
theorem iJ.obj(i:iJ Φ ρ m du dk m'){st dC:St}{o:cN}{b:Nat}(f:dC.get b=st.get b)(a:∀c h d k,st.get b=some (.cells c h d k)->st.fm.get d=none->dC.fm.get d=none)(e:Ig Φ ρ m st o b):Ig du dk m' dC o b:=
 i.acy f (fun j h=>by subst h;exact a _ _ _ _ e.1.1 e.1.2) e
end
theorem LZ(b lo hi:Nat):∀(d:List Nat) (a:Tr fX) (e:Nat),e ∉ d->(eh b lo hi d a).1.get e=a.get e:=by
 intro d;induction d with
 |nil=>intro a e _;rfl
 |cons m d f=>
  intro a e i;have h:e≠m:=fun j=>i (by simp[j]);have c:e ∉ d:=fun j=>i (by simp[j]);unfold eh;split
  ·exact f a e c
  ·split
   ·split
    ·rw[f _ e c,cB,if_neg h]
    ·exact f a e c
   ·exact f a e c
theorem L0(b lo hi:Nat):∀(a:List Nat) (c:Tr fX) (x:Nat),x∈(eh b lo hi a c).2->x∈a:=by
 intro a;induction a with
 |nil=>intro c x h;simp[eh]at h
 |cons m a ih=>
  intro c x hx;unfold eh at hx;split at hx
  ·exact XZ
  ·split at hx
   ·split at hx
    ·simp[ih _ x hx]
    ·exact XZ
   ·exact XZ
variable{H:Nat}
section
variable{st:St} {dP b lo hi:Nat}
theorem Ji(c:∀a,st.fm.get dP=some a->H ∉ a):(st.kill dP b lo hi).get H=st.get H:=by
 unfold St.kill;split
 ·rfl
 ·rename_i a d;exact LZ b lo hi a st.hp H (c a d)
theorem vG(f:Nat):(f≠dP->(st.kill dP b lo hi).fm.get f=st.fm.get f)/\(st.fm.get dP=none->(st.kill dP b lo hi).fm.get f=st.fm.get f)/\
  (∀a,st.fm.get dP=some a->∃c,(st.kill dP b lo hi).fm.get dP=some c/\∀i∈c,i∈a):=by
 cases d:st.fm.get dP with
 |none=>rw[gD d];exact⟨fun _=>rfl,fun _=>rfl,fun a e=>by cases e⟩
 |some a=>
  rw[ik d];refine⟨fun h=>(by show(st.fm.set dP _).get f=_;rw[cB,if_neg h]),fun e=>(by cases e),fun c e=>?_⟩;cases e;refine⟨_,by show(st.fm.set dP _).get dP=_;rw[cB,if_pos rfl],fun i j=>L0 b lo hi a st.hp i j⟩
end
theorem WM.BR{st:St}(i:WM st){b:Nat}{c j:List Value}{m f p:Nat}(k:st.get b=some (.cells c m f p)):WM (st.put b (.cells j m f p)):=by
 refine⟨i.lt,fun q d n o e h a=>?_⟩;rw[c8]at a;split at a
 ·rename_i l;cases a;have:=i.mem q d n c m f p e h (l▸k);subst this;exact .inr ⟨_,_,_,Z⟩
 ·exact i.row q d n o e h a
theorem WM.z1{st:St}(l:WM st){b:Nat}{s d:fX}(m:st.get b=some d)(k:d≠.dead)(h:∀c i r t,d≠.cells c i r t):WM (st.put b s):=by
 refine⟨l.lt,fun q e p o f j a=>?_⟩;rw[c8]at a;split at a
 ·rename_i n;rcases l.row q e p d f j (n▸m)with i|⟨_,_,_,i⟩
  ·exact absurd i k
  ·exact absurd i (h _ _ _ _)
 ·exact l.row q e p o f j a
theorem WM.new{st:St}(h:WM st){k:fX}:WM (st.new k):=by
 refine⟨fun j a e f c=>agJ (h.lt j a e f c),fun i a e o b c d=>?_⟩;have b:st.fm.get i=some a:=b;rw[dm,if_neg (agn (h.lt i a e b c))]at d;exact h.row i a e o b c d
theorem WM.kill{st:St}(s:WM st){dP b lo hi:Nat}:WM (st.kill dP b lo hi):=by
 have l:∀h d m,(st.kill dP b lo hi).fm.get h=some d->m∈d->∃a,st.fm.get h=some a/\m∈a:=by
  intro h d m c f;have q:=vG (st:=st) (dP:=dP) (b:=b) (lo:=lo) (hi:=hi) h;by_cases n:h=dP
  ·subst n;cases i:st.fm.get h with
   |none=>rw[q.2.1 i,i]at c;cases c
   |some a=>
    obtain⟨t,j,k⟩:=q.2.2 a i;rw[j]at c;cases c;exact⟨a,Z,k m f⟩
  ·rw[q.1 n]at c;exact⟨d,c,f⟩
 refine⟨fun h d m p f=>?_,fun h d m o p f r=>?_⟩
 ·obtain⟨a,j,k⟩:=l h d m p f;rw[gM];exact s.lt h a m j k
 ·obtain⟨a,j,k⟩:=l h d m p f;rcases kh r with e|e
  ·exact .inl e
  ·exact s.row h a m o j k e
def qD:cN->Bool
 |.box _=>true
 |.row _ _=>true
 |_=>false
variable{E:cN} {F:List Value}
section
variable{Φ:Fz} {ρ:Nat->Nat} {σ:VS} {st:St}
theorem Real.lt(b:Real Φ ρ σ st){i:Nat}{o:cN}(hi:σ[i]?=some o)(c:live o=true):ρ i<st.n:=by
 have a:=(b.obj i o hi c).1;cases o with
 |box f=>obtain⟨⟨d,_⟩,_⟩:=a;exact b.wf.lt _ _ d
 |row es els=>obtain⟨⟨_,_,d⟩,_⟩:=a;exact b.wf.lt _ _ d
 |map es e=>exact b.wf.lt _ _ a.1
 |loop j=>obtain⟨_,d,_⟩:=a;exact b.wf.lt _ _ d
 |eI h=>exact b.wf.lt _ _ a
 |j2 k l s=>exact b.wf.lt _ _ a
 |gone=>cases c
theorem Real.nz(b:Real Φ ρ σ st){i:Nat}{o:cN}(hi:σ[i]?=some o)(a:live o=true):ρ i≠0:=fun c=>b.zr (by rw[<-c];exact(b.obj i o hi a).2)
theorem Real.blt(b:Real Φ ρ σ st){i:Nat}{o:cN}(hi:σ[i]?=some o)(a:live o=true):agG 0 (ρ i)=true:=agj (Nat.pos_of_ne_zero (b.nz hi a))
theorem Real.flt(c:Real Φ ρ σ st){b:Nat}{o:fX}(a:Φ b=some o):b<st.n:=c.wf.lt _ _ (c.fz _ _ a)
theorem Real.apart(k:Real Φ ρ σ st){i:Nat}(hi:σ[i]?=some E)(h:qD E=true){c:List Value}{n f p:Nat}(e:st.get (ρ i)=some (.cells c n f p)) 
  {ms:List Nat} (a:st.fm.get f=some ms) (j:H∈ms) (b:H≠ρ i):Φ H=none/\∀m o,σ[m]?=some o->live o=true->ρ m≠H:=by
 cases E with
 |box q=>
  obtain⟨⟨⟨l,d⟩,_⟩,_⟩:=k.obj i _ hi rfl;rw[e]at l;cases l;rw[a]at d;cases d
 |row es els=>exact k.dP i es els c n f p ms H hi e a j b
 |_=>cases h
theorem Real.ox(t:Real Φ ρ σ st){i:Nat}(hi:σ[i]?=some E)(z:qD E=true){c:List Value}{e f p:Nat}(q:st.get (ρ i)=some (.cells c e f p)){x l v:Nat}(s:st.get H=some (.cells F x l v))(h:H≠ρ i)(Iy:Φ H≠none∨∃j o,σ[j]?=some o/\live o=true/\ρ j=H):l≠f:=by
 intro r;subst r;have m:=(t.wf.dP _ _ _ _ _ q).2;have d:=(t.wf.dP _ _ _ _ _ s).2;unfold uh at m d;cases n:st.fm.get l with
 |none=>
  rw[n]at m d;exact h (d.trans m.symm)
 |some C=>
  rw[n]at d;obtain⟨a,b⟩:=t.apart hi z q n d h;exact XO
theorem vH{σ:VS}{i:Nat}{o a:cN}(hi:σ[i]?=some o)(b:Nat):(σ.set i a)[b]?=if b=i then some a else σ[b]?:=by
 rw[List.getElem?_set];have:i<σ.length:=(agB.1 hi).1;by_cases c:i=b
 ·subst c;simp[this]
 ·rw[if_neg c,if_neg (fun d=>c d.symm)]
theorem Real.upd(T:Real Φ ρ σ st){i:Nat}{C:cN}(hi:σ[i]?=some E)(D:live E=true){dC:St}(K:WF dC)(J:WM dC) 
  (n:∀l,l≠ρ i->(Φ l≠none∨∃d o,σ[d]?=some o/\live o=true/\ρ d=l)->dC.get l=st.get l)
  (g:∀l c f m q,l≠ρ i->(Φ l≠none∨∃d o,σ[d]?=some o/\live o=true/\ρ d=l)->st.get l=some (.cells c f m q)->dC.fm.get m=st.fm.get m)
  (G:∀m,Φ.ss m->dC.fm.get m=none/\m<dC.n)
  (A:∀es els c f m q,C=.row es els->dC.get (ρ i)=some (.cells c f m q)->¬Φ.ss m)
  (H:Ig Φ ρ σ.length dC C (ρ i))
  (B:∀es els c f m q x l,C=.row es els->dC.get (ρ i)=some (.cells c f m q)->dC.fm.get m=some x->l∈x->l≠ρ i->Φ l=none/\∀d o,σ[d]?=some o->live o=true->ρ d≠l):
  Real Φ ρ (σ.set i C) dC:=by
 have p:=(T.obj i E hi D).2;have k:∀d o,d≠i->σ[d]?=some o->live o=true->ρ d≠ρ i:=fun d o a H v f=>a (T.inj d i o E H hi v D f);refine⟨K,J,fun b o V=>?_,T.PJ,G,T.PK,fun d es els c f m q a s=>?_,fun d o a v=>?_,fun d F M Y a h w r f=>?_,fun d es els c f m q x l a s I L j=>?_,T.zr⟩
 ·have j:b≠ρ i:=fun f=>by rw[f,p]at V;cases V
  rw[n b j (.inl (by rw[V];simp))];exact T.fz b o V
 ·rw[vH hi]at a;by_cases e:d=i
  ·subst e;rw[if_pos rfl]at a;cases a;exact A es els c f m q Z s
  ·rw[if_neg e]at a;rw[n _ (k d _ e a rfl) (.inr ⟨d,_,a,rfl,rfl⟩)]at s;exact T.K2 d es els c f m q a s
 ·rw[vH hi]at a;by_cases f:d=i
  ·subst f;rw[if_pos rfl]at a;cases a;exact⟨by simpa using H,p⟩
  ·rw[if_neg f]at a;have h:=T.obj d o a v;have j:=k d o f a v;refine⟨?_,h.2⟩;have:=(iJ.refl Φ ρ σ.length).obj (st:=st) (dC:=dC) (n _ j (.inr ⟨d,o,a,v,rfl⟩)) (fun c f m q O N=>by rw[g _ c f m q j (.inr ⟨d,o,a,v,rfl⟩) O];exact N) h.1;simpa using this
 ·rw[vH hi]at a h;by_cases e:d=i
  ·by_cases t:F=i
   ·rw[e,t]
   ·rw[if_neg t]at h;subst e;exact absurd f.symm (k F Y t h r)
  ·by_cases t:F=i
   ·rw[if_neg e]at a;subst t;exact absurd f (k d M e a w)
   ·rw[if_neg e]at a;rw[if_neg t]at h;exact T.inj d F M Y a h w r f
 ·have u:(Φ l=none/\∀d o,σ[d]?=some o->live o=true->ρ d≠l)->Φ l=none/\∀d o,(σ.set i C)[d]?=some o->live o=true->ρ d≠l:=by
   rintro⟨P,b⟩;refine⟨P,fun F Y h r=>?_⟩;rw[vH hi]at h;by_cases e:F=i
   ·rw[e];exact b i E hi D
   ·rw[if_neg e]at h;exact b F Y h r
  rw[vH hi]at a;by_cases e:d=i
  ·subst e;rw[if_pos rfl]at a;cases a;exact u (B es els c f m q x l Z s I L j)
  ·rw[if_neg e]at a;have y:=k d _ e a rfl;have z:=s;rw[n _ y (.inr ⟨d,_,a,rfl,rfl⟩)]at z;rw[g _ c f m q y (.inr ⟨d,_,a,rfl,rfl⟩) z]at I;exact u (T.dP d es els c f m q x l a z I L j)
theorem Real.write(u:Real Φ ρ σ st){i:Nat}{t o':cN}(hi:σ[i]?=some t)(H:qD t=true){c c':List Value}{e f p lo hi':Nat} 
  (s:st.get (ρ i)=some (.cells c e f p))
  (B:(∃V h,t=.box V/\o'=.box h/\h.length=V.length/\c'=cl ρ h/\eV Φ σ.length h/\∀P∈h,gE P=true)∨
   (∃els d,t=.row e els/\o'=.row e d/\c'=cl ρ d.flatten/\(∀m∈d,m.length=e)/\(∀m∈d,eV Φ σ.length m)/\∀m∈d,∀P∈m,gE P=true)):
  Real Φ ρ (σ.set i o') ((st.put (ρ i) (.cells c' e f p)).kill f (ρ i) lo hi'):=by
 have hl:live t=true:=by cases t<;>first|rfl|cases H
 have y:∀m,(st.put (ρ i) (.cells c' e f p)).get m=if m=ρ i then some (.cells c' e f p)else st.get m:=fun m=>c8 _ _ _ _
 have E:∀m,m≠ρ i->(Φ m≠none∨∃j o,σ[j]?=some o/\live o=true/\ρ j=m)->((st.put (ρ i) (.cells c' e f p)).kill f (ρ i) lo hi').get m=st.get m:=by
  intro m v Iy;rw[Ji,y,if_neg v];intro A x N;obtain⟨a,b⟩:=u.apart hi H s (ms:=A) x N v;exact XO
 have l:((st.put (ρ i) (.cells c' e f p)).kill f (ρ i) lo hi').get (ρ i)=some (.cells c' e f p):=by rw[Gn,y,if_pos rfl]
 have n:∀I,(st.put (ρ i) (.cells c' e f p)).fm.get I=st.fm.get I:=fun _=>rfl;have T:st.fm.get f=none->((st.put (ρ i) (.cells c' e f p)).kill f (ρ i) lo hi').fm.get f=none:=fun M=>by
  rw[(vG (st:=st.put (ρ i) (.cells c' e f p)) f).2.1 M,n,M]
 have F:WM ((st.put (ρ i) (.cells c' e f p)).kill f (ρ i) lo hi'):=(u.wm.BR s).kill;refine u.upd hi hl (WF.kill (u.wf.BR s)) F E (fun m K g f1 L v Iy O=>?_) ?_ ?_ ?_ ?_
 ·have C:=u.ox hi H s O v Iy;rw[(vG f1).1 C,n]
 ·intro I J;obtain⟨a,b⟩:=u.ss I J;refine⟨?_,by rw[gM];exact b⟩;by_cases g:I=f
  ·subst g;exact T a
  ·rw[(vG (st:=st.put (ρ i) (.cells c' e f p)) I).1 g,n];exact a
 ·intro es els K g f1 L G q;rw[l]at q;cases q;rcases B with⟨V,h,_,rfl,_⟩|⟨r,d,rfl,rfl,_⟩
  ·cases G
  ·exact u.K2 i _ r _ _ _ _ hi s
 ·rcases B with⟨V,h,rfl,rfl,hl,rfl,Y,D⟩|⟨els,d,rfl,rfl,rfl,Y,D,R⟩
  ·obtain⟨⟨⟨k,Q⟩,_⟩,_⟩:=u.obj i _ hi rfl;rw[s]at k;cases k;exact⟨⟨by rw[l,hl],T Q⟩,Y,D⟩
  ·exact⟨⟨_,_,l⟩,Y,D,R⟩
 ·intro es els K g f1 L A m G q x v C;rw[l]at q;cases q;rcases B with⟨V,h,_,rfl,_,_⟩|⟨r,d,rfl,rfl,_⟩
  ·cases G
  ·cases z:st.fm.get f with
   |none=>rw[T z]at x;cases x
   |some w=>
    obtain⟨S,Y,D⟩:=(vG (st:=st.put (ρ i) (.cells c' e f p)) (dP:=f) (b:=ρ i) (lo:=lo) (hi:=hi') f).2.2 w z;rw[Y]at x;cases x;exact u.dP i _ r c e f p w m hi s z (D m v) C
theorem Real.put(f:Real Φ ρ σ st){i:Nat}{j o':cN}(hi:σ[i]?=some j)(k:live j=true)(v:qD j=false)(m:qD o'=false){a:fX}(D:∀c e p r,a≠.cells c e p r) 
  (z:Ig Φ ρ σ.length (st.put (ρ i) a) o' (ρ i)):Real Φ ρ (σ.set i o') (st.put (ρ i) a):=by
 have h:∀q,(st.put (ρ i) a).get q=if q=ρ i then some a else st.get q:=fun q=>c8 _ _ _ _
 have t:WM (st.put (ρ i) a):=by
  have l:=(f.obj i j hi k).1;cases j with
  |box g=>cases v
  |row es els=>cases v
  |map es x=>exact f.wm.z1 l.1 (fun e=>by cases e) (fun _ _ _ _ e=>by cases e)
  |loop w=>obtain⟨u,Y,_⟩:=l;exact f.wm.z1 Y (fun e=>by cases e) (fun _ _ _ _ e=>by cases e)
  |eI y=>exact f.wm.z1 l (fun e=>by cases e) (fun _ _ _ _ e=>by cases e)
  |j2 T e s=>exact f.wm.z1 l (fun e=>by cases e) (fun _ _ _ _ e=>by cases e)
  |gone=>cases k
 refine f.upd hi k ⟨fun b o d=>?_,fun b c e p r d=>?_,f.wf.NN,f.wf.pos,fun o d=>by rw[h,if_neg (Ne.symm (f.nz hi k))]at d;exact f.wf.zro o d⟩ t (fun q C _=>by rw[h,if_neg C]) (fun _ _ _ _ _ _ _ _=>Z) f.ss (fun es els c e p r n=>by subst n;cases m) z ?_
 ·rw[h]at d;split at d
  ·rename_i e;rw[e];exact f.lt hi k
  ·exact f.wf.lt b o d
 ·rw[h]at d;split at d
  ·injection d with d;exact absurd d (D c e p r)
  ·exact f.wf.dP b c e p r d
 ·intro es els c e p r V q n;subst n;cases m
def jM(ρ:Nat->Nat)(i b:Nat):Nat->Nat:=fun a=>if a=i then b else ρ a
theorem la(Φ:Fz)(ρ:Nat->Nat)(m b:Nat):iJ Φ ρ m Φ (jM ρ m b) (m+1):=
 ⟨Fz.le_refl _,fun i hi=>if_neg om,om⟩
theorem kj(σ:VS)(o:cN)(a:Nat):(σ++[o])[a]?=if a=σ.length then some o else σ[a]?:=by
 rw[List.getElem?_append];by_cases b:a<σ.length
 ·rw[if_pos b,if_neg om]
 ·rw[if_neg b];by_cases c:a=σ.length
  ·subst c;simp
  ·rw[if_neg c,ahd (by simp;omega),ahd om]
theorem Real.new(h:Real Φ ρ σ st){o:cN}{p:fX}(r:ui st p)(Y:Ig Φ (jM ρ σ.length st.n) (σ.length+1) (st.new p) o st.n):
  Real Φ (jM ρ σ.length st.n) (σ++[o]) (st.new p):=by
 have i:∀l,(st.new p).get l=if l=st.n then some p else st.get l:=fun l=>dm _ _ _
 have hs:=la Φ ρ σ.length st.n;have hold:∀j oj,σ[j]?=some oj->j<σ.length:=fun j oj hj=>(agB.1 hj).1;have a:jM ρ σ.length st.n σ.length=st.n:=if_pos rfl;have g:Φ st.n=none:=by
  exact R0
 have v:(st.new p).fm=st.fm:=rfl;refine⟨h.wf.new r,h.wm.new,fun b o hb=>?_,h.PJ,fun n C=>⟨(h.ss n C).1,agJ (h.ss n C).2⟩,h.PK,fun j es els c e n w hj f=>?_,fun j oj hj T=>?_,fun j k oj ok hj hk hlj Ld e=>?_,fun j es els c e n w t l hj f m V q=>?_,h.zr⟩
 ·rw[i,if_neg (agn (h.flt hb))];exact h.fz b o hb
 ·rw[kj]at hj;by_cases d:j=σ.length
  ·subst d;rw[a,i,if_pos rfl]at f;cases f;have A:n=st.n:=by simpa [ui]using r
   intro s;have:=(h.ss n s).2;omega
  ·rw[if_neg d]at hj;rw[hs.vA j (hold j _ hj),i,if_neg (agn (h.lt hj rfl))]at f;exact h.K2 j es els c e n w hj f
 ·rw[kj]at hj;by_cases e:j=σ.length
  ·subst e;rw[if_pos rfl]at hj;cases hj;rw[a];exact⟨by simpa using Y,g⟩
  ·rw[if_neg e]at hj;obtain⟨u,y⟩:=h.obj j oj hj T;rw[hs.vA j (hold j oj hj)];refine⟨?_,y⟩;have:=hs.obj (st:=st) (dC:=st.new p) (by rw[i,if_neg (agn (h.lt hj T))]) (fun _ _ _ _ _ s=>s) u;simpa using this
 ·rw[kj]at hj hk;by_cases d:j=σ.length
  ·by_cases e2:k=σ.length
   ·rw[d,e2]
   ·rw[if_neg e2]at hk;subst d;rw[a,hs.vA k (hold k ok hk)]at e;have:=h.lt hk Ld;omega
  ·rw[if_neg d]at hj;by_cases e2:k=σ.length
   ·subst e2;rw[a,hs.vA j (hold j oj hj)]at e;have:=h.lt hj hlj;omega
   ·exact ab5
 ·rw[v]at m;have z:(Φ l=none/\∀j o,σ[j]?=some o->live o=true->ρ j≠l)->l≠st.n->Φ l=none/\∀j oj,(σ++[o])[j]?=some oj->live oj=true->jM ρ σ.length st.n j≠l:=by
   rintro⟨p,b⟩ D;refine⟨p,fun k ok hk Ld=>?_⟩;rw[kj]at hk;by_cases d:k=σ.length
   ·subst d;rw[a];exact D.symm
   ·rw[if_neg d]at hk;rw[hs.vA k (hold k ok hk)];exact b k ok hk Ld
  rw[kj]at hj;by_cases d:j=σ.length
  ·
   subst d;rw[a,i,if_pos rfl]at f;cases f;have:n=st.n/\True:=⟨by simpa [ui]using r,tv⟩;rw[this.1]at m;exact absurd (h.wf.NN _ _ m) (aha _)
  ·rw[if_neg d]at hj;rw[hs.vA j (hold j _ hj)]at f q;have x:=h.lt hj rfl;rw[i,if_neg (agn x)]at f;have k:=h.dP j es els c e n w t l hj f m V q;exact z k (agn (h.wm.lt n t l m V))
theorem Real.Sr(h:Real Φ ρ σ st){a:fX}(t:ui st a):Real Φ ρ σ (st.new a):=by
 have e:∀j,(st.new a).get j=if j=st.n then some a else st.get j:=fun j=>dm _ _ _
 refine⟨h.wf.new t,h.wm.new,fun b o l=>?_,h.PJ,fun i n=>⟨(h.ss i n).1,agJ (h.ss i n).2⟩,h.PK,fun m es els c D i s d f=>?_,fun m T d p=>?_,h.inj,fun m es els c D i s q j d f z v k=>?_,h.zr⟩
 ·rw[e,if_neg (agn (h.flt l))];exact h.fz b o l
 ·rw[e,if_neg (agn (h.lt d rfl))]at f;exact h.K2 m es els c D i s d f
 ·obtain⟨r,C⟩:=h.obj m T d p;exact⟨(iJ.refl Φ ρ _).obj (st:=st) (dC:=st.new a) (by rw[e,if_neg (agn (h.lt d p))]) (fun _ _ _ _ _ x=>x) r,C⟩
 ·rw[e,if_neg (agn (h.lt d rfl))]at f;exact h.dP m es els c D i s q j d f z v k
def oz(Φ:Fz)(b:Nat)(o:fX):Fz:=⟨fun a=>if a=b then some o else Φ a,fun a=>a=b∨Φ.Eo a,Φ.ss⟩
theorem lf(Φ:Fz)(b:Nat)(o:fX)(a:Nat):(oz Φ b o) a=if a=b then some o else Φ a:=rfl
theorem vI{Φ:Fz}{b:Nat}{o:fX}(c:Φ b=none):Φ.le (oz Φ b o):=⟨fun h f a=>by
 rw[lf];split
 ·rename_i e;rw[e,c]at a;cases a
 ·exact a,fun h f a=>⟨fun d=>d.elim (fun e=>by rw[e,c]at a;cases a) id,.inr⟩,fun _ c=>c⟩
theorem Real.SX(e:Real Φ ρ σ st){b:Nat}{c:List Value}{es dP p:Nat}(x:st.get b=some (.cells c es dP p))(D:Φ b=none) 
  (s:∀f o,σ[f]?=some o->live o=true->ρ f≠b) (C:∀f es els c k q p,σ[f]?=some (.row es els)->st.get (ρ f)=some (.cells c k q p)->q≠dP)
  (l:∀y c k p,Φ y≠some (.cells c k dP p)):
  Real (oz Φ b (.cells c es dP p)) ρ σ st:=by
 have A:iJ Φ ρ σ.length (oz Φ b (.cells c es dP p)) ρ σ.length:=⟨vI D,fun _ _=>rfl,agK _⟩;refine⟨e.wf,e.wm,fun i o a=>?_,fun i a=>?_,e.ss,fun i y H Y f1 J I G F a d=>?_,e.K2,fun f u h T=>?_,e.inj,fun f j els v k q g r i h z V a t=>?_,?_⟩
 ·rw[lf]at a;split at a
  ·rename_i k;cases a;rw[k];exact x
  ·exact e.fz i o a
 ·rw[lf]at a;split at a
  ·cases a
  ·exact e.PJ i a
 ·rw[lf]at a d;split at a
  ·rename_i w;cases a;split at d
   ·rename_i E;rw[w,E]
   ·exact absurd d (l _ _ _ _)
  ·split at d
   ·cases d;exact absurd a (l _ _ _ _)
   ·exact e.PK i y _ _ _ _ _ _ _ a d
 ·obtain⟨m,n⟩:=e.obj f u h T;refine⟨A.obj Z (fun _ _ _ _ _ B=>B) m,?_⟩;rw[lf,if_neg (s f u h T)];exact n
 ·obtain⟨m,n⟩:=e.dP f j els v k q g r i h z V a t;refine⟨?_,n⟩;rw[lf];split
  ·rename_i Y;subst Y;exact absurd (e.wm.mem q r i c es dP p V a x).symm (C f j els v k q g h z)
  ·exact m
 ·rw[lf];split
  ·simp
  ·exact e.zr
theorem Real.SY(h:Real Φ ρ σ st){b:Nat}{es dP p:Nat}{els:List (List V)}(s:st.get b=some (.cells (cl ρ els.flatten) es dP p))(w:Φ b=none) 
  (v:∀j o,σ[j]?=some o->live o=true->ρ j≠b) (g:∀j es els c e z p,σ[j]?=some (.row es els)->st.get (ρ j)=some (.cells c e z p)->z≠dP)
  (F:∀q m,st.fm.get dP=some q->m∈q->m≠b->Φ m=none/\∀j o,σ[j]?=some o->live o=true->ρ j≠m) (Y:¬Φ.ss dP)
  (A:∀e∈els,e.length=es) (T:∀e∈els,eV Φ σ.length e) (B:∀e∈els,∀J∈e,gE J=true):
  Real Φ (jM ρ σ.length b) (σ++[.row es els]) st:=by
 have hs:=la Φ ρ σ.length b;have hold:∀j oj,σ[j]?=some oj->j<σ.length:=fun j oj hj=>(agB.1 hj).1;have a:jM ρ σ.length b σ.length=b:=if_pos rfl;have x:∀m,(Φ m=none/\∀j o,σ[j]?=some o->live o=true->ρ j≠m)->m≠b->Φ m=none/\∀j oj,(σ++[.row es els])[j]?=some oj->live oj=true->jM ρ σ.length b j≠m:=by
  rintro m ⟨I,k⟩ u;refine⟨I,fun j oj hj C=>?_⟩;rw[kj]at hj;by_cases d:j=σ.length
  ·subst d;rw[a];exact u.symm
  ·rw[if_neg d]at hj;rw[hs.vA j (hold j oj hj)];exact k j oj hj C
 refine⟨h.wf,h.wm,h.fz,h.PJ,h.ss,h.PK,fun j n i c e z t hj f=>?_,fun j oj hj C=>?_,fun j k oj ok hj hk hlj Ld e=>?_,fun j n i c e z t q m hj f r D l=>?_,h.zr⟩
 ·rw[kj]at hj;by_cases d:j=σ.length
  ·subst d;rw[a,s]at f;cases f;exact Y
  ·rw[if_neg d]at hj;rw[hs.vA j (hold j _ hj)]at f;exact h.K2 j n i c e z t hj f
 ·rw[kj]at hj;by_cases e:j=σ.length
  ·subst e;rw[if_pos rfl]at hj;cases hj;rw[a];refine⟨⟨⟨dP,p,?_⟩,A,fun e H=>?_,B⟩,w⟩
   ·rw[s,hs.cl (G3 T)]
   ·have:=hs.N1 (T e H);simpa using this
  ·rw[if_neg e]at hj;obtain⟨y,G⟩:=h.obj j oj hj C;rw[hs.vA j (hold j oj hj)];refine⟨?_,G⟩;have:=hs.obj (st:=st) (dC:=st) rfl (fun _ _ _ _ _ E=>E) y;simpa using this
 ·rw[kj]at hj hk;by_cases d:j=σ.length
  ·by_cases e2:k=σ.length
   ·rw[d,e2]
   ·rw[if_neg e2]at hk;subst d;rw[a,hs.vA k (hold k ok hk)]at e;exact absurd e.symm (v k ok hk Ld)
  ·rw[if_neg d]at hj;by_cases e2:k=σ.length
   ·subst e2;rw[a,hs.vA j (hold j oj hj)]at e;exact absurd e (v j oj hj hlj)
   ·exact ab5
 ·rw[kj]at hj;by_cases d:j=σ.length
  ·subst d;rw[a]at f l;rw[s]at f;cases f;exact x m (F q m r D l) l
  ·rw[if_neg d]at hj;rw[hs.vA j (hold j _ hj)]at f l;have k:=h.dP j n i c e z t q m hj f r D l;refine x m k fun e2=>?_;subst e2;exact absurd (h.wm.mem z q m _ es dP p r D s).symm (g j n i c e z t hj f)
theorem Real.drop(b:Real Φ ρ σ st){i:Nat}(hi:σ[i]?=some E)(c:live E=true):Real Φ ρ (σ.set i .gone) st:=
 b.upd hi c b.wf b.wm (fun _ _ _=>rfl) (fun _ _ _ _ _ _ _ _=>rfl) b.ss (fun _ _ _ _ _ _ a=>by cases a) trivial (fun _ _ _ _ _ _ _ _ a=>by cases a)
theorem rC{i:Nat}(hi:σ[i]?=some E){o:cN}(a:(σ.set i .gone)[H]?=some o)(b:live o=true):H≠i/\σ[H]?=some o:=by
 rw[vH hi]at a;by_cases c:H=i
 ·rw[if_pos c]at a;cases a;cases b
 ·rw[if_neg c]at a;exact⟨c,a⟩
theorem Real.freeze(k:Real Φ ρ σ st){i es:Nat}{els:List (List V)}(hi:σ[i]?=some (.row es els)){c:List Value}{e f p:Nat}(h:st.get (ρ i)=some (.cells c e f p)):
  Real (oz Φ (ρ i) (.cells c e f p)) ρ (σ.set i .gone) st:=by
 have r:=(k.obj i _ hi rfl).2;refine(k.drop hi Z).SX h r (fun m o l q=>?_) (fun m z v s t D x l n=>?_) (fun C s t x d=>?_)
 ·obtain⟨j,b⟩:=rC hi l q;exact fun e=>j (k.inj m i o _ b hi q Z e)
 ·obtain⟨j,b⟩:=rC hi l rfl;have a:ρ m≠ρ i:=fun e=>j (k.inj m i _ _ b hi rfl rfl e);exact k.ox hi Z h n a (.inr ⟨m,_,b,Z,Z⟩)
 ·have a:C≠ρ i:=fun e=>by rw[e,r]at d;cases d
  exact k.ox hi Z h (k.fz _ _ d) a (.inl (by rw[d];simp)) Z
theorem Real.acz(h:Real Φ ρ σ st){c:List Value}{es:Nat}:Real (oz Φ st.n (.cells c es st.n 0)) ρ σ (st.new (.cells c es st.n 0)):=by
 have e:Φ st.n=none:=by
  exact R0
 have b:∀i,(st.new (.cells c es st.n 0)).get i=if i=st.n then some (.cells c es st.n 0)else st.get i:=fun i=>dm _ _ _
 refine(h.Sr (a:=.cells c es st.n 0) Z).SX (by rw[b,if_pos rfl]) e (fun s o d k=>agn (h.lt d k)) (fun s q j n p r m d f=>?_) (fun t n p m l=>?_)
 ·rw[b,if_neg (agn (h.lt d rfl))]at f;exact agn (h.wf.dP _ _ _ _ _ f).1
 ·exact aha _ (h.wf.dP _ _ _ _ _ (h.fz _ _ l)).1
section
variable{es dP fo o len n i:Nat} {c old xs:List Value} {els:List (List V)} {e0:Nat}
theorem SZ(b:Nat)(f:Nat):(f≠dP->(grown st es dP fo b o len n c old xs).fm.get f=st.fm.get f)/\
  (∀i k,(grown st es dP fo b o len n c old xs).fm.get dP=some i->k∈i->k=st.n∨k=b∨∃a,st.fm.get dP=some a/\k∈a):=by
 have j:=vG (st:=st) (dP:=dP) (b:=st.n) (lo:=fo+o+len*es) (hi:=fo+o+(len+n)*es) f;unfold grown;dsimp only;refine⟨fun e=>?_,fun i k l hx=>?_⟩
 ·rw[cB,if_neg e];split
  ·exact j.1 e
  ·exact j.1 e
 ·rw[cB,if_pos rfl]at l;cases l;rcases agu.1 hx with s|hx
  ·exact .inl s
  ·right;split at hx
   ·rename_i r h;right;cases d:st.fm.get dP with
    |none=>rw[gD d,d]at h;cases h
    |some a=>
     obtain⟨q,m,p⟩:=j.2.2 a d;rw[m]at h;cases h;exact⟨a,Z,p k hx⟩
   ·split at hx
    ·left;simpa using hx
    ·simp at hx
theorem Real.grow(h:Real Φ ρ σ st)(hi:σ[i]?=some (.row e0 els))(v:st.get (ρ i)=some (.cells c es dP fo)):
  Real Φ ρ (σ.set i .gone) (grown st es dP fo (ρ i) o len n c old xs)/\
  (∀j Y V B H w L,(σ.set i .gone)[j]?=some (.row Y V)->(grown st es dP fo (ρ i) o len n c old xs).get (ρ j)=some (.cells B H w L)->w≠dP)/\
  (∀d f,(grown st es dP fo (ρ i) o len n c old xs).fm.get dP=some d->f∈d->f≠st.n->Φ f=none/\∀j o,(σ.set i .gone)[j]?=some o->live o=true->ρ j≠f):=by
 have O:=h.lt hi rfl;have D:∀f,f≠ρ i->(Φ f≠none∨∃j o,σ[j]?=some o/\live o=true/\ρ j=f)->(grown st es dP fo (ρ i) o len n c old xs).get f=st.get f:=by
  intro f l Iy;have C:f≠st.n:=by
   rcases Iy with k|⟨j,o,hj,hl,e⟩
   ·cases E:Φ f with
    |none=>exact absurd E k
    |some o=>exact agn (h.flt E)
   ·rw[<-e];exact agn (h.lt hj hl)
  rw[kC,if_neg C];have G:(st.kill dP st.n (fo+o+len*es) (fo+o+(len+n)*es)).get f=st.get f:=by
   refine Ji fun d p K=>?_;obtain⟨a,b⟩:=h.apart hi rfl v (ms:=d) p K l;exact XO
  unfold iU;dsimp only;split
  ·exact G
  ·rw[c8,if_neg l,G]
 have F:=ym (o:=o) (len:=len) (n:=n) (old:=old) (xs:=xs) h.wf v;have q:=fun b r=>SZ (st:=st) (es:=es) (dP:=dP) (fo:=fo) (o:=o) (len:=len) (n:=n) (c:=c) (old:=old) (xs:=xs) b r;have I:WM (grown st es dP fo (ρ i) o len n c old xs):=by
  have N:(grown st es dP fo (ρ i) o len n c old xs).n=st.n+1:=rfl;refine⟨fun r d f p l=>?_,fun r d f P p l m=>?_⟩
  ·rw[N];by_cases s:r=dP
   ·subst s;rcases(q (ρ i) r).2 d f p l with e|e|⟨t,z,T⟩
    ·omega
    ·omega
    ·have:=h.wm.lt r t f z T;omega
   ·rw[(q (ρ i) r).1 s]at p;have:=h.wm.lt r d f p l;omega
  ·by_cases s:r=dP
   ·subst s;rw[kC]at m;split at m
    ·cases m;exact .inr ⟨_,_,_,rfl⟩
    ·rename_i C;rcases lq m with e0|hold
     ·exact .inl e0
     ·rcases(q (ρ i) r).2 d f p l with e|e|⟨t,z,T⟩
      ·exact absurd e C
      ·rw[e,v]at hold;cases hold;exact .inr ⟨_,_,_,rfl⟩
      ·exact h.wm.row r t f _ z T hold
   ·rw[(q (ρ i) r).1 s]at p;have A:=h.wm.lt r d f p l;rw[kC,if_neg (agn A)]at m;rcases lq m with e0|hold
    ·exact .inl e0
    ·exact h.wm.row r d f _ p l hold
 have M:Real Φ ρ (σ.set i .gone) (grown st es dP fo (ρ i) o len n c old xs):=
  h.upd hi rfl F I D (fun f Q S f1 R l Iy m=>(q (ρ i) f1).1 (h.ox hi rfl v m l Iy))
   (fun r s=>⟨by
    have J:r≠dP:=fun e=>h.K2 i _ _ _ _ _ _ hi v (e▸s);rw[(q (ρ i) r).1 J];exact(h.ss r s).1,agJ (h.ss r s).2⟩) (fun _ _ _ _ _ _ y=>by cases y) trivial (fun _ _ _ _ _ _ _ _ y=>by cases y)
 refine⟨M,fun j Y V B H w L hj g=>?_,fun d f p l x=>?_⟩
 ·obtain⟨h1,h2⟩:=rC hi hj rfl;have x:ρ j≠ρ i:=fun e=>h1 (h.inj j i _ _ h2 hi rfl rfl e);rw[D _ x (.inr ⟨j,_,h2,rfl,rfl⟩)]at g;exact h.ox hi Z v g x (.inr ⟨j,_,h2,Z,Z⟩)
 ·rcases(q (ρ i) dP).2 d f p l with e|e|⟨t,z,T⟩
  ·exact absurd e x
  ·subst e;exact aas
  ·by_cases u:f=ρ i
   ·subst u;exact aas
   ·obtain⟨a,b⟩:=h.dP i _ _ _ _ _ _ t f hi v z T u;exact⟨a,fun j o hj hl=>b j o (rC hi hj hl).2 hl⟩
end
end
theorem CO:∀(n:Nat) (e:List V) (k:List V->Prop),SM n e k->n<=e.length/\k (e.take n):=by
 exact Sl
theorem z6:∀(f:List V) (b n:Nat) (d:List V->Prop),SN f b n d->b+n<=f.length/\d ((f.drop b).take n):=by
 intro f;induction f with
 |nil=>
  intro b n d e;cases b with
  |zero=>obtain⟨c,a⟩:=CO n [] d e;exact⟨by simpa using c,a⟩
  |succ b=>exact e.elim
 |cons i j h=>
  intro b n d e;cases b with
  |zero=>obtain⟨c,a⟩:=CO n (i::j) d e;exact⟨by simpa using c,a⟩
  |succ b=>
   obtain⟨c,a⟩:=h b n d e;exact⟨by simp only[agP];omega,a⟩
theorem Jj:∀(n:Nat) (e:cH) (k:List V->Prop),LR n e k->n<=e.length/\k ((e.take n).map V.d):=by
 exact Sl
theorem Jk:∀(n:Nat) (e:cH) (k:cH->Prop),LS n e k->n<=e.length/\k (e.drop n):=by
 exact Sl
def lay{a:Type}(c:List a)(f:Nat)(b:List a):List a:=c.take f++b++c.drop (f+b.length)
theorem xy:∀(c:List V) (b:Nat) (a:List V) (i:List V->Prop),CG c b a i->b+a.length<=c.length/\i (lay c b a):=by
 intro c;induction c with
 |nil=>
  intro b a i d;cases b with
  |zero=>cases a with
   |nil=>exact⟨by simp,by simp[lay];exact d⟩
   |cons _ _=>exact d.elim
  |succ b=>cases a<;>exact d.elim
 |cons j c h=>
  intro b a i d;cases b with
  |zero=>cases a with
   |nil=>exact⟨by simp,by simp[lay];exact d⟩
   |cons m a=>
    obtain⟨f,e⟩:=h 0 a _ d;refine⟨by simp at f⊢;exact f,?_⟩;simpa [lay]using e
  |succ b=>
   have d:CG c b a fun k=>i (j::k):=by cases a<;>exact d
   obtain⟨f,e⟩:=h b a _ d;refine⟨by simp only[agP];omega,?_⟩;have l:lay (j::c) (b+1) a=j::lay c b a:=by
    simp only[lay,agX,show b+1+a.length=(b+a.length)+1 from om,agY,agC]
   rw[l];exact e
theorem qE:∀(c:List Value) (b:Nat) (a:List Value),b+a.length<=c.length->dw c b a=lay c b a:=by
 intro c;induction c with
 |nil=>
  intro b a d;cases a with
  |nil=>simp[dw,lay]
  |cons _ _=>simp at d
 |cons h c e=>
  intro b a d;cases a with
  |nil=>simp[dw,lay]
  |cons f a=>
   cases b with
   |zero=>
    rw[dw,e 0 a (by simp at d⊢;exact d)];simp[lay]
   |succ b=>
    rw[dw,e b (f::a) (by simp at d⊢;omega)];simp only[lay,agX,show b+1+(f::a).length=(b+(f::a).length)+1 from om,agY,agC]
theorem CP{a:Type}{c:List a}{f:Nat}{b:List a}(d:f+b.length<=c.length):(lay c f b).length=c.length:=by
 simp only[lay,agv,agO,agy];omega
theorem BV{a d:Type}(e:a->d)(c:List a)(f:Nat)(b:List a):(lay c f b).map e=lay (c.map e) f (b.map e):=by
 simp[lay,agL,agM]
theorem yz{a:Type}{c:List a}{f:Nat}{b:List a}{d:a}(h:d∈lay c f b):d∈c∨d∈b:=by
 simp only[lay,agE]at h;rcases h with(h|h)|h
 ·exact .inl (ago h)
 ·exact .inr h
 ·exact .inl (agp h)
theorem L1:∀(σ:VS) (o:cN) (i:Nat) (a:Nat->VS->Prop),SO σ o i a->a (i+σ.length) (σ++[o]):=by
 intro σ;induction σ with
 |nil=>intro o i a c;exact c
 |cons e d b=>
  intro o i a c;have:=b o (i+1) _ c;simp only[agP,agC];rw[show i+(d.length+1)=i+1+d.length from by omega];exact this
theorem vJ{a:Type}(n:Nat)(b:Nat->a):uf n b=b n:=by cases n<;>rfl
theorem jK{σ:VS}{o:cN}{a:Nat->VS->Prop}(b:CH σ o a):a σ.length (σ++[o]):=by
 have:=L1 _ _ _ _ b;rw[vJ]at this;simpa using this
theorem kD:∀(σ:VS) (i:Nat) (o:cN) (b:VS->Prop),Bv σ i o b->i<σ.length/\b (σ.set i o):=by
 intro σ;induction σ with
 |nil=>intro i o b a;cases i<;>exact a.elim
 |cons f h c=>
  intro i o b a;cases i with
  |zero=>exact⟨by simp,a⟩
  |succ i=>
   obtain⟨e,d⟩:=c i o _ a;exact⟨by simpa using e,d⟩
theorem cA{a:Type}{o:Option a}{d:a->Prop}(c:dn o d):∃b,o=some b/\d b:=by
 cases o with
 |none=>exact c.elim
 |some b=>exact⟨b,rfl,c⟩
theorem mh(ρ:Nat->Nat)(a:V):cellsOf (erase ρ a)=cl ρ (dG a):=by
 cases a with
 |d b=>cases b<;>simp[erase,cz,cellsOf,dG,cl]
 |agg c=>simp[erase,cellsOf,dG]
 |_=>simp[erase,cellsOf,dG,cl]
theorem vK{Φ:Fz}{m:Nat}(b:e9 Φ m u):eV Φ m (dG u):=by
 cases b with
 |agg b=>exact b
 |d b=>intro c a;simp[dG]at a;subst a;exact .d b
 |bp b=>intro c a;simp[dG]at a;subst a;exact .bp b
 |ptr b=>intro c a;simp[dG]at a;subst a;exact .ptr b
 |fp f e j h i=>intro c a;simp[dG]at a;subst a;exact .fp f e j h i
 |ms b=>intro c a;simp[dG]at a;subst a;exact .ms b
 |map b=>intro c a;simp[dG]at a;subst a;exact .map b
 |fn f e=>intro c a;simp[dG]at a;subst a;exact .fn f e
 |tR b=>intro c a;simp[dG]at a;subst a;exact .tR b
 |iface b=>intro c a;simp[dG]at a;subst a;exact .iface b
 |dS b=>intro c a;simp[dG]at a;subst a;exact .dS b
theorem nY(ρ:Nat->Nat)(l:cH):cl ρ (l.map V.d)=l.map cz:=by
 induction l with
 |nil=>rfl
 |cons b l a=>simp only[agm,cl,erase,a]
variable{B:Value}
theorem Ft(a:ZD B=some R):cz R=B:=by
 unfold ZD at a;split at a<;>first|(cases a;rfl)|cases a
theorem S0(a:ZD B=some R)(Φ:Fz):xw Φ R:=by
 unfold ZD at a;split at a<;>first|(cases a;constructor)|cases a
theorem jk(ρ:Nat->Nat):∀{b:List Value} {c:List V},ux b=some c->cl ρ c=b:=by
 intro b;induction b with
 |nil=>intro c a;cases a;rfl
 |cons j b d=>
  intro c a;unfold ux at a;split at a
  ·rename_i h i f e;cases a;simp only[cl,erase];rw[Ft f,d e]
  ·cases a
theorem qo(Φ:Fz)(m:Nat):∀{c:List Value} {b:List V},ux c=some b->eV Φ m b/\∀k∈b,gE k=true:=by
 intro c;induction c with
 |nil=>intro b a;cases a;exact⟨fun _ a=>by simp at a,fun _ a=>by simp at a⟩
 |cons k c f=>
  intro b a;unfold ux at a;split at a
  ·rename_i l n i h;cases a;obtain⟨d,j⟩:=f h;refine⟨fun e hx=>?_,fun e hx=>?_⟩
   ·rcases agu.1 hx with rfl|hx
    ·exact .d (S0 i Φ)
    ·exact d e hx
   ·rcases agu.1 hx with rfl|hx
    ·rfl
    ·exact j e hx
  ·cases a
theorem PL{ρ:Nat->Nat}(a:ZE B=some u):erase ρ u=B:=by
 unfold ZE at a;split at a
 ·split at a
  ·rename_i d b;cases a;simp only[erase];rw[jk ρ b]
  ·cases a
 ·split at a
  ·rename_i c b;cases a;simp only[erase];exact Ft b
  ·cases a
theorem aaI(a:ZE B=some u)(Φ:Fz)(m:Nat):e9 Φ m u:=by
 unfold ZE at a;split at a
 ·split at a
  ·rename_i d b;cases a;exact .agg (qo Φ m b).1
  ·cases a
 ·split at a
  ·rename_i c b;cases a;exact .d (S0 b Φ)
  ·cases a
theorem Jl(a:ZD B=some R):flat B=true:=by
 unfold ZD at a;split at a<;>first|rfl|cases a
theorem PM:∀{a:List Value} {c:List V},ux a=some c->a.all flat=true:=by
 intro a;induction a with
 |nil=>intro c b;rfl
 |cons j a d=>
  intro c b;unfold ux at b;split at b
  ·rename_i h i f e;simp only[List.all_cons,Jl f,d e,agN]
  ·cases b
theorem PN(b:ZE B=some u):rG B=true:=by
 unfold ZE at b;split at b
 ·split at b
  ·rename_i f a;exact PM a
  ·cases b
 ·rename_i B c;split at b
  ·rename_i e a;have:=Jl a;unfold rG;split
   ·rename_i d;exact absurd rfl (c d)
   ·exact this
  ·cases b
def oL(Φ:Fz)(ρ:Nat->Nat)(m:Nat)(ev:Operand->Option V)(mK:Operand->Option Value):Prop:=
 ∀b a,ev b=some a->mK b=some (erase ρ a)/\e9 Φ m a
variable{O:Fr}
theorem gF{Φ:Fz}{ρ:Nat->Nat}{m:Nat}{l:List (Nat×V)}(b:gK Φ ρ m l O.tm):oL Φ ρ m (Fq l) (jy O):=by
 intro e d a;cases e with
 |tmp f=>exact b f d a
 |const c=>
  have a:ZE c=some d:=a;refine⟨?_,aaI a Φ m⟩;simp only[jy,PN a];rw[PL a]
 |global i=>cases a
 |func h=>
  cases a;exact⟨by simp[jy,erase,cl],.fn (fun _ b=>by simp at b) (fun _ b=>by simp at b)⟩
variable{g:V->Prop} {A:Bool}
section
variable{C:dR} {Φ:Fz} {ρ:Nat->Nat} {σ:VS} {st:St} {m:Nat} {ev:Operand->Option V} {mK:Operand->Option Value}
theorem nl(h:oL Φ ρ m ev mK):∀{f:List Operand} {e:List V},wL ev f=some e->nf mK f=some (cl ρ e)/\eV Φ m e:=by
 intro f;induction f with
 |nil=>intro e a;cases a;exact⟨rfl,fun _ a=>by simp at a⟩
 |cons p f i=>
  intro e a;unfold wL at a;split at a
  ·rename_i r q k j;cases a;obtain⟨o,b⟩:=h _ _ k;obtain⟨c,l⟩:=i j;refine⟨by simp only[nf,o,c,cl],fun n d=>?_⟩;rcases agu.1 d with rfl|d
   ·exact b
   ·exact l n d
  ·cases a
theorem CQ(j:oL Φ ρ m ev mK):∀{h:List (Nat×Operand)} {f:List (Nat×V)},CI ev h=some f->l9 mK h=some (f.map fun d=>(d.1,erase ρ d.2))/\∀d∈f,e9 Φ m d.2:=by
 intro h;induction h with
 |nil=>intro f a;cases a;exact⟨rfl,fun _ a=>by simp at a⟩
 |cons d h k=>
  intro f a;obtain⟨i,d⟩:=d;unfold CI at a;split at a
  ·rename_i s r n l;cases a;obtain⟨q,b⟩:=j _ _ n;obtain⟨c,o⟩:=k l;refine⟨by simp only[l9,q,c,agm],fun p e=>?_⟩;rcases agu.1 e with rfl|e
   ·exact b
   ·exact o p e
  ·cases a
theorem N2{c:Type}:∀{els:List (List c)} {es kk f n:Nat} {e:List c},(∀d∈els,d.length=es)->els[kk]?=some e->f+n<=es->
  (els.flatten.drop (kk*es+f)).take n=(e.drop f).take n/\kk*es+f+n<=els.flatten.length:=by
 intro els;induction els with
 |nil=>intro es kk f n e _ a;simp at a
 |cons d els h=>
  intro es kk f n e b a j;have l:=b d sm;cases kk with
  |zero=>
   simp at a;subst a;simp only[agR,ahb,agl,agv];refine⟨?_,om⟩;rw[ag2 om,ag0 (by rw[agy];omega)]
  |succ kk=>
   have:=h (fun k i=>b k (by simp[i])) (kk:=kk) (f:=f) (n:=n) (e:=e) (by simpa using a) j;simp only[agl,agv];rw[agS];refine⟨?_,om⟩;rw[<-this.1,show kk*es+es+f=d.length+(kk*es+f)from om,agH]
theorem rM{d:Type}{els:List (List d)}{es:Nat}(e:∀a∈els,a.length=es):els.flatten.length=els.length*es:=by
 induction els with
 |nil=>simp
 |cons a els b=>
  rw[agl,agv,e a sm,b fun f c=>e f (by simp[c]),agP,agS];omega
theorem yA{c:List V}(a:V1 A c g)(ρ:Nat->Nat)(d:eV Φ m c):∃b,g b/\e9 Φ m b/\Iz A (cl ρ c)=some (erase ρ b):=by
 cases A with
 |true=>exact⟨_,a,.agg d,by simp[Iz,erase,List.toArray]⟩
 |false=>
  unfold V1 at a;dsimp only at a;split at a
  ·rename_i b;exact⟨b,a,d b sm,by simp[Iz,cl]⟩
  ·exact a.elim
theorem L2(b:eV Φ m w)(f n:Nat):eV Φ m ((w.drop f).take n):=fun c a=>b c (agp (ago a))
theorem pM(ρ:Nat->Nat)(a:List V)(f n:Nat):cl ρ ((a.drop f).take n)=((cl ρ a).drop f).take n:=by
 simp[dL,agL,agM]
theorem jr{b o n:Nat}{c:List Value}{es f p:Nat}(a:st.get b=some (.cells c es f p))(d:o+n<=c.length):gq st b o n=some ((c.drop o).take n):=by
 unfold gq;rw[a];simp only[agj d]
theorem Jm(y:Real Φ ρ σ st)(B:e9 Φ σ.length u){n:Nat}(a:SP n A u σ g):
  ∃q b o c,g q/\e9 Φ σ.length q/\erase ρ u=.pointer (some ⟨b,o,none⟩)/\gq st b o n=some c/\Iz A c=some (erase ρ q):=by
 unfold SP at a;split at a
 ·rename_i i v;split at a
  ·rename_i z d;rw[ck]at d;obtain⟨⟨⟨h,_⟩,f,_⟩,_⟩:=y.obj i _ d rfl;obtain⟨l,e⟩:=z6 _ _ _ _ a;obtain⟨q,k,p,j⟩:=yA e ρ (L2 f v n);exact⟨q,_,_,_,k,p,Z,jr h (by rw[cW];exact l),by rw[<-pM];exact j⟩
  ·exact a.elim
 ·rename_i i es H v;split at a
  ·rename_i F els d;rw[ck]at d;split at a
   ·rename_i T;have:=agk T;subst this;obtain⟨⟨⟨K,I,h⟩,f,l,_⟩,_⟩:=y.obj i _ d rfl;obtain⟨Y,e,k⟩:=a;rw[ck]at e;obtain⟨p,j⟩:=z6 _ _ _ _ k;have D:Y∈els:=agw e;obtain⟨q,s,t,x⟩:=yA j ρ (L2 (l Y D) v n);have C:=N2 f e (f:=v) (n:=n) (by rw[<-f Y D];exact p);refine⟨q,_,_,_,s,t,Z,jr h (by rw[cW];exact C.2),?_⟩;rw[<-pM,C.1];exact x
   ·exact a.elim
  ·exact a.elim
 ·rename_i b r z;cases B with
  |fp h f l e G=>
   rename_i c Y v I;obtain⟨k,p⟩:=Jj _ _ _ a;obtain⟨q,j,s,t⟩:=yA (Φ:=Φ) (m:=σ.length) p ρ (fun q E=>by
    obtain⟨J,w,rfl⟩:=agt.1 E;exact .d (e J (ago w)))
   refine⟨q,_,_,_,j,s,Z,jr (y.fz _ _ h) om,?_⟩;rw[<-t];have:(c.drop r).take n=((c.drop r).take z.length).take n:=by rw[ag7,ag5 k]
   rw[this,l,nY,agL]
 ·exact a.elim
theorem AV(p:Real Φ ρ σ st){t:TypeId}(f:e9 Φ σ.length u)(a:NX C t u σ g):
  ∃e,g e/\e9 Φ σ.length e/\ye C t (erase ρ u) st=some (.val (erase ρ e) st):=by
 unfold NX at a;split at a
 ·rename_i n d;split at a
  ·rename_i l;obtain⟨e,b,o,c,j,h,m,i,k⟩:=Jm p f a;refine⟨e,j,h,?_⟩;unfold ye;rw[d,m];simp only[l,i,k];rfl
  ·exact a.elim
 ·exact a.elim
theorem Lb(ρ:Nat->Nat)(b:Nat->Option (Nat×Nat)):∀(d:List (Nat×V)) (a:List V) (r:List V->Prop),eV Φ m a->(∀k∈d,e9 Φ m k.2)->Jf b a d r->
  ∃c,r c/\eV Φ m c/\qq b (cl ρ a) (d.map fun k=>(k.1,erase ρ k.2))=some (cl ρ c):=by
 intro d;induction d with
 |nil=>intro a r j _ f;exact⟨a,f,j,rfl⟩
 |cons k d T=>
  intro a r j p f;obtain⟨i,g⟩:=k;unfold Jf at f;split at f
  ·exact f.elim
  ·rename_i q v l;split at f
   ·rename_i D;obtain⟨o,t⟩:=xy _ _ _ _ f;have Y:=vK (p _ (ahi ..));have n:eV Φ m (lay a q (dG g)):=fun s h=>(yz h).elim (j s) (Y s);obtain⟨c,C,x,z⟩:=T _ _ n (fun s h=>p s (by simp[h])) t;refine⟨c,C,x,?_⟩;have e:=agk D;simp only[agm,qq,l,mh,cW];rw[e,agI,agj (by rw[<-e];exact o)];simp only[agN];rw[qE _ _ _ (by rw[cW,cW];exact o),dL,dL,<-BV,<-dL];exact z
   ·exact f.elim
theorem G4{t:TypeId}{ps:List (Nat×V)}(hp:∀b∈ps,e9 Φ m b.2)(hk:LU C t ps g)(ρ:Nat->Nat)(st:St):
  ∃d,g d/\e9 Φ m d/\xc C t (ps.map fun b=>(b.1,erase ρ b.2)) st=some (.val (erase ρ d) st):=by
 unfold LU at hk;split at hk
 ·rename_i f hti;split at hk
  ·rename_i a hd;split at hk
   ·rename_i z h1 h2 h3;exact YP
   ·exact hk.elim
  ·rename_i n e hd;split at hk
   ·rename_i h z h1 h2 h3;exact YP
   ·exact hk.elim
  ·exact hk.elim
 ·exact hk.elim
theorem Bw(c:e9 Φ m u)(a:zZ u g)(ρ:Nat->Nat)(st:St):
  ∃b,g b/\e9 Φ m b/\ng (erase ρ u) st=some (.val (erase ρ b) st):=by
 unfold zZ at a;split at a<;>first|exact a.elim|exact⟨_,a,c,by simp[erase,ng,val]⟩
end
theorem sg{a b:Nat}(d:a≠b):agr a b=false:=by
 cases c:agr a b with
 |false=>rfl
 |true=>exact absurd (agk c) d
theorem pk(c b:Int):qp c b=decide (c=b):=by
 cases c<;>cases b
 ·rename_i c b;simp only[qp];by_cases a:c=b
  ·subst a;simp
  ·rw[sg a];exact(decide_eq_false (by intro d;exact a (Int.ofNat.inj d))).symm
 ·simp[qp]
 ·simp[qp]
 ·rename_i c b;simp only[qp];by_cases a:c=b
  ·subst a;simp
  ·rw[sg a];exact(decide_eq_false (by intro d;exact a (Int.negSucc.inj d))).symm
theorem qF(c b:Nat):agG c b=decide (c<b):=by
 by_cases a:c<b
 ·rw[decide_eq_true a];exact agj a
 ·rw[decide_eq_false a];cases d:agG c b with
  |false=>rfl
  |true=>exact absurd (agT d) a
theorem N3(c b:Nat):agx c b=decide (c<=b):=by
 by_cases a:c<=b
 ·rw[decide_eq_true a];exact agj a
 ·rw[decide_eq_false a];cases d:agx c b with
  |false=>rfl
  |true=>exact absurd (agT d) a
theorem N4(c b:Nat):agr c b=decide (c=b):=by
 by_cases a:c=b
 ·subst a;simp
 ·rw[decide_eq_false a];exact sg a
theorem z7(a b:Int):tZ a b=decide (a<b):=by
 cases a<;>cases b<;>simp only[tZ]
 ·rename_i a b;rw[qF];exact decide_eq_decide.2 sm
 ·rename_i a b;exact(decide_eq_false (by have:=ahh b;simp only[ahe];omega)).symm
 ·rename_i a b;exact(decide_eq_true (by have:=ahh a;simp only[ahe];omega)).symm
 ·rename_i a b;rw[qF];exact decide_eq_decide.2 om
theorem Jn:∀(a b:cq),l8 a b=decide (a=b):=by
 intro a;induction a with
 |nil=>intro b;cases b<;>simp[l8]
 |cons f a c=>
  intro b;cases b with
  |nil=>simp[l8]
  |cons e b=>
   simp only[l8];by_cases d:f=e
   ·subst d;simp[c]
   ·have:agr f.toNat e.toNat=false:=sg fun h=>d (UInt8.toNat_inj.1 h);rw[this];simp[d]
theorem vL(a b:cq):pz ⟨⟨a⟩⟩ ⟨⟨b⟩⟩=decide (a=b):=Jn a b
variable{K:BinOp} {P:IntKind} {Q S:Operand}
section
variable{C:dR} {Φ:Fz} {ρ:Nat->Nat} {σ:VS} {st:St} {m:Nat} {ev:Operand->Option V} {mK:Operand->Option Value}
theorem Ep{d b:Int}(a:GW K P d b g):∃c,g c/\e9 Φ m c/\ub K P d b=some (erase ρ c):=by
 unfold GW at a;split at a;all_goals first
  |exact a.elim
  |exact⟨_,a,.d (.int _ _),rfl⟩
  |exact⟨_,a.2,.d (.int _ _),by simp only[ub,pk,decide_eq_false a.1];rfl⟩
  |exact⟨_,a,.d (.bool _),by simp only[ub,pk,z7];rfl⟩
  |(refine⟨_,a,.d (.bool _),?_⟩
    simp only[ub,pk,z7,b6,erase,cz];congr 2;rw[<-decide_not];exact decide_eq_decide.2 om)
theorem G5{d b:Int}(a:SS K P d b g):∃c,g c/\e9 Φ m c/\uc K P d b=some (erase ρ c):=by
 obtain⟨n,rfl,a⟩:=a;split at a
 ·exact⟨_,a,.d (.int _ _),Z⟩
 ·exact⟨_,a,.d (.int _ _),Z⟩
 ·exact a.elim
theorem Er{d b:cq}(a:GX K d b g):∃c,g c/\e9 Φ m c/\xg K ⟨⟨d⟩⟩ ⟨⟨b⟩⟩=some (erase ρ c):=by
 unfold GX at a;split at a;all_goals first
  |exact a.elim
  |exact⟨_,a,.d (.bool _),by simp only[xg,vL];rfl⟩
  |exact⟨_,a.2,.d (.str _),by simp only[xg,agj a.1];rfl⟩
theorem pb:∀{c:List V} {d:cH},sq c=some d->c=d.map V.d:=by
 intro c;induction c with
 |nil=>intro d b;cases b;rfl
 |cons i c e=>
  intro d b;unfold sq at b;split at b
  ·rename_i a;cases a
  ·rename_i a;cases a;split at b
   ·rename_i h f;cases b;rw[e f];rfl
   ·cases b
  ·cases b
theorem O6{t:TypeId}{x b:V}{z:Bool->Prop}(a:vEq C t Q S x b z):∃o,z o/\O9 C t Q S (erase ρ x) (erase ρ b)=some o:=by
 unfold vEq at a;split at a
 ·rename_i T Y;split at a
  ·rename_i s f;split at a
   ·rename_i c;exact⟨_,a,by simp only[O9,f,c,erase,cz,jm]⟩
   ·exact a.elim
  ·exact a.elim
 ·rename_i y m;split at a
  ·rename_i g m' e d;obtain⟨o,r,p⟩:=a;refine⟨o,p,?_⟩;rw[pb e,pb d];simp only[erase,nY];exact r
  ·exact a.elim
 ·split at a
  ·rename_i s D T u Y f e d;split at a
   ·rename_i w c;split at a
    ·rename_i i;refine⟨_,a,?_⟩;simp only[agz]at i;obtain⟨⟨⟨l,j⟩,n⟩,k⟩:=i;have v:=agk l;have q:=agk j;subst v;subst q;unfold O9;rw[f];unfold Jg at c;split at c<;>first|cases c|skip
     all_goals
      rename_i h;dsimp only;rw[h];unfold GY at e d;split at e<;>first|cases e|skip
      all_goals
       split at d<;>first|cases d|skip
       all_goals
        first
         |(cases n;done)
         |rfl
         |(simp only[erase,cz]
           have:(kA Q||kA S)=true:=by simpa using k
           simp only[this];rfl)
    ·exact a.elim
   ·exact a.elim
  ·exact a.elim
theorem L3{t:TypeId}{i b:V}(hk:aaF C K t Q S i b g):∃h,g h/\e9 Φ m h/\Gj C K t Q S (erase ρ i) (erase ρ b)=some (erase ρ h):=by
 unfold aaF at hk;split at hk
 ·rename_i z n s x;split at hk
  ·rename_i l;obtain⟨h,c,a,h3⟩:=G5 (Φ:=Φ) (ρ:=ρ) (m:=m) hk;exact⟨h,c,a,by simp only[Gj,erase,cz,l];exact h3⟩
  ·rename_i l;split at hk
   ·rename_i o;obtain⟨h,c,a,h3⟩:=Ep (Φ:=Φ) (ρ:=ρ) (m:=m) hk;exact⟨h,c,a,by simp only[Gj,erase,cz,l,o];exact h3⟩
   ·exact hk.elim
 ·obtain⟨h,c,a,h3⟩:=Er (Φ:=Φ) (ρ:=ρ) (m:=m) hk;exact⟨h,c,a,by simp only[Gj,erase,cz];exact h3⟩
 ·rename_i c a;have shape:∀(r:Option Value),(match(generalizing:=false) K with|.eql=>(O9 C t Q S (erase ρ i) (erase ρ b)).map .bool|.neq=>(O9 C t Q S (erase ρ i) (erase ρ b)).map fun r=>.bool (!r)|_=>none)=r->O9 C t Q S (erase ρ i) (erase ρ b)≠none->Gj C K t Q S (erase ρ i) (erase ρ b)=r:=by
   intro r p q;subst p;unfold Gj;split
   ·rename_i v T u D f e;exfalso;cases i with
    |d j=>
     cases j<;>simp[erase,cz]at f;cases b with
     |d k=>
      cases k<;>simp[erase,cz]at e;exact c _ _ _ _ Z Z
     |_=>simp[erase]at e
    |_=>simp[erase]at f
   ·rename_i Y w f e;exfalso;cases i with
    |d j=>
     cases j<;>simp[erase,cz]at f;cases b with
     |d k=>
      cases k<;>simp[erase,cz]at e;exact a _ _ Z Z
     |_=>simp[erase]at e
    |_=>simp[erase]at f
   ·rfl
  split at hk
  ·exact abN
  ·exact abN
  ·exact hk.elim
theorem PO{b:UnOp}(a:vUn b u g):∃c,g c/\e9 Φ m c/\aUn b (erase ρ u)=some (erase ρ c):=by
 unfold vUn at a;split at a
 ·exact⟨_,a,.d (.int _ _),Z⟩
 ·exact⟨_,a,.d (.int _ _),Z⟩
 ·exact⟨_,a,.d (.bool _),Z⟩
 ·exact a.elim
theorem AW(l:cq):sj ((l.map fun c=>[uy c]).flatten.map cz)=some l:=by
 induction l with
 |nil=>rfl
 |cons c l a=>
  simp only[agm,agl,agC,agU,uy,cz,sj,toByte];simp only[uy]at a;rw[a];simp
theorem Jo(ρ:Nat->Nat)(l:cq):cl ρ (l.map fun c=>[io c]).flatten=(l.map fun c=>[uy c]).flatten.map cz:=by
 induction l with
 |nil=>rfl
 |cons c l a=>
  simp only[agm,agl,agC,agU,cl,a];rfl
theorem CS(F:Real Φ ρ σ st){s d:TypeId}(k:e9 Φ σ.length u)(a:CJ C s d u σ g):
  ∃y,g y/\e9 Φ σ.length y/\ig C s d (erase ρ u) st=some (.val (erase ρ y) st):=by
 unfold CJ at a;split at a
 ·rename_i N L h f;split at a
  ·rename_i e c;split at a
   ·exact⟨_,a,.d (.int _ _),by simp only[ig,h,f,e,c,erase,cz];rfl⟩
   ·exact a.elim
  ·rename_i e c;split at a
   ·exact⟨_,a,.d (.str _),by simp only[ig,h,f,e,c,erase,cz];rfl⟩
   ·exact a.elim
  ·rename_i S e c;split at a
   ·rename_i K j;split at a
    ·rename_i t;split at a
     ·exact⟨_,a,.d (.str _),by simp only[ig,h,f,e,c,erase,cz,j,t];rfl⟩
     ·rename_i b o es z els;obtain⟨O,rfl,rfl,v⟩:=a;cases k with
      |d k=>
      cases k with
      |ps A H r p M=>
       simp only[Nat.mul_one,agq]at r p;refine⟨_,v,.d (.str _),?_⟩;simp only[ig,h,f,e,c,erase,cz,j,t,agq];rw[jr (F.fz _ _ A) r,p];simp only[AW];rfl
     ·rename_i i es I len z;split at a
      ·rename_i E els l;obtain⟨O,rfl,rfl,v,r,p⟩:=a;rw[ck]at l;obtain⟨⟨⟨P,Q,w⟩,Y,J,_⟩,_⟩:=F.obj i _ l rfl;have T:∀(x:List (List V)) (m n:Nat),(∀u∈x,u.length=1)->(x.flatten.drop m).take n=((x.drop m).take n).flatten:=by
        intro x;induction x with
        |nil=>intro m n _;simp
        |cons u x q=>
         intro m n D;have k:=D u sm;obtain⟨R,rfl⟩:=List.length_eq_one_iff.1 k;have q:=fun m n=>q m n (fun G B=>D G (by simp[B]));cases m with
         |zero=>
          cases n with
          |zero=>simp
          |succ n=>
           have:=q 0 n;simp only[agW]at this;simp[this]
         |succ m=>simpa using q m n
       refine⟨_,p,.d (.str _),?_⟩;simp only[ig,h,f,e,c,erase,cz,j,t,Nat.mul_one];rw[jr w (by rw[cW,rM Y];omega),<-pM,T _ _ _ Y,v,Jo];simp only[AW];rfl
      ·exact a.elim
     ·exact a.elim
    ·exact a.elim
   ·exact a.elim
  ·exact a.elim
 ·exact a.elim
theorem uA{t:TypeId}(e:e9 Φ m u)(a:pL C t u g)(ρ:Nat->Nat)(st:St):
  ∃d,g d/\e9 Φ m d/\gU C t (erase ρ u) st=some (.val (erase ρ d) st):=by
 unfold pL at a;split at a
 ·rename_i f b;split at a
  ·exact a.elim
  ·rename_i c;refine⟨_,a,.iface e,?_⟩;unfold gU;rw[b];dsimp only;split
   ·rename_i h;exact absurd h (c _)
   ·simp only[erase];rfl
 ·exact a.elim
theorem AX{t:TypeId}(h:eV Φ m w)(a:NY C t w H g)(ρ:Nat->Nat):
  ∃f,g f/\e9 Φ m f/\Cn C t (cl ρ w) H=some (erase ρ f):=by
 unfold NY at a;split at a
 ·rename_i i c;split at a
  ·rename_i d;obtain⟨b,e⟩:=z6 _ _ _ _ a;refine⟨_,e,.agg (L2 h _ _),?_⟩;simp only[Cn,c,d,cW,agj b,erase,pM]
  ·rename_i d;obtain⟨f,b,e⟩:=cA a;rw[ck]at b;refine⟨f,e,h f (agw b),?_⟩;simp only[Cn,c,d,ck,dL,List.getElem?_map,b,ag3]
 ·exact a.elim
theorem G6{t:TypeId}(b:e9 Φ m u){f:Nat}(a:LX C t u f g)(ρ:Nat->Nat)(st:St):
  ∃e,g e/\e9 Φ m e/\xh C t (erase ρ u) f st=some (.val (erase ρ e) st):=by
 unfold LX at a;split at a
 ·rename_i n p c;split at a
  ·rename_i d i;split at a
   ·rename_i o h;cases b with
    |agg b=>
     obtain⟨e,k,j,l⟩:=AX b a ρ;refine⟨e,k,j,?_⟩;simp only[xh,c,erase,i,h,l];rfl
   ·exact a.elim
  ·exact a.elim
 ·exact a.elim
theorem Aa{t:TypeId}(j:e9 Φ m u){f:Nat}(a:xq C t u f g)(ρ:Nat->Nat)(st:St):
  ∃l,g l/\e9 Φ m l/\fI C t (erase ρ u) f st=some (.val (erase ρ l) st):=by
 unfold xq at a;split at a
 ·rename_i B d;split at a
  ·rename_i k c;split at a
   ·rename_i z n h;split at a
    ·rename_i i Y e;rw[vJ]at a;cases j with
     |bp x=>exact⟨_,a,.bp x,by simp only[fI,d,erase,c,h,e];rfl⟩
    ·rename_i i es T Y e;rw[vJ]at a;cases j with
     |ptr x=>exact⟨_,a,.ptr x,by simp only[fI,d,erase,c,h,e,Nat.add_assoc];rfl⟩
    ·rename_i b o w e;cases j with
     |fp q D s p r=>
      obtain⟨y,v⟩:=Jk _ _ _ a;refine⟨_,v,.fp q (by rw[agy];omega) ?_ (fun A c=>p A (agp c)) r,by simp only[fI,d,erase,c,h,e];rfl⟩;rw[agy,agM,<-s,ag8,ag9]
    ·exact a.elim
   ·exact a.elim
  ·exact a.elim
 ·exact a.elim
end
theorem Fu{e:Type}:∀{els:List (List e)} {es:Nat} (a:Nat),(∀b∈els,b.length=es)->els.flatten.drop (a*es)=(els.drop a).flatten:=by
 intro els;induction els with
 |nil=>intro es a _;simp
 |cons b els c=>
  intro es a f;cases a with
  |zero=>simp
  |succ a=>
   rw[agl,agS,agY,<-c a fun h d=>f h (by simp[d])];rw[show a*es+es=b.length+a*es from by rw[f b sm];omega,agH]
theorem Fv{e:Type}:∀{els:List (List e)} {es:Nat} (a:Nat),(∀b∈els,b.length=es)->els.flatten.take (a*es)=(els.take a).flatten:=by
 intro els;induction els with
 |nil=>intro es a _;simp
 |cons b els c=>
  intro es a f;cases a with
  |zero=>simp
  |succ a=>
   rw[agl,agS,agX,agl,<-c a fun h d=>f h (by simp[d])];rw[show a*es+es=b.length+a*es from by rw[f b sm];omega,ag6]
variable{W:TI} {L:List TypeId}
section
variable{C:dR} {Φ:Fz} {ρ:Nat->Nat} {σ:VS} {st:St} {m:Nat} {ev:Operand->Option V} {mK:Operand->Option Value}
theorem gi{o:Option V}{b:Nat->Prop}(a:lc o H b)(ρ:Nat->Nat):∃n,b n/\lu (o.map (erase ρ)) H=some n:=by
 unfold lc at a;split at a
 ·exact⟨_,a,Z⟩
 ·obtain⟨n,rfl,a⟩:=a;exact⟨n,a,Z⟩
 ·exact a.elim
theorem G7(ae:Real Φ ρ σ st){t:TypeId}(z:e9 Φ σ.length u){lo hi Y:Option V}(a:LW C t u lo hi Y σ g):
  ∃S,g S/\e9 Φ σ.length S/\pA C t (erase ρ u) (lo.map (erase ρ)) (hi.map (erase ρ)) (Y.map (erase ρ)) st=some (.val (erase ρ S) st):=by
 unfold LW at a;split at a
 ·exact a.elim
 ·rename_i ai l;split at a
  ·rename_i s r;split at a
   ·obtain⟨E,a,m⟩:=gi a ρ;obtain⟨f,a,k⟩:=gi a ρ;obtain⟨⟨x,v⟩,a⟩:=a;refine⟨_,a,.d (.str _),?_⟩;simp only[pA,l,r,erase,cz,m,k,ag4];rw[agj x,agj v];rfl
   ·exact a.elim
  ·rename_i W r;split at a
   ·exact a.elim
   ·rename_i p q;split at a
    ·obtain⟨E,j,m⟩:=gi a ρ;obtain⟨f,h,k⟩:=gi j ρ;obtain⟨m',y,D⟩:=gi h ρ;clear a j h;obtain⟨⟨rfl,rfl,rfl,H⟩,R⟩:=y;refine⟨_,R,.d .ci,?_⟩;have L:((hi.map (erase ρ)).isSome||(Y.map (erase ρ)).isNone)=true:=by simpa using H
     simp only[pA,l,r,erase,cz,q,m,k,D,L];rfl
    ·rename_i b o es e els;split at a
     ·obtain⟨E,a,m⟩:=gi a ρ;obtain⟨f,a,k⟩:=gi a ρ;obtain⟨⟨x,v,I,H,rfl⟩,a⟩:=a;cases z with
      |d z=>
      cases z with
      |ps F J ag ab U aa=>
       rename_i c aj ah;have n:((els.take f).drop E).length=f-E:=by
        rw[agy,agO];omega
       have X:E*p.size<=f*p.size:=agV _ x;have G:f*p.size<=els.length*p.size:=agV _ v;refine⟨_,a,.d (.ps F (fun ac K=>J ac (ago (agp K))) ?_ ?_ (fun ac K=>U ac (ago (agp K))) aa),?_⟩
       ·rw[n,ahf];omega
       ·have M:∀u∈els.take f,u.length=p.size:=fun u z=>J u (ago z);rw[n,<-Fu E M,<-Fv f J,agM,agL,<-ab,ag7,ag5 G,ag8,ag9,ahf]
       ·have A:Pa st b=some p.size:=by simp only[Pa,ae.fz _ _ F]
        have T:agr e 0=false:=sg om;have w:(agx E f&&agx f e&&agx e e&&((hi.map (erase ρ)).isSome||true))=true:=by
         rw[agj x,agj (Nat.le_trans v I),agj (agK _)];simp
        have D:lu none e=some e:=rfl;simp only[pA,l,r,erase,cz,q,m,k,ag4,D,Option.isNone_none,w,T,A,agI,n];rfl
     ·exact a.elim
    ·rename_i i es af len e;split at a
     ·rename_i ad els B;obtain⟨E,j,m⟩:=gi a ρ;obtain⟨f,h,k⟩:=gi j ρ;obtain⟨m',y,D⟩:=gi h ρ;clear a j h;obtain⟨⟨x,v,I,H,rfl,rfl,P⟩,a⟩:=y;rw[ck]at B;obtain⟨⟨⟨ak,ah,F⟩,_⟩,_⟩:=ae.obj i _ B rfl;cases z with
      |ms O=>
       refine⟨_,a,.ms O,?_⟩;rcases Nat.eq_zero_or_pos e with Q|Q
       ·subst Q;obtain rfl:m'=0:=om;obtain rfl:f=0:=om;obtain rfl:E=0:=om;have N:((hi.map (erase ρ)).isSome||(Y.map (erase ρ)).isNone)=true:=by simpa using P
        simp only[pA,l,r,erase,q,m,k,D,N];rfl
       have A:Pa st (ρ i)=some p.size:=by simp only[Pa,F]
       have T:agr e 0=false:=sg om;have w:(agx E f&&agx f m'&&agx m' e&&((hi.map (erase ρ)).isSome||(Y.map (erase ρ)).isNone))=true:=by
        rw[agj x,agj v,agj I];simpa using P
       simp only[pA,l,r,erase,q,m,k,D,w,T,A,agI,ahg];rfl
     ·exact a.elim
    ·exact a.elim
  ·exact a.elim
theorem Ab{t:TypeId}{G i:V}(l:e9 Φ m G)(a:xu C t G i g)(ρ:Nat->Nat)(st:St):
  ∃F,g F/\e9 Φ m F/\gv C t (erase ρ G) (erase ρ i) st=some (.val (erase ρ F) st):=by
 unfold xu at a;split at a
 ·rename_i Q _ n k;split at a
  ·rename_i x q;split at a
   ·rename_i e f;split at a
    ·rename_i N es O len Y;split at a
     ·rename_i p;have:=agk p;subst this;obtain⟨s,rfl,j,a⟩:=a;cases l with
      |ms D=>
       refine⟨_,a,.ptr D,?_⟩;have h:agG s len=true:=by rw[qF];exact decide_eq_true j
       simp only[gv,k,erase,cz,q,f,h,ahg,ahc];rfl
     ·exact a.elim
    ·rename_i b o es Y els;split at a
     ·rename_i p;have:=agk p;subst this;obtain⟨s,rfl,K,r,a⟩:=a;rw[ck]at r;have j:s<els.length:=(agB.1 r).1;cases l with
      |d l=>
      cases l with
      |ps E z P J H I=>
       rename_i c L R;have A:=agw r;have w:=z K A;have u:=N2 z r (f:=0) (n:=e.size) om;have y:=rM z;refine⟨_,a,.fp E (by rw[w];rw[y]at u;omega) ?_ (H K A) I,?_⟩
       ·have T:=u.1;rw[ahc,agW,agQ (by omega:K.length<=e.size)]at T;have v:=congrArg (fun M=>(M.drop (s*e.size)).take e.size) J;simp only[ag8,ag9,ag7]at v;rw[w];have B:e.size<=els.length*e.size-s*e.size:=by
         rw[<-ahf];exact Nat.le_mul_of_pos_left _ om
        rw[ag5 B,<-agM,<-agL,T]at v;exact v
       ·have h:agG s els.length=true:=by rw[qF];exact decide_eq_true j
        simp only[gv,k,erase,cz,q,f,h];rfl
     ·exact a.elim
    ·exact a.elim
   ·exact a.elim
  ·rename_i len x q;split at a
   ·rename_i e f;split at a
    ·rename_i N L;obtain⟨s,rfl,j,a⟩:=a;rw[vJ]at a;cases l with
     |bp D=>
      refine⟨_,a,.bp D,?_⟩;have h:agG s len=true:=by rw[qF];exact decide_eq_true j
      simp only[gv,k,erase,cz,q,f,h];rfl
    ·exact a.elim
   ·exact a.elim
  ·exact a.elim
 ·exact a.elim
theorem G8{t:TypeId}{l i:V}(e:e9 Φ m l)(a:LY C t l i g)(ρ:Nat->Nat)(st:St):
  ∃f,g f/\e9 Φ m f/\ue C t (erase ρ l) (erase ρ i) st=some (.val (erase ρ f) st):=by
 unfold LY at a;split at a
 ·rename_i v s _ n b;split at a
  ·rename_i d;obtain⟨z,rfl,c,x,a⟩:=a;refine⟨_,a,.d (.int _ _),?_⟩;simp only[ue,b,erase,cz,d,x];rfl
  ·exact a.elim
 ·rename_i v D _ n b;split at a
  ·rename_i len q d;split at a
   ·rename_i T h;obtain⟨z,rfl,o,a⟩:=a;cases e with
    |agg e=>
     obtain⟨f,p,j,r⟩:=AX e a ρ;refine⟨f,p,j,?_⟩;have k:agG z len=true:=by rw[qF];exact decide_eq_true o
     simp only[ue,b,erase,cz,d,h,k,r];rfl
   ·exact a.elim
  ·exact a.elim
 ·exact a.elim
theorem AY(ρ:Nat->Nat)(v:TypeDesc)(p:V):∀(es:List rL) (i:Nat) (o:Option (Nat×V)),eN v p es i=some o->
  rE v (erase ρ p) (es.map (ke ρ)) i=some (o.map fun t=>(t.1,erase ρ t.2))/\(∀k h,o=some (k,h)->∃f∈es,f.val=h):=by
 intro es;induction es with
 |nil=>intro i o e;cases e;exact⟨rfl,fun k h f=>by cases f⟩
 |cons f es r=>
  intro i o e;unfold eN at e;split at e
  ·rename_i s b c;split at e
   ·rename_i a;cases e;refine⟨?_,fun k h d=>⟨f,by simp,by cases d;rfl⟩⟩;simp only[agm,rE,ke,c,erase,cz,jm,vL,a];rfl
   ·rename_i a;obtain⟨l,j⟩:=r (i+1) o e;refine⟨?_,fun k h d=>by obtain⟨f,m,n⟩:=j k h d;exact⟨f,by simp[m],n⟩⟩;simp only[agm,rE,ke,c,erase,cz,jm,vL,a];exact l
  ·rename_i z s x b c;split at e
   ·rename_i q a;cases e;refine⟨?_,fun k h d=>⟨f,by simp,by cases d;rfl⟩⟩;simp only[agm,rE,ke,c,erase,cz,jm,pk,q,a];rfl
   ·rename_i q a;obtain⟨l,j⟩:=r (i+1) o e;refine⟨?_,fun k h d=>by obtain⟨f,m,n⟩:=j k h d;exact⟨f,by simp[m],n⟩⟩;simp only[agm,rE,ke,c,erase,cz,jm,pk,q,a];exact l
   ·cases e
  ·rename_i s b c;split at e
   ·rename_i a;cases e;refine⟨?_,fun k h d=>⟨f,by simp,by cases d;rfl⟩⟩;simp only[agm,rE,ke,c,erase,cz,jm,a];rfl
   ·rename_i a;obtain⟨l,j⟩:=r (i+1) o e;refine⟨?_,fun k h d=>by obtain⟨f,m,n⟩:=j k h d;exact⟨f,by simp[m],n⟩⟩;simp only[agm,rE,ke,c,erase,cz,jm,a];exact l
  ·cases e
theorem uB(i:Real Φ ρ σ st){es:List rL}(a:yy σ u=some es):
  ((erase ρ u=.map none/\es=[])∨(∃c f,erase ρ u=.map (some c)/\st.get c=some (.map (es.map (ke ρ)) f)))/\∀j∈es,e9 Φ σ.length j.key/\e9 Φ σ.length j.val:=by
 unfold yy at a;split at a
 ·cases a;exact⟨.inl ⟨rfl,rfl⟩,fun _ i=>by simp at i⟩
 ·rename_i c;split at a
  ·rename_i k d b;cases a;rw[ck]at b;obtain⟨⟨e,h⟩,_⟩:=i.obj c _ b rfl;exact⟨.inr ⟨_,_,Z,e⟩,h⟩
  ·cases a
 ·cases a
theorem xz(d:dn (ux W.zero) fun i=>V1 W.agg i g)(Φ:Fz)(m:Nat)(ρ:Nat->Nat):∃c,g c/\e9 Φ m c/\Iz W.agg W.zero=some (erase ρ c):=by
 obtain⟨i,a,e⟩:=cA d;obtain⟨c,h,f,b⟩:=yA e ρ (qo Φ m a).1;rw[jk ρ a]at b;exact⟨c,h,f,b⟩
theorem yB{e b:V}(c:e9 Φ m e)(d:e9 Φ m b):e9 Φ m (.dS [e,b]):=.dS fun f a=>by
 rcases agu.1 a with rfl|a
 ·exact c
 ·rcases agu.1 a with rfl|a
  ·exact d
  ·simp at a
theorem Es(K:Real Φ ρ σ st){t:TypeId}(a:GZ C t u X A σ g):
  ∃c,g c/\e9 Φ σ.length c/\qs C t (erase ρ u) (erase ρ X) A st=some (.val (erase ρ c) st):=by
 unfold GZ at a;split at a
 ·exact a.elim
 ·rename_i I f;split at a
  ·rename_i F H j;split at a
   ·rename_i G m d e;split at a
    ·rename_i es l p;obtain⟨r,Y,a⟩:=a;obtain⟨D,s⟩:=uB K p;obtain⟨h,z⟩:=AY ρ _ _ _ _ _ Y;have n:qs C t (erase ρ u) (erase ρ X) A st=match(generalizing:=false) (r.map fun u=>(u.1,erase ρ u.2):Option (Nat×Value))with
       |some (_,c)=>val (if A then .tuple #[c,.bool true]else c) st
       |none=>match(generalizing:=false) Iz m.agg m.zero with
        |none=>none
        |some B=>val (if A then .tuple #[B,.bool false]else B) st:=by
      unfold qs;rcases D with⟨q,rfl⟩|⟨E,J,q,v⟩
      ·simp only[List.map_nil]at h;simp only[f,j,d,e,l,q,h];cases r with
       |none=>rfl
       |some T=>rfl
      ·simp only[f,j,d,e,l,q,v,h];cases r with
       |none=>rfl
       |some T=>rfl
     rw[n];cases r with
     |some T=>
      obtain⟨i,c⟩:=T;obtain⟨q,w,y⟩:=z i c rfl;have b:e9 Φ σ.length c:=y▸(s q w).2;cases A with
      |true=>exact⟨_,a,yB b (.d (.bool _)),rfl⟩
      |false=>exact⟨_,a,b,rfl⟩
     |none=>
      dsimp only at a;obtain⟨c,k,o,x⟩:=xz a Φ σ.length ρ;rw[ag4];dsimp only;rw[x];cases A with
      |true=>exact⟨_,k,yB o (.d (.bool _)),rfl⟩
      |false=>exact⟨_,k,o,rfl⟩
    ·exact a.elim
   ·exact a.elim
  ·exact a.elim
theorem yC(q:e9 Φ m u){t:TypeId}(a:uz C u t A g)(ρ:Nat->Nat)(st:St):
  ∃c,g c/\e9 Φ m c/\jg C (erase ρ u) t A st=some (.val (erase ρ c) st):=by
 unfold uz at a;split at a
 ·exact a.elim
 ·rename_i e j;split at a
  ·exact a.elim
  ·rename_i l;have b:∀o,(match(generalizing:=false) erase ρ u with
    |.iface r c=>match(generalizing:=false) agr r t with
     |true=>val (if A then .tuple #[c,.bool true]else c) st
     |false=>match(generalizing:=false) A,Iz e.agg e.zero with
      |true,some n=>val (.tuple #[n,.bool false]) st
      |_,_=>none
    |.nilIface=>match(generalizing:=false) A,Iz e.agg e.zero with
     |true,some n=>val (.tuple #[n,.bool false]) st
     |_,_=>none
    |_=>none)=o->jg C (erase ρ u) t A st=o:=by
    intro o p;subst p;unfold jg;rw[j];dsimp only;split
    ·rename_i s;exact absurd s (l _)
    ·rfl
   split at a
   ·rename_i r c;cases q with
    |iface k=>
    split at a
    ·rename_i d;cases A with
     |true=>exact⟨_,a,yB k (.d (.bool _)),b _ (by simp only[erase,d];rfl)⟩
     |false=>exact⟨_,a,k,b _ (by simp only[erase,d];rfl)⟩
    ·rename_i d;split at a
     ·obtain⟨c,f,i,h⟩:=xz a Φ m ρ;exact⟨_,f,yB i (.d (.bool _)),b _ (by simp only[erase,d,h];rfl)⟩
     ·exact a.elim
   ·split at a
    ·obtain⟨c,f,i,h⟩:=xz a Φ m ρ;exact⟨_,f,yB i (.d (.bool _)),b _ (by simp only[erase,cz,h];rfl)⟩
    ·exact a.elim
   ·exact a.elim
theorem CT(c:e9 Φ m u){i:Nat}(a:CK u i g)(ρ:Nat->Nat)(st:St):
  ∃d,g d/\e9 Φ m d/\pB (erase ρ u) i st=some (.val (erase ρ d) st):=by
 unfold CK at a;split at a
 ·rename_i f;obtain⟨d,b,e⟩:=cA a;rw[ck]at b;cases c with
  |dS c=>
   refine⟨d,e,c d (agw b),?_⟩;simp only[pB,erase,ck,dL,List.getElem?_map,b,ag3];rfl
 ·exact a.elim
theorem L4(p:Real Φ ρ σ st)(a:aaH C L w σ g):
  ∃f,g f/\e9 Φ σ.length f/\yf C L (cl ρ w) st=some (.val (erase ρ f) st):=by
 unfold aaH at a;split at a
 ·rename_i t _ r _;split at a
  ·exact a.elim
  ·rename_i m c;split at a
   ·rename_i s b;exact⟨_,a,.d (.int _ _),by simp only[yf,cl,c,b,erase,cz];rfl⟩
   ·rename_i n _ b;exact⟨_,a,.d (.int _ _),by simp only[yf,cl,c,b];rfl⟩
   ·rename_i d b;exact⟨_,a,.d (.int _ _),by simp only[yf,cl,c,b,erase,cz];rfl⟩
   ·rename_i d _ _ _ _ els b;exact⟨_,a,.d (.int _ _),by simp only[yf,cl,c,b,erase,cz];rfl⟩
   ·rename_i d _ _ _ len _ b;exact⟨_,a,.d (.int _ _),by simp only[yf,cl,c,b,erase,cz];rfl⟩
   ·rename_i k l b;obtain⟨es,i,e⟩:=cA a;obtain⟨j,_⟩:=uB p i;refine⟨_,e,.d (.int _ _),?_⟩;rcases j with⟨d,rfl⟩|⟨q,o,d,h⟩
    ·simp only[yf,cl,c,b,d];rfl
    ·simp only[yf,cl,c,b,d,h,agq];rfl
   ·exact a.elim
 ·exact a.elim
theorem O3(c:Bool)(h:IntKind):∀(i:List V) (e:Int) (j:V->Prop),vmm c h e i j->∃k,j k/\e9 Φ m k/\nO c (.int h e) (cl ρ i)=some (erase ρ k):=by
 intro i;induction i with
 |nil=>intro e j f;exact⟨_,f,.d (.int _ _),rfl⟩
 |cons s i l=>
  intro e j f;cases s with
  |d r=>
   cases r with
   |int q b=>
    have f:vmm c h (match(generalizing:=false) c with|true=>max e b|false=>min e b) i j:=f;obtain⟨k,o,n,p⟩:=l _ j f;refine⟨k,o,n,?_⟩;rw[<-p];simp only[cl,erase,cz,nO,z7];congr 2;cases c with
    |true=>
     simp only[decide_eq_true_eq];by_cases a:e<b
     ·rw[if_pos a];omega
     ·rw[if_neg a];omega
    |false=>
     simp only[decide_eq_true_eq];by_cases a:b<e
     ·rw[if_pos a];omega
     ·rw[if_neg a];omega
   |_=>exact f.elim
  |_=>exact f.elim
theorem CU(f:oL Φ ρ m ev mK){o:Option Operand}{e:Option V}(b:SW ev o=some e):(o=none/\e=none)∨∃c d,o=some c/\e=some d/\mK c=some (erase ρ d):=by
 cases o with
 |none=>cases b;exact .inl ⟨rfl,rfl⟩
 |some c=>
  simp only[SW]at b;cases a:ev c with
  |none=>rw[a]at b;cases b
  |some d=>rw[a]at b;cases b;exact .inr ⟨c,d,rfl,rfl,(f _ _ a).1⟩
theorem np(p:Real Φ ρ σ st)(e:oL Φ ρ σ.length ev mK){o:Oper}(f:CM C ev o.op σ g):
  ∃v,g v/\e9 Φ σ.length v/\j8 C mK o st=some (.val (erase ρ v) st):=by
 obtain⟨T,K,J,u,Y,y⟩:=o;dsimp only at f;unfold CM at f;split at f
 ·obtain⟨v,a,h2⟩:=cA f;obtain⟨h3,d⟩:=e _ _ a;exact⟨v,h2,d,by simp only[j8,h3];rfl⟩
 ·split at f
  ·rename_i O L v a h2 h3;obtain⟨q,_⟩:=e _ _ a;obtain⟨r,D⟩:=e _ _ h2;obtain⟨l,x⟩:=e _ _ h3;cases O with
   |true=>exact⟨L,f,D,by simp only[j8,q,r,l,erase,cz];rfl⟩
   |false=>exact⟨v,f,x,by simp only[j8,q,r,l,erase,cz];rfl⟩
  ·exact f.elim
 ·obtain⟨P,a,h2⟩:=cA f;obtain⟨h3,d⟩:=CQ e a;obtain⟨v,h5,h6,h7⟩:=G4 d h2 ρ st;exact D6
 ·obtain⟨j,a,h2⟩:=cA f;obtain⟨h3,d⟩:=e _ _ a;obtain⟨v,h5,h6,h7⟩:=AV p d h2;exact D6
 ·obtain⟨j,a,h2⟩:=cA f;obtain⟨h3,d⟩:=e _ _ a;obtain⟨v,h5,h6,h7⟩:=Bw d h2 ρ st;exact D6
 ·obtain⟨j,a,h2⟩:=cA f;obtain⟨b,h,h2⟩:=cA h2;obtain⟨h3,d⟩:=e _ _ a;obtain⟨F8,i⟩:=e _ _ h;obtain⟨v,h5,h6,h7⟩:=L3 (Φ:=Φ) (ρ:=ρ) (m:=σ.length) h2;exact⟨v,h5,h6,by simp only[j8,h3,F8,h7];rfl⟩
 ·obtain⟨j,a,h2⟩:=cA f;obtain⟨h3,d⟩:=e _ _ a;obtain⟨v,h5,h6,h7⟩:=PO (Φ:=Φ) (ρ:=ρ) (m:=σ.length) h2;exact⟨v,h5,h6,by simp only[j8,h3,h7];rfl⟩
 ·obtain⟨j,a,h2⟩:=cA f;obtain⟨h3,d⟩:=e _ _ a;obtain⟨v,h5,h6,h7⟩:=CS p d h2;exact D6
 ·obtain⟨j,a,h2⟩:=cA f;obtain⟨h3,d⟩:=e _ _ a;obtain⟨v,h5,h6,h7⟩:=uA d h2 ρ st;exact D6
 ·split at f
  ·obtain⟨j,a,h2⟩:=cA f;obtain⟨b,h,h2⟩:=cA h2;obtain⟨h3,d⟩:=nl e a;obtain⟨F8,i⟩:=nl e h;exact⟨_,h2,.fn d i,by simp only[j8,h3,F8,aau,erase];rfl⟩
  ·exact f.elim
 ·obtain⟨j,a,h2⟩:=cA f;obtain⟨P,z,h2⟩:=cA h2;obtain⟨hi,n,h2⟩:=cA h2;obtain⟨B,k,h2⟩:=cA h2;obtain⟨h3,d⟩:=e _ _ a;obtain⟨v,h5,h6,h7⟩:=G7 p d h2;refine⟨v,h5,h6,?_⟩;rcases CU e z with⟨rfl,rfl⟩|⟨G,A,rfl,rfl,M⟩<;>rcases CU e n with⟨rfl,rfl⟩|⟨E,I,rfl,rfl,F⟩<;>rcases CU e k with⟨rfl,rfl⟩|⟨H,w,rfl,rfl,N⟩<;>
   simp only[j8,h3, *,ag3]<;>exact h7
 ·obtain⟨j,a,h2⟩:=cA f;obtain⟨h3,d⟩:=e _ _ a;obtain⟨v,h5,h6,h7⟩:=Aa d h2 ρ st;exact D6
 ·obtain⟨j,a,h2⟩:=cA f;obtain⟨h3,d⟩:=e _ _ a;obtain⟨v,h5,h6,h7⟩:=G6 d h2 ρ st;exact D6
 ·obtain⟨j,a,h2⟩:=cA f;obtain⟨b,h,h2⟩:=cA h2;obtain⟨h3,d⟩:=e _ _ a;obtain⟨F8,i⟩:=e _ _ h;obtain⟨v,h5,h6,h7⟩:=Ab d h2 ρ st;exact X2
 ·obtain⟨j,a,h2⟩:=cA f;obtain⟨b,h,h2⟩:=cA h2;obtain⟨h3,d⟩:=e _ _ a;obtain⟨F8,i⟩:=e _ _ h;obtain⟨v,h5,h6,h7⟩:=G8 d h2 ρ st;exact X2
 ·obtain⟨j,a,h2⟩:=cA f;obtain⟨b,h,h2⟩:=cA h2;obtain⟨h3,d⟩:=e _ _ a;obtain⟨F8,i⟩:=e _ _ h;obtain⟨v,h5,h6,h7⟩:=Es p h2;exact X2
 ·obtain⟨j,a,h2⟩:=cA f;obtain⟨h3,d⟩:=e _ _ a;obtain⟨v,h5,h6,h7⟩:=yC d h2 ρ st;exact D6
 ·obtain⟨j,a,h2⟩:=cA f;obtain⟨h3,d⟩:=e _ _ a;obtain⟨v,h5,h6,h7⟩:=CT d h2 ρ st;exact D6
 ·rename_i c;obtain⟨s,a,h2⟩:=cA f;obtain⟨h3,d⟩:=nl e a;split at h2
  ·rename_i b t;simp only[j8,h3,t];unfold SU at h2;split at h2
   ·obtain⟨v,h5,h6,h7⟩:=L4 p h2;exact⟨v,h5,h6,h7⟩
   ·exact YS
   ·exact YS
   ·exact h2.elim
  ·exact h2.elim
 ·exact f.elim
end
theorem Jp{d:Type}:∀{els:List (List d)} {es kk f:Nat} {e vs:List d},(∀a∈els,a.length=es)->els[kk]?=some e->f+vs.length<=es->
  (els.set kk (lay e f vs)).flatten=lay els.flatten (kk*es+f) vs/\kk*es+f+vs.length<=els.flatten.length:=by
 intro els;induction els with
 |nil=>intro es kk f e vs _ b;simp at b
 |cons a els h=>
  intro es kk f e vs c b j;have l:=c a sm;cases kk with
  |zero=>
   simp at b;subst b;simp only[agR,ahb,List.set_cons_zero,agl,agv];refine⟨?_,om⟩;simp only[lay];rw[ag0 om,ag2 om];simp only[List.append_assoc]
  |succ kk=>
   have:=h (fun k i=>c k (by simp[i])) (kk:=kk) (f:=f) (e:=e) (vs:=vs) (by simpa using b) j;simp only[List.set_cons_succ,agl,agv];rw[agS];refine⟨?_,om⟩;rw[this.1];simp only[lay];rw[show kk*es+es+f=a.length+(kk*es+f)from om,ag6,
    show a.length+(kk*es+f)+vs.length=a.length+(kk*es+f+vs.length)from om,agH]
   simp only[List.append_assoc]
theorem V3{b:Type}{c a:List b}(d:c.length=a.length):lay c 0 a=a:=by
 simp only[lay,List.take_zero,agU,ahb];rw[List.drop_of_length_le om,List.append_nil]
variable{M:VS->Prop} {y:V->VS->Prop}
section
variable{C:dR} {Φ:Fz} {ρ:Nat->Nat} {σ:VS} {st:St} {m:Nat} {ev:Operand->Option V} {mK:Operand->Option Value}
def CV(Φ:Fz)(ρ:Nat->Nat)(σ:VS)(d:V->VS->Prop)(e:Option AR):Prop:=
 ∃c a du dk b,d c a/\iJ Φ ρ σ.length du dk a.length/\Real du dk a b/\e9 du a.length c/\e=some (.val (erase dk c) b)
theorem x9:e9 Φ m (.dS []):=.dS fun _ a=>by simp at a
theorem uC{l:List V}(c:l.all gE=true)(ρ:Nat->Nat):(cl ρ l).all fM=true:=by
 rw[agD]at c⊢;intro e a;rw[dL]at a;obtain⟨d,b,rfl⟩:=agt.1 a;exact G2 (c d b)
theorem l5(E:Real Φ ρ σ st){t:TypeId}(R:e9 Φ σ.length u)(K:e9 Φ σ.length X)(b:mU C t u X σ M):
  ∃o m,M o/\o.length=σ.length/\Real Φ ρ o m/\iC C t (erase ρ u) (erase ρ X) st=some (.val lr m)/\m.n=st.n:=by
 unfold mU at b;split at b
 ·rename_i Q z;split at b
  ·rename_i G;rw[agz]at G;obtain⟨D,n⟩:=G;have x:=vK K;have v:∀O∈dG X,gE O=true:=agD.1 n;split at b
   ·rename_i i e;split at b
    ·rename_i q a;rw[ck]at a;obtain⟨⟨⟨l,_⟩,k,p⟩,_⟩:=E.obj i _ a rfl;obtain⟨j,T⟩:=xy _ _ _ _ b;obtain⟨J,Y⟩:=kD _ _ _ _ T;have w:=E.write (o':=.box (lay q e (dG X))) (c':=cl ρ (lay q e (dG X))) (lo:=0+e) (hi':=0+e+(dG X).length) a rfl l
      (.inl ⟨_,_,rfl,rfl,CP j,rfl,fun d c=>(yz c).elim (k d) (x d),fun d c=>(yz c).elim (p d) (v d)⟩)
     refine⟨_,_,Y,by simp,w,?_,?_⟩
     ·have A:dw (cl ρ q) e (cl ρ (dG X))=cl ρ (lay q e (dG X)):=by
       rw[qE _ _ _ (by rw[cW,cW];exact j),dL,dL,dL,BV]
      simp only[iC,z,erase,mh,cW,D,fY,l,uC n ρ,agj j,E.blt a rfl,agN,A];rfl
     ·rw[gM];rfl
    ·exact b.elim
   ·rename_i i es f e;split at b
    ·rename_i N els a;split at b
     ·rename_i H;have:=agk H;subst this;rw[ck]at a;obtain⟨⟨⟨S,L,l⟩,k,p,I⟩,_⟩:=E.obj i _ a rfl;obtain⟨s,B,b⟩:=b;rw[ck]at B;have r:=agw B;obtain⟨j,T⟩:=xy _ _ _ _ b;obtain⟨J,Y⟩:=kD _ _ _ _ T;have y:=Jp k B (f:=e) (vs:=dG X) (by rw[<-k s r];exact j);have h:∀d∈els.set f (lay s e (dG X)),d∈els∨d=lay s e (dG X):=fun d c=>agA c;have w:=E.write (o':=.row es (els.set f (lay s e (dG X)))) (c':=cl ρ (els.set f (lay s e (dG X))).flatten) (lo:=L+(f*es+e)) (hi':=L+(f*es+e)+(dG X).length) a rfl l
       (.inr ⟨_,_,rfl,rfl,rfl,fun d c=>by
        rcases h d c with c|rfl
        ·exact k d c
        ·rw[CP j];exact k s r,fun d c=>by
        rcases h d c with c|rfl
        ·exact p d c
        ·exact fun F g=>(yz g).elim (p s r F) (x F),fun d c=>by
        rcases h d c with c|rfl
        ·exact I d c
        ·exact fun F g=>(yz g).elim (I s r F) (v F)⟩)
      refine⟨_,_,Y,by simp,w,?_,?_⟩
      ·have A:dw (cl ρ els.flatten) (f*es+e) (cl ρ (dG X))=cl ρ (els.set f (lay s e (dG X))).flatten:=by
        rw[qE _ _ _ (by rw[cW,cW];exact y.2),y.1,dL,dL,dL,BV]
       simp only[iC,z,erase,mh,cW,D,fY,l,uC n ρ,agj y.2,E.blt a rfl,agN,A];rfl
      ·rw[gM];rfl
     ·exact b.elim
    ·exact b.elim
   ·exact b.elim
  ·exact b.elim
 ·exact b.elim
theorem Et(ρ:Nat->Nat):∀(es:List rL) (i:Nat) (a b:V),(nR es i a b).map (ke ρ)=xi (es.map (ke ρ)) i (erase ρ a) (erase ρ b):=by
 intro es;induction es with
 |nil=>intro i a b;rfl
 |cons d es c=>
  intro i a b;cases i with
  |zero=>rfl
  |succ i=>simp only[nR,agm,xi,c]
theorem Jq:∀{es:List rL} {i:Nat} {b c:V} {a:rL},a∈nR es i b c->a∈es∨(a.key=b/\a.val=c):=by
 intro es;induction es with
 |nil=>intro i b c a h;simp[nR]at h
 |cons e es d=>
  intro i b c a h;cases i with
  |zero=>
   rcases agu.1 h with rfl|h
   ·exact .inr ⟨Z,Z⟩
   ·exact .inl (by simp[h])
  |succ i=>
   rcases agu.1 h with rfl|h
   ·exact .inl sm
   ·exact(d h).imp (fun h=>by simp[h]) id
theorem zN(w:Real Φ ρ σ st){t:TypeId}{l:V}(e:e9 Φ σ.length X)(x:e9 Φ σ.length l)(c:sr C t u X l σ M):
  ∃f j,M f/\f.length=σ.length/\Real Φ ρ f j/\jo C t (erase ρ u) (erase ρ X) (erase ρ l) st=some (.val lr j):=by
 unfold sr at c;split at c
 ·rename_i H z k;split at c
  ·rename_i A G o;split at c
   ·rename_i B es b h d;rw[ck]at d;obtain⟨⟨p,v⟩,_⟩:=w.obj z _ d rfl;split at c
    ·exact c.elim
    ·rename_i q;obtain⟨y,Y,c⟩:=c;obtain⟨s,E⟩:=AY ρ _ _ _ _ _ Y;have r:∀a,(st.put (ρ z) a).get (ρ z)=some a:=fun a=>by rw[c8,if_pos rfl]
     cases y with
     |some F=>
      obtain⟨i,I⟩:=F;obtain⟨D,n⟩:=kD _ _ _ _ c;refine⟨_,_,n,by simp,w.put (o':=.map (nR es i X l) b) (a:=.map ((nR es i X l).map (ke ρ)) b) d Z Z Z (fun _ _ _ _ m=>by cases m) ⟨r _,fun m he=>?_⟩,?_⟩
      ·rcases Jq he with he|⟨g,T⟩
       ·exact v m he
       ·rw[g,T];exact⟨e,x⟩
      ·simp only[jo,k,erase,o,h,p,q,s,Et];rfl
     |none=>
      obtain⟨D,n⟩:=kD _ _ _ _ c;refine⟨_,_,n,by simp,w.put (o':=.map (es++[rL.mk X l b]) (b+1)) (a:=.map ((es++[rL.mk X l b]).map (ke ρ)) (b+1)) d Z Z Z (fun _ _ _ _ m=>by cases m) ⟨r _,fun m he=>?_⟩,?_⟩
      ·rcases agE.1 he with he|he
       ·exact v m he
       ·simp at he;subst he;exact⟨e,x⟩
      ·simp only[jo,k,erase,o,h,p,q,s,List.map_append];rfl
   ·exact c.elim
  ·exact c.elim
 ·exact c.elim
theorem fQ:∀{els:List (List V)} {b:List cH},qC els=some b->els=b.map fun f=>f.map V.d:=by
 intro els;induction els with
 |nil=>intro b a;cases a;rfl
 |cons f els c=>
  intro b a;unfold qC at a;split at a
  ·rename_i i h e d;cases a;rw[agm,<-c d,<-pb e]
  ·cases a
theorem uD(ρ:Nat->Nat)(l:List cH):cl ρ (l.map fun b=>b.map V.d).flatten=l.flatten.map cz:=by
 induction l with
 |nil=>rfl
 |cons b l a=>
  simp only[agm,agl,fC,nY,a,List.map_append]
theorem ZG{b es c:Nat}{l:List cH}{f p:Nat}(e:Φ b=some (.cells (l.flatten.map cz) es f p))(a:∀i∈l,i.length=es)(h:∀i∈l,∀j∈i,xw Φ j)(d:Φ.Eo b):xw Φ (.ps b 0 es c l):=by
 have:=rM a;refine .ps e a (by rw[agq];omega) ?_ h d;rw[agW,agQ (by rw[agq];omega)]
structure jh (Φ:Fz) (m es:Nat) (els:List (List V)):Prop where
 len:∀e∈els,e.length=es
 ok:∀e∈els,eV Φ m e
 cell:∀e∈els,∀v∈e,gE v=true
theorem jh.d{es:Nat}{l:List cH}(c:jh Φ m es (l.map fun a=>a.map V.d)):(∀a∈l,a.length=es)/\∀a∈l,∀d∈a,xw Φ d:=by
 refine⟨fun a b=>?_,fun a b d e=>?_⟩
 ·have:=c.len (a.map V.d) (agt.2 ⟨a,b,rfl⟩);simpa using this
 ·have:=c.ok (a.map V.d) (agt.2 ⟨a,b,rfl⟩) (.d d) (agt.2 ⟨d,e,rfl⟩);cases this with
  |d c=>exact c
theorem jh.mono{du:Fz}{m' es:Nat}{els:List (List V)}(c:jh Φ m es els)(a:Φ.le du)(b:m<=m'):jh du m' es els:=
 ⟨c.len,fun e d=>(c.ok e d).mono a b,c.cell⟩
theorem Real.newRow(h:Real Φ ρ σ st){es:Nat}{els:List (List V)}(a:jh Φ σ.length es els):
  Real Φ (jM ρ σ.length st.n) (σ++[.row es els]) (st.new (.cells (cl ρ els.flatten) es st.n 0)):=by
 have b:=la Φ ρ σ.length st.n;refine h.new Z ⟨⟨st.n,0,?_⟩,a.len,fun c h=>b.N1 (a.ok c h),a.cell⟩;rw[dm,if_pos rfl,b.cl (G3 a.ok)]
theorem Real.R3(h:Real Φ ρ σ st)(a:eV Φ σ.length w)(c:∀f∈w,gE f=true):
  Real Φ (jM ρ σ.length st.n) (σ++[.box w]) (st.new (.cells (cl ρ w) w.length st.n 0)):=by
 have b:=la Φ ρ σ.length st.n;refine h.new Z ⟨⟨?_,?_⟩,b.N1 a,c⟩
 ·rw[dm,if_pos rfl,b.cl a]
 ·cases d:st.fm.get st.n with
  |none=>exact d
  |some e=>exact absurd (h.wf.NN _ _ d) (aha _)
theorem Real.N5(h:Real Φ ρ σ st){es:Nat}{l:List cH}(c:jh Φ m es (l.map fun j=>j.map V.d)):
  Real (oz Φ st.n (.cells (l.flatten.map cz) es st.n 0)) ρ σ (st.new (.cells (l.flatten.map cz) es st.n 0))/\
  iJ Φ ρ σ.length (oz Φ st.n (.cells (l.flatten.map cz) es st.n 0)) ρ σ.length/\∀b,xw (oz Φ st.n (.cells (l.flatten.map cz) es st.n 0)) (.ps st.n 0 es b l):=by
 have d:Φ st.n=none:=by
  exact R0
 have a:=vI (o:=.cells (l.flatten.map cz) es st.n 0) d;refine⟨h.acz,⟨a,fun _ _=>Z,agK _⟩,fun b=>?_⟩;obtain⟨i,f⟩:=c.d;exact ZG (by rw[lf];exact if_pos rfl) i (fun j c k e=>(f j c k e).mono a) (.inl Z)
theorem rN:∀{n:Nat} {a:List V},a∈xo w n->a=w:=by
 intro n;induction n with
 |zero=>intro a h;simp[xo]at h
 |succ n b=>
  intro a h;rcases agu.1 h with rfl|h
  ·rfl
  ·exact b h
theorem Fw(ρ:Nat->Nat):∀(n:Nat),cl ρ (xo w n).flatten=wo (cl ρ w) n:=by
 intro n;induction n with
 |zero=>rfl
 |succ n a=>simp only[xo,agl,fC,a,wo]
theorem S1:∀(n:Nat),(xo w n).length=n:=by
 intro n;induction n with
 |zero=>rfl
 |succ n a=>simp[xo,a]
theorem G9(ρ:Nat->Nat):∀(c:List (Nat×V)) (els b:List (List V)),jh Φ m H els->(∀l∈c,e9 Φ m l.2)->GV H els c=some b->
  jh Φ m H b/\b.length=els.length/\qq (fun i=>some (i*H,H)) (cl ρ els.flatten) (c.map fun l=>(l.1,erase ρ l.2))=some (cl ρ b.flatten):=by
 intro c;induction c with
 |nil=>intro els b k _ n;cases n;exact⟨k,rfl,rfl⟩
 |cons l c D=>
  intro els b k q n;obtain⟨i,g⟩:=l;unfold GV at n;split at n
  ·rename_i o;simp only[agz]at o;obtain⟨⟨s,r⟩,v⟩:=o;have f:=agk s;have hi:i<els.length:=agT r;obtain⟨e0,e⟩:∃e0,els[i]?=some e0:=⟨els[i],List.getElem?_eq_getElem hi⟩;have p:=agw e;have Y:=k.len e0 p;have T:=vK (q _ (ahi ..));have h:jh Φ m H (els.set i (dG g)):=by
    refine⟨fun j a=>?_,fun j a=>?_,fun j a=>?_⟩
    ·rcases agA a with a|rfl
     ·exact k.len j a
     ·exact f
    ·rcases agA a with a|rfl
     ·exact k.ok j a
     ·exact T
    ·rcases agA a with a|rfl
     ·exact k.cell j a
     ·exact agD.1 v
   obtain⟨z,x,C⟩:=D _ _ h (fun j a=>q j (by simp[a])) n;refine⟨z,by simpa using x,?_⟩;have d:=Jp k.len e (f:=0) (vs:=dG g) om;rw[V3 om,ahc]at d;simp only[agm,qq,mh,cW];have t:i*H+H<=els.flatten.length:=by have:=d.2;omega
   rw[f,agI,agj t];simp only[agN];rw[qE _ _ _ (by rw[cW,cW];exact d.2),dL,dL,<-BV,<-d.1,<-dL];exact C
  ·cases n
def iP(b:Op)(c:cN)(ρ:Nat->Nat)(n:Nat):Option (Value×fX):=
 match b,c with
 |.alloc _,.box a=>some (ptr n 0,.cells (cl ρ a) a.length n 0)
 |.alloc _,.j2 d e []=>some (ptr n 0,.j2 d e [])
 |.box _ _,.box a=>some (ptr n 0,.cells (cl ρ a) a.length n 0)
 |.makeMap _ _,.map _ _=>some (.map (some n),.map [] 0)
 |.buildSlice _ len _,.row es els=>some (.slice (some ⟨n,0,none⟩) len len,.cells (cl ρ els.flatten) es n 0)
 |_,_=>none
def pN(Φ:Fz)(m:Nat)(b:Op)(d:cN):Prop:=
 match b,d with
 |.alloc _,.box a=>eV Φ m a/\∀e∈a,gE e=true
 |.alloc _,.j2 _ _ f=>f=[]
 |.box _ _,.box a=>eV Φ m a/\∀e∈a,gE e=true
 |.makeMap _ _,.map es c=>es=[]/\c=0
 |.buildSlice _ len _,.row es els=>jh Φ m es els/\els.length=len
 |_,_=>False
theorem qG(c:oL Φ ρ m ev mK){o:Oper}(a:Fs C ev o.op=some E):
  pN Φ m o.op E/\∀st:St,∃r F,iP o.op E ρ st.n=some (r,F)/\j8 C mK o st=some (.val r (st.new F)):=by
 obtain⟨B,L,K,H,G,J⟩:=o;dsimp only at a;unfold Fs at a;split at a
 ·rename_i M;split at a
  ·rename_i V d;split at a
   ·rename_i e;split at a
    ·rename_i b;cases a;refine⟨Z,fun st=>⟨_,_,Z,?_⟩⟩;simp only[j8,xf,d,e,b];rfl
    ·cases a
   ·rename_i e;split at a
    ·rename_i g b A;cases a;have f:g.length=V.size:=by rw[<-agk A,<-cW ρ,jk ρ b]
     refine⟨qo Φ m b,fun st=>⟨_,_,Z,?_⟩⟩;simp only[j8,xf,d,e,jk ρ b,f];rfl
    ·cases a
  ·cases a
 ·rename_i O;split at a
  ·rename_i r i;split at a
   ·rename_i Y;cases a;obtain⟨n,k⟩:=c _ _ i;refine⟨⟨vK k,agD.1 Y⟩,fun st=>⟨_,_,Z,?_⟩⟩;simp only[j8,n,Li,mh,uC Y ρ,cW];rfl
   ·cases a
  ·cases a
 ·cases a;exact⟨⟨Z,Z⟩,fun st=>⟨_,_,Z,Z⟩⟩
 ·rename_i M len I;split at a
  ·rename_i N V T d;split at a
   ·rename_i y w;split at a
    ·rename_i z v;split at a
     ·rename_i g s b;split at a
      ·rename_i els l;cases a;obtain⟨n,k⟩:=CQ c T;have j:=s;simp only[agz]at j;have f:g.length=z.size:=by rw[<-agk j.2,<-cW ρ,jk ρ b]
       have q:jh Φ m z.size (xo g len):=⟨fun u c=>by rw[rN c,f],fun u c=>by rw[rN c];exact(qo Φ m b).1,fun u c=>by rw[rN c];exact(qo Φ m b).2⟩;obtain⟨D,t,x⟩:=G9 ρ N _ els q k l;rw[S1]at t;refine⟨⟨D,t⟩,fun st=>⟨_,_,Z,?_⟩⟩;rw[Fw,jk ρ b]at x;have p:(cl ρ els.flatten).all fM=true:=uC (agD.2 fun r i=>by
        obtain⟨u,c,i⟩:=ag1.1 i;exact D.cell u c r i) ρ
       simp only[j8,n,kf,d,w,v,s,x,p];rfl
      ·cases a
     ·cases a
    ·cases a
   ·cases a
  ·cases a
 ·cases a
theorem Jr(h:Real Φ ρ σ st)(v:oL Φ ρ σ.length ev mK){o:Oper}(a:SQ C A ev o.op σ y):CV Φ ρ σ y (j8 C mK o st):=by
 unfold SQ at a;split at a
 ·rename_i T k;obtain⟨hm,j⟩:=qG v k;obtain⟨g,z,h1,p⟩:=j st;rw[p];have s:=la Φ ρ σ.length st.n;have Gg:jM ρ σ.length st.n σ.length=st.n:=if_pos rfl;split at a
  ·rename_i e;split at a
   ·rename_i es els;split at a
    ·rename_i x f;have c:nk o.op=true:=by rw[agz]at e;exact e.2
     cases gT:o.op with
     |buildSlice u len D=>
      rw[gT]at h1 hm;cases h1;obtain⟨d,l⟩:=hm;rw[fQ f]at d;obtain⟨q,t,n⟩:=h.N5 d;have i:x.length=len:=by rw[<-l,fQ f,agq]
      have m:cl ρ els.flatten=x.flatten.map cz:=by rw[fQ f,uD]
      refine⟨_,σ,_,ρ,st.new (.cells (x.flatten.map cz) es st.n 0),a st.n,t,q,.d (n _),?_⟩;simp only[erase,cz,i,m]
     |_=>rw[gT]at c;cases c
    ·exact a.elim
   ·exact a.elim
  ·have b:=jK a;clear a;obtain⟨Y,h3,r⟩:=cA b;clear b;have hlen:∀o:cN,(σ++[o]).length=σ.length+1:=fun o=>by simp
   refine⟨Y,_,Φ,jM ρ σ.length st.n,st.new z,r,by rw[hlen];exact s,?_,?_,?_⟩;all_goals
    unfold iP at h1;split at h1
    ·exact Zn
    ·rename_i gT;rw[gT]at h3 hm;cases h1;cases h3;first
      |exact h.new trivial (by show(st.new _).get _=_;rw[dm,if_pos rfl])
      |exact .bp (by rw[hlen];omega)
      |(simp only[erase,Gg];rfl)
    ·exact Zn
    ·rename_i gT;rw[gT]at h3 hm;obtain⟨rfl,rfl⟩:=hm;cases h1;cases h3;first
      |exact h.new trivial ⟨by rw[dm,if_pos rfl];rfl,fun _ h=>by simp at h⟩
      |exact .map (by rw[hlen];omega)
      |(simp only[erase,Gg])
    ·rename_i gT;rw[gT]at h3 hm;cases h1;cases h3;first
      |exact h.newRow hm.1
      |exact .ms (by rw[hlen];omega)
      |(simp only[erase,Gg,agR])
    ·cases h1
 ·exact a.elim
theorem Ac(h:Real Φ ρ σ st){t:TypeId}{l c:V}(a:xv C t l c σ y):CV Φ ρ σ y (jn C t (erase ρ l) (erase ρ c) st):=by
 unfold xv at a;split at a
 ·rename_i u s;split at a
  ·rename_i Y x;split at a
   ·rename_i d q;split at a
    ·rename_i z i j;split at a
     ·rename_i w b;obtain⟨n,rfl,⟨rfl,T,D⟩,a⟩:=a;simp only[agz]at i;have r:z.length=d.size:=by rw[<-agk i.2,<-cW ρ,jk ρ j]
      have p:jh Φ σ.length d.size (xo z n):=⟨fun v f=>by rw[rN f,r],fun v f=>by rw[rN f];exact(qo Φ σ.length j).1,fun v f=>by rw[rN f];exact(qo Φ σ.length j).2⟩;have v:jn C t (erase ρ (.d (.int .i64 (agF n)))) (erase ρ (.d (.int .i64 (agF n)))) st=some (.val (.slice (some ⟨st.n,0,none⟩) n n) (st.new (.cells (cl ρ (xo z n).flatten) d.size st.n 0))):=by
       have g:(agx n n&&agG 0 d.size&&agx (n*d.bytes) 1099511627776&&agx n 1099511627776&&agr d.zero.length d.size)=true:=by
        rw[i.1,i.2,show agx n n=true by rw[Nat.ble_eq];exact agK n,show agx (n*d.bytes) 1099511627776=true by rw[Nat.ble_eq];exact T,show agx n 1099511627776=true by rw[Nat.ble_eq];exact D];rfl
       rw[Fw,jk ρ j];simp only[jn,erase,cz,s,x,q,g];rfl
      rw[v];have m:=jK a;have e:∀o:cN,(σ++[o]).length=σ.length+1:=fun o=>by simp
      have k:jM ρ σ.length st.n σ.length=st.n:=if_pos rfl;exact⟨_,_,Φ,jM ρ σ.length st.n,_,m,by rw[e];exact la Φ ρ σ.length st.n,h.newRow p,.ms (by rw[e];omega),by simp only[erase,k,agR]⟩
     ·exact a.elim
    ·exact a.elim
   ·exact a.elim
  ·exact a.elim
 ·exact a.elim
end
section
variable{C:dR} {Φ:Fz} {ρ:Nat->Nat} {σ:VS} {st:St} {m:Nat} {ev:Operand->Option V} {mK:Operand->Option Value}
theorem N6{es:Nat}{els:List (List V)}(c:jh Φ m es els)(d len:Nat):jh Φ m es ((els.drop d).take len):=
 ⟨fun b a=>c.len b (agp (ago a)),fun b a=>c.ok b (agp (ago a)),fun b a=>c.cell b (agp (ago a))⟩
theorem jh.append{es:Nat}{f b:List (List V)}(d:jh Φ m es f)(e:jh Φ m es b):jh Φ m es (f++b):=
 ⟨fun c a=>(agE.1 a).elim (d.len c) (e.len c),fun c a=>(agE.1 a).elim (d.ok c) (e.ok c),fun c a=>(agE.1 a).elim (d.cell c) (e.cell c)⟩
theorem Js{c:Type}{els:List (List c)}{es:Nat}(e:∀b∈els,b.length=es)(a len:Nat):(els.flatten.drop (a*es)).take (len*es)=((els.drop a).take len).flatten:=by
 rw[Fu a e,Fv len fun b d=>e b (agp d)]
theorem sf(h:Real Φ ρ σ st){i es:Nat}{els:List (List V)}(c:σ[i]?=some (.row es els)):jh Φ σ.length es els/\∃f j,st.get (ρ i)=some (.cells (cl ρ els.flatten) es f j):=by
 obtain⟨⟨d,a,e,b⟩,_⟩:=h.obj i _ c rfl;exact⟨⟨a,e,b⟩,d⟩
theorem Jt(f:Real Φ ρ σ st){i es:Nat}{els:List (List V)}(d:σ[i]?=some (.row es els)){a len:Nat}(c:a+len<=els.length):
  gq st (ρ i) (a*es) (len*es)=some (cl ρ ((els.drop a).take len).flatten):=by
 obtain⟨b,h,j,e⟩:=sf f d;rw[jr e (by rw[cW,rM b.len,<-ahg];exact agV _ c),<-pM,Js b.len]
theorem xA(e:cq):jh Φ m 1 (e.map fun c=>[io c]):=by
 refine⟨fun d b=>?_,fun d b f a=>?_,fun d b f a=>?_⟩;all_goals
  obtain⟨c,_,rfl⟩:=agt.1 b
 ·rfl
 ·simp at a;subst a;exact .d (.int _ _)
 ·simp at a;subst a;rfl
theorem Ad(ρ:Nat->Nat)(a:cq):cl ρ (a.map fun c=>[io c]).flatten=ofBytes a:=by
 induction a with
 |nil=>rfl
 |cons c a b=>
  simp only[agm,agl,agC,agU,cl,b,ofBytes];rfl
theorem PP(j:Real Φ ρ σ st)(l:e9 Φ σ.length u){x:List (List V)->Prop}(a:aaG C W u σ x):
  ∃xs,x xs/\jh Φ σ.length W.size xs/\rf (erase ρ u)=some xs.length/\ii st W.size xs.length (erase ρ u)=some (cl ρ xs.flatten):=by
 unfold aaG at a;split at a
 ·exact⟨[],a,⟨fun _ j=>by simp at j,fun _ j=>by simp at j,fun _ j=>by simp at j⟩,Z,Z⟩
 ·rename_i b o es q els;obtain⟨rfl,a⟩:=a;cases l with
  |d l=>
  cases l with
  |ps r Y v g D=>
   refine⟨_,a,⟨fun y c=>?_,fun y c A m=>?_,fun y c A m=>?_⟩,by simp[erase,cz,rf],?_⟩
   ·obtain⟨e0,h,rfl⟩:=agt.1 c;rw[agq];exact Y e0 h
   ·obtain⟨e0,h,rfl⟩:=agt.1 c;obtain⟨d,n,rfl⟩:=agt.1 m;exact .d (D e0 h d n)
   ·obtain⟨e0,h,rfl⟩:=agt.1 c;obtain⟨d,n,rfl⟩:=agt.1 m;rfl
   ·simp only[erase,cz,ii,agq];rw[jr (j.fz _ _ r) v,g,uD]
 ·rename_i i es k len q;split at a
  ·rename_i w els e;rw[ck]at e;obtain⟨⟨rfl,rfl,T⟩,a⟩:=a;obtain⟨c,_⟩:=sf j e;have p:x ((els.drop k).take len):=by
    split at a
    ·rename_i t;have:=agk t;rw[agW,agQ om];exact a
    ·exact a
   have f:((els.drop k).take len).length=len:=by rw[agO,agy];omega
   refine⟨_,p,N6 c k len,by simp only[erase,rf,f],?_⟩;simp only[erase,ii,f];exact Jt j e T
  ·exact a.elim
 ·rename_i s;obtain⟨z,a⟩:=a;refine⟨_,a,by rw[z];exact xA s,by simp[erase,cz,rf],?_⟩;simp only[erase,cz,ii,agq,Ad];rw[List.take_length]
 ·exact a.elim
theorem js(i:Nat)(o:cN):(σ.set i o).length=σ.length:=List.length_set
theorem Eu(h:Real Φ ρ σ st)(ae:eV Φ σ.length w)(a:G0 C A L w σ y):
  CV Φ ρ σ y (o6 C L (cl ρ w) st):=by
 unfold G0 at a;split at a
 ·rename_i L aq s aC;have ac:=ae s sm;have al:=ae aC sm;split at a
  ·rename_i aE aA aj Q;split at a
   ·exact a.elim
   ·rename_i ap S az;split at a
    ·rename_i d ad;split at a
     ·exact a.elim
     ·rename_i hb;obtain⟨xs,K,q,am,av⟩:=PP h al a;clear a;have a:=K;clear K;have z:=hb;simp only[agz]at z;have ag:(cl ρ xs.flatten).all fM=true:=uC (agD.2 fun aJ R=>by
       obtain⟨O,g,R⟩:=ag1.1 R;exact q.cell O g aJ R) ρ
      have X:(cl ρ xs.flatten).length=xs.length*d.size:=by rw[cW,rM q.len]
      have Y:∀r len f,erase ρ s=.slice r len f->(len+xs.length)*d.bytes<=fy->len+xs.length<=fy->
        o6 C [L,aq] (cl ρ [s,aC]) st=fP st d.size r len f xs.length (cl ρ xs.flatten):=by
       intro r len f es I T;have P:(agG 0 d.size&&agr (cl ρ xs.flatten).length (xs.length*d.size)&&(cl ρ xs.flatten).all fM&&agx ((len+xs.length)*d.bytes) fy&&agx (len+xs.length) fy&&agr d.zero.length d.size)=true:=by
        rw[z.1,X,agI,ag,agj I,agj T,z.2];rfl
       simp only[o6,cl,aj,Q,es,S,ad,am,av,P]
      have u:Φ st.n=none:=by
       exact R0
      split at a
      ·obtain⟨⟨I,T⟩,a⟩:=a;rw[Y none 0 0 rfl (by simpa using I) (by simpa using T)];cases m:agr xs.length 0 with
       |true=>
        rw[m]at a;have p:=agk m;refine⟨_,σ,Φ,ρ,st,a,.refl _ _ _,h,.d .ci,?_⟩;simp only[fP,p];rfl
       |false=>
        rw[m]at a;have p:agx (0+xs.length) 0=false:=by
         rw[N3];refine decide_eq_false fun aI=>?_;have:xs.length=0:=om;rw[this]at m;cases m
        have t:fP st d.size none 0 0 xs.length (cl ρ xs.flatten)=some (.val (.slice (some ⟨st.n,0,none⟩) xs.length xs.length) (st.new (.cells (cl ρ xs.flatten) d.size st.n 0))):=by
         simp only[fP,p];rfl
        rw[t];simp only[jR]at a;cases A with
        |true=>
         obtain⟨ak,l,a⟩:=cA a;have E:=q;rw[fQ l]at E;obtain⟨r1,aw,ar⟩:=h.N5 E;have B:xs.length=ak.length:=by rw[fQ l,agq]
         have ab:cl ρ xs.flatten=ak.flatten.map cz:=by rw[fQ l,uD]
         exact⟨_,σ,_,ρ,_,a st.n,aw,r1,.d (ar _),by simp only[erase,cz,B,ab]⟩
        |false=>
         have Vg:=jK a;have hlen:(σ++[cN.row d.size xs]).length=σ.length+1:=by simp
         refine⟨_,_,Φ,_,_,Vg,by rw[hlen];exact la Φ ρ σ.length st.n,h.newRow q,.ms (by rw[hlen];omega),?_⟩;simp only[erase,agR];rw[show jM ρ σ.length st.n σ.length=st.n from if_pos rfl]
      ·rename_i i es j len f;split at a
       ·rename_i aB els e;rw[ck]at e;obtain⟨⟨rfl,rfl,N,aG,ao,ax⟩,a⟩:=a;rw[Y (some ⟨ρ i,j*d.size,none⟩) len f rfl ao ax];obtain⟨M,U,W,F⟩:=sf h e;cases m:agr xs.length 0 with
        |true=>
         rw[m]at a;have p:=agk m;have aa:xs=[]:=List.length_eq_zero_iff.1 p;subst aa;refine⟨_,σ,Φ,ρ,st,a,.refl _ _ _,h,ac,?_⟩;have:agx (len+0) f=true:=agj om;simp only[fP,List.length_nil,this,List.flatten_nil,cl];rfl
        |false=>
         rw[m]at a;simp only[jR]at a;cases D:agx (len+xs.length) f with
         |true=>rw[D]at a;exact a.elim
         |false=>
          rw[D]at a;simp only at a;obtain⟨hi,a⟩:=kD _ _ _ _ a;have af:=Jt h e N;have t:fP st d.size (some ⟨ρ i,j*d.size,none⟩) len f xs.length (cl ρ xs.flatten)=
            some (.val (.slice (some ⟨st.n,0,none⟩) (len+xs.length) (len+xs.length)) (grown st d.size U W (ρ i) (j*d.size) len xs.length (cl ρ els.flatten) (cl ρ ((els.drop j).take len).flatten) (cl ρ xs.flatten))):=by
           simp only[fP,D,F,agI,h.blt e rfl,af];rfl
          rw[t];obtain⟨ai,ah,ay⟩:=h.grow (o:=j*d.size) (len:=len) (n:=xs.length) (old:=cl ρ ((els.drop j).take len).flatten) (xs:=cl ρ xs.flatten) e F;have k:=N6 M j len|>.append q;have x:=kC (st:=st) (es:=d.size) (dP:=U) (fo:=W) (b:=ρ i) (o:=j*d.size) (len:=len) (n:=xs.length) (c:=cl ρ els.flatten) (old:=cl ρ ((els.drop j).take len).flatten) (xs:=cl ρ xs.flatten) st.n;rw[if_pos rfl,<-fC,<-List.flatten_append]at x;have J:∀au o,(σ.set i .gone)[au]?=some o->live o=true->ρ au≠st.n:=fun au o an l=>agn (h.lt (rC e an l).2 l);have H:((els.drop j).take len++xs).length=len+xs.length:=by
           rw[agv,agO,agy];omega
          cases A with
          |true=>
           obtain⟨ak,l,a⟩:=cA a;have v:=vI (o:=fX.cells (cl ρ ((els.drop j).take len++xs).flatten) d.size U (W+j*d.size)) u;have r1:=ai.SX x u J ah (fun aL aH aK aF G=>h.ox e rfl F (h.fz _ _ G) (fun O=>by rw[O,(h.obj i _ e rfl).2]at G;cases G) (.inl (by rw[G];simp)) rfl);have B:ak.length=len+xs.length:=by rw[<-H,fQ l,agq]
           rw[fQ l]at k;obtain⟨d1,d2⟩:=k.d;refine⟨_,_,_,ρ,_,a st.n,⟨v,fun _ _=>Z,by rw[js];exact agK _⟩,r1,.d (ZG (f:=U) (p:=W+j*d.size) ?_ d1 (fun O g aD S=>(d2 O g aD S).mono v) (.inl Z)),by simp only[erase,cz,B]⟩;rw[<-uD ρ,<-fQ l,lf];exact if_pos Z
          |false=>
           have Vg:=jK a;have hlen:((σ.set i .gone)++[cN.row d.size ((els.drop j).take len++xs)]).length=σ.length+1:=by simp
           have r1:=ai.SY (els:=(els.drop j).take len++xs) x u J ah ay (h.K2 i _ _ _ _ _ _ e F) k.len (fun O g=>by rw[js];exact k.ok O g) k.cell;rw[js]at r1 Vg;exact YQ
       ·exact a.elim
      ·rename_i b o es f els;obtain⟨⟨I,rfl,T,N⟩,a⟩:=a;rw[Y (some ⟨b,o,none⟩) els.length f rfl (by simpa using T) (by simpa using N)];refine⟨_,σ,Φ,ρ,st,a,.refl _ _ _,h,ac,?_⟩;have:agx (els.length+0) f=true:=agj om;simp only[fP,List.length_nil,this,List.flatten_nil,cl];rfl
      ·exact a.elim
    ·exact a.elim
   ·exact a.elim
  ·exact a.elim
 ·exact a.elim
theorem Ha(h:Real Φ ρ σ st){b q:TypeId}(a:LV C A b q u σ y):CV Φ ρ σ y (ig C b q (erase ρ u) st):=by
 unfold LV at a;split at a
 ·rename_i z x l i;split at a
  ·rename_i o s j e;split at a
   ·rename_i v f;split at a
    ·rename_i r;have d:ig C b q (erase ρ (.d (.str s))) st=some (.val (.slice (some ⟨st.n,0,none⟩) s.length s.length) (st.new (.cells (ofBytes s) 1 st.n 0))):=by
      simp only[ig,l,i,j,e,erase,cz,f,r];rfl
     rw[d];cases A with
     |true=>
      have n:jh Φ 0 1 ((s.map fun c=>[uy c]).map fun o=>o.map V.d):=by
       have:((s.map fun c=>[uy c]).map fun o=>o.map V.d)=s.map fun c=>[io c]:=by
        rw[List.map_map];rfl
       rw[this];exact xA s
      obtain⟨r1,t,p⟩:=h.N5 n;have k:ofBytes s=(s.map fun c=>[uy c]).flatten.map cz:=by rw[<-Ad ρ,Jo]
      exact⟨_,σ,_,ρ,_,a st.n,t,r1,.d (p _),by simp only[erase,cz,k,agq]⟩
     |false=>
      have Vg:=jK a;have hlen:(σ++[cN.row 1 (s.map fun c=>[io c])]).length=σ.length+1:=by simp
      have r1:=h.newRow (xA (Φ:=Φ) (m:=σ.length) s);rw[Ad]at r1;exact YQ
    ·exact a.elim
   ·exact a.elim
  ·exact a.elim
 ·exact a.elim
inductive ZH (Φ:Fz) (ρ:Nat->Nat) (σ:VS) (st:St) (K:VR->Prop) (r:Option AR):Prop
 |val (h:CV Φ ρ σ (fun v oK=>K (.val v oK)) r)
 |eH (v:V) (hk:K (.eH v)) (hv:e9 Φ σ.length v) (hr:r=some (.eH (erase ρ v) st))
 |enter (f:FuncId) (args:List V) (hk:K (.enter f args)) (hv:eV Φ σ.length args) (hr:r=some (.enter f (cl ρ args)))
 |yield (l:Nat) (args:List V) (hk:K (.yield l args)) (hl:l<σ.length) (hv:eV Φ σ.length args) (hr:r=some (.yield (ρ l) (cl ρ args)))
 |recover (hk:K .recover) (hr:r=some .recover)
 |defer (d:fq) (hk:K (.defer d)) (hv:Jh Φ σ.length d) (hr:r=some (.defer (jq ρ d)))
theorem eV.append{e b:List V}(c:eV Φ m e)(d:eV Φ m b):eV Φ m (e++b):=fun f a=>(agE.1 a).elim (c f) (d f)
theorem PQ(h:Real Φ ρ σ st)(he:oL Φ ρ σ.length ev mK){o:Oper}{t:VR->Prop}(hk:vop C A ev o.op σ t):ZH Φ ρ σ st t (j8 C mK o st):=by
 have d:∀{o:Oper},CM C ev o.op σ (fun v=>t (.val v σ))->ZH Φ ρ σ st t (j8 C mK o st):=by
  intro o V;obtain⟨v,h1,h2,h3⟩:=np h he V;exact .val ⟨v,σ,Φ,ρ,st,h1,.refl _ _ _,h,h2,h3⟩
 obtain⟨dst,op,p,pos,j,l⟩:=o;dsimp only at hk;unfold vop at hk;split at hk
 ·obtain⟨v,h1,h2⟩:=cA hk;obtain⟨h3,h4⟩:=he _ _ h1;exact .val ⟨v,σ,Φ,ρ,st,h2,.refl _ _ _,h,h4,by simp only[j8,h3];rfl⟩
 ·obtain⟨I,h1,h2⟩:=cA hk;obtain⟨x,D2,h2⟩:=cA h2;obtain⟨h3,h4⟩:=he _ _ h1;obtain⟨F8,Ru⟩:=he _ _ D2;obtain⟨oK,dC,k1,k2,k3,k4,_⟩:=l5 h h4 Ru h2;exact .val ⟨_,oK,Φ,ρ,dC,k1,⟨Fz.le_refl _,fun _ _=>Z,om⟩,k3,x9,by simp only[j8,h3,F8];rw[k4];rfl⟩
 ·exact Yq
 ·exact Yq
 ·rename_i c;split at hk
  ·rename_i F f;obtain⟨a,h1,h2⟩:=cA hk;obtain⟨v,D2,h2⟩:=cA h2;obtain⟨h3,h4⟩:=nl he h1;obtain⟨F8,Ru⟩:=he _ _ D2;have b:j8 C mK {dst:=dst,op:=.call c,type:=p,pos:=pos,after:=j,guard:=l} st=lx C (erase ρ v) (cl ρ a) st:=by simp only[j8,h3,f,F8]
   rw[b];unfold CL at h2;split at h2
   ·rename_i D first e
    cases Ru with
    |fn r s=>
    have q:eV Φ σ.length (first++a++e):=(eV.append r h4).append s;unfold NZ at h2;cases i:C.ff.get D with
    |some H=>
     rw[i]at h2;have h2:t (.enter D (first++a++e)):=h2;refine .enter D _ h2 q ?_;simp only[erase,lx,i,fC]
    |none=>
     rw[i]at h2;simp only[Option.isSome_none,jR]at h2;split at h2
     ·rename_i z n;obtain⟨x,y,u,h2⟩:=h2;have k:cl ρ first++cl ρ a++cl ρ e=z.map cz:=by rw[<-fC,<-fC,pb n,nY]
      have T:xw Φ x:=by cases x<;>first|(cases u;done)|constructor
      exact .val ⟨_,σ,Φ,ρ,st,h2,.refl _ _ _,h,.d T,by simp only[erase,lx,i,k,y];rfl⟩
     ·exact h2.elim
   ·rename_i z;cases Ru with
    |tR n=>exact .yield z a h2 n h4 (by simp only[erase,lx])
   ·exact h2.elim
  ·rename_i f;obtain⟨a,h1,h2⟩:=cA hk;obtain⟨h3,h4⟩:=nl he h1;have b:j8 C mK {dst:=dst,op:=.call c,type:=p,pos:=pos,after:=j,guard:=l} st=o6 C c.argTypes.toList (cl ρ a) st:=by simp only[j8,h3,f,j9]
   rw[b];exact .val (Eu h h4 h2)
  ·rename_i f;obtain⟨a,h1,h2⟩:=cA hk;obtain⟨h3,h4⟩:=nl he h1;exact .recover h2 (by simp only[j8,h3,f,j9])
  ·exact d hk
 ·rename_i c;obtain⟨a,h1,h2⟩:=cA hk;obtain⟨h3,h4⟩:=nl he h1;split at h2
  ·rename_i F f;obtain⟨v,D2,h2⟩:=cA h2;obtain⟨F8,Ru⟩:=he _ _ D2;unfold SV at h2;split at h2
   ·rename_i D first e
    cases Ru with
    |fn r s=>exact .defer _ h2 ⟨s,eV.append r h4⟩ (by simp only[j8,h3,f,F8,erase,Co,jq,fC])
   ·exact h2.elim
  ·exact h2.elim
 ·split at hk
  ·rename_i E v B;obtain⟨h3,h4⟩:=he _ _ B;exact .eH _ hk h4 (by simp only[j8,h3,erase])
  ·exact hk.elim
 ·split at hk
  ·obtain⟨v,h1,h2⟩:=cA hk;obtain⟨h3,h4⟩:=he _ _ h1;refine .val ?_;have:=Ha (C:=C) (ρ:=ρ) h h2;simpa only[j8,h3]using this
  ·exact d hk
 ·rename_i E z c;obtain⟨v,h1,h2⟩:=cA hk;obtain⟨G,g,w⟩:=cA h2;obtain⟨h3,_⟩:=he _ _ h1;obtain⟨Y,_⟩:=he _ _ g;have b:j8 C mK {dst:=dst,op:=.makeSlice E z c,type:=p,pos:=pos,after:=j,guard:=l} st=jn C E (erase ρ v) (erase ρ G) st:=by simp only[j8,h3,Y]
  rw[b];exact .val (Ac h w)
 ·split at hk
  ·exact .val (Jr h he hk)
  ·exact d hk
end
structure Ry (rc BW:Rec):Prop where
 code:∀fc c fr ps st r,rc.code fc c fr ps st=some r->BW.code fc c fr ps st=some r
 call:∀f args DZ ps st r,rc.call f args DZ ps st=some r->BW.call f args DZ ps st=some r
 round:∀l args st r,rc.round l args st=some r->BW.round l args st=some r
variable{J:dW} {U:AK} {N:FC} {I:List Oper} {G:CR×dW×St}
section
variable{C:dR} {rc BW:Rec} {cF:ql}
theorem L5(e:Ry rc BW){o:Oper}{st:St}(c:nT C rc N o O J st=some U):nT C BW N o O J st=some U:=by
 unfold nT at c⊢;cases d:j8 C (jy O) o st with
 |none=>rw[d]at c;cases c
 |some i=>
  rw[d]at c;cases i with
  |enter f a=>
   simp only at c⊢;cases b:rc.call f a false .none st with
   |none=>rw[b]at c;cases c
   |some h=>rw[b]at c;rw[e.call _ _ _ _ _ _ b];exact c
  |yield j a=>
   simp only at c⊢;cases b:rc.round j a st with
   |none=>rw[b]at c;cases c
   |some h=>rw[b]at c;rw[e.round _ _ _ _ b];exact c
  |_=>exact c
theorem qH(d:Ry rc BW){o:Oper}{st:St}(a:kg C rc N I o O J st=some U):kg C BW N I o O J st=some U:=by
 unfold kg at a⊢;cases c:gC I O o with
 |none=>rw[c]at a;cases a
 |some b=>
  rw[c]at a;cases b with
  |true=>exact L5 d a
  |false=>exact a
theorem AZ(j:Ry rc BW):∀(e:List Oper) {b:Fr} {a:dW} {st:St} {f:Ex×Fr×dW×St},pC C rc N I e b a st=some f->pC C BW N I e b a st=some f:=by
 intro e;induction e with
 |nil=>intro b a st f c;exact c
 |cons o e h=>
  intro b a st f c;unfold pC at c⊢;cases d:kg C rc N I o b a st with
  |none=>rw[d]at c;cases c
  |some i=>
   rw[d]at c;rw[qH j d];cases i with
   |next b a st=>exact h c
   |eH k b a st=>exact c
theorem yD(Y:Ry rc BW){q:List Nat}:∀(t:List Nat) {b:Nat} {c:List tJ} {f:Fr} {e:dW} {st:St} {v:Ex×Fr×dW×St},eM C rc N I q t b c f e st=some v->eM C BW N I q t b c f e st=some v:=by
 intro t;induction t with
 |nil=>intro b c f e st v a;exact a
 |cons i t h=>
  intro b c f e st v a;unfold eM at a⊢;split at a
  ·rename_i o V m l;split at a
   ·rename_i k;split at a
    ·cases a
    ·rename_i j;cases d:kg C rc N I o f e st with
     |none=>rw[d]at a;cases a
     |some D=>
      rw[d]at a;simp only[m,l,k,j,qH Y d];cases D with
      |next f e st=>exact h a
      |eH z f e st=>exact a
   ·rename_i k;split at a
    ·cases a
    ·rename_i j;split at a
     ·rename_i r d;first|exact h a|(simp only[m,l,k,j,d];exact h a)
     ·cases a
    ·rename_i j;split at a
     ·rename_i z x d;split at a
      ·cases a
      ·rename_i r s;split at a
       ·rename_i n;split at a
        ·rename_i T p;first|exact h a|(simp only[m,l,k,j,d,s,n,p];exact h a)
        ·cases a
       ·rename_i n;split at a
        ·rename_i p;first|exact h a|(simp only[m,l,k,j,d,s,n,p];exact h a)
        ·cases a
     ·cases a
  ·cases a
theorem Ju(e:Ry rc BW){a:Array Oper}{st:St}{d:Ex×Fr×dW×St}(c:region C rc N a A O J st=some d):region C BW N a A O J st=some d:=by
 unfold region at c⊢;cases A with
 |false=>exact AZ e _ c
 |true=>
  simp only at c⊢;cases b:eM C rc N a.toList (rH a.toList).bs (rH a.toList).order 0 [] O J st with
  |none=>rw[b]at c;cases c
  |some f=>rw[b]at c;rw[yD e _ b];exact c
theorem gN(x:Ry rc BW):∀(c:Code) {f:Fr} {d:dW} {st:St} {k:Ex×Fr×dW×St},code C rc N c f d st=some k->code C BW N c f d st=some k:=by
 intro c;induction c with
 |region id D v=>intro f d st k a;exact Ju x a
 |seq z b h j=>
  intro f d st k a;unfold code at a⊢;cases e:code C rc N z f d st with
  |none=>rw[e]at a;cases a
  |some l=>
   rw[e]at a;rw[h e];obtain⟨l,m,r,i⟩:=l;cases l with
   |norm=>exact j a
   |_=>exact a
 |cond c z b h j=>
  intro f d st k a;unfold code at a⊢;split at a
  ·exact h a
  ·exact j a
  ·cases a
 |block id b p=>
  intro f d st k a;unfold code at a⊢;cases e:code C rc N b f d st with
  |none=>rw[e]at a;cases a
  |some l=>rw[e]at a;rw[p e];exact a
 |loop b p=>
  intro f d st k a;unfold code at a⊢;cases e:code C rc N b f d st with
  |none=>rw[e]at a;cases a
  |some l=>
   rw[e]at a;rw[p e];obtain⟨l,m,r,i⟩:=l;cases l with
   |norm=>exact x.code _ _ _ _ _ _ a
   |_=>exact a
 |rangeFunc w s q t=>
  intro f d st k a;unfold code at a⊢;split at a
  ·rename_i V first o u m i e T
   split at a
   ·cases a
   ·rename_i g Y;cases n:rc.call V (first.toList++[.func (.yield u) #[] #[]]++o.toList) false .none i with
    |none=>rw[n]at a;cases a
    |some l=>rw[n]at a;rw[x.call _ _ _ _ _ _ n];exact a
  ·cases a
 |_=>intro f d st k a;exact a
theorem yE(k:Ry rc BW):∀(c:List Deferred) {m:AM.Mode} {st:St} {d:AM.Mode×St},kB C rc c m st=some d->kB C BW c m st=some d:=by
 intro c;induction c with
 |nil=>intro m st d a;exact a
 |cons n c b=>
  intro m st d a;unfold kB at a⊢;split at a
  ·split at a
   ·exact b a
   ·cases a
  ·rename_i o f _;split at a
   ·rename_i l p j i h e;rw[h,k.call _ _ _ _ _ _ e];exact b a
   ·cases a
  ·cases a
theorem qI(d:Ry rc BW){c:FI}{m:AM.Mode}{st:St}(b:finish C rc c m O J st=some G):finish C BW c m O J st=some G:=by
 unfold finish at b⊢;cases a:kB C rc O.df m st with
 |none=>rw[a]at b;cases b
 |some e=>rw[a]at b;rw[yE d _ a];exact b
theorem L6(d:Ry rc BW){f:FuncId}{st:St}(a:yg C rc f F A J st=some G):yg C BW f F A J st=some G:=by
 unfold yg at a⊢;split at a
 ·cases a
 ·rename_i c l;split at a
  ·cases a
  ·rename_i k;cases b:code C rc ⟨f,c.nt,none,A⟩ c.body ⟨eE 0 F .nil,[]⟩ J st with
   |none=>rw[b]at a;cases a
   |some e=>
    rw[b]at a;rw[gN d _ b];obtain⟨e,h,j,i⟩:=e;cases e with
    |norm=>exact qI d a
    |ret=>exact qI d a
    |panic m=>exact qI d a
    |exit id=>cases a
theorem Jv(n:Ry rc BW){l:Nat}{st:St}{k:CR×St}(a:ug C rc l F st=some k):ug C BW l F st=some k:=by
 unfold ug at a⊢;split at a
 ·rename_i b p;split at a
  ·cases a
  ·cases a
  ·rename_i s j r o;simp only at a⊢;cases d:code C rc ⟨b.fn,b.nt,some l,false⟩ b.assign ⟨j,[]⟩ .none st with
   |none=>rw[d]at a;cases a
   |some i=>
    rw[d]at a;rw[gN n _ d];obtain⟨i,f,m,e⟩:=i;cases i with
    |norm=>
     simp only at a⊢;split at a
     ·rename_i h q;split at a
      ·cases c:code C rc ⟨b.fn,b.nt,some l,false⟩ b.body f .none (e.put l (.loop {h with state:=.busy}))with
       |none=>rw[c]at a;cases a
       |some t=>rw[c]at a;rw[gN n _ c];exact a
      ·cases a
     ·cases a
    |_=>exact a
 ·cases a
theorem PS:∀n,Ry (jN C cF n) (jN C cF (n+1)):=by
 intro n;induction n with
 |zero=>exact⟨fun _ _ _ _ _ _ a=>(by cases a),fun _ _ _ _ _ _ a=>(by cases a),fun _ _ _ _ a=>(by cases a)⟩
 |succ n b=>
  refine⟨fun i c j e st f a=>gN b c a,fun k d h e st f a=>?_,fun l d st f a=>Jv b a⟩;simp only[jN]at a⊢;split at a
  ·exact a
  ·split at a
   ·exact a
   ·exact L6 b a
  ·exact L6 b a
theorem hG{n m:Nat}(c:n<=m):Ry (jN C cF n) (jN C cF m):=by
 induction c with
 |refl=>exact⟨fun _ _ _ _ _ _ a=>a,fun _ _ _ _ _ _ a=>a,fun _ _ _ _ a=>a⟩
 |step _ b=>
  have:=PS (C:=C) (cF:=cF) ‹_›;exact⟨fun _ _ _ _ _ _ a=>this.code _ _ _ _ _ _ (b.code _ _ _ _ _ _ a),fun _ _ _ _ _ _ a=>this.call _ _ _ _ _ _ (b.call _ _ _ _ _ _ a),fun _ _ _ _ a=>this.round _ _ _ _ (b.round _ _ _ _ a)⟩
end
end Go.VM
