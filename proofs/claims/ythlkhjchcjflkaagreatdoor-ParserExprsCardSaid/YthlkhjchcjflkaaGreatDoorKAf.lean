/- Part of the proof. -/
import Derived.Test.YthlkhjchcjflkaaGreatDoorKAa
set_option linter.all false
set_option maxHeartbeats 16000000
set_option maxRecDepth 100000
open Nat renaming ne_of_lt->Yl,ble_eq_true_of_le->Yn,beq->Yo,eq_of_beq_eq_true->Yp,lt_succ_of_lt->Yw,lt_of_lt_of_le->YC,lt_irrefl->YD,succ_le_succ->YE,blt->YF,le_of_ble_eq_true->YI,zero_le->YN
open List renaming map_congr_left->Ym,mem_cons->Yq,flatten_cons->Yr,cons_append->Ys,length_append->Yu,getElem?_eq_some_iff->Yv,map_cons->Yx,length_drop->Yy,length_cons->Yz,mem_of_mem_take->YA,mem_of_mem_drop->YB,map_take->YG,map_drop->YH,toArray->YJ,getElem?_eq_none->YK,mem_of_getElem?->YL,take_succ_cons->YO,drop_succ_cons->YP
open Int renaming ofNat->Yt,ofNat_eq_natCast->YM,negSucc_lt_zero->YQ
namespace Go.VM
open Go.AM
inductive D where
 |bool (b:Bool)
 |int (k:IntKind) (n:Int)
 |str (s:List UInt8)
 |DZ
 |cC
 |BY
 |D0
 |wa
 |ps (b o es cap:Nat) (els:List (List D))
inductive V where
 |d (x:D)
 |bp (i f:Nat)
 |ptr (i es k f:Nat)
 |fp (b off:Nat) (cs:List D)
 |ms (i es k len cap:Nat)
 |map (i:Nat)
 |fn (f:Nat) (first S4:List V)
 |so (l:Nat)
 |iface (t:Nat) (v:V)
 |agg (l:List V)
 |dN (l:List V)
def cH:D->Value
 |.bool b=>.bool b
 |.int d n=>.int d n
 |.str c=>.string ⟨⟨c⟩⟩
 |.DZ=>.pointer none
 |.cC=>.slice none 0 0
 |.BY=>.map none
 |.D0=>.nilFunc
 |.wa=>.nilIface
 |.ps b o _ a els=>.slice (some ⟨b,o,none⟩) els.length a
mutual
def erase(ρ:Nat->Nat):V->Value
 |.d x=>cH x
 |.bp i f=>.pointer (some ⟨ρ i,f,none⟩)
 |.ptr i es k f=>.pointer (some ⟨ρ i,k*es+f,none⟩)
 |.fp b off _=>.pointer (some ⟨b,off,none⟩)
 |.ms i es k len cap=>.slice (some ⟨ρ i,k*es,none⟩) len cap
 |.map i=>.map (some (ρ i))
 |.fn f first S4=>.func (.func f) ⟨cx ρ first⟩ ⟨cx ρ S4⟩
 |.so l=>.func (.yield (ρ l)) #[] #[]
 |.iface t v=>.iface t (erase ρ v)
 |.agg l=>.agg ⟨cx ρ l⟩
 |.dN l=>.tuple ⟨cx ρ l⟩
def cx(ρ:Nat->Nat):List V->List Value
 |[]=>[]
 |v::l=>erase ρ v::cx ρ l
end
inductive QE where
 |D1 (r:Nat)
 |fn (f:Nat) (S4:List V)
structure gd where
 target:QE
 args:List V
structure jT where
 state:LoopState
 pending:Option Code
 fn:FuncId
 tm:List (Nat×V)
 nt:Nat
 params:List Tmp
 assign:Code
 body:Code
 defers:Nat
 fz:Nat->Bool
structure qx where
 key:V
 val:V
 born:Nat
inductive cU where
 |box (cs:List V)
 |row (es:Nat) (els:List (List V))
 |map (es:List qx) (clock:Nat)
 |loop (l:jT)
 |fg (taken:Bool)
 |gone
abbrev VS:=List cU
inductive mg where
 |none
 |gu (v:V)
 |qn
inductive Ab where
 |norm
 |exit (id:Nat)
 |ret
 |panic (v:V)
inductive cZ where
 |ret (v:V)
 |fO (v:V)
structure uw where
 fn:FuncId
 nt:Nat
 round:Option Nat
 BG:Bool
 fz:Nat->Bool
 fl:Nat
inductive VR where
 |val (v:V) (σ:VS)
 |fO (v:V)
 |enter (f:FuncId) (args:List V)
 |yield (l:Nat) (args:List V)
 |recover
 |defer (d:gd)
def hA:V->Bool
 |.agg _=>false
 |.dN _=>false
 |_=>true
def Sl:Value->Option D
 |.bool b=>some (.bool b)
 |.int c n=>some (.int c n)
 |.string a=>some (.str a.data.toList)
 |.pointer none=>some .DZ
 |.slice none 0 0=>some .cC
 |.map none=>some .BY
 |.nilFunc=>some .D0
 |.nilIface=>some .wa
 |_=>none
def ux:List Value->Option (List V)
 |[]=>some []
 |v::b=>match Sl v,ux b with
  |some a,some c=>some (.d a::c)
  |_,_=>none
def Sm:Value->Option V
 |.agg ⟨b⟩=>match ux b with
  |some c=>some (.agg c)
  |none=>none
 |v=>match Sl v with
  |some a=>some (.d a)
  |none=>none
def gf:List (Nat×V)->Nat->Option V
 |[],_=>none
 |(a,b)::c,n=>match Yo a n with
  |true=>some b
  |false=>gf c n
def CU(a:List (Nat×V)):Operand->Option V
 |.tmp d=>gf a d
 |.const c=>Sm c
 |.global _=>none
 |.func b=>some (.fn b [] [])
def dO{a:Type}(o:Option a)(b:a->Prop):Prop:=
 match o with
 |some c=>b c
 |none=>False
def hT(p a:Prop)(b:Bool):Prop:=
 match b with
 |true=>p
 |false=>a
def jI(p:Prop)(a:Prop):Prop:=p/\a
def ef:V->List V
 |.agg a=>a
 |v=>[v]
def N7:Nat->List V->(List V->Prop)->Prop
 |0,_,a=>a []
 |_+1,[],_=>False
 |n+1,b::d,a=>N7 n d fun c=>a (b::c)
def N8:List V->Nat->Nat->(List V->Prop)->Prop
 |e,0,n,a=>N7 n e a
 |[],_+1,_,_=>False
 |_::c,b+1,n,a=>N8 c b n a
def I2:Nat->List D->(List V->Prop)->Prop
 |0,_,a=>a []
 |_+1,[],_=>False
 |n+1,b::d,a=>I2 n d fun c=>a (.d b::c)
def I3:Nat->List D->(List D->Prop)->Prop
 |0,b,a=>a b
 |_+1,[],_=>False
 |n+1,_::c,a=>I3 n c a
def Ac:List V->Nat->List V->(List V->Prop)->Prop
 |c,0,[],d=>d c
 |[],0,_::_,_=>False
 |_::c,0,f::a,d=>Ac c 0 a fun b=>d (f::b)
 |[],_+1,_,_=>False
 |x::c,e+1,a,d=>Ac c e a fun b=>d (x::b)
def N9:VS->cU->Nat->(Nat->VS->Prop)->Prop
 |[],o,i,a=>a i [o]
 |x::d,o,i,a=>N9 d o (i+1) fun c b=>a c (x::b)
def yT:VS->Nat->cU->(VS->Prop)->Prop
 |[],_,_,_=>False
 |_::a,0,o,b=>b (o::a)
 |x::a,i+1,o,b=>yT a i o fun c=>b (x::c)
def BZ(σ:VS)(o:cU)(b:Nat->VS->Prop):Prop:=N9 σ o 0 fun i a=>sx i fun i=>b i a
def QF(a:Bool)(c:List V)(b:V->Prop):Prop:=
 match a with
 |true=>b (.agg c)
 |false=>match c with
  |[d]=>b d
  |_=>False
def Sn(els:List (List V))(a:Nat)(c:List V->Prop):Prop:=∃b,nth els a=some b/\c b
def Gr(n:Int)(a:Nat->Prop):Prop:=∃m:Nat,n=Yt m/\a m
def Oa(n:Nat)(a:Bool)(l:V)(σ:VS)(h:V->Prop):Prop:=
 match l with
 |.bp i e=>match nth σ i with
  |some (.box b)=>N8 b e n fun c=>QF a c h
  |_=>False
 |.ptr i es f e=>match nth σ i with
  |some (.row d els)=>match Yo es d with
   |true=>Sn els f fun m=>N8 m e n fun c=>QF a c h
   |false=>False
  |_=>False
 |.fp _ _ b=>I2 n b fun c=>QF a c h
 |_=>False
def KK(C:eD)(t:TypeId)(b:V)(σ:VS)(c:V->Prop):Prop:=
 match C.tt.get t with
 |some a=>match a.agg||Yo a.size 1 with
  |true=>Oa a.size a.agg b σ c
  |false=>False
 |none=>False
def k5(C:eD)(t:TypeId)(n d:V)(σ:VS)(m:VS->Prop):Prop:=
 match C.tt.get t with
 |some e=>match Yo (ef d).length e.size&&(ef d).all hA with
  |true=>match n with
   |.bp i f=>match nth σ i with
    |some (.box h)=>Ac h f (ef d) fun b=>yT σ i (.box b) m
    |_=>False
   |.ptr i es a f=>match nth σ i with
    |some (.row c els)=>match Yo es c with
     |true=>Sn els a fun o=>Ac o f (ef d) fun l=>yT σ i (.row es (els.set a l)) m
     |false=>False
    |_=>False
   |_=>False
  |false=>False
 |none=>False
def Ad(ev:Operand->Option V):List (Nat×Operand)->Option (List (Nat×V))
 |[]=>some []
 |(i,a)::d=>match ev a,Ad ev d with
  |some c,some b=>some ((i,c)::b)
  |_,_=>none
def uQ(ev:Operand->Option V):List Operand->Option (List V)
 |[]=>some []
 |x::c=>match ev x,uQ ev c with
  |some b,some a=>some (b::a)
  |_,_=>none
def Gs(a:Nat->Option (Nat×Nat)):List V->List (Nat×V)->(List V->Prop)->Prop
 |cells,[],f=>f cells
 |cells,(i,h)::b,f=>
  match a i with
  |none=>False
  |some (e,d)=>match Yo (ef h).length d with
   |true=>Ac cells e (ef h) fun c=>Gs a c b f
   |false=>False
def I4(C:eD)(t:TypeId)(e:List (Nat×V))(l:V->Prop):Prop:=
 match C.tt.get t with
 |some b=>
  match b.desc with
  |.struct a=>
   match(a.toList.all fun m=>(C.tt.get m.type).isSome),b.agg,ux b.zero with
   |true,true,some h=>Gs (hJ C a) h e fun c=>l (.agg c)
   |_,_,_=>False
  |.array _ d=>
   match C.tt.get d,b.agg,ux b.zero with
   |some f,true,some h=>Gs (fun i=>some (i*f.size,f.size)) h e fun c=>l (.agg c)
   |_,_,_=>False
  |_=>False
 |none=>False
def u7(a:List V):Nat->List (List V)
 |0=>[]
 |n+1=>a::u7 a n
def D2(a:Nat):List (List V)->List (Nat×V)->Option (List (List V))
 |els,[]=>some els
 |els,(i,c)::b=>match Yo (ef c).length a&&YF i els.length&&(ef c).all hA with
  |true=>D2 a (els.set i (ef c)) b
  |false=>none
def CV(C:eD)(ev:Operand->Option V):Op->Option cU
 |.alloc f=>match C.tt.get f with
  |some b=>match ux b.zero,Yo b.zero.length b.size with
   |some e,true=>some (.box e)
   |_,_=>none
  |none=>none
 |.box _ i=>match ev i with
  |some h=>match(ef h).all hA with
   |true=>some (.box (ef h))
   |false=>none
  |none=>none
 |.makeMap _ none=>some (.map [] 0)
 |.buildSlice f len d=>match Ad ev d.toList,C.tt.get f with
  |some l,some b=>match b.desc with
   |.slice c=>match C.tt.get c with
    |some a=>match YF 0 a.size&&Nat.ble (len*a.size) 16777216&&Yo a.zero.length a.size,ux a.zero with
     |true,some e=>match D2 a.size (u7 e len) l with
      |some els=>some (.row a.size els)
      |none=>none
     |_,_=>none
    |none=>none
   |_=>none
  |_,_=>none
 |_=>none
def S5:Op->cU->Nat->Option V
 |.alloc _,.box _,i=>some (.bp i 0)
 |.box _ _,.box _,i=>some (.bp i 0)
 |.makeMap _ _,.map _ _,i=>some (.map i)
 |.buildSlice _ len _,.row es _,i=>some (.ms i es 0 len len)
 |_,_,_=>none
def q7:List V->Option (List D)
 |[]=>some []
 |.d a::c=>match q7 c with
  |some b=>some (a::b)
  |none=>none
 |_::_=>none
def pC:List (List V)->Option (List (List D))
 |[]=>some []
 |e::c=>match q7 e,pC c with
  |some a,some b=>some (a::b)
  |_,_=>none
def mA:Op->Bool
 |.buildSlice _ _ _=>true
 |_=>false
def Ob(C:eD)(e:Bool)(ev:Operand->Option V)(a:Op)(σ:VS)(f:V->VS->Prop):Prop:=
 match CV C ev a with
 |some c=>match e&&mA a with
  |true=>match c with
   |.row es els=>match pC els with
    |some h=>∀b:Nat,f (.d (.ps b 0 es h.length h)) σ
    |none=>False
   |_=>False
  |false=>BZ σ c fun i d=>dO (S5 a c i) fun l=>f l d
 |none=>False
def xG(a:V)(b:V->Prop):Prop:=
 match a with
 |.bp _ _=>b a
 |.ptr _ _ _ _=>b a
 |.fp _ _ _=>b a
 |.iface _ _=>b a
 |.fn _ _ _=>b a
 |.so _=>b a
 |_=>False
def b0(b:Bool):V:=.d (.bool b)
def D3(e:BinOp)(a:IntKind)(c b:Int)(d:V->Prop):Prop:=
 match e with
 |.add=>d (.d (.int a (a.wrap (c+b))))
 |.sub=>d (.d (.int a (a.wrap (c-b))))
 |.mul=>d (.d (.int a (a.wrap (c*b))))
 |.quo=>jI (b≠0) (d (.d (.int a (a.wrap (c.tdiv b)))))
 |.rem=>jI (b≠0) (d (.d (.int a (c.tmod b))))
 |.and=>d (.d (.int a (a.wrap (BitVec.ofInt a.bits c&&&BitVec.ofInt a.bits b).toNat)))
 |.or=>d (.d (.int a (a.wrap (BitVec.ofInt a.bits c|||BitVec.ofInt a.bits b).toNat)))
 |.xor=>d (.d (.int a (a.wrap (BitVec.ofInt a.bits c^^^BitVec.ofInt a.bits b).toNat)))
 |.andNot=>d (.d (.int a (a.wrap (BitVec.ofInt a.bits c&&& ~~~ BitVec.ofInt a.bits b).toNat)))
 |.eql=>d (b0 (decide (c=b)))
 |.neq=>d (b0 (!(decide (c=b))))
 |.lss=>d (b0 (decide (c<b)))
 |.leq=>d (b0 (decide (c<=b)))
 |.gtr=>d (b0 (decide (b<c)))
 |.geq=>d (b0 (decide (b<=c)))
 |_=>False
def Oc(c:BinOp)(a:IntKind)(d b:Int)(e:V->Prop):Prop:=
 Gr b fun n=>match c with
  |.shl=>e (.d (.int a (a.wrap (d*2^(min n a.bits)))))
  |.shr=>e (.d (.int a (d.fdiv (2^(min n a.bits)))))
  |_=>False
def D4(d:BinOp)(a b:List UInt8)(c:V->Prop):Prop:=
 match d with
 |.add=>jI (a.length+b.length<=1099511627776) (c (.d (.str (a++b))))
 |.eql=>c (b0 (decide (a=b)))
 |.neq=>c (b0 (!(decide (a=b))))
 |.lss=>c (b0 (cK a b))
 |.leq=>c (b0 (cK a b||decide (a=b)))
 |.gtr=>c (b0 (!(cK a b||decide (a=b))))
 |.geq=>c (b0 (!(cK a b)))
 |_=>False
def D5:V->Option (Nat×Bool)
 |.d .DZ=>some (0,true)
 |.bp _ _=>some (0,false)
 |.ptr _ _ _ _=>some (0,false)
 |.fp _ _ _=>some (0,false)
 |.d .cC=>some (1,true)
 |.d (.ps _ _ _ _ _)=>some (1,false)
 |.ms _ _ _ _ _=>some (1,false)
 |.d .BY=>some (2,true)
 |.map _=>some (2,false)
 |.d .D0=>some (3,true)
 |.fn _ _ _=>some (3,false)
 |.so _=>some (3,false)
 |.d .wa=>some (4,true)
 |.iface _ _=>some (4,false)
 |_=>none
def Gt:TypeDesc->Option Nat
 |.pointer _=>some 0
 |.slice _=>some 1
 |.map _ _=>some 2
 |.func _ _ _=>some 3
 |.interface _=>some 4
 |_=>none
def V1(C:eD)(t:TypeId)(o n:Operand)(a b:V)(h:Bool->Prop):Prop:=
 match a,b with
 |.d (.bool d),.d (.bool q)=>match C.tt.get t with
  |some c=>match c.desc with
   |.bool=>h (d==q)
   |_=>False
  |none=>False
 |.agg l,.agg m=>match q7 l,q7 m with
  |some l,some m=>∃p,Lw C t o n (.agg ⟨l.map cH⟩) (.agg ⟨m.map cH⟩)=some p/\h p
  |_,_=>False
 |a,b=>match C.tt.get t,D5 a,D5 b with
  |some c,some (f,d),some (i,q)=>match Gt c.desc with
   |some e=>match Yo e f&&Yo e i&&(d||q)&&(!(d&&q)|| !(Yo e 4)||kf o||kf n)with
    |true=>h (d&&q)
    |false=>False
   |none=>False
  |_,_,_=>False
def S6(C:eD)(c:BinOp)(t:TypeId)(l i:Operand)(a b:V)(f:V->Prop):Prop:=
 match a,b with
 |.d (.int d m),.d (.int e n)=>match ze c with
  |true=>Oc c d m n f
  |false=>match sp d e with
   |true=>D3 c d m n f
   |false=>False
 |.d (.str m),.d (.str n)=>D4 c m n f
 |a,b=>match c with
  |.eql=>V1 C t l i a b fun h=>f (b0 h)
  |.neq=>V1 C t l i a b fun h=>f (b0 (!h))
  |_=>False
def Wn(c:UnOp)(e:V)(d:V->Prop):Prop:=
 match c,e with
 |.neg,.d (.int a n)=>d (.d (.int a (a.wrap (0-n))))
 |.xor,.d (.int a n)=>d (.d (.int a (a.wrap (BitVec.ofInt a.bits (if a.signed then-1 else a.max)^^^BitVec.ofInt a.bits n).toNat)))
 |.not,.d (.bool b)=>d (b0 (!b))
 |_,_=>False
def hK(c:UInt8):V:=.d (.int .u8 (Yt c.toNat))
def uR(c:UInt8):D:=.int .u8 (Yt c.toNat)
def Ae(C:eD)(src a:TypeId)(l:V)(σ:VS)(d:V->Prop):Prop:=
 match C.tt.get src,C.tt.get a with
 |some p,some m=>
  match p.desc,m.desc with
  |.int _,.int e=>match l with
   |.d (.int _ n)=>d (.d (.int e (e.wrap n)))
   |_=>False
  |.string,.string=>match l with
   |.d (.str s)=>d (.d (.str s))
   |_=>False
  |.slice q,.string=>
   match C.tt.get q with
   |some o=>match o.desc with
    |.int .u8=>match l with
     |.d .cC=>d (.d (.str []))
     |.d (.ps _ _ es _ els)=>∃f:List UInt8,es=1/\els=(f.map fun c=>[uR c])/\d (.d (.str f))
     |.ms i es b len _=>match nth σ i with
      |some (.row h els)=>∃f:List UInt8,es=1/\h=1/\(els.drop b).take len=(f.map fun c=>[hK c])/\b+len<=els.length/\d (.d (.str f))
      |_=>False
     |_=>False
    |_=>False
   |none=>False
  |_,_=>False
 |_,_=>False
def I5(C:eD)(f:Bool)(src a:TypeId)(o:V)(σ:VS)(n:V->VS->Prop):Prop:=
 match C.tt.get src,C.tt.get a with
 |some m,some h=>
  match m.desc,h.desc,o with
  |.string,.slice p,.d (.str d)=>
   match C.tt.get p with
   |some l=>match l.desc with
    |.int .u8=>match f with
     |true=>∀b:Nat,n (.d (.ps b 0 1 d.length (d.map fun c=>[uR c]))) σ
     |false=>BZ σ (.row 1 (d.map fun c=>[hK c])) fun i e=>n (.ms i 1 0 d.length d.length) e
    |_=>False
   |none=>False
  |_,_,_=>False
 |_,_=>False
def QG(C:eD)(a:TypeId):Bool:=
 match C.tt.get a with
 |some b=>match b.desc with
  |.slice _=>true
  |_=>false
 |none=>false
def oL(C:eD)(t:TypeId)(b:V)(c:V->Prop):Prop:=
 match C.tt.get t with
 |some a=>match a.desc with
  |.interface _=>False
  |_=>c (.iface t b)
 |none=>False
def kN:Option V->Nat->(Nat->Prop)->Prop
 |none,b,a=>a b
 |some (.d (.int _ n)),_,a=>Gr n a
 |_,_,_=>False
def I6(C:eD)(t:TypeId)(q:V)(lo hi e:Option V)(σ:VS)(n:V->Prop):Prop:=
 match C.tt.get t with
 |none=>False
 |some p=>
  match p.desc,q with
  |.string,.d (.str s)=>match e with
   |none=>kN lo 0 fun c=>kN hi s.length fun d=>jI (c<=d/\d<=s.length) (n (.d (.str ((s.take d).drop c))))
   |some _=>False
  |.slice f,q=>
   match C.tt.get f with
   |none=>False
   |some h=>match q with
    |.d .cC=>kN lo 0 fun c=>kN hi 0 fun d=>kN e 0 fun m=>jI (c=0/\d=0/\m=0/\(hi.isSome||e.isNone)=true) (n (.d .cC))
    |.d (.ps b o es a els)=>match e with
     |none=>kN lo 0 fun c=>kN hi els.length fun d=>jI (c<=d/\d<=els.length/\els.length<=a/\0<a/\es=h.size) (n (.d (.ps b (o+c*es) es (a-c) ((els.take d).drop c))))
     |some _=>False
    |.ms i es v len a=>match nth σ i with
     |some (.row l _)=>kN lo 0 fun c=>kN hi len fun d=>kN e a fun m=>jI (c<=d/\d<=m/\m<=a/\0<=a/\es=h.size/\l=es/\(hi.isSome||e.isNone)=true) (n (.ms i es (v+c) (d-c) (m-c)))
     |_=>False
    |_=>False
  |_,_=>False
def u9(C:eD)(q:TypeId)(p:V)(f:Nat)(n:V->Prop):Prop:=
 match C.tt.get q with
 |some l=>
  match l.desc with
  |.struct c=>match hJ C c f with
   |some (a,h)=>match YF 0 h,p with
    |true,.bp i d=>sx (d+a) fun d=>n (.bp i d)
    |true,.ptr i es m d=>sx (d+a) fun d=>n (.ptr i es m d)
    |true,.fp b o e=>I3 a e fun e=>n (.fp b (o+a) e)
    |_,_=>False
   |none=>False
  |_=>False
 |none=>False
def KL(C:eD)(t:TypeId)(d:List V)(a:Nat)(e:V->Prop):Prop:=
 match C.tt.get t with
 |some b=>match b.agg with
  |true=>N8 d a b.size fun c=>e (.agg c)
  |false=>dO (nth d a) e
 |none=>False
def I7(C:eD)(t:TypeId)(e:V)(f:Nat)(h:V->Prop):Prop:=
 match C.tt.get t,e with
 |some c,.agg d=>
  match c.desc with
  |.struct a=>match nth a.toList f with
   |some b=>KL C b.type d b.offset h
   |none=>False
  |_=>False
 |_,_=>False
def va(C:eD)(t:TypeId)(p i:V)(h:V->Prop):Prop:=
 match C.tt.get t,i with
 |some d,.d (.int _ n)=>
  match d.desc with
  |.slice a=>match C.tt.get a with
   |some c=>match p with
    |.ms l es f len _=>match Yo es c.size with
     |true=>Gr n fun m=>jI (m<len) (h (.ptr l es (f+m) 0))
     |false=>False
    |.d (.ps b o es _ els)=>match Yo es c.size with
     |true=>Gr n fun m=>∃q,nth els m=some q/\h (.fp b (o+m*es) q)
     |false=>False
    |_=>False
   |none=>False
  |.array len a=>match C.tt.get a with
   |some c=>match p with
    |.bp l e=>Gr n fun m=>jI (m<len) (sx (e+m*c.size) fun e=>h (.bp l e))
    |_=>False
   |none=>False
  |_=>False
 |_,_=>False
def I8(C:eD)(t:TypeId)(h i:V)(f:V->Prop):Prop:=
 match C.tt.get t,h,i with
 |some b,.d (.str l),.d (.int _ n)=>
  match b.desc with
  |.string=>Gr n fun m=>∃c,nth l m=some c/\f (hK c)
  |_=>False
 |some b,.agg e,.d (.int _ n)=>
  match b.desc with
  |.array len a=>match C.tt.get a with
   |some d=>Gr n fun m=>jI (m<len) (KL C a e (m*d.size) f)
   |none=>False
  |_=>False
 |_,_,_=>False
def fR(d:TypeDesc)(a:V):List qx->Nat->Option (Option (Nat×V))
 |[],_=>some none
 |e::f,i=>
  match d,a,e.key with
  |.string,.d (.str c),.d (.str b)=>match decide (c=b)with
   |true=>some (some (i,e.val))
   |false=>fR d a f (i+1)
  |.int _,.d (.int l c),.d (.int h b)=>match sp l h,decide (c=b)with
   |true,true=>some (some (i,e.val))
   |true,false=>fR d a f (i+1)
   |false,_=>none
  |.bool,.d (.bool c),.d (.bool b)=>match c==b with
   |true=>some (some (i,e.val))
   |false=>fR d a f (i+1)
  |_,_,_=>none
def wb(σ:VS):V->Option (List qx)
 |.d .BY=>some []
 |.map a=>match nth σ a with
  |some (.map es _)=>some es
  |_=>none
 |_=>none
def D6(C:eD)(t:TypeId)(o a:V)(d:Bool)(σ:VS)(m:V->Prop):Prop:=
 match C.tt.get t with
 |none=>False
 |some f=>
  match f.desc with
  |.map h i=>
   match C.tt.get h,C.tt.get i with
   |some c,some b=>
    match qp c.desc,wb σ o with
    |true,some es=>∃l,fR c.desc a es 0=some l/\(match l with
     |some (_,n)=>m (match d with|true=>.dN [n,b0 true]|false=>n)
     |none=>dO (ux b.zero) fun e=>QF b.agg e fun e=>m (match d with|true=>.dN [e,b0 false]|false=>e))
    |_,_=>False
   |_,_=>False
  |_=>False
def pD:List qx->Nat->V->V->List qx
 |[],_,_,_=>[]
 |e::c,i,a,b=>match i with
  |0=>{e with key:=a,val:=b}::c
  |d+1=>e::pD c d a b
def q8(C:eD)(t:TypeId)(m key l:V)(σ:VS)(h:VS->Prop):Prop:=
 match C.tt.get t,m with
 |some c,.map e=>
  match c.desc with
  |.map d _=>
   match C.tt.get d,nth σ e with
   |some b,some (.map es a)=>
    match qp b.desc with
    |false=>False
    |true=>∃f,fR b.desc key es 0=some f/\(match f with
     |some (i,_)=>yT σ e (.map (pD es i key l) a) h
     |none=>yT σ e (.map (es++[{key:=key,val:=l,born:=a}]) (a+1)) h)
   |_,_=>False
  |_=>False
 |_,_=>False
def sN(C:eD)(f:V)(t:TypeId)(c:Bool)(d:V->Prop):Prop:=
 match C.tt.get t with
 |none=>False
 |some a=>
  match a.desc with
  |.interface _=>False
  |_=>
   match f with
   |.iface h e=>match Yo h t with
    |true=>d (match c with|true=>.dN [e,b0 true]|false=>e)
    |false=>match c with
     |true=>dO (ux a.zero) fun b=>QF a.agg b fun b=>d (.dN [b,b0 false])
     |false=>False
   |.d .wa=>match c with
    |true=>dO (ux a.zero) fun b=>QF a.agg b fun b=>d (.dN [b,b0 false])
    |false=>False
   |_=>False
def Af(b:V)(i:Nat)(c:V->Prop):Prop:=
 match b with
 |.dN a=>dO (nth a i) c
 |_=>False
def Od(C:eD)(a:TI)(f:V)(σ:VS)(d:List (List V)->Prop):Prop:=
 match f with
 |.d .cC=>d []
 |.d (.ps _ _ es _ els)=>jI (es=a.size) (d (els.map fun l=>l.map V.d))
 |.ms i es b len _=>match nth σ i with
  |some (.row e els)=>jI (es=a.size/\e=es/\b+len<=els.length) (match b,Yo len els.length with
   |0,true=>d els
   |_,_=>d ((els.drop b).take len))
  |_=>False
 |.d (.str h)=>jI (a.size=1) (d (h.map fun c=>[hK c]))
 |_=>False
def D7(C:eD)(n:Bool)(d:List TypeId)(h:List V)(σ:VS)(m:V->VS->Prop):Prop:=
 match d,h with
 |[v,x],[H,G]=>
  match C.tt.get v,C.tt.get x with
  |some t,some p=>
   match t.desc,p.desc with
   |_,.int _=>False
   |.slice l,_=>
    match C.tt.get l with
    |some a=>
     match YF 0 a.size&&Yo a.zero.length a.size with
     |false=>False
     |true=>Od C a G σ fun xs=>
      match H with
      |.d .cC=>jI (xs.length*a.bytes<=eE/\xs.length<=eE) (hT (m (.d .cC) σ)
       (match n with
       |true=>dO (pC xs) fun q=>∀b:Nat,m (.d (.ps b 0 a.size q.length q)) σ
       |false=>BZ σ (.row a.size xs) fun i e=>m (.ms i a.size 0 xs.length xs.length) e) (Yo xs.length 0))
      |.ms i es f len c=>match nth σ i with
       |some (.row s els)=>jI (es=a.size/\s=es/\f+len<=els.length/\len<=c/\(len+xs.length)*a.bytes<=eE/\len+xs.length<=eE) (hT (m (.ms i es f len c) σ)
        (hT False
        (yT σ i .gone fun σ=>
        (match n with
        |true=>dO (pC ((els.drop f).take len++xs)) fun q=>∀b:Nat,m (.d (.ps b 0 a.size q.length q)) σ
        |false=>BZ σ (.row a.size ((els.drop f).take len++xs)) fun D e=>m (.ms D a.size 0 (len+xs.length) (len+xs.length)) e)) (Nat.ble (len+xs.length) c)) (Yo xs.length 0))
       |_=>False
      |.d (.ps b o es c els)=>jI (els.length<=c/\xs=[]/\els.length*a.bytes<=eE/\els.length<=eE) (m (.d (.ps b o es c els)) σ)
      |_=>False
    |none=>False
   |_,_=>False
  |_,_=>False
 |_,_=>False
def S7(C:eD)(a:List TypeId)(b:List V)(σ:VS)(c:V->Prop):Prop:=
 match a,b with
 |t::_,e::_=>
  match C.tt.get t with
  |none=>False
  |some d=>
   match d.desc,e with
   |.string,.d (.str f)=>c (.d (.int .i64 (Yt f.length)))
   |.array n _,_=>c (.d (.int .i64 (Yt n)))
   |.slice _,.d .cC=>c (.d (.int .i64 (Yt 0)))
   |.slice _,.d (.ps _ _ _ _ els)=>c (.d (.int .i64 (Yt els.length)))
   |.slice _,.ms _ _ _ len _=>c (.d (.int .i64 (Yt len)))
   |.map _ _,e=>dO (wb σ e) fun es=>c (.d (.int .i64 (Yt es.length)))
   |_,_=>False
 |_,_=>False
def UI(c:Bool)(d:IntKind):Int->List V->(V->Prop)->Prop
 |a,[],e=>e (.d (.int d a))
 |a,.d (.int _ b)::f,e=>UI c d (match c with|true=>max a b|false=>min a b) f e
 |_,_::_,_=>False
def Oe(C:eD)(b:Builtin)(a:List TypeId)(c:List V)(σ:VS)(f:V->Prop):Prop:=
 match b with
 |.len=>S7 C a c σ f
 |.max=>match c with
  |.d (.int d h)::e=>UI true d h e f
  |_=>False
 |.min=>match c with
  |.d (.int d h)::e=>UI false d h e f
  |_=>False
 |_=>False
def KM(C:eD)(c:Nat)(a:List V)(σ:VS)(K:VR->Prop):Prop:=
 hT (K (.enter c a)) (match q7 a with
  |some d=>∃b,C.ext c (d.map cH)=some (cH b)/\flat (cH b)=true/\K (.val (.d b) σ)
  |none=>False) (C.ff.get c).isSome
def Ag(C:eD)(f:V)(a:List V)(σ:VS)(K:VR->Prop):Prop:=
 match f with
 |.fn c first b=>KM C c (first++a++b) σ K
 |.so d=>K (.yield d a)
 |_=>False
def Of(f:V)(args:List V)(K:VR->Prop):Prop:=
 match f with
 |.fn b first a=>K (.defer {target:=.fn b a,args:=first++args})
 |_=>False
def Og(ev:Operand->Option V):Option Operand->Option (Option V)
 |none=>some none
 |some a=>match ev a with
  |some b=>some (some b)
  |none=>none
def Ah(C:eD)(ev:Operand->Option V)(l:Op)(σ:VS)(f:V->Prop):Prop:=
 match l with
 |.move d=>dO (ev d) f
 |.pick c p b=>match ev c,ev p,ev b with
  |some (.d (.bool e)),some h,some a=>hT (f h) (f a) e
  |_,_,_=>False
 |.build e q=>dO (Ad ev q.toList) fun v=>I4 C e v f
 |.load e p=>dO (ev p) fun a=>KK C e a σ f
 |.nilCheck d=>dO (ev d) fun a=>xG a f
 |.binOp l e d x _=>dO (ev d) fun h=>dO (ev x) fun a=>S6 C l e d x h a f
 |.unOp l _ d=>dO (ev d) fun h=>Wn l h f
 |.convert G D d=>dO (ev d) fun a=>Ae C G D a σ f
 |.makeInterface e d=>dO (ev d) fun a=>oL C e a f
 |.makeFunc fn p b=>match fn with
  |.func H=>dO (uQ ev p.toList) fun h=>dO (uQ ev b.toList) fun a=>f (.fn H h a)
  |_=>False
 |.slice e d lo hi t=>dO (ev d) fun a=>dO (Og ev lo) fun v=>dO (Og ev hi) fun I=>dO (Og ev t) fun m=>I6 C e a v I m σ f
 |.fieldAddr e d s=>dO (ev d) fun a=>u9 C e a s f
 |.field e d s=>dO (ev d) fun a=>I7 C e a s f
 |.indexAddr e d i=>dO (ev d) fun h=>dO (ev i) fun a=>va C e h a f
 |.index e d i=>dO (ev d) fun h=>dO (ev i) fun a=>I8 C e h a f
 |.lookup e d i n=>dO (ev d) fun h=>dO (ev i) fun a=>D6 C e h a n σ f
 |.typeAssert d _ e n=>dO (ev d) fun a=>sN C a e n f
 |.extract d i=>dO (ev d) fun a=>Af a i f
 |.call c=>dO (uQ ev c.args.toList) fun o=>match c.callee with
   |.builtin b=>Oe C b c.argTypes.toList o σ f
   |_=>False
 |_=>False
def Wo(C:eD)(e:Bool)(ev:Operand->Option V)(op:Op)(σ:VS)(K:VR->Prop):Prop:=
 match op with
 |.assign d=>dO (ev d) fun a=>K (.val a σ)
 |.store f p d=>dO (ev p) fun a=>dO (ev d) fun o=>k5 C f a o σ fun σ=>K (.val (.dN []) σ)
 |.mapUpdate f m h a=>dO (ev m) fun m=>dO (ev h) fun h=>dO (ev a) fun a=>q8 C f m h a σ fun σ=>K (.val (.dN []) σ)
 |.insert f m h a=>dO (ev m) fun m=>dO (ev h) fun h=>dO (ev a) fun a=>q8 C f m h a σ fun σ=>K (.val (.dN []) σ)
 |.call c=>match c.callee with
  |.value l=>dO (uQ ev c.args.toList) fun b=>dO (ev l) fun a=>Ag C a b σ K
  |.builtin .append=>dO (uQ ev c.args.toList) fun b=>D7 C e c.argTypes.toList b σ fun a σ=>K (.val a σ)
  |.builtin .recover=>dO (uQ ev c.args.toList) fun _=>K .recover
  |_=>Ah C ev (.call c) σ fun a=>K (.val a σ)
 |.defer c=>dO (uQ ev c.args.toList) fun b=>match c.callee with
  |.value l=>dO (ev l) fun a=>Of a b K
  |_=>False
 |.panic d=>match ev d with
  |some (.iface f a)=>K (.fO (.iface f a))
  |_=>False
 |.convert n i d=>match QG C i with
  |true=>dO (ev d) fun a=>I5 C e n i a σ fun a σ=>K (.val a σ)
  |false=>Ah C ev (.convert n i d) σ fun a=>K (.val a σ)
 |op=>match gp op with
  |true=>Ob C e ev op σ fun a σ=>K (.val a σ)
  |false=>Ah C ev op σ fun a=>K (.val a σ)
structure Fz where
 L6:Nat->Option gz
 B0:Nat->Prop
 r4:Nat->Prop
instance:CoeFun Fz (fun _=>Nat->Option gz):=⟨Fz.L6⟩
structure Fz.le (Φ dE:Fz):Prop where
 L6:∀b o,Φ b=some o->dE b=some o
 B0:∀b o,Φ b=some o->(dE.B0 b↔Φ.B0 b)
 r4:∀f,Φ.r4 f->dE.r4 f
theorem Fz.le_refl(Φ:Fz):Φ.le Φ:=⟨fun _ _ a=>a,fun _ _ _=>Iff.rfl,fun _ a=>a⟩
theorem Fz.le.trans{l b c:Fz}(f:l.le b)(h:b.le c):l.le c:=⟨fun a e d=>h.L6 a e (f.L6 a e d),fun a e d=>(h.B0 a e (f.L6 a e d)).trans (f.B0 a e d),fun i d=>h.r4 i (f.r4 i d)⟩
inductive vb (Φ:Fz):D->Prop
 |bool (b:Bool):vb Φ (.bool b)
 |int (k:IntKind) (n:Int):vb Φ (.int k n)
 |str (s:List UInt8):vb Φ (.str s)
 |DZ:vb Φ .DZ
 |cC:vb Φ .cC
 |BY:vb Φ .BY
 |D0:vb Φ .D0
 |wa:vb Φ .wa
 |ps {b o es cap:Nat} {els:List (List D)} {c:List Value} {f p:Nat} (h:Φ b=some (.cells c es f p)) (hl:∀e∈els,e.length=es)
   (hb:o+els.length*es<=c.length) (hc:(c.drop o).take (els.length*es)=els.flatten.map cH) (hs:∀e∈els,∀d∈e,vb Φ d) (hd:Φ.B0 b):vb Φ (.ps b o es cap els)
variable{B:D}
theorem vb.mono{Φ dE:Fz}(l:Φ.le dE)(c:vb Φ B):vb dE B:=by
 induction c with
 |bool b=>exact .bool b
 |int o n=>exact .int o n
 |str m=>exact .str m
 |DZ=>exact .DZ
 |cC=>exact .cC
 |BY=>exact .BY
 |D0=>exact .D0
 |wa=>exact .wa
 |ps a f i h _ d e=>exact .ps (l.L6 _ _ a) f i h e ((l.B0 _ _ a).2 d)
inductive fJ (Φ:Fz) (m:Nat):V->Prop
 |d {x:D} (h:vb Φ x):fJ Φ m (.d x)
 |bp {i f:Nat} (h:i<m):fJ Φ m (.bp i f)
 |ptr {i es k f:Nat} (h:i<m):fJ Φ m (.ptr i es k f)
 |fp {b off:Nat} {cs:List D} {c:List Value} {e f p:Nat} (h:Φ b=some (.cells c e f p)) (hb:off+cs.length<=c.length) (hc:(c.drop off).take cs.length=cs.map cH)
   (hs:∀d∈cs,vb Φ d) (hd:Φ.B0 b):fJ Φ m (.fp b off cs)
 |ms {i es k len cap:Nat} (h:i<m):fJ Φ m (.ms i es k len cap)
 |map {i:Nat} (h:i<m):fJ Φ m (.map i)
 |fn {f:Nat} {a c:List V} (h1:∀v∈a,fJ Φ m v) (h2:∀v∈c,fJ Φ m v):fJ Φ m (.fn f a c)
 |so {l:Nat} (h:l<m):fJ Φ m (.so l)
 |iface {t:Nat} {v:V} (h:fJ Φ m v):fJ Φ m (.iface t v)
 |agg {l:List V} (h:∀v∈l,fJ Φ m v):fJ Φ m (.agg l)
 |dN {l:List V} (h:∀v∈l,fJ Φ m v):fJ Φ m (.dN l)
def fB(Φ:Fz)(m:Nat)(l:List V):Prop:=∀a∈l,fJ Φ m a
theorem fJ.mono{Φ dE:Fz}{m m':Nat}(e:Φ.le dE)(s:m<=m'){q:V}(h:fJ Φ m q):fJ dE m' q:=by
 induction h with
 |d c=>exact .d (c.mono e)
 |bp a=>exact .bp om
 |ptr a=>exact .ptr om
 |fp a i p l o=>exact .fp (e.L6 _ _ a) i p (fun d c=>(l d c).mono e) ((e.B0 _ _ a).2 o)
 |ms a=>exact .ms om
 |map a=>exact .map om
 |fn _ _ f n=>exact .fn f n
 |so a=>exact .so om
 |iface _ b=>exact .iface b
 |agg _ b=>exact .agg b
 |dN _ b=>exact .dN b
theorem fB.mono{Φ dE:Fz}{m m':Nat}(d:Φ.le dE)(a:m<=m'){l:List V}(c:fB Φ m l):fB dE m' l:=fun e b=>(c e b).mono d a
theorem ej(ρ:Nat->Nat):∀a:List V,cx ρ a=a.map (erase ρ):=by
 intro a;induction a with
 |nil=>simp[cx]
 |cons c a b=>simp[cx,b]
theorem ga(ρ:Nat->Nat)(a b:List V):cx ρ (a++b)=cx ρ a++cx ρ b:=by simp[ej]
theorem dk(ρ:Nat->Nat)(a:List V):(cx ρ a).length=a.length:=by simp[ej]
variable{j:V}
theorem yn{Φ:Fz}{m:Nat}{ρ dx:Nat->Nat}(c:∀i,i<m->dx i=ρ i)(f:fJ Φ m j):erase dx j=erase ρ j:=by
 induction f with
 |d _=>simp[erase]
 |bp a=>simp[erase,c _ a]
 |ptr a=>simp[erase,c _ a]
 |fp=>simp[erase]
 |ms a=>simp[erase,c _ a]
 |map a=>simp[erase,c _ a]
 |fn _ _ e h=>
  simp only[erase,ej];rw[Ym e,Ym h]
 |so a=>simp[erase,c _ a]
 |iface _ b=>simp[erase,b]
 |agg _ b=>simp only[erase,ej];rw[Ym b]
 |dN _ b=>simp only[erase,ej];rw[Ym b]
theorem D8{Φ:Fz}{m:Nat}{ρ dx:Nat->Nat}(d:∀i,i<m->dx i=ρ i){l:List V}(a:fB Φ m l):cx dx l=cx ρ l:=by
 rw[ej,ej];exact Ym fun c b=>yn d (a c b)
theorem D9{ρ:Nat->Nat}(a:hA j=true):gn (erase ρ j)=true:=by
 cases j with
 |d b=>cases b<;>simp[erase,cH,gn]
 |agg _=>cases a
 |dN _=>cases a
 |_=>simp[erase,gn]
def hL(Φ:Fz)(ρ:Nat->Nat)(m:Nat)(l:List (Nat×V))(a:Tr Value):Prop:=
 ∀c b,gf l c=some b->a.get c=some (erase ρ b)/\fJ Φ m b
def je(ρ:Nat->Nat)(a:gd):Deferred:=
 {target:=(match a.target with|.D1 d=>.collected (ρ d)|.fn b c=>.fn (.func b) ⟨cx ρ c⟩),args:=⟨cx ρ a.args⟩}
def Gu(Φ:Fz)(m:Nat)(a:gd):Prop:=
 (match a.target with|.D1 b=>b<m|.fn _ c=>fB Φ m c)/\fB Φ m a.args
def Ai(Φ:Fz)(ρ:Nat->Nat)(m:Nat)(l:List gd)(a:List Deferred):Prop:=a=l.map (je ρ)/\∀b∈l,Gu Φ m b
def jE(ρ:Nat->Nat)(a:qx):MapEntry:={key:=erase ρ a.key,val:=erase ρ a.val,born:=a.born}
structure Wp (Φ:Fz) (ρ:Nat->Nat) (m:Nat) (L:jT) (al:CK):Prop where
 state:al.state=L.state
 pending:al.pending=L.pending
 fn:al.fn=L.fn
 tm:hL Φ ρ m L.tm al.tm
 nt:al.nt=L.nt
 params:al.params=L.params
 assign:al.assign=L.assign
 body:al.body=L.body
 defers:al.defers=ρ L.defers
 fq:L.defers<m
def FF(Φ:Fz)(ρ:Nat->Nat)(m:Nat)(st:St)(o:cU)(b:Nat):Prop:=
 match o with
 |.box a=>(st.get b=some (.cells (cx ρ a) a.length b 0)/\st.fm.get b=none)/\fB Φ m a/\(∀f∈a,hA f=true)
 |.row es els=>(∃h n,st.get b=some (.cells (cx ρ els.flatten) es h n))/\(∀d∈els,d.length=es)/\(∀d∈els,fB Φ m d)/\(∀d∈els,∀f∈d,hA f=true)
 |.map es c=>st.get b=some (.map (es.map (jE ρ)) c)/\∀d∈es,fJ Φ m d.key/\fJ Φ m d.val
 |.loop l=>∃e,st.get b=some (.loop e)/\Wp Φ ρ m l e
 |.fg i=>st.get b=some (.fg i)
 |.gone=>True
def live:cU->Bool
 |.gone=>false
 |_=>true
structure WM (st:St):Prop where
 lt:∀f ms x,st.fm.get f=some ms->x∈ms->x<st.n
 row:∀f ms x o,st.fm.get f=some ms->x∈ms->st.get x=some o->o=.dead∨∃c e p,o=.cells c e f p
theorem WM.mem{st:St}(n:WM st):∀d a e c b h m,st.fm.get d=some a->e∈a->st.get e=some (.cells c b h m)->h=d:=by
 intro d a e c b h m f l i;rcases n.row d a e _ f l i with b|⟨_,_,_,b⟩
 ·cases b
 ·cases b;rfl
structure Real (Φ:Fz) (ρ:Nat->Nat) (σ:VS) (st:St):Prop where
 wf:WF st
 wm:WM st
 fz:∀b o,Φ b=some o->st.get b=some o
 NE:∀b,Φ b≠some .dead
 r4:∀f,Φ.r4 f->st.fm.get f=none/\f<st.n
 NF:∀x y c e f p c' e' p',Φ x=some (.cells c e f p)->Φ y=some (.cells c' e' f p')->x=y
 I9:∀i es els c e f p,σ[i]?=some (.row es els)->st.get (ρ i)=some (.cells c e f p)->¬Φ.r4 f
 obj:∀i o,σ[i]?=some o->live o=true->FF Φ ρ σ.length st o (ρ i)/\Φ (ρ i)=none
 inj:∀i j oi oj,σ[i]?=some oi->σ[j]?=some oj->live oi=true->live oj=true->ρ i=ρ j->i=j
 en:∀i es els c e f p ms x,σ[i]?=some (.row es els)->st.get (ρ i)=some (.cells c e f p)->st.fm.get f=some ms->x∈ms->x≠ρ i->
  Φ x=none/\∀j o,σ[j]?=some o->live o=true->ρ j≠x
structure iC (Φ:Fz) (ρ:Nat->Nat) (m:Nat) (dE:Fz) (dx:Nat->Nat) (m':Nat):Prop where
 le:Φ.le dE
 sg:∀i,i<m->dx i=ρ i
 len:m<=m'
theorem iC.refl(Φ:Fz)(ρ:Nat->Nat)(m:Nat):iC Φ ρ m Φ ρ m:=⟨Fz.le_refl _,fun _ _=>rfl,Nat.le_refl _⟩
theorem iC.trans{Φ a d:Fz}{ρ b c:Nat->Nat}{m f e:Nat}(h:iC Φ ρ m a b f)(l:iC a b f d c e):iC Φ ρ m d c e:=
 ⟨h.le.trans l.le,fun i hi=>(l.sg i (YC hi h.len)).trans (h.sg i hi),Nat.le_trans h.len l.len⟩
variable{y:List V}
section
variable{Φ dE:Fz} {ρ dx:Nat->Nat} {m m':Nat}
theorem iC.erase(c:iC Φ ρ m dE dx m'){b:V}(a:fJ Φ m b):erase dx b=erase ρ b:=yn c.sg a
theorem iC.cx(c:iC Φ ρ m dE dx m'){b:List V}(a:fB Φ m b):cx dx b=cx ρ b:=D8 c.sg a
theorem iC.ok(b:iC Φ ρ m dE dx m')(a:fJ Φ m j):fJ dE m' j:=a.mono b.le b.len
theorem iC.KN(b:iC Φ ρ m dE dx m')(a:fB Φ m y):fB dE m' y:=a.mono b.le b.len
theorem iC.tm(e:iC Φ ρ m dE dx m'){l:List (Nat×V)}{a:Tr Value}(h:hL Φ ρ m l a):hL dE dx m' l a:=fun f i c=>by
 obtain⟨d,b⟩:=h f i c;exact⟨by rw[d,e.erase b],e.ok b⟩
theorem iC.V2(d:iC Φ ρ m dE dx m'){e:gd}(i:Gu Φ m e):je dx e=je ρ e/\Gu dE m' e:=by
 obtain⟨h,n⟩:=e;obtain⟨a,b⟩:=i;cases h with
 |D1 f=>exact⟨by simp only[je];rw[d.sg f a,d.cx b],YC a d.len,d.KN b⟩
 |fn l c=>exact⟨by simp only[je];rw[d.cx a,d.cx b],d.KN a,d.KN b⟩
theorem iC.df(e:iC Φ ρ m dE dx m'){l:List gd}{b:List Deferred}(d:Ai Φ ρ m l b):Ai dE dx m' l b:=
 ⟨by rw[d.1];exact(Ym fun c a=>(e.V2 (d.2 c a)).1).symm,fun c a=>(e.V2 (d.2 c a)).2⟩
theorem iC.lo(c:iC Φ ρ m dE dx m'){d:jT}{b:CK}(a:Wp Φ ρ m d b):Wp dE dx m' d b:=
 ⟨a.state,a.pending,a.fn,c.tm a.tm,a.nt,a.params,a.assign,a.body,by rw[a.defers,c.sg _ a.fq],YC a.fq c.len⟩
theorem Ea{els:List (List V)}(d:∀c∈els,fB Φ m c):fB Φ m els.flatten:=fun e a=>by
 obtain⟨c,b,a⟩:=List.mem_flatten.1 a;exact d c b e a
theorem iC.UJ(i:iC Φ ρ m dE dx m'){st f:St}{o:cU}{b:Nat}(e:f.get b=st.get b)(s:∀p,o=.box p->f.fm.get b=none)(n:FF Φ ρ m st o b):FF dE dx m' f o b:=by
 cases o with
 |box p=>
  obtain⟨⟨c,C⟩,a,h⟩:=n;exact⟨⟨by rw[e,c,i.cx a],s _ rfl⟩,i.KN a,h⟩
 |row es els=>
  obtain⟨⟨x,D,c⟩,a,h,v⟩:=n;exact⟨⟨x,D,by rw[e,c,i.cx (Ea h)]⟩,a,fun l d=>i.KN (h l d),v⟩
 |map es q=>
  obtain⟨c,a⟩:=n;refine⟨?_,fun l d=>⟨i.ok (a l d).1,i.ok (a l d).2⟩⟩;rw[e,c];have:es.map (jE dx)=es.map (jE ρ):=Ym fun l d=>by
   simp only[jE];rw[i.erase (a l d).1,i.erase (a l d).2]
  rw[this]
 |loop G=>
  obtain⟨t,c,a⟩:=n;exact⟨t,by rw[e,c],i.lo a⟩
 |fg H=>exact e.trans n
 |gone=>trivial
theorem iC.obj(i:iC Φ ρ m dE dx m'){st eB:St}{o:cU}{b:Nat}(f:eB.get b=st.get b)(a:∀c h d n,st.get b=some (.cells c h d n)->st.fm.get d=none->eB.fm.get d=none)(e:FF Φ ρ m st o b):FF dE dx m' eB o b:=
 i.UJ f (fun l h=>by subst h;exact a _ _ _ _ e.1.1 e.1.2) e
end
theorem Ja(b lo hi:Nat):∀(d:List Nat) (a:Tr gz) (e:Nat),e ∉ d->(eZ b lo hi d a).1.get e=a.get e:=by
 intro d;induction d with
 |nil=>intro a e _;rfl
 |cons m d f=>
  intro a e i;have h:e≠m:=fun l=>i (by simp[l]);have c:e ∉ d:=fun l=>i (by simp[l]);unfold eZ;split
  ·exact f a e c
  ·split
   ·split
    ·rw[f _ e c,cF,if_neg h]
    ·exact f a e c
   ·exact f a e c
theorem Jb(b lo hi:Nat):∀(c:List Nat) (f:Tr gz) (e:Nat),e∈(eZ b lo hi c f).2->e∈c:=by
 intro c;induction c with
 |nil=>intro f e h;simp[eZ]at h
 |cons m c d=>
  intro f e a;unfold eZ at a;split at a
  ·rcases Yq.1 a with rfl|h
   ·simp
   ·simp[d _ e h]
  ·split at a
   ·split at a
    ·simp[d _ e a]
    ·rcases Yq.1 a with rfl|h
     ·simp
     ·simp[d _ e h]
   ·rcases Yq.1 a with rfl|h
    ·simp
    ·simp[d _ e h]
variable{w:Nat}
section
variable{st:St} {en b lo hi:Nat}
theorem Gv(c:∀a,st.fm.get en=some a->w ∉ a):(st.kill en b lo hi).get w=st.get w:=by
 unfold St.kill;split
 ·rfl
 ·rename_i a d;exact Ja b lo hi a st.hp w (c a d)
theorem tG(f:Nat):(f≠en->(st.kill en b lo hi).fm.get f=st.fm.get f)/\(st.fm.get en=none->(st.kill en b lo hi).fm.get f=st.fm.get f)/\
  (∀a,st.fm.get en=some a->∃c,(st.kill en b lo hi).fm.get en=some c/\∀i∈c,i∈a):=by
 cases d:st.fm.get en with
 |none=>rw[hz d];exact⟨fun _=>rfl,fun _=>rfl,fun a e=>by cases e⟩
 |some a=>
  rw[ig d];refine⟨fun h=>(by show(st.fm.set en _).get f=_;rw[cF,if_neg h]),fun e=>(by cases e),fun c e=>?_⟩;cases e;refine⟨_,by show(st.fm.set en _).get en=_;rw[cF,if_pos rfl],fun i l=>Jb b lo hi a st.hp i l⟩
end
theorem WM.zh{st:St}(i:WM st){b:Nat}{c l:List Value}{q f p:Nat}(m:st.get b=some (.cells c q f p)):WM (st.put b (.cells l q f p)):=by
 refine⟨i.lt,fun t d s o e h a=>?_⟩;rw[de]at a;split at a
 ·rename_i n;cases a;have:=i.mem t d s c q f p e h (n▸m);subst this;exact .inr ⟨_,_,_,Z⟩
 ·exact i.row t d s o e h a
theorem WM.xH{st:St}(n:WM st){b:Nat}{x d:gz}(p:st.get b=some d)(m:d≠.dead)(h:∀c i v C,d≠.cells c i v C):WM (st.put b x):=by
 refine⟨n.lt,fun t e s o f l a=>?_⟩;rw[de]at a;split at a
 ·rename_i q;rcases n.row t e s d f l (q▸p)with i|⟨_,_,_,i⟩
  ·exact absurd i m
  ·exact absurd i (h _ _ _ _)
 ·exact n.row t e s o f l a
theorem WM.new{st:St}(i:WM st){m:gz}:WM (st.new m):=by
 refine⟨fun l a e f c=>Yw (i.lt l a e f c),fun h a e o b c d=>?_⟩;have b:st.fm.get h=some a:=b;rw[dH,if_neg (Yl (i.lt h a e b c))]at d;exact i.row h a e o b c d
theorem WM.kill{st:St}(x:WM st){en b lo hi:Nat}:WM (st.kill en b lo hi):=by
 have n:∀h d p,(st.kill en b lo hi).fm.get h=some d->p∈d->∃a,st.fm.get h=some a/\p∈a:=by
  intro h d p c f;have t:=tG (st:=st) (en:=en) (b:=b) (lo:=lo) (hi:=hi) h;by_cases q:h=en
  ·subst q;cases i:st.fm.get h with
   |none=>rw[t.2.1 i,i]at c;cases c
   |some a=>
    obtain⟨C,l,m⟩:=t.2.2 a i;rw[l]at c;cases c;exact⟨a,Z,m p f⟩
  ·rw[t.1 q]at c;exact⟨d,c,f⟩
 refine⟨fun h d p s f=>?_,fun h d p o s f v=>?_⟩
 ·obtain⟨a,l,m⟩:=n h d p s f;rw[hQ];exact x.lt h a p l m
 ·obtain⟨a,l,m⟩:=n h d p s f;rcases jR v with e|e
  ·exact .inl e
  ·exact x.row h a p o l m e
def pE:cU->Bool
 |.box _=>true
 |.row _ _=>true
 |_=>false
variable{r:cU}
section
variable{Φ:Fz} {ρ:Nat->Nat} {σ:VS} {st:St}
theorem Real.lt(b:Real Φ ρ σ st){i:Nat}{o:cU}(hi:σ[i]?=some o)(c:live o=true):ρ i<st.n:=by
 have a:=(b.obj i o hi c).1;cases o with
 |box f=>obtain⟨⟨d,_⟩,_⟩:=a;exact b.wf.lt _ _ d
 |row es els=>obtain⟨⟨_,_,d⟩,_⟩:=a;exact b.wf.lt _ _ d
 |map es e=>exact b.wf.lt _ _ a.1
 |loop l=>obtain⟨_,d,_⟩:=a;exact b.wf.lt _ _ d
 |fg h=>exact b.wf.lt _ _ a
 |gone=>cases c
theorem Real.S8(c:Real Φ ρ σ st){b:Nat}{o:gz}(a:Φ b=some o):b<st.n:=c.wf.lt _ _ (c.fz _ _ a)
theorem Real.apart(m:Real Φ ρ σ st){i:Nat}(hi:σ[i]?=some r)(h:pE r=true){c:List Value}{s f p:Nat}(e:st.get (ρ i)=some (.cells c s f p)) 
  {ms:List Nat} (a:st.fm.get f=some ms) (l:w∈ms) (b:w≠ρ i):Φ w=none/\∀q o,σ[q]?=some o->live o=true->ρ q≠w:=by
 cases r with
 |box t=>
  obtain⟨⟨⟨n,d⟩,_⟩,_⟩:=m.obj i _ hi rfl;rw[e]at n;cases n;rw[a]at d;cases d
 |row es els=>exact m.en i es els c s f p ms w hi e a l b
 |_=>cases h
theorem Real.mB(D:Real Φ ρ σ st){i:Nat}(hi:σ[i]?=some r)(J:pE r=true){c:List Value}{I f p:Nat}(n:st.get (ρ i)=some (.cells c I f p)){t:List Value}{v h H:Nat}(C:st.get w=some (.cells t v h H))(d:w≠ρ i)(e:Φ w≠none∨∃s o,σ[s]?=some o/\live o=true/\ρ s=w):h≠f:=by
 intro q;subst q;have l:=(D.wf.en _ _ _ _ _ n).2;have a:=(D.wf.en _ _ _ _ _ C).2;unfold sB at l a;cases m:st.fm.get h with
 |none=>
  rw[m]at l a;exact d (a.trans l.symm)
 |some K=>
  rw[m]at a;obtain⟨L,b⟩:=D.apart hi J n m a d;rcases e with M|⟨s,o,G,x,I⟩
  ·exact M L
  ·exact b s o G x I
theorem tH{σ:VS}{i:Nat}{o a:cU}(hi:σ[i]?=some o)(b:Nat):(σ.set i a)[b]?=if b=i then some a else σ[b]?:=by
 rw[List.getElem?_set];have:i<σ.length:=(Yv.1 hi).1;by_cases c:i=b
 ·subst c;simp[this]
 ·rw[if_neg c,if_neg (fun d=>c d.symm)]
theorem Real.V3(M:Real Φ ρ σ st){i:Nat}{I:cU}(hi:σ[i]?=some r)(J:live r=true){eB:St}(Y:WF eB)(X:WM eB) 
  (q:∀n,n≠ρ i->(Φ n≠none∨∃d o,σ[d]?=some o/\live o=true/\ρ d=n)->eB.get n=st.get n)
  (N:∀n c f p t,n≠ρ i->(Φ n≠none∨∃d o,σ[d]?=some o/\live o=true/\ρ d=n)->st.get n=some (.cells c f p t)->eB.fm.get p=st.fm.get p)
  (U:∀p,Φ.r4 p->eB.fm.get p=none/\p<eB.n)
  (R:∀es els c f p t,I=.row es els->eB.get (ρ i)=some (.cells c f p t)->¬Φ.r4 p)
  (V:FF Φ ρ σ.length eB I (ρ i))
  (S:∀es els c f p t G n,I=.row es els->eB.get (ρ i)=some (.cells c f p t)->eB.fm.get p=some G->n∈G->n≠ρ i->Φ n=none/\∀d o,σ[d]?=some o->live o=true->ρ d≠n):
  Real Φ ρ (σ.set i I) eB:=by
 have s:=(M.obj i r hi J).2;have m:∀d o,d≠i->σ[d]?=some o->live o=true->ρ d≠ρ i:=fun d o a V D f=>a (M.inj d i o r V hi D J f);refine⟨Y,X,fun b o K=>?_,M.NE,U,M.NF,fun d es els c f p t a x=>?_,fun d o a D=>?_,fun d T j L a h P v f=>?_,fun d es els c f p t G n a x W g l=>?_⟩
 ·have l:b≠ρ i:=fun f=>by rw[f,s]at K;cases K
  rw[q b l (.inl (by rw[K];simp))];exact M.fz b o K
 ·rw[tH hi]at a;by_cases e:d=i
  ·subst e;rw[if_pos rfl]at a;cases a;exact R es els c f p t Z x
  ·rw[if_neg e]at a;rw[q _ (m d _ e a rfl) (.inr ⟨d,_,a,rfl,rfl⟩)]at x;exact M.I9 d es els c f p t a x
 ·rw[tH hi]at a;by_cases f:d=i
  ·subst f;rw[if_pos rfl]at a;cases a;exact⟨by simpa using V,s⟩
  ·rw[if_neg f]at a;have h:=M.obj d o a D;have l:=m d o f a D;refine⟨?_,h.2⟩;have:=(iC.refl Φ ρ σ.length).obj (st:=st) (eB:=eB) (q _ l (.inr ⟨d,o,a,D,rfl⟩)) (fun c f p t u k=>by rw[N _ c f p t l (.inr ⟨d,o,a,D,rfl⟩) u];exact k) h.1;simpa using this
 ·rw[tH hi]at a h;by_cases e:d=i
  ·by_cases C:T=i
   ·rw[e,C]
   ·rw[if_neg C]at h;subst e;exact absurd f.symm (m T L C h v)
  ·by_cases C:T=i
   ·rw[if_neg e]at a;subst C;exact absurd f (m d j e a P)
   ·rw[if_neg e]at a;rw[if_neg C]at h;exact M.inj d T j L a h P v f
 ·have O:(Φ n=none/\∀d o,σ[d]?=some o->live o=true->ρ d≠n)->Φ n=none/\∀d o,(σ.set i I)[d]?=some o->live o=true->ρ d≠n:=by
   rintro⟨w,b⟩;refine⟨w,fun T L h v=>?_⟩;rw[tH hi]at h;by_cases e:T=i
   ·rw[e];exact b i r hi J
   ·rw[if_neg e]at h;exact b T L h v
  rw[tH hi]at a;by_cases e:d=i
  ·subst e;rw[if_pos rfl]at a;cases a;exact O (S es els c f p t G n Z x W g l)
  ·rw[if_neg e]at a;have Q:=m d _ e a rfl;have H:=x;rw[q _ Q (.inr ⟨d,_,a,rfl,rfl⟩)]at H;rw[N _ c f p t Q (.inr ⟨d,_,a,rfl,rfl⟩) H]at W;exact O (M.en d es els c f p t G n a H W g l)
theorem Real.write(N:Real Φ ρ σ st){i:Nat}{v o':cU}(hi:σ[i]?=some v)(V:pE v=true){c c':List Value}{l f p lo hi':Nat} 
  (t:st.get (ρ i)=some (.cells c l f p))
  (R:(∃J d,v=.box J/\o'=.box d/\d.length=J.length/\c'=cx ρ d/\fB Φ σ.length d/\∀z∈d,hA z=true)∨
   (∃els a,v=.row l els/\o'=.row l a/\c'=cx ρ a.flatten/\(∀h∈a,h.length=l)/\(∀h∈a,fB Φ σ.length h)/\∀h∈a,∀z∈h,hA z=true)):
  Real Φ ρ (σ.set i o') ((st.put (ρ i) (.cells c' l f p)).kill f (ρ i) lo hi'):=by
 have L:live v=true:=by cases v<;>first|rfl|cases V
 have P:∀h,(st.put (ρ i) (.cells c' l f p)).get h=if h=ρ i then some (.cells c' l f p)else st.get h:=fun h=>de _ _ _ _
 have S:∀h,h≠ρ i->(Φ h≠none∨∃w o,σ[w]?=some o/\live o=true/\ρ w=h)->((st.put (ρ i) (.cells c' l f p)).kill f (ρ i) lo hi').get h=st.get h:=by
  intro h x q;rw[Gv,P,if_neg x];intro Q C k;obtain⟨u,b⟩:=N.apart hi V t (ms:=Q) C k x;rcases q with y|⟨w,o,E,L,l⟩
  ·exact y u
  ·exact b w o E L l
 have e:((st.put (ρ i) (.cells c' l f p)).kill f (ρ i) lo hi').get (ρ i)=some (.cells c' l f p):=by rw[Dy,P,if_pos rfl]
 have m:∀W,(st.put (ρ i) (.cells c' l f p)).fm.get W=st.fm.get W:=fun _=>rfl;have I:st.fm.get f=none->((st.put (ρ i) (.cells c' l f p)).kill f (ρ i) lo hi').fm.get f=none:=fun j=>by
  rw[(tG (st:=st.put (ρ i) (.cells c' l f p)) f).2.1 j,m,j]
 have T:WM ((st.put (ρ i) (.cells c' l f p)).kill f (ρ i) lo hi'):=(N.wm.zh t).kill;refine N.V3 hi L (WF.kill (N.wf.zh t)) T S (fun h Y M f1 g x q r=>?_) ?_ ?_ ?_ ?_
 ·have G:=N.mB hi V t r x q;rw[(tG f1).1 G,m]
 ·intro W X;obtain⟨u,b⟩:=N.r4 W X;refine⟨?_,by rw[hQ];exact b⟩;by_cases M:W=f
  ·subst M;exact I u
  ·rw[(tG (st:=st.put (ρ i) (.cells c' l f p)) W).1 M,m];exact u
 ·intro es els Y M f1 g U n;rw[e]at n;cases n;rcases R with⟨J,d,_,rfl,_⟩|⟨s,a,rfl,rfl,_⟩
  ·cases U
  ·exact N.I9 i _ s _ _ _ _ hi t
 ·rcases R with⟨J,d,rfl,rfl,L,rfl,K,H⟩|⟨els,a,rfl,rfl,rfl,K,H,B⟩
  ·obtain⟨⟨⟨y,A⟩,_⟩,_⟩:=N.obj i _ hi rfl;rw[t]at y;cases y;exact⟨⟨by rw[e,L],I A⟩,K,H⟩
  ·exact⟨⟨_,_,e⟩,K,H,B⟩
 ·intro es els Y M f1 g Q h U n C x G;rw[e]at n;cases n;rcases R with⟨J,d,_,rfl,_,_⟩|⟨s,a,rfl,rfl,_⟩
  ·cases U
  ·cases D:st.fm.get f with
   |none=>rw[I D]at C;cases C
   |some O=>
    obtain⟨F,K,H⟩:=(tG (st:=st.put (ρ i) (.cells c' l f p)) (en:=f) (b:=ρ i) (lo:=lo) (hi:=hi') f).2.2 O D;rw[K]at C;cases C;exact N.en i _ s c l f p O h hi t D (H h x) G
theorem Real.put(l:Real Φ ρ σ st){i:Nat}{f o':cU}(hi:σ[i]?=some f)(m:live f=true)(C:pE f=false)(n:pE o'=false){a:gz}(I:∀c e s v,a≠.cells c e s v) 
  (G:FF Φ ρ σ.length (st.put (ρ i) a) o' (ρ i)):Real Φ ρ (σ.set i o') (st.put (ρ i) a):=by
 have h:∀t,(st.put (ρ i) a).get t=if t=ρ i then some a else st.get t:=fun t=>de _ _ _ _
 have x:WM (st.put (ρ i) a):=by
  have p:=(l.obj i f hi m).1;cases f with
  |box L=>cases C
  |row es els=>cases C
  |map es D=>exact l.wm.xH p.1 (fun e=>by cases e) (fun _ _ _ _ e=>by cases e)
  |loop N=>obtain⟨M,K,_⟩:=p;exact l.wm.xH K (fun e=>by cases e) (fun _ _ _ _ e=>by cases e)
  |fg O=>exact l.wm.xH p (fun e=>by cases e) (fun _ _ _ _ e=>by cases e)
  |gone=>cases m
 refine l.V3 hi m ⟨fun b o d=>?_,fun b c e s v d=>?_,l.wf.Kz⟩ x (fun t H _=>by rw[h,if_neg H]) (fun _ _ _ _ _ _ _ _=>rfl) l.r4 (fun es els c e s v q=>by subst q;cases n) G ?_
 ·rw[h]at d;split at d
  ·rename_i e;rw[e];exact l.lt hi m
  ·exact l.wf.lt b o d
 ·rw[h]at d;split at d
  ·injection d with d;exact absurd d (I c e s v)
  ·exact l.wf.en b c e s v d
 ·intro es els c e s v J t q;subst q;cases n
def jM(ρ:Nat->Nat)(i b:Nat):Nat->Nat:=fun a=>if a=i then b else ρ a
theorem kP(Φ:Fz)(ρ:Nat->Nat)(m b:Nat):iC Φ ρ m Φ (jM ρ m b) (m+1):=
 ⟨Fz.le_refl _,fun i hi=>if_neg om,om⟩
theorem jU(σ:VS)(o:cU)(a:Nat):(σ++[o])[a]?=if a=σ.length then some o else σ[a]?:=by
 rw[List.getElem?_append];by_cases b:a<σ.length
 ·rw[if_pos b,if_neg om]
 ·rw[if_neg b];by_cases c:a=σ.length
  ·subst c;simp
  ·rw[if_neg c,YK (by simp;omega),YK om]
theorem Real.new(n:Real Φ ρ σ st){o:cU}{I:gz}(M:sC st I)(W:FF Φ (jM ρ σ.length st.n) (σ.length+1) (st.new I) o st.n):
  Real Φ (jM ρ σ.length st.n) (σ++[o]) (st.new I):=by
 have p:∀x,(st.new I).get x=if x=st.n then some I else st.get x:=fun x=>dH _ _ _
 have q:=kP Φ ρ σ.length st.n;have d:∀e l,σ[e]?=some l->e<σ.length:=fun e l a=>(Yv.1 a).1;have f:jM ρ σ.length st.n σ.length=st.n:=if_pos rfl;have X:Φ st.n=none:=by
  cases J:Φ st.n with
  |none=>rfl
  |some o=>exact absurd (n.S8 J) (YD _)
 have P:(st.new I).fm=st.fm:=rfl;refine⟨n.wf.new M,n.wm.new,fun b o J=>?_,n.NE,fun H S=>⟨(n.r4 H S).1,Yw (n.r4 H S).2⟩,n.NF,fun e es els c G H g a m=>?_,fun e l a U=>?_,fun e s l v a h L t G=>?_,fun e es els c G H g O x a m D V K=>?_⟩
 ·rw[p,if_neg (Yl (n.S8 J))];exact n.fz b o J
 ·rw[jU]at a;by_cases i:e=σ.length
  ·subst i;rw[f,p,if_pos rfl]at m;cases m;have k:H=st.n:=by simpa [sC]using M
   intro N;have:=(n.r4 H N).2;omega
  ·rw[if_neg i]at a;rw[q.sg e (d e _ a),p,if_neg (Yl (n.lt a rfl))]at m;exact n.I9 e es els c G H g a m
 ·rw[jU]at a;by_cases G:e=σ.length
  ·subst G;rw[if_pos rfl]at a;cases a;rw[f];exact⟨by simpa using W,X⟩
  ·rw[if_neg G]at a;obtain⟨Y,j⟩:=n.obj e l a U;rw[q.sg e (d e l a)];refine⟨?_,j⟩;have:=q.obj (st:=st) (eB:=st.new I) (by rw[p,if_neg (Yl (n.lt a U))]) (fun _ _ _ _ _ N=>N) Y;simpa using this
 ·rw[jU]at a h;by_cases i:e=σ.length
  ·by_cases C:s=σ.length
   ·rw[i,C]
   ·rw[if_neg C]at h;subst i;rw[f,q.sg s (d s v h)]at G;have:=n.lt h t;omega
  ·rw[if_neg i]at a;by_cases C:s=σ.length
   ·subst C;rw[f,q.sg e (d e l a)]at G;have:=n.lt a L;omega
   ·rw[if_neg C]at h;rw[q.sg s (d s v h),q.sg e (d e l a)]at G;exact n.inj e s l v a h L t G
 ·rw[P]at D;have R:(Φ x=none/\∀e o,σ[e]?=some o->live o=true->ρ e≠x)->x≠st.n->Φ x=none/\∀e l,(σ++[o])[e]?=some l->live l=true->jM ρ σ.length st.n e≠x:=by
   rintro⟨I,b⟩ T;refine⟨I,fun s v h t=>?_⟩;rw[jU]at h;by_cases i:s=σ.length
   ·subst i;rw[f];exact T.symm
   ·rw[if_neg i]at h;rw[q.sg s (d s v h)];exact b s v h t
  rw[jU]at a;by_cases i:e=σ.length
  ·
   subst i;rw[f,p,if_pos rfl]at m;cases m;have:H=st.n/\True:=⟨by simpa [sC]using M,tv⟩;rw[this.1]at D;exact absurd (n.wf.Kz _ _ D) (YD _)
  ·rw[if_neg i]at a;rw[q.sg e (d e _ a)]at m K;have Q:=n.lt a rfl;rw[p,if_neg (Yl Q)]at m;have s:=n.en e es els c G H g O x a m D V K;exact R s (Yl (n.wm.lt H O x D V))
theorem Real.NM(e:Real Φ ρ σ st){a:gz}(C:sC st a):Real Φ ρ σ (st.new a):=by
 have f:∀i,(st.new a).get i=if i=st.n then some a else st.get i:=fun i=>dH _ _ _
 refine⟨e.wf.new C,e.wm.new,fun b o n=>?_,e.NE,fun l q=>⟨(e.r4 l q).1,Yw (e.r4 l q).2⟩,e.NF,fun p es els c J l x d h=>?_,fun p K d s=>?_,e.inj,fun p es els c J l x t i d h H D m=>?_⟩
 ·rw[f,if_neg (Yl (e.S8 n))];exact e.fz b o n
 ·rw[f,if_neg (Yl (e.lt d rfl))]at h;exact e.I9 p es els c J l x d h
 ·obtain⟨v,I⟩:=e.obj p K d s;exact⟨(iC.refl Φ ρ _).obj (st:=st) (eB:=st.new a) (by rw[f,if_neg (Yl (e.lt d s))]) (fun _ _ _ _ _ G=>G) v,I⟩
 ·rw[f,if_neg (Yl (e.lt d rfl))]at h;exact e.en p es els c J l x t i d h H D m
def nC(Φ:Fz)(b:Nat)(o:gz):Fz:=⟨fun a=>if a=b then some o else Φ a,fun a=>a=b∨Φ.B0 a,Φ.r4⟩
theorem kQ(Φ:Fz)(b:Nat)(o:gz)(a:Nat):(nC Φ b o) a=if a=b then some o else Φ a:=rfl
theorem tI{Φ:Fz}{b:Nat}{o:gz}(c:Φ b=none):Φ.le (nC Φ b o):=⟨fun h f a=>by
 rw[kQ];split
 ·rename_i e;rw[e,c]at a;cases a
 ·exact a,fun h f a=>⟨fun d=>d.elim (fun e=>by rw[e,c]at a;cases a) id,.inr⟩,fun _ c=>c⟩
theorem Real.Oh(f:Real Φ ρ σ st){b:Nat}{c:List Value}{es en p:Nat}(G:st.get b=some (.cells c es en p))(J:Φ b=none) 
  (x:∀e o,σ[e]?=some o->live o=true->ρ e≠b) (I:∀e es els c m t p,σ[e]?=some (.row es els)->st.get (ρ e)=some (.cells c m t p)->t≠en)
  (n:∀Q c m p,Φ Q≠some (.cells c m en p)):
  Real (nC Φ b (.cells c es en p)) ρ σ st:=by
 have R:iC Φ ρ σ.length (nC Φ b (.cells c es en p)) ρ σ.length:=⟨tI J,fun _ _=>rfl,Nat.le_refl _⟩;refine⟨f.wf,f.wm,fun i o a=>?_,fun i a=>?_,f.r4,fun i Q W M f1 Y X V U a d=>?_,f.I9,fun e O h K=>?_,f.inj,fun e l els D m t N v i h H L a C=>?_⟩
 ·rw[kQ]at a;split at a
  ·rename_i m;cases a;rw[m];exact G
  ·exact f.fz i o a
 ·rw[kQ]at a;split at a
  ·cases a
  ·exact f.NE i a
 ·rw[kQ]at a d;split at a
  ·rename_i P;cases a;split at d
   ·rename_i T;rw[P,T]
   ·exact absurd d (n _ _ _ _)
  ·split at d
   ·cases d;exact absurd a (n _ _ _ _)
   ·exact f.NF i Q _ _ _ _ _ _ _ a d
 ·obtain⟨q,s⟩:=f.obj e O h K;refine⟨R.obj Z (fun _ _ _ _ _ S=>S) q,?_⟩;rw[kQ,if_neg (x e O h K)];exact s
 ·obtain⟨q,s⟩:=f.en e l els D m t N v i h H L a C;refine⟨?_,s⟩;rw[kQ];split
  ·rename_i M;subst M;exact absurd (f.wm.mem t v i c es en p L a G).symm (I e l els D m t N h H)
  ·exact q
theorem Real.Oi(I:Real Φ ρ σ st){b:Nat}{es en p:Nat}{els:List (List V)}(J:st.get b=some (.cells (cx ρ els.flatten) es en p))(Y:Φ b=none) 
  (M:∀d o,σ[d]?=some o->live o=true->ρ d≠b) (W:∀d es els c l O p,σ[d]?=some (.row es els)->st.get (ρ d)=some (.cells c l O p)->O≠en)
  (u:∀D t,st.fm.get en=some D->t∈D->t≠b->Φ t=none/\∀d o,σ[d]?=some o->live o=true->ρ d≠t) (U:¬Φ.r4 en)
  (j:∀l∈els,l.length=es) (T:∀l∈els,fB Φ σ.length l) (k:∀l∈els,∀A∈l,hA A=true):
  Real Φ (jM ρ σ.length b) (σ++[.row es els]) st:=by
 have n:=kP Φ ρ σ.length b;have e:∀d f,σ[d]?=some f->d<σ.length:=fun d f a=>(Yv.1 a).1;have h:jM ρ σ.length b σ.length=b:=if_pos rfl;have N:∀t,(Φ t=none/\∀d o,σ[d]?=some o->live o=true->ρ d≠t)->t≠b->Φ t=none/\∀d f,(σ++[.row es els])[d]?=some f->live f=true->jM ρ σ.length b d≠t:=by
  rintro t ⟨z,G⟩ X;refine⟨z,fun d f a R=>?_⟩;rw[jU]at a;by_cases i:d=σ.length
  ·subst i;rw[h];exact X.symm
  ·rw[if_neg i]at a;rw[n.sg d (e d f a)];exact G d f a R
 refine⟨I.wf,I.wm,I.fz,I.NE,I.r4,I.NF,fun d C q c l O L a m=>?_,fun d f a R=>?_,fun d G f K a v Q P l=>?_,fun d C q c l O L D t a m H S s=>?_⟩
 ·rw[jU]at a;by_cases i:d=σ.length
  ·subst i;rw[h,J]at m;cases m;exact U
  ·rw[if_neg i]at a;rw[n.sg d (e d _ a)]at m;exact I.I9 d C q c l O L a m
 ·rw[jU]at a;by_cases l:d=σ.length
  ·subst l;rw[if_pos rfl]at a;cases a;rw[h];refine⟨⟨⟨en,p,?_⟩,j,fun l y=>?_,k⟩,Y⟩
   ·rw[J,n.cx (Ea T)]
   ·have:=n.KN (T l y);simpa using this
  ·rw[if_neg l]at a;obtain⟨g,w⟩:=I.obj d f a R;rw[n.sg d (e d f a)];refine⟨?_,w⟩;have:=n.obj (st:=st) (eB:=st) rfl (fun _ _ _ _ _ r=>r) g;simpa using this
 ·rw[jU]at a v;by_cases i:d=σ.length
  ·by_cases x:G=σ.length
   ·rw[i,x]
   ·rw[if_neg x]at v;subst i;rw[h,n.sg G (e G K v)]at l;exact absurd l.symm (M G K v P)
  ·rw[if_neg i]at a;by_cases x:G=σ.length
   ·subst x;rw[h,n.sg d (e d f a)]at l;exact absurd l (M d f a Q)
   ·rw[if_neg x]at v;rw[n.sg G (e G K v),n.sg d (e d f a)]at l;exact I.inj d G f K a v Q P l
 ·rw[jU]at a;by_cases i:d=σ.length
  ·subst i;rw[h]at m s;rw[J]at m;cases m;exact N t (u D t H S s) s
  ·rw[if_neg i]at a;rw[n.sg d (e d _ a)]at m s;have G:=I.en d C q c l O L D t a m H S s;refine N t G fun x=>?_;subst x;exact absurd (I.wm.mem O D t _ es en p H S J).symm (W d C q c l O L a m)
theorem Real.drop(b:Real Φ ρ σ st){i:Nat}(hi:σ[i]?=some r)(c:live r=true):Real Φ ρ (σ.set i .gone) st:=
 b.V3 hi c b.wf b.wm (fun _ _ _=>rfl) (fun _ _ _ _ _ _ _ _=>rfl) b.r4 (fun _ _ _ _ _ _ a=>by cases a) trivial (fun _ _ _ _ _ _ _ _ a=>by cases a)
theorem oM{i:Nat}(hi:σ[i]?=some r){o:cU}(a:(σ.set i .gone)[w]?=some o)(b:live o=true):w≠i/\σ[w]?=some o:=by
 rw[tH hi]at a;by_cases c:w=i
 ·rw[if_pos c]at a;cases a;cases b
 ·rw[if_neg c]at a;exact⟨c,a⟩
theorem Real.freeze(m:Real Φ ρ σ st){i es:Nat}{els:List (List V)}(hi:σ[i]?=some (.row es els)){c:List Value}{e f p:Nat}(h:st.get (ρ i)=some (.cells c e f p)):
  Real (nC Φ (ρ i) (.cells c e f p)) ρ (σ.set i .gone) st:=by
 have v:=(m.obj i _ hi rfl).2;refine(m.drop hi Z).Oh h v (fun q o n t=>?_) (fun q H D x C J G n s=>?_) (fun I x C G d=>?_)
 ·obtain⟨l,b⟩:=oM hi n t;exact fun e=>l (m.inj q i o _ b hi t Z e)
 ·obtain⟨l,b⟩:=oM hi n rfl;have a:ρ q≠ρ i:=fun e=>l (m.inj q i _ _ b hi rfl rfl e);exact m.mB hi Z h s a (.inr ⟨q,_,b,Z,Z⟩)
 ·have a:I≠ρ i:=fun e=>by rw[e,v]at d;cases d
  exact m.mB hi Z h (m.fz _ _ d) a (.inl (by rw[d];simp)) rfl
theorem Real.UK(d:Real Φ ρ σ st){c:List Value}{es:Nat}:Real (nC Φ st.n (.cells c es st.n 0)) ρ σ (st.new (.cells c es st.n 0)):=by
 have f:Φ st.n=none:=by
  cases s:Φ st.n with
  |none=>rfl
  |some o=>exact absurd (d.S8 s) (YD _)
 have b:∀i,(st.new (.cells c es st.n 0)).get i=if i=st.n then some (.cells c es st.n 0)else st.get i:=fun i=>dH _ _ _
 refine(d.NM (a:=.cells c es st.n 0) Z).Oh (by rw[b,if_pos rfl]) f (fun C o e m=>Yl (d.lt e m)) (fun C v l q t x p e h=>?_) (fun D q t p n=>?_)
 ·rw[b,if_neg (Yl (d.lt e rfl))]at h;exact Yl (d.wf.en _ _ _ _ _ h).1
 ·exact YD _ (d.wf.en _ _ _ _ _ (d.fz _ _ n)).1
section
variable{es en fo o len n i:Nat} {c old xs:List Value} {els:List (List V)} {e0:Nat}
theorem Oj(b:Nat)(f:Nat):(f≠en->(grown st es en fo b o len n c old xs).fm.get f=st.fm.get f)/\
  (∀i m,(grown st es en fo b o len n c old xs).fm.get en=some i->m∈i->m=st.n∨m=b∨∃a,st.fm.get en=some a/\m∈a):=by
 have l:=tG (st:=st) (en:=en) (b:=st.n) (lo:=fo+o+len*es) (hi:=fo+o+(len+n)*es) f;unfold grown;dsimp only;refine⟨fun e=>?_,fun i m p hx=>?_⟩
 ·rw[cF,if_neg e];split
  ·exact l.1 e
  ·exact l.1 e
 ·rw[cF,if_pos rfl]at p;cases p;rcases Yq.1 hx with x|hx
  ·exact .inl x
  ·right;split at hx
   ·rename_i v h;right;cases d:st.fm.get en with
    |none=>rw[hz d,d]at h;cases h
    |some a=>
     obtain⟨t,q,s⟩:=l.2.2 a d;rw[q]at h;cases h;exact⟨a,Z,s m hx⟩
   ·split at hx
    ·left;simpa using hx
    ·simp at hx
theorem Real.grow(t:Real Φ ρ σ st)(hi:σ[i]?=some (.row e0 els))(H:st.get (ρ i)=some (.cells c es en fo)):
  Real Φ ρ (σ.set i .gone) (grown st es en fo (ρ i) o len n c old xs)/\
  (∀s P O V g S u,(σ.set i .gone)[s]?=some (.row P O)->(grown st es en fo (ρ i) o len n c old xs).get (ρ s)=some (.cells V g S u)->S≠en)/\
  (∀a d,(grown st es en fo (ρ i) o len n c old xs).fm.get en=some a->d∈a->d≠st.n->Φ d=none/\∀s o,(σ.set i .gone)[s]?=some o->live o=true->ρ s≠d):=by
 have B:=t.lt hi rfl;have M:∀d,d≠ρ i->(Φ d≠none∨∃s o,σ[s]?=some o/\live o=true/\ρ s=d)->(grown st es en fo (ρ i) o len n c old xs).get d=st.get d:=by
  intro d f v;have L:d≠st.n:=by
   rcases v with y|⟨s,o,q,l,e⟩
   ·cases W:Φ d with
    |none=>exact absurd W y
    |some o=>exact Yl (t.S8 W)
   ·rw[<-e];exact Yl (t.lt q l)
  rw[kh,if_neg L];have Y:(st.kill en st.n (fo+o+len*es) (fo+o+(len+n)*es)).get d=st.get d:=by
   refine Gv fun a m r=>?_;obtain⟨w,b⟩:=t.apart hi rfl H (ms:=a) m r f;rcases v with y|⟨s,o,q,l,e⟩
   ·exact y w
   ·exact b s o q l e
  unfold iJ;dsimp only;split
  ·exact Y
  ·rw[de,if_neg f,Y]
 have X:=vQ (o:=o) (len:=len) (n:=n) (old:=old) (xs:=xs) t.wf H;have p:=fun b x=>Oj (st:=st) (es:=es) (en:=en) (fo:=fo) (o:=o) (len:=len) (n:=n) (c:=c) (old:=old) (xs:=xs) b x;have j:WM (grown st es en fo (ρ i) o len n c old xs):=by
  have A:(grown st es en fo (ρ i) o len n c old xs).n=st.n+1:=rfl;refine⟨fun x a d m f=>?_,fun x a d E m f h=>?_⟩
  ·rw[A];by_cases C:x=en
   ·subst C;rcases(p (ρ i) x).2 a d m f with e|e|⟨D,J,N⟩
    ·omega
    ·omega
    ·have:=t.wm.lt x D d J N;omega
   ·rw[(p (ρ i) x).1 C]at m;have:=t.wm.lt x a d m f;omega
  ·by_cases C:x=en
   ·subst C;rw[kh]at h;split at h
    ·cases h;exact .inr ⟨_,_,_,rfl⟩
    ·rename_i L;rcases jS h with e0|hold
     ·exact .inl e0
     ·rcases(p (ρ i) x).2 a d m f with e|e|⟨D,J,N⟩
      ·exact absurd e L
      ·rw[e,H]at hold;cases hold;exact .inr ⟨_,_,_,rfl⟩
      ·exact t.wm.row x D d _ J N hold
   ·rw[(p (ρ i) x).1 C]at m;have U:=t.wm.lt x a d m f;rw[kh,if_neg (Yl U)]at h;rcases jS h with e0|hold
    ·exact .inl e0
    ·exact t.wm.row x a d _ m f hold
 have z:Real Φ ρ (σ.set i .gone) (grown st es en fo (ρ i) o len n c old xs):=
  t.V3 hi rfl X j M (fun d F ab f1 aa f v h=>(p (ρ i) f1).1 (t.mB hi rfl H h f v))
   (fun x C=>⟨by
    have k:x≠en:=fun e=>t.I9 i _ _ _ _ _ _ hi H (e▸C);rw[(p (ρ i) x).1 k];exact(t.r4 x C).1,Yw (t.r4 x C).2⟩) (fun _ _ _ _ _ _ T=>by cases T) trivial (fun _ _ _ _ _ _ _ _ T=>by cases T)
 refine⟨z,fun s P O V g S u q Q=>?_,fun a d m f I=>?_⟩
 ·obtain⟨K,G⟩:=oM hi q rfl;have I:ρ s≠ρ i:=fun e=>K (t.inj s i _ _ G hi rfl rfl e);rw[M _ I (.inr ⟨s,_,G,rfl,rfl⟩)]at Q;exact t.mB hi Z H Q I (.inr ⟨s,_,G,Z,Z⟩)
 ·rcases(p (ρ i) en).2 a d m f with e|e|⟨D,J,N⟩
  ·exact absurd e I
  ·subst e;refine⟨(t.obj i _ hi Z).2,fun s o q l e=>?_⟩;obtain⟨K,G⟩:=oM hi q l;exact K (t.inj s i o _ G hi l Z e)
  ·by_cases R:d=ρ i
   ·subst R;refine⟨(t.obj i _ hi Z).2,fun s o q l e=>?_⟩;obtain⟨K,G⟩:=oM hi q l;exact K (t.inj s i o _ G hi l Z e)
   ·obtain⟨w,b⟩:=t.en i _ _ _ _ _ _ D d hi H J N R;exact⟨w,fun s o q l=>b s o (oM hi q l).2 l⟩
end
end
theorem Aj:∀(n:Nat) (a:List V) (c:List V->Prop),N7 n a c->n<=a.length/\c (a.take n):=by
 intro n;induction n with
 |zero=>intro a c b;cases a<;>exact⟨YN _,b⟩
 |succ n d=>
  intro a c b;cases a with
  |nil=>exact b.elim
  |cons i h=>
   obtain⟨f,e⟩:=d h _ b;exact⟨YE f,e⟩
theorem xI:∀(f:List V) (b n:Nat) (d:List V->Prop),N8 f b n d->b+n<=f.length/\d ((f.drop b).take n):=by
 intro f;induction f with
 |nil=>
  intro b n d e;cases b with
  |zero=>obtain⟨c,a⟩:=Aj n [] d e;exact⟨by simpa using c,a⟩
  |succ b=>exact e.elim
 |cons i l h=>
  intro b n d e;cases b with
  |zero=>obtain⟨c,a⟩:=Aj n (i::l) d e;exact⟨by simpa using c,a⟩
  |succ b=>
   obtain⟨c,a⟩:=h b n d e;exact⟨by simp only[Yz];omega,a⟩
theorem Gw:∀(n:Nat) (a:List D) (c:List V->Prop),I2 n a c->n<=a.length/\c ((a.take n).map V.d):=by
 intro n;induction n with
 |zero=>intro a c b;cases a<;>exact⟨YN _,b⟩
 |succ n d=>
  intro a c b;cases a with
  |nil=>exact b.elim
  |cons i h=>
   obtain⟨f,e⟩:=d h _ b;exact⟨YE f,e⟩
theorem Gx:∀(n:Nat) (a:List D) (c:List D->Prop),I3 n a c->n<=a.length/\c (a.drop n):=by
 intro n;induction n with
 |zero=>intro a c b;cases a<;>exact⟨YN _,b⟩
 |succ n d=>
  intro a c b;cases a with
  |nil=>exact b.elim
  |cons i h=>
   obtain⟨f,e⟩:=d h _ b;exact⟨YE f,e⟩
def lay{a:Type}(c:List a)(f:Nat)(b:List a):List a:=c.take f++b++c.drop (f+b.length)
theorem vd:∀(c:List V) (b:Nat) (a:List V) (i:List V->Prop),Ac c b a i->b+a.length<=c.length/\i (lay c b a):=by
 intro c;induction c with
 |nil=>
  intro b a i d;cases b with
  |zero=>cases a with
   |nil=>exact⟨by simp,by simp[lay];exact d⟩
   |cons _ _=>exact d.elim
  |succ b=>cases a<;>exact d.elim
 |cons l c h=>
  intro b a i d;cases b with
  |zero=>cases a with
   |nil=>exact⟨by simp,by simp[lay];exact d⟩
   |cons o a=>
    obtain⟨f,e⟩:=h 0 a _ d;refine⟨by simp at f⊢;exact f,?_⟩;simpa [lay]using e
  |succ b=>
   have d:Ac c b a fun m=>i (l::m):=by cases a<;>exact d
   obtain⟨f,e⟩:=h b a _ d;refine⟨by simp only[Yz];omega,?_⟩;have n:lay (l::c) (b+1) a=l::lay c b a:=by
    simp only[lay,YO,show b+1+a.length=(b+a.length)+1 from om,YP,Ys]
   rw[n];exact e
theorem pF:∀(c:List Value) (b:Nat) (a:List Value),b+a.length<=c.length->dU c b a=lay c b a:=by
 intro c;induction c with
 |nil=>
  intro b a d;cases a with
  |nil=>simp[dU,lay]
  |cons _ _=>simp at d
 |cons h c e=>
  intro b a d;cases a with
  |nil=>simp[dU,lay]
  |cons f a=>
   cases b with
   |zero=>
    rw[dU,e 0 a (by simp at d⊢;exact d)];simp[lay]
   |succ b=>
    rw[dU,e b (f::a) (by simp at d⊢;omega)];simp only[lay,YO,show b+1+(f::a).length=(b+(f::a).length)+1 from om,YP,Ys]
theorem Ak{a:Type}{c:List a}{f:Nat}{b:List a}(d:f+b.length<=c.length):(lay c f b).length=c.length:=by
 simp only[lay,Yu,List.length_take,Yy];omega
theorem zl{a d:Type}(e:a->d)(c:List a)(f:Nat)(b:List a):(lay c f b).map e=lay (c.map e) f (b.map e):=by
 simp[lay,YG,YH]
theorem wc{a:Type}{c:List a}{f:Nat}{b:List a}{d:a}(h:d∈lay c f b):d∈c∨d∈b:=by
 simp only[lay,List.mem_append]at h;rcases h with(h|h)|h
 ·exact .inl (YA h)
 ·exact .inr h
 ·exact .inl (YB h)
theorem Jc:∀(σ:VS) (o:cU) (i:Nat) (a:Nat->VS->Prop),N9 σ o i a->a (i+σ.length) (σ++[o]):=by
 intro σ;induction σ with
 |nil=>intro o i a c;exact c
 |cons e d b=>
  intro o i a c;have:=b o (i+1) _ c;simp only[Yz,Ys];rw[show i+(d.length+1)=i+1+d.length from by omega];exact this
theorem tJ{a:Type}(n:Nat)(b:Nat->a):sx n b=b n:=by cases n<;>rfl
theorem kj{σ:VS}{o:cU}{a:Nat->VS->Prop}(b:BZ σ o a):a σ.length (σ++[o]):=by
 have:=Jc _ _ _ _ b;rw[tJ]at this;simpa using this
theorem kl:∀(σ:VS) (i:Nat) (o:cU) (b:VS->Prop),yT σ i o b->i<σ.length/\b (σ.set i o):=by
 intro σ;induction σ with
 |nil=>intro i o b a;cases i<;>exact a.elim
 |cons f h c=>
  intro i o b a;cases i with
  |zero=>exact⟨by simp,a⟩
  |succ i=>
   obtain⟨e,d⟩:=c i o _ a;exact⟨by simpa using e,d⟩
theorem cI{a:Type}{o:Option a}{d:a->Prop}(c:dO o d):∃b,o=some b/\d b:=by
 cases o with
 |none=>exact c.elim
 |some b=>exact⟨b,rfl,c⟩
theorem lK(ρ:Nat->Nat)(a:V):cellsOf (erase ρ a)=cx ρ (ef a):=by
 cases a with
 |d b=>cases b<;>simp[erase,cH,cellsOf,ef,cx]
 |agg c=>simp[erase,cellsOf,ef]
 |_=>simp[erase,cellsOf,ef,cx]
theorem tK{Φ:Fz}{m:Nat}(b:fJ Φ m j):fB Φ m (ef j):=by
 cases b with
 |agg b=>exact b
 |d b=>intro c a;simp[ef]at a;subst a;exact .d b
 |bp b=>intro c a;simp[ef]at a;subst a;exact .bp b
 |ptr b=>intro c a;simp[ef]at a;subst a;exact .ptr b
 |fp f e l h i=>intro c a;simp[ef]at a;subst a;exact .fp f e l h i
 |ms b=>intro c a;simp[ef]at a;subst a;exact .ms b
 |map b=>intro c a;simp[ef]at a;subst a;exact .map b
 |fn f e=>intro c a;simp[ef]at a;subst a;exact .fn f e
 |so b=>intro c a;simp[ef]at a;subst a;exact .so b
 |iface b=>intro c a;simp[ef]at a;subst a;exact .iface b
 |dN b=>intro c a;simp[ef]at a;subst a;exact .dN b
theorem nh(ρ:Nat->Nat)(l:List D):cx ρ (l.map V.d)=l.map cH:=by
 induction l with
 |nil=>rfl
 |cons b l a=>simp only[Yx,cx,erase,a]
variable{k:Value}
theorem CW(a:Sl k=some B):cH B=k:=by
 unfold Sl at a;split at a<;>first|(cases a;rfl)|cases a
theorem Ok(a:Sl k=some B)(Φ:Fz):vb Φ B:=by
 unfold Sl at a;split at a<;>first|(cases a;constructor)|cases a
theorem jV(ρ:Nat->Nat):∀{b:List Value} {c:List V},ux b=some c->cx ρ c=b:=by
 intro b;induction b with
 |nil=>intro c a;cases a;rfl
 |cons l b d=>
  intro c a;unfold ux at a;split at a
  ·rename_i h i f e;cases a;simp only[cx,erase];rw[CW f,d e]
  ·cases a
theorem q9(Φ:Fz)(m:Nat):∀{c:List Value} {b:List V},ux c=some b->fB Φ m b/\∀n∈b,hA n=true:=by
 intro c;induction c with
 |nil=>intro b a;cases a;exact⟨fun _ a=>by simp at a,fun _ a=>by simp at a⟩
 |cons n c f=>
  intro b a;unfold ux at a;split at a
  ·rename_i o p i h;cases a;obtain⟨d,l⟩:=f h;refine⟨fun e hx=>?_,fun e hx=>?_⟩
   ·rcases Yq.1 hx with rfl|hx
    ·exact .d (Ok i Φ)
    ·exact d e hx
   ·rcases Yq.1 hx with rfl|hx
    ·rfl
    ·exact l e hx
  ·cases a
theorem L7{ρ:Nat->Nat}(a:Sm k=some j):erase ρ j=k:=by
 unfold Sm at a;split at a
 ·split at a
  ·rename_i d b;cases a;simp only[erase];rw[jV ρ b]
  ·cases a
 ·split at a
  ·rename_i c b;cases a;simp only[erase];exact CW b
  ·cases a
theorem S9(a:Sm k=some j)(Φ:Fz)(m:Nat):fJ Φ m j:=by
 unfold Sm at a;split at a
 ·split at a
  ·rename_i d b;cases a;exact .agg (q9 Φ m b).1
  ·cases a
 ·split at a
  ·rename_i c b;cases a;exact .d (Ok b Φ)
  ·cases a
theorem Gy(a:Sl k=some B):flat k=true:=by
 unfold Sl at a;split at a<;>first|rfl|cases a
theorem L8:∀{a:List Value} {c:List V},ux a=some c->a.all flat=true:=by
 intro a;induction a with
 |nil=>intro c b;rfl
 |cons l a d=>
  intro c b;unfold ux at b;split at b
  ·rename_i h i f e;simp only[List.all_cons,Gy f,d e,Bool.and_self]
  ·cases b
theorem L9(b:Sm k=some j):qq k=true:=by
 unfold Sm at b;split at b
 ·split at b
  ·rename_i f a;exact L8 a
  ·cases b
 ·rename_i k c;split at b
  ·rename_i e a;have:=Gy a;unfold qq;split
   ·rename_i d;exact absurd rfl (c d)
   ·exact this
  ·cases b
def nJ(Φ:Fz)(ρ:Nat->Nat)(m:Nat)(ev:Operand->Option V)(mf:Operand->Option Value):Prop:=
 ∀b a,ev b=some a->mf b=some (erase ρ a)/\fJ Φ m a
theorem hB{Φ:Fz}{ρ:Nat->Nat}{m:Nat}{l:List (Nat×V)}{d:Fr}(b:hL Φ ρ m l d.tm):nJ Φ ρ m (CU l) (jq d):=by
 intro f e a;cases f with
 |tmp h=>exact b h e a
 |const c=>
  have a:Sm c=some e:=a;refine⟨?_,S9 a Φ m⟩;simp only[jq,L9 a];rw[L7 a]
 |global n=>cases a
 |func i=>
  cases a;exact⟨by simp[jq,erase,cx],.fn (fun _ b=>by simp at b) (fun _ b=>by simp at b)⟩
variable{g:V->Prop} {E:Bool}
section
variable{C:eD} {Φ:Fz} {ρ:Nat->Nat} {σ:VS} {st:St} {m:Nat} {ev:Operand->Option V} {mf:Operand->Option Value}
theorem mC(h:nJ Φ ρ m ev mf):∀{f:List Operand} {e:List V},uQ ev f=some e->mr mf f=some (cx ρ e)/\fB Φ m e:=by
 intro f;induction f with
 |nil=>intro e a;cases a;exact⟨rfl,fun _ a=>by simp at a⟩
 |cons s f i=>
  intro e a;unfold uQ at a;split at a
  ·rename_i v t n l;cases a;obtain⟨q,b⟩:=h _ _ n;obtain⟨c,o⟩:=i l;refine⟨by simp only[mr,q,c,cx],fun p d=>?_⟩;rcases Yq.1 d with rfl|d
   ·exact b
   ·exact o p d
  ·cases a
theorem Al(l:nJ Φ ρ m ev mf):∀{h:List (Nat×Operand)} {f:List (Nat×V)},Ad ev h=some f->lD mf h=some (f.map fun d=>(d.1,erase ρ d.2))/\∀d∈f,fJ Φ m d.2:=by
 intro h;induction h with
 |nil=>intro f a;cases a;exact⟨rfl,fun _ a=>by simp at a⟩
 |cons d h n=>
  intro f a;obtain⟨i,d⟩:=d;unfold Ad at a;split at a
  ·rename_i x v p o;cases a;obtain⟨t,b⟩:=l _ _ p;obtain⟨c,q⟩:=n o;refine⟨by simp only[lD,t,c,Yx],fun s e=>?_⟩;rcases Yq.1 e with rfl|e
   ·exact b
   ·exact q s e
  ·cases a
theorem KO{c:Type}:∀{els:List (List c)} {es kk f n:Nat} {e:List c},(∀d∈els,d.length=es)->els[kk]?=some e->f+n<=es->
  (els.flatten.drop (kk*es+f)).take n=(e.drop f).take n/\kk*es+f+n<=els.flatten.length:=by
 intro els;induction els with
 |nil=>intro es kk f n e _ a;simp at a
 |cons d els h=>
  intro es kk f n e b a l;have o:=b d sm;cases kk with
  |zero=>
   simp at a;subst a;simp only[Nat.zero_mul,Nat.zero_add,Yr,Yu];refine⟨?_,om⟩;rw[List.drop_append_of_le_length om,List.take_append_of_le_length (by rw[Yy];omega)]
  |succ kk=>
   have:=h (fun m i=>b m (by simp[i])) (kk:=kk) (f:=f) (n:=n) (e:=e) (by simpa using a) l;simp only[Yr,Yu];rw[Nat.succ_mul];refine⟨?_,om⟩;rw[<-this.1,show kk*es+es+f=d.length+(kk*es+f)from om,List.drop_length_add_append]
theorem qy{d:Type}{els:List (List d)}{es:Nat}(e:∀a∈els,a.length=es):els.flatten.length=els.length*es:=by
 induction els with
 |nil=>simp
 |cons a els b=>
  rw[Yr,Yu,e a sm,b fun f c=>e f (by simp[c]),Yz,Nat.succ_mul];omega
theorem we{c:List V}(a:QF E c g)(ρ:Nat->Nat)(d:fB Φ m c):∃b,g b/\fJ Φ m b/\FJ E (cx ρ c)=some (erase ρ b):=by
 cases E with
 |true=>exact⟨_,a,.agg d,by simp[FJ,erase,YJ]⟩
 |false=>
  unfold QF at a;dsimp only at a;split at a
  ·rename_i b;exact⟨b,a,d b sm,by simp[FJ,cx]⟩
  ·exact a.elim
theorem Jd(b:fB Φ m y)(f n:Nat):fB Φ m ((y.drop f).take n):=fun c a=>b c (YB (YA a))
theorem oN(ρ:Nat->Nat)(a:List V)(f n:Nat):cx ρ ((a.drop f).take n)=((cx ρ a).drop f).take n:=by
 simp[ej,YG,YH]
theorem jf{b o n:Nat}{c:List Value}{es f p:Nat}(a:st.get b=some (.cells c es f p))(d:o+n<=c.length):gN st b o n=some ((c.drop o).take n):=by
 unfold gN;rw[a];simp only[Yn d]
theorem Gz(N:Real Φ ρ σ st)(O:fJ Φ σ.length j){n:Nat}(a:Oa n E j σ g):
  ∃t b o c,g t/\fJ Φ σ.length t/\erase ρ j=.pointer (some ⟨b,o,none⟩)/\gN st b o n=some c/\FJ E c=some (erase ρ t):=by
 unfold Oa at a;split at a
 ·rename_i i D;split at a
  ·rename_i H d;rw[cz]at d;obtain⟨⟨⟨h,_⟩,f,_⟩,_⟩:=N.obj i _ d rfl;obtain⟨q,e⟩:=xI _ _ _ _ a;obtain⟨t,p,s,l⟩:=we e ρ (Jd f D n);exact⟨t,_,_,_,p,s,Z,jf h (by rw[dk];exact q),by rw[<-oN];exact l⟩
  ·exact a.elim
 ·rename_i i es S D;split at a
  ·rename_i Q els d;rw[cz]at d;split at a
   ·rename_i K;have:=Yp K;subst this;obtain⟨⟨⟨W,T,h⟩,f,q,_⟩,_⟩:=N.obj i _ d rfl;obtain⟨L,e,p⟩:=a;rw[cz]at e;obtain⟨s,l⟩:=xI _ _ _ _ p;have J:L∈els:=YL e;obtain⟨t,x,C,G⟩:=we l ρ (Jd (q L J) D n);have I:=KO f e (f:=D) (n:=n) (by rw[<-f L J];exact s);refine⟨t,_,_,_,x,C,Z,jf h (by rw[dk];exact I.2),?_⟩;rw[<-oN,I.1];exact G
   ·exact a.elim
  ·exact a.elim
 ·rename_i b v H;cases O with
  |fp h f q e R=>
   rename_i c L D T;obtain⟨p,s⟩:=Gw _ _ _ a;obtain⟨t,l,x,C⟩:=we (Φ:=Φ) (m:=σ.length) s ρ (fun t P=>by
    obtain⟨U,M,rfl⟩:=List.mem_map.1 P;exact .d (e U (YA M)))
   refine⟨t,_,_,_,l,x,Z,jf (N.fz _ _ h) om,?_⟩;rw[<-C];have:(c.drop v).take n=((c.drop v).take H.length).take n:=by rw[List.take_take,Nat.min_eq_left p]
   rw[this,q,nh,YG]
 ·exact a.elim
theorem yo(s:Real Φ ρ σ st){t:TypeId}(f:fJ Φ σ.length j)(a:KK C t j σ g):
  ∃e,g e/\fJ Φ σ.length e/\vJ C t (erase ρ j) st=some (.val (erase ρ e) st):=by
 unfold KK at a;split at a
 ·rename_i q d;split at a
  ·rename_i n;obtain⟨e,b,o,c,l,h,p,i,m⟩:=Gz s f a;refine⟨e,l,h,?_⟩;unfold vJ;rw[d,p];simp only[n,i,m];rfl
  ·exact a.elim
 ·exact a.elim
theorem Am(ρ:Nat->Nat)(b:Nat->Option (Nat×Nat)):∀(d:List (Nat×V)) (a:List V) (v:List V->Prop),fB Φ m a->(∀n∈d,fJ Φ m n.2)->Gs b a d v->
  ∃c,v c/\fB Φ m c/\po b (cx ρ a) (d.map fun n=>(n.1,erase ρ n.2))=some (cx ρ c):=by
 intro d;induction d with
 |nil=>intro a v l _ f;exact⟨a,f,l,rfl⟩
 |cons n d K=>
  intro a v l s f;obtain⟨i,M⟩:=n;unfold Gs at f;split at f
  ·exact f.elim
  ·rename_i t D o;split at f
   ·rename_i J;obtain⟨q,C⟩:=vd _ _ _ _ f;have L:=tK (s _ (List.mem_cons_self ..));have p:fB Φ m (lay a t (ef M)):=fun x h=>(wc h).elim (l x) (L x);obtain⟨c,I,G,H⟩:=K _ _ p (fun x h=>s x (by simp[h])) C;refine⟨c,I,G,?_⟩;have e:=Yp J;simp only[Yx,po,o,lK,dk];rw[e,Nat.beq_refl,Yn (by rw[<-e];exact q)];simp only[Bool.and_self];rw[pF _ _ _ (by rw[dk,dk];exact q),ej,ej,<-zl,<-ej];exact H
   ·exact f.elim
theorem Eb{t:TypeId}{b:List (Nat×V)}(s:∀v∈b,fJ Φ m v.2)(a:I4 C t b g)(ρ:Nat->Nat)(st:St):
  ∃D,g D/\fJ Φ m D/\sr C t (b.map fun v=>(v.1,erase ρ v.2)) st=some (.val (erase ρ D) st):=by
 unfold I4 at a;split at a
 ·rename_i I f;split at a
  ·rename_i q h;split at a
   ·rename_i x o i d;obtain⟨c,l,p,e⟩:=Am ρ _ b x _ (q9 Φ m d).1 s a;rw[jV ρ d]at e;refine⟨_,l,.agg p,?_⟩;unfold sr;simp only[f,h,o,i,e];simp[val,erase,YJ]
   ·exact a.elim
  ·rename_i n G h;split at a
   ·rename_i H x o i d;obtain⟨c,l,p,e⟩:=Am ρ _ b x _ (q9 Φ m d).1 s a;rw[jV ρ d]at e;refine⟨_,l,.agg p,?_⟩;unfold sr;simp only[f,h,o,i,e];simp[val,erase,YJ]
   ·exact a.elim
  ·exact a.elim
 ·exact a.elim
theorem yU(c:fJ Φ m j)(a:xG j g)(ρ:Nat->Nat)(st:St):
  ∃b,g b/\fJ Φ m b/\mu (erase ρ j) st=some (.val (erase ρ b) st):=by
 unfold xG at a;split at a<;>first|exact a.elim|exact⟨_,a,c,by simp[erase,mu,val]⟩
end
theorem oO{a b:Nat}(d:a≠b):Yo a b=false:=by
 cases c:Yo a b with
 |false=>rfl
 |true=>exact absurd (Yp c) d
theorem ol(c b:Int):pn c b=decide (c=b):=by
 cases c<;>cases b
 ·rename_i c b;simp only[pn];by_cases a:c=b
  ·subst a;simp
  ·rw[oO a];exact(decide_eq_false (by intro d;exact a (Int.ofNat.inj d))).symm
 ·simp[pn]
 ·simp[pn]
 ·rename_i c b;simp only[pn];by_cases a:c=b
  ·subst a;simp
  ·rw[oO a];exact(decide_eq_false (by intro d;exact a (Int.negSucc.inj d))).symm
theorem pG(c b:Nat):YF c b=decide (c<b):=by
 by_cases a:c<b
 ·rw[decide_eq_true a];exact Yn a
 ·rw[decide_eq_false a];cases d:YF c b with
  |false=>rfl
  |true=>exact absurd (YI d) a
theorem KP(c b:Nat):Nat.ble c b=decide (c<=b):=by
 by_cases a:c<=b
 ·rw[decide_eq_true a];exact Yn a
 ·rw[decide_eq_false a];cases d:Nat.ble c b with
  |false=>rfl
  |true=>exact absurd (YI d) a
theorem KQ(c b:Nat):Yo c b=decide (c=b):=by
 by_cases a:c=b
 ·subst a;simp
 ·rw[decide_eq_false a];exact oO a
theorem xJ(a b:Int):sq a b=decide (a<b):=by
 cases a<;>cases b<;>simp only[sq]
 ·rename_i a b;rw[pG];exact decide_eq_decide.2 sm
 ·rename_i a b;exact(decide_eq_false (by have:=YQ b;simp only[YM];omega)).symm
 ·rename_i a b;exact(decide_eq_true (by have:=YQ a;simp only[YM];omega)).symm
 ·rename_i a b;rw[pG];exact decide_eq_decide.2 om
theorem GA:∀(a b:List UInt8),lC a b=decide (a=b):=by
 intro a;induction a with
 |nil=>intro b;cases b<;>simp[lC]
 |cons f a c=>
  intro b;cases b with
  |nil=>simp[lC]
  |cons e b=>
   simp only[lC];by_cases d:f=e
   ·subst d;simp[c]
   ·have:Yo f.toNat e.toNat=false:=oO fun h=>d (UInt8.toNat_inj.1 h);rw[this];simp[d]
theorem tL(a b:List UInt8):oy ⟨⟨a⟩⟩ ⟨⟨b⟩⟩=decide (a=b):=GA a b
variable{u:BinOp} {z:IntKind} {A F:Operand}
section
variable{C:eD} {Φ:Fz} {ρ:Nat->Nat} {σ:VS} {st:St} {m:Nat} {ev:Operand->Option V} {mf:Operand->Option Value}
theorem B1{d b:Int}(a:D3 u z d b g):∃c,g c/\fJ Φ m c/\su u z d b=some (erase ρ c):=by
 unfold D3 at a;split at a;all_goals first
  |exact a.elim
  |exact⟨_,a,.d (.int _ _),rfl⟩
  |exact⟨_,a.2,.d (.int _ _),by simp only[su,ol,decide_eq_false a.1];rfl⟩
  |exact⟨_,a,.d (.bool _),by simp only[su,ol,xJ];rfl⟩
  |(refine⟨_,a,.d (.bool _),?_⟩
    simp only[su,ol,xJ,b0,erase,cH];congr 2;rw[<-decide_not];exact decide_eq_decide.2 om)
theorem Ec{d b:Int}(a:Oc u z d b g):∃c,g c/\fJ Φ m c/\sv u z d b=some (erase ρ c):=by
 obtain⟨n,rfl,a⟩:=a;split at a
 ·exact⟨_,a,.d (.int _ _),Z⟩
 ·exact⟨_,a,.d (.int _ _),Z⟩
 ·exact a.elim
theorem B2{d b:List UInt8}(a:D4 u d b g):∃c,g c/\fJ Φ m c/\u0 u ⟨⟨d⟩⟩ ⟨⟨b⟩⟩=some (erase ρ c):=by
 unfold D4 at a;split at a;all_goals first
  |exact a.elim
  |exact⟨_,a,.d (.bool _),by simp only[u0,tL];rfl⟩
  |exact⟨_,a.2,.d (.str _),by simp only[u0,Yn a.1];rfl⟩
theorem n4:∀{c:List V} {d:List D},q7 c=some d->c=d.map V.d:=by
 intro c;induction c with
 |nil=>intro d b;cases b;rfl
 |cons i c e=>
  intro d b;unfold q7 at b;split at b
  ·rename_i a;cases a
  ·rename_i a;cases a;split at b
   ·rename_i h f;cases b;rw[e f];rfl
   ·cases b
  ·cases b
theorem CX{t:TypeId}{H b:V}{I:Bool->Prop}(a:V1 C t A F H b I):∃q,I q/\Lw C t A F (erase ρ H) (erase ρ b)=some q:=by
 unfold V1 at a;split at a
 ·rename_i K L;split at a
  ·rename_i D f;split at a
   ·rename_i c;exact⟨_,a,by simp only[Lw,f,c,erase,cH,jb]⟩
   ·exact a.elim
  ·exact a.elim
 ·rename_i P m;split at a
  ·rename_i M m' e d;obtain⟨q,x,s⟩:=a;refine⟨q,s,?_⟩;rw[n4 e,n4 d];simp only[erase,nh];exact x
  ·exact a.elim
 ·split at a
  ·rename_i D J K N L f e d;split at a
   ·rename_i O c;split at a
    ·rename_i i;refine⟨_,a,?_⟩;simp only[Bool.and_eq_true]at i;obtain⟨⟨⟨o,l⟩,p⟩,n⟩:=i;have G:=Yp o;have v:=Yp l;subst G;subst v;unfold Lw;rw[f];unfold Gt at c;split at c<;>first|cases c|skip
     all_goals
      rename_i h;dsimp only;rw[h];unfold D5 at e d;split at e<;>first|cases e|skip
      all_goals
       split at d<;>first|cases d|skip
       all_goals
        first
         |(cases p;done)
         |rfl
         |(simp only[erase,cH]
           have:(kf A||kf F)=true:=by simpa using n
           simp only[this];rfl)
    ·exact a.elim
   ·exact a.elim
  ·exact a.elim
theorem Je{t:TypeId}{p b:V}(a:S6 C u t A F p b g):∃o,g o/\fJ Φ m o/\Du C u t A F (erase ρ p) (erase ρ b)=some (erase ρ o):=by
 unfold S6 at a;split at a
 ·rename_i L n I K;split at a
  ·rename_i x;obtain⟨o,f,e,c⟩:=Ec (Φ:=Φ) (ρ:=ρ) (m:=m) a;exact⟨o,f,e,by simp only[Du,erase,cH,x];exact c⟩
  ·rename_i x;split at a
   ·rename_i D;obtain⟨o,f,e,c⟩:=B1 (Φ:=Φ) (ρ:=ρ) (m:=m) a;exact⟨o,f,e,by simp only[Du,erase,cH,x,D];exact c⟩
   ·exact a.elim
 ·obtain⟨o,f,e,c⟩:=B2 (Φ:=Φ) (ρ:=ρ) (m:=m) a;exact⟨o,f,e,by simp only[Du,erase,cH];exact c⟩
 ·rename_i f e;have shape:∀(s:Option Value),(match(generalizing:=false) u with|.eql=>(Lw C t A F (erase ρ p) (erase ρ b)).map .bool|.neq=>(Lw C t A F (erase ρ p) (erase ρ b)).map fun s=>.bool (!s)|_=>none)=s->Lw C t A F (erase ρ p) (erase ρ b)≠none->Du C u t A F (erase ρ p) (erase ρ b)=s:=by
   intro s G H;subst G;unfold Du;split
   ·rename_i J N P M l i;exfalso;cases p with
    |d q=>
     cases q<;>simp[erase,cH]at l;cases b with
     |d v=>
      cases v<;>simp[erase,cH]at i;exact f _ _ _ _ Z Z
     |_=>simp[erase]at i
    |_=>simp[erase]at l
   ·rename_i O Q l i;exfalso;cases p with
    |d q=>
     cases q<;>simp[erase,cH]at l;cases b with
     |d v=>
      cases v<;>simp[erase,cH]at i;exact e _ _ Z Z
     |_=>simp[erase]at i
    |_=>simp[erase]at l
   ·rfl
  split at a
  ·obtain⟨s,c,h⟩:=CX (ρ:=ρ) a;exact⟨_,c,.d (.bool _),shape _ (by simp only[h];rfl) (by rw[h];simp)⟩
  ·obtain⟨s,c,h⟩:=CX (ρ:=ρ) a;exact⟨_,c,.d (.bool _),shape _ (by simp only[h];rfl) (by rw[h];simp)⟩
  ·exact a.elim
theorem Ma{b:UnOp}(a:Wn b j g):∃c,g c/\fJ Φ m c/\VY b (erase ρ j)=some (erase ρ c):=by
 unfold Wn at a;split at a
 ·exact⟨_,a,.d (.int _ _),Z⟩
 ·exact⟨_,a,.d (.int _ _),Z⟩
 ·exact⟨_,a,.d (.bool _),Z⟩
 ·exact a.elim
theorem yp(l:List UInt8):q0 ((l.map fun c=>[uR c]).flatten.map cH)=some l:=by
 induction l with
 |nil=>rfl
 |cons c l a=>
  simp only[Yx,Yr,Ys,List.nil_append,uR,cH,q0,toByte];simp only[uR]at a;rw[a];simp
theorem GB(ρ:Nat->Nat)(l:List UInt8):cx ρ (l.map fun c=>[hK c]).flatten=(l.map fun c=>[uR c]).flatten.map cH:=by
 induction l with
 |nil=>rfl
 |cons c l a=>
  simp only[Yx,Yr,Ys,List.nil_append,cx,a];rfl
theorem An(R:Real Φ ρ σ st){s d:TypeId}(m:fJ Φ σ.length j)(a:Ae C s d j σ g):
  ∃N,g N/\fJ Φ σ.length N/\ib C s d (erase ρ j) st=some (.val (erase ρ N) st):=by
 unfold Ae at a;split at a
 ·rename_i r Y h f;split at a
  ·rename_i e c;split at a
   ·exact⟨_,a,.d (.int _ _),by simp only[ib,h,f,e,c,erase,cH];rfl⟩
   ·exact a.elim
  ·rename_i e c;split at a
   ·exact⟨_,a,.d (.str _),by simp only[ib,h,f,e,c,erase,cH];rfl⟩
   ·exact a.elim
  ·rename_i A e c;split at a
   ·rename_i X l;split at a
    ·rename_i D;split at a
     ·exact⟨_,a,.d (.str _),by simp only[ib,h,f,e,c,erase,cH,l,D];rfl⟩
     ·rename_i b o es I els;obtain⟨u,rfl,rfl,G⟩:=a;cases m with
      |d m=>
      cases m with
      |ps O T x t k=>
       simp only[Nat.mul_one,List.length_map]at x t;refine⟨_,G,.d (.str _),?_⟩;simp only[ib,h,f,e,c,erase,cH,l,D,List.length_map];rw[jf (R.fz _ _ O) x,t];simp only[yp];rfl
     ·rename_i i es U len I;split at a
      ·rename_i Q els p;obtain⟨u,rfl,rfl,G,x,t⟩:=a;rw[cz]at p;obtain⟨⟨⟨w,y,M⟩,L,W,_⟩,_⟩:=R.obj i _ p rfl;have K:∀(H:List (List V)) (q n:Nat),(∀j∈H,j.length=1)->(H.flatten.drop q).take n=((H.drop q).take n).flatten:=by
        intro H;induction H with
        |nil=>intro q n _;simp
        |cons j H v=>
         intro q n J;have m:=J j sm;obtain⟨z,rfl⟩:=List.length_eq_one_iff.1 m;have v:=fun q n=>v q n (fun S P=>J S (by simp[P]));cases q with
         |zero=>
          cases n with
          |zero=>simp
          |succ n=>
           have:=v 0 n;simp only[List.drop_zero]at this;simp[this]
         |succ q=>simpa using v q n
       refine⟨_,t,.d (.str _),?_⟩;simp only[ib,h,f,e,c,erase,cH,l,D,Nat.mul_one];rw[jf M (by rw[dk,qy L];omega),<-oN,K _ _ _ L,G,GB];simp only[yp];rfl
      ·exact a.elim
     ·exact a.elim
    ·exact a.elim
   ·exact a.elim
  ·exact a.elim
 ·exact a.elim
theorem sO{t:TypeId}(e:fJ Φ m j)(a:oL C t j g)(ρ:Nat->Nat)(st:St):
  ∃d,g d/\fJ Φ m d/\hR C t (erase ρ j) st=some (.val (erase ρ d) st):=by
 unfold oL at a;split at a
 ·rename_i f b;split at a
  ·exact a.elim
  ·rename_i c;refine⟨_,a,.iface e,?_⟩;unfold hR;rw[b];dsimp only;split
   ·rename_i h;exact absurd h (c _)
   ·simp only[erase];rfl
 ·exact a.elim
theorem yq{t:TypeId}(h:fB Φ m y)(a:KL C t y w g)(ρ:Nat->Nat):
  ∃f,g f/\fJ Φ m f/\zK C t (cx ρ y) w=some (erase ρ f):=by
 unfold KL at a;split at a
 ·rename_i i c;split at a
  ·rename_i d;obtain⟨b,e⟩:=xI _ _ _ _ a;refine⟨_,e,.agg (Jd h _ _),?_⟩;simp only[zK,c,d,dk,Yn b,erase,oN]
  ·rename_i d;obtain⟨f,b,e⟩:=cI a;rw[cz]at b;refine⟨f,e,h f (YL b),?_⟩;simp only[zK,c,d,cz,ej,List.getElem?_map,b,Option.map_some]
 ·exact a.elim
theorem Ed{t:TypeId}(b:fJ Φ m j){f:Nat}(a:I7 C t j f g)(ρ:Nat->Nat)(st:St):
  ∃e,g e/\fJ Φ m e/\u1 C t (erase ρ j) f st=some (.val (erase ρ e) st):=by
 unfold I7 at a;split at a
 ·rename_i p s c;split at a
  ·rename_i d i;split at a
   ·rename_i q h;cases b with
    |agg b=>
     obtain⟨e,n,l,o⟩:=yq b a ρ;refine⟨e,n,l,?_⟩;simp only[u1,c,erase,i,h,o];rfl
   ·exact a.elim
  ·exact a.elim
 ·exact a.elim
theorem xK{t:TypeId}(l:fJ Φ m j){f:Nat}(a:u9 C t j f g)(ρ:Nat->Nat)(st:St):
  ∃p,g p/\fJ Φ m p/\gb C t (erase ρ j) f st=some (.val (erase ρ p) st):=by
 unfold u9 at a;split at a
 ·rename_i P d;split at a
  ·rename_i n c;split at a
   ·rename_i I q h;split at a
    ·rename_i i L e;rw[tJ]at a;cases l with
     |bp H=>exact⟨_,a,.bp H,by simp only[gb,d,erase,c,h,e];rfl⟩
    ·rename_i i es K L e;rw[tJ]at a;cases l with
     |ptr H=>exact⟨_,a,.ptr H,by simp only[gb,d,erase,c,h,e,Nat.add_assoc];rfl⟩
    ·rename_i b o M e;cases l with
     |fp v J D s x=>
      obtain⟨N,G⟩:=Gx _ _ _ a;refine⟨_,G,.fp v (by rw[Yy];omega) ?_ (fun O c=>s O (YB c)) x,by simp only[gb,d,erase,c,h,e];rfl⟩;rw[Yy,YH,<-D,List.drop_take,List.drop_drop]
    ·exact a.elim
   ·exact a.elim
  ·exact a.elim
 ·exact a.elim
end
end Go.VM
