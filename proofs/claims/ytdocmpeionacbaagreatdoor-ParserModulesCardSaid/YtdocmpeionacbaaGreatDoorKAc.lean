/- Part of the proof. -/
import Derived.Test.YtdocmpeionacbaaGreatDoorKAb
set_option linter.all false
set_option maxHeartbeats 16000000
set_option maxRecDepth 100000
open Nat renaming ble_eq_true_of_le->ais,eq_of_beq_eq_true->ait,ne_of_lt->aiu,beq->aiz,ble->aiF,blt->aiI,beq_refl->aiP,lt_succ_of_lt->aiR,zero_mul->aiY,succ_mul->aiZ,le_of_ble_eq_true->ai0,mul_le_mul_right->ai2,lt_of_lt_of_le->ai4,add_zero->ai5,min_eq_left->ai8,le_refl->ai9,lt_irrefl->ajd,sub_mul->ajf,add_mul->ajg,eq_zero_or_pos->ajk
open List renaming flatten_cons->aiv,mem_of_mem_take->aiw,mem_of_mem_drop->aix,length_map->aiy,map_congr_left->aiA,mem_map->aiB,mem_cons->aiC,mem_of_getElem?->aiD,mem_or_eq_of_mem_set->aiG,all_eq_true->aiH,map_cons->aiJ,length_append->aiK,cons_append->aiM,mem_append->aiN,drop_length_add_append->aiO,getElem?_eq_some_iff->aiQ,map_take->aiS,map_drop->aiT,length_drop->aiV,take_of_length_le->aiW,nil_append->ai1,drop_succ_cons->ai3,mem_flatten->ai6,length_cons->ai7,take_length_add_append->aja,drop_take->ajb,drop_drop->ajc,take_succ_cons->ajh,mem_cons_self->ajl,length->j'
open Bool renaming and_eq_true->aiE,and_self->aiU,true->A',false->B'
open Int renaming ofNat->aiL,ofNat_eq_natCast->aje,negSucc_lt_zero->aji
open Option renaming map_none->aiX,isNone_none->ajj,some->q',none->u'
open Go renaming Value->C',FuncId->D',IntKind->E',TypeId->F',Operand->H',Deferred->J',Oper->M',Code->T'
namespace Go.VM
open Go.AM
inductive D where
 |bool (b:Bool)
 |int (k:E') (n:Int)
 |str (s:cC)
 |OO
 |cu
 |Mk
 |OP
 |AN
 |ps (b o es cap:Nat) (els:List (List D))
abbrev cP:Type:=List D
inductive V where
 |d (x:D)
 |bp (i f:Nat)
 |ptr (i es k f:Nat)
 |fp (b off:Nat) (cs:List D)
 |ms (i es k len cap:Nat)
 |map (i:Nat)
 |fn (f:Nat) (first aeD:List V)
 |wA (l:Nat)
 |iface (t:Nat) (v:V)
 |agg (l:List V)
 |dP (l:List V)
def cK:D->C'
 |.bool b=>.bool b
 |.int d n=>.int d n
 |.str c=>.string ⟨⟨c⟩⟩
 |.OO=>.pointer u'
 |.cu=>.slice u' 0 0
 |.Mk=>.map u'
 |.OP=>.nilFunc
 |.AN=>.nilIface
 |.ps b o _ a els=>.slice (q' ⟨b,o,u'⟩) (j' els) a
mutual
def erase(ρ:Nat->Nat):V->C'
 |.d x=>cK x
 |.bp i f=>.pointer (q' ⟨ρ i,f,u'⟩)
 |.ptr i es k f=>.pointer (q' ⟨ρ i,k*es+f,u'⟩)
 |.fp b off _=>.pointer (q' ⟨b,off,u'⟩)
 |.ms i es k len cap=>.slice (q' ⟨ρ i,k*es,u'⟩) len cap
 |.map i=>.map (q' (ρ i))
 |.fn f first aeD=>.func (.func f) ⟨cE ρ first⟩ ⟨cE ρ aeD⟩
 |.wA l=>.func (.yield (ρ l)) #[] #[]
 |.iface t v=>.iface t (erase ρ v)
 |.agg l=>.agg ⟨cE ρ l⟩
 |.dP l=>.tuple ⟨cE ρ l⟩
def cE(ρ:Nat->Nat):n_ V->n_ C'
 |[]=>[]
 |v::l=>erase ρ v::cE ρ l
end
inductive ab1 where
 |Ml (r:Nat)
 |fn (f:Nat) (aeD:List V)
structure gR where
 target:ab1
 args:List V
structure la where
 state:LoopState
 pending:Option T'
 fn:D'
 tm:List (Nat×V)
 nt:Nat
 params:List Tmp
 assign:T'
 body:T'
 defers:Nat
 fz:Nat->Bool
structure tK where
 key:V
 val:V
 born:Nat
inductive cX where
 |box (cs:List V)
 |row (es:Nat) (els:List (List V))
 |map (es:List tK) (clock:Nat)
 |loop (l:la)
 |fP (taken:Bool)
 |gone
abbrev VS:=List cX
inductive o9 where
 |none
 |hD (v:V)
 |tC
inductive Hy where
 |norm
 |exit (id:Nat)
 |ret
 |panic (v:V)
inductive dt where
 |ret (v:V)
 |fJ (v:V)
structure x9 where
 fn:D'
 nt:Nat
 round:Option Nat
 Hv:Bool
 fz:Nat->Bool
 fl:Nat
inductive VR where
 |val (v:V) (σ:VS)
 |fJ (v:V)
 |enter (f:D') (args:List V)
 |yield (l:Nat) (args:List V)
 |recover
 |defer (d:gR)
def iy:V->Bool
 |.agg _=>B'
 |.dP _=>B'
 |_=>A'
def toD:C'->Option D
 |.bool b=>q' (.bool b)
 |.int c n=>q' (.int c n)
 |.string a=>q' (.str a.data.toList)
 |.pointer u'=>q' .OO
 |.slice u' 0 0=>q' .cu
 |.map u'=>q' .Mk
 |.nilFunc=>q' .OP
 |.nilIface=>q' .AN
 |_=>u'
def wB:n_ C'->Option (n_ V)
 |[]=>q' []
 |v::b=>match toD v,wB b with
  |some a,q' c=>q' (.d a::c)
  |_,_=>u'
def toV:C'->Option V
 |.agg ⟨b⟩=>match wB b with
  |some c=>q' (.agg c)
  |none=>u'
 |v=>match toD v with
  |some a=>q' (.d a)
  |none=>u'
def gE:n_ (Nat×V)->Nat->Option V
 |[],_=>u'
 |(a,b)::c,n=>match aiz a n with
  |true=>q' b
  |false=>gE c n
def RT(a:n_ (Nat×V)):H'->Option V
 |.tmp d=>gE a d
 |.const c=>toV c
 |.global _=>u'
 |.func b=>q' (.fn b [] [])
def ed{a:Type}(o:Option a)(b:a->Prop):Prop:=
 match o with
 |some c=>b c
 |none=>False
def kE(a c:Prop)(b:Bool):Prop:=
 match b with
 |true=>a
 |false=>c
def l3(a:Prop)(b:Prop):Prop:=a/\b
def eu:V->n_ V
 |.agg a=>a
 |v=>[v]
def YU:Nat->n_ V->(n_ V->Prop)->Prop
 |0,_,a=>a []
 |_+1,[],_=>False
 |n+1,b::d,a=>YU n d λc=>a (b::c)
def YV:n_ V->Nat->Nat->(n_ V->Prop)->Prop
 |e,0,n,a=>YU n e a
 |[],_+1,_,_=>False
 |_::c,b+1,n,a=>YV c b n a
def RU:Nat->n_ D->(n_ V->Prop)->Prop
 |0,_,a=>a []
 |_+1,[],_=>False
 |n+1,b::d,a=>RU n d λc=>a (.d b::c)
def RV:Nat->n_ D->(n_ D->Prop)->Prop
 |0,b,a=>a b
 |_+1,[],_=>False
 |n+1,_::c,a=>RV n c a
def FU:n_ V->Nat->n_ V->(n_ V->Prop)->Prop
 |c,0,[],d=>d c
 |[],0,_::_,_=>False
 |_::c,0,f::a,d=>FU c 0 a λb=>d (f::b)
 |[],_+1,_,_=>False
 |x::c,e+1,a,d=>FU c e a λb=>d (x::b)
def YW:VS->cX->Nat->(Nat->VS->Prop)->Prop
 |[],o,i,a=>a i [o]
 |x::d,o,i,a=>YW d o (i+1) λc b=>a c (x::b)
def Ej:VS->Nat->cX->(VS->Prop)->Prop
 |[],_,_,_=>False
 |_::a,0,o,b=>b (o::a)
 |x::a,i+1,o,b=>Ej a i o λc=>b (x::c)
def FV(σ:VS)(o:cX)(b:Nat->VS->Prop):Prop:=YW σ o 0 λi a=>zv i λi=>b i a
def vmk(a:Bool)(c:n_ V)(b:V->Prop):Prop:=
 match a with
 |true=>b (.agg c)
 |false=>match c with
  |[d]=>b d
  |_=>False
def adS(els:n_ (n_ V))(a:Nat)(c:n_ V->Prop):Prop:=∃b,nth els a=q' b/\c b
def OQ(n:Int)(a:Nat->Prop):Prop:=∃m:Nat,n=aiL m/\a m
def YX(n:Nat)(a:Bool)(j:V)(σ:VS)(h:V->Prop):Prop:=
 match j with
 |.bp i e=>match nth σ i with
  |some (.box b)=>YV b e n λc=>vmk a c h
  |_=>False
 |.ptr i es f e=>match nth σ i with
  |some (.row d els)=>match aiz es d with
   |true=>adS els f λk=>YV k e n λc=>vmk a c h
   |false=>False
  |_=>False
 |.fp _ _ b=>RU n b λc=>vmk a c h
 |_=>False
def T8(C:eN)(c:F')(b:V)(σ:VS)(d:V->Prop):Prop:=
 match C.tt.get c with
 |some a=>match a.agg||aiz a.size 1 with
  |true=>YX a.size a.agg b σ d
  |false=>False
 |none=>False
def uI(C:eN)(m:F')(n d:V)(σ:VS)(k:VS->Prop):Prop:=
 match C.tt.get m with
 |some e=>match aiz (j' (eu d)) e.size&&(eu d).all iy with
  |true=>match n with
   |.bp i f=>match nth σ i with
    |some (.box h)=>FU h f (eu d) λb=>Ej σ i (.box b) k
    |_=>False
   |.ptr i es a f=>match nth σ i with
    |some (.row c els)=>match aiz es c with
     |true=>adS els a λo=>FU o f (eu d) λj=>Ej σ i (.row es (els.set a j)) k
     |false=>False
    |_=>False
   |_=>False
  |false=>False
 |none=>False
def FW(ev:H'->Option V):n_ (Nat×H')->Option (n_ (Nat×V))
 |[]=>q' []
 |(i,a)::d=>match ev a,FW ev d with
  |some c,q' b=>q' ((i,c)::b)
  |_,_=>u'
def y9(ev:H'->Option V):n_ H'->Option (n_ V)
 |[]=>q' []
 |x::c=>match ev x,y9 ev c with
  |some b,q' a=>q' (b::a)
  |_,_=>u'
def OR(a:Nat->Option (Nat×Nat)):n_ V->n_ (Nat×V)->(n_ V->Prop)->Prop
 |cells,[],f=>f cells
 |cells,(i,h)::b,f=>
  match a i with
  |none=>False
  |some (e,d)=>match aiz (j' (eu h)) d with
   |true=>FU cells e (eu h) λc=>OR a c b f
   |false=>False
def RW(C:eN)(m:F')(e:n_ (Nat×V))(j:V->Prop):Prop:=
 match C.tt.get m with
 |some b=>
  match b.desc with
  |.struct a=>
   match(a.toList.all λk=>(C.tt.get k.type).isSome),b.agg,wB b.zero with
   |true,A',q' h=>OR (iC C a) h e λc=>j (.agg c)
   |_,_,_=>False
  |.array _ d=>
   match C.tt.get d,b.agg,wB b.zero with
   |some f,A',q' h=>OR (λi=>q' (i*f.size,f.size)) h e λc=>j (.agg c)
   |_,_,_=>False
  |_=>False
 |none=>False
def tL(a:n_ V):Nat->n_ (n_ V)
 |0=>[]
 |n+1=>a::tL a n
def Mm(a:Nat):n_ (n_ V)->n_ (Nat×V)->Option (n_ (n_ V))
 |els,[]=>q' els
 |els,(i,c)::b=>match aiz (j' (eu c)) a&&aiI i (j' els)&&(eu c).all iy with
  |true=>Mm a (els.set i (eu c)) b
  |false=>u'
def K7(C:eN)(ev:H'->Option V):Op->Option cX
 |.alloc f=>match C.tt.get f with
  |some b=>match wB b.zero,aiz (j' b.zero) b.size with
   |some e,A'=>q' (.box e)
   |_,_=>u'
  |none=>u'
 |.box _ i=>match ev i with
  |some h=>match(eu h).all iy with
   |true=>q' (.box (eu h))
   |false=>u'
  |none=>u'
 |.makeMap _ u'=>q' (.map [] 0)
 |.buildSlice f len d=>match FW ev d.toList,C.tt.get f with
  |some j,q' b=>match b.desc with
   |.slice c=>match C.tt.get c with
    |some a=>match aiI 0 a.size&&aiF (len*a.size) 16777216&&aiz (j' a.zero) a.size,wB a.zero with
     |true,q' e=>match Mm a.size (tL e len) j with
      |some els=>q' (.row a.size els)
      |none=>u'
     |_,_=>u'
    |none=>u'
   |_=>u'
  |_,_=>u'
 |_=>u'
def aeE:Op->cX->Nat->Option V
 |.alloc _,.box _,i=>q' (.bp i 0)
 |.box _ _,.box _,i=>q' (.bp i 0)
 |.makeMap _ _,.map _ _,i=>q' (.map i)
 |.buildSlice _ len _,.row es _,i=>q' (.ms i es 0 len len)
 |_,_,_=>u'
def uJ:n_ V->Option (n_ D)
 |[]=>q' []
 |.d a::c=>match uJ c with
  |some b=>q' (a::b)
  |none=>u'
 |_::_=>u'
def sn:n_ (n_ V)->Option (n_ (n_ D))
 |[]=>q' []
 |e::c=>match uJ e,sn c with
  |some a,q' b=>q' (a::b)
  |_,_=>u'
def pa:Op->Bool
 |.buildSlice _ _ _=>A'
 |_=>B'
def YY(C:eN)(e:Bool)(ev:H'->Option V)(a:Op)(σ:VS)(f:V->VS->Prop):Prop:=
 match K7 C ev a with
 |some c=>match e&&pa a with
  |true=>match c with
   |.row es els=>match sn els with
    |some h=>∀b:Nat,f (.d (.ps b 0 es (j' h) h)) σ
    |none=>False
   |_=>False
  |false=>FV σ c λi d=>ed (aeE a c i) λj=>f j d
 |none=>False
def CL(a:V)(b:V->Prop):Prop:=
 match a with
 |.bp _ _=>b a
 |.ptr _ _ _ _=>b a
 |.fp _ _ _=>b a
 |.iface _ _=>b a
 |.fn _ _ _=>b a
 |.wA _=>b a
 |_=>False
def cj(b:Bool):V:=.d (.bool b)
def Mn(e:BinOp)(a:E')(c b:Int)(d:V->Prop):Prop:=
 match e with
 |.add=>d (.d (.int a (a.wrap (c+b))))
 |.sub=>d (.d (.int a (a.wrap (c-b))))
 |.mul=>d (.d (.int a (a.wrap (c*b))))
 |.quo=>l3 (b≠0) (d (.d (.int a (a.wrap (c.tdiv b)))))
 |.and=>d (.d (.int a (a.wrap (BitVec.ofInt a.bits c&&&BitVec.ofInt a.bits b).toNat)))
 |.or=>d (.d (.int a (a.wrap (BitVec.ofInt a.bits c|||BitVec.ofInt a.bits b).toNat)))
 |.eql=>d (cj (decide (c=b)))
 |.neq=>d (cj (!(decide (c=b))))
 |.lss=>d (cj (decide (c<b)))
 |.leq=>d (cj (decide (c<=b)))
 |.gtr=>d (cj (decide (b<c)))
 |.geq=>d (cj (decide (b<=c)))
 |_=>False
def YZ(c:BinOp)(a:E')(d b:Int)(e:V->Prop):Prop:=
 OQ b λn=>match c with
  |.shl=>e (.d (.int a (a.wrap (d*2^(min n a.bits)))))
  |.shr=>e (.d (.int a (d.fdiv (2^(min n a.bits)))))
  |_=>False
def Mo(d:BinOp)(a b:cC)(c:V->Prop):Prop:=
 match d with
 |.add=>l3 (j' a+j' b<=1099511627776) (c (.d (.str (a++b))))
 |.eql=>c (cj (decide (a=b)))
 |.neq=>c (cj (!(decide (a=b))))
 |.lss=>c (cj (cS a b))
 |.leq=>c (cj (cS a b||decide (a=b)))
 |.gtr=>c (cj (!(cS a b||decide (a=b))))
 |.geq=>c (cj (!(cS a b)))
 |_=>False
def aeF:V->Option (Bool×Bool)
 |.d .cu=>q' (A',A')
 |.d (.ps _ _ _ _ _)=>q' (A',B')
 |.ms _ _ _ _ _=>q' (A',B')
 |.d .AN=>q' (B',A')
 |.iface _ _=>q' (B',B')
 |_=>u'
def vEq(C:eN)(f:F')(k j:H')(a b:V)(h:Bool->Prop):Prop:=
 match a,b with
 |.d (.bool e),.d (.bool q)=>match C.tt.get f with
  |some c=>match c.desc with
   |.bool=>h (e==q)
   |_=>False
  |none=>False
 |.agg i,.agg m=>match uJ i,uJ m with
  |some i,q' m=>∃o,Ro C f k j (.agg ⟨i.map cK⟩) (.agg ⟨m.map cK⟩)=q' o/\h o
  |_,_=>False
 |a,b=>match C.tt.get f,aeF a,aeF b with
  |some c,q' (n,e),q' (d,q)=>match(e||q)&&(match c.desc with
    |.slice _=>n&&d
    |.interface _=> !(n||d)&&(!(e&&q)||oY k||oY j)
    |_=>B')with
   |true=>h (e&&q)
   |false=>False
  |_,_,_=>False
def aeG(C:eN)(c:BinOp)(k:F')(j i:H')(a b:V)(f:V->Prop):Prop:=
 match a,b with
 |.d (.int d m),.d (.int e n)=>match EM c with
  |true=>YZ c d m n f
  |false=>match v8 d e with
   |true=>Mn c d m n f
   |false=>False
 |.d (.str m),.d (.str n)=>Mo c m n f
 |a,b=>match c with
  |.eql=>vEq C k j i a b λh=>f (cj h)
  |.neq=>vEq C k j i a b λh=>f (cj (!h))
  |_=>False
def vUn(c:UnOp)(e:V)(d:V->Prop):Prop:=
 match c,e with
 |.neg,.d (.int a n)=>d (.d (.int a (a.wrap (0-n))))
 |.not,.d (.bool b)=>d (cj (!b))
 |_,_=>False
def io(c:UInt8):V:=.d (.int .u8 (aiL c.toNat))
def wC(c:UInt8):D:=.int .u8 (aiL c.toNat)
def FX(C:eN)(src a:F')(o:V)(σ:VS)(h:V->Prop):Prop:=
 match C.tt.get src,C.tt.get a with
 |some m,q' k=>
  match m.desc,k.desc with
  |.int _,.int d=>match o with
   |.d (.int _ n)=>h (.d (.int d (d.wrap n)))
   |_=>False
  |.slice p,.string=>
   match C.tt.get p with
   |some j=>match j.desc with
    |.int .u8=>match o with
     |.d .cu=>h (.d (.str []))
     |.d (.ps _ _ es _ els)=>∃e:cC,es=1/\els=(e.map λc=>[wC c])/\h (.d (.str e))
     |.ms i es b len _=>match nth σ i with
      |some (.row f els)=>∃e:cC,es=1/\f=1/\(els.drop b).take len=(e.map λc=>[io c])/\b+len<=j' els/\h (.d (.str e))
      |_=>False
     |_=>False
    |_=>False
   |none=>False
  |_,_=>False
 |_,_=>False
def RX(C:eN)(f:Bool)(src a:F')(n:V)(σ:VS)(m:V->VS->Prop):Prop:=
 match C.tt.get src,C.tt.get a with
 |some k,q' h=>
  match k.desc,h.desc,n with
  |.string,.slice o,.d (.str d)=>
   match C.tt.get o with
   |some j=>match j.desc with
    |.int .u8=>match f with
     |true=>∀b:Nat,m (.d (.ps b 0 1 (j' d) (d.map λc=>[wC c]))) σ
     |false=>FV σ (.row 1 (d.map λc=>[io c])) λi e=>m (.ms i 1 0 (j' d) (j' d)) e
    |_=>False
   |none=>False
  |_,_,_=>False
 |_,_=>False
def ab2(C:eN)(a:F'):Bool:=
 match C.tt.get a with
 |some b=>match b.desc with
  |.slice _=>A'
  |_=>B'
 |none=>B'
def rr(C:eN)(b:F')(c:V)(d:V->Prop):Prop:=
 match C.tt.get b with
 |some a=>match a.desc with
  |.interface _=>False
  |_=>d (.iface b c)
 |none=>False
def mC:Option V->Nat->(Nat->Prop)->Prop
 |none,b,a=>a b
 |some (.d (.int _ n)),_,a=>OQ n a
 |_,_,_=>False
def RY(C:eN)(s:F')(p:V)(lo hi e:Option V)(σ:VS)(k:V->Prop):Prop:=
 match C.tt.get s with
 |none=>False
 |some n=>
  match n.desc,p with
  |.string,.d (.str q)=>match e with
   |none=>mC lo 0 λc=>mC hi (j' q) λd=>l3 (c<=d/\d<=j' q) (k (.d (.str ((q.take d).drop c))))
   |some _=>False
  |.slice f,p=>
   match C.tt.get f with
   |none=>False
   |some h=>match p with
    |.d .cu=>mC lo 0 λc=>mC hi 0 λd=>mC e 0 λm=>l3 (c=0/\d=0/\m=0/\(hi.isSome||e.isNone)=A') (k (.d .cu))
    |.d (.ps b o es a els)=>match e with
     |none=>mC lo 0 λc=>mC hi (j' els) λd=>l3 (c<=d/\d<=j' els/\j' els<=a/\0<=a/\es=h.size) (k (.d (.ps b (o+c*es) es (a-c) ((els.take d).drop c))))
     |some _=>False
    |.ms i es r len a=>match nth σ i with
     |some (.row j _)=>mC lo 0 λc=>mC hi len λd=>mC e a λm=>l3 (c<=d/\d<=m/\m<=a/\0<=a/\es=h.size/\j=es/\(hi.isSome||e.isNone)=A') (k (.ms i es (r+c) (d-c) (m-c)))
     |_=>False
    |_=>False
  |_,_=>False
def zz(C:eN)(p:F')(n:V)(m:Nat)(k:V->Prop):Prop:=
 match C.tt.get p with
 |some h=>
  match h.desc with
  |.struct c=>match iC C c m with
   |some (a,f)=>match aiI 0 f,n with
    |true,.bp i d=>zv (d+a) λd=>k (.bp i d)
    |true,.ptr i es j d=>zv (d+a) λd=>k (.ptr i es j d)
    |true,.fp b o e=>RV a e λe=>k (.fp b (o+a) e)
    |_,_=>False
   |none=>False
  |_=>False
 |none=>False
def T9(C:eN)(f:F')(d:n_ V)(a:Nat)(e:V->Prop):Prop:=
 match C.tt.get f with
 |some b=>match b.agg with
  |true=>YV d a b.size λc=>e (.agg c)
  |false=>ed (nth d a) e
 |none=>False
def RZ(C:eN)(h:F')(f:V)(e:Nat)(i:V->Prop):Prop:=
 match C.tt.get h,f with
 |some c,.agg d=>
  match c.desc with
  |.struct a=>match nth a.toList e with
   |some b=>T9 C b.type d b.offset i
   |none=>False
  |_=>False
 |_,_=>False
def zA(C:eN)(k:F')(j i:V)(f:V->Prop):Prop:=
 match C.tt.get k,i with
 |some d,.d (.int _ n)=>
  match d.desc with
  |.slice a=>match C.tt.get a with
   |some c=>match j with
    |.ms p es e len _=>match aiz es c.size with
     |true=>OQ n λm=>l3 (m<len) (f (.ptr p es (e+m) 0))
     |false=>False
    |.d (.ps b o es _ els)=>match aiz es c.size with
     |true=>OQ n λm=>∃h,nth els m=q' h/\f (.fp b (o+m*es) h)
     |false=>False
    |_=>False
   |none=>False
  |_=>False
 |_,_=>False
def R0(C:eN)(k:F')(h i:V)(f:V->Prop):Prop:=
 match C.tt.get k,h,i with
 |some b,.d (.str j),.d (.int _ n)=>
  match b.desc with
  |.string=>OQ n λm=>∃c,nth j m=q' c/\f (io c)
  |_=>False
 |some b,.agg e,.d (.int _ n)=>
  match b.desc with
  |.array len a=>match C.tt.get a with
   |some d=>OQ n λm=>l3 (m<len) (T9 C a e (m*d.size) f)
   |none=>False
  |_=>False
 |_,_,_=>False
def je(d:TypeDesc)(a:V):n_ tK->Nat->Option (Option (Nat×V))
 |[],_=>q' u'
 |e::f,i=>
  match d,a,e.key with
  |.string,.d (.str c),.d (.str b)=>match decide (c=b)with
   |true=>q' (q' (i,e.val))
   |false=>je d a f (i+1)
  |.int _,.d (.int j c),.d (.int h b)=>match v8 j h,decide (c=b)with
   |true,A'=>q' (q' (i,e.val))
   |true,B'=>je d a f (i+1)
   |false,_=>u'
  |.bool,.d (.bool c),.d (.bool b)=>match c==b with
   |true=>q' (q' (i,e.val))
   |false=>je d a f (i+1)
  |_,_,_=>u'
def AO(σ:VS):V->Option (n_ tK)
 |.d .Mk=>q' []
 |.map a=>match nth σ a with
  |some (.map es _)=>q' es
  |_=>u'
 |_=>u'
def Mq(C:eN)(o:F')(n a:V)(d:Bool)(σ:VS)(k:V->Prop):Prop:=
 match C.tt.get o with
 |none=>False
 |some f=>
  match f.desc with
  |.map h i=>
   match C.tt.get h,C.tt.get i with
   |some c,q' b=>
    match tG c.desc,AO σ n with
    |true,q' es=>∃j,je c.desc a es 0=q' j/\(match j with
     |some (_,m)=>k (match d with|true=>.dP [m,cj A']|false=>m)
     |none=>ed (wB b.zero) λe=>vmk b.agg e λe=>k (match d with|true=>.dP [e,cj B']|false=>e))
    |_,_=>False
   |_,_=>False
  |_=>False
def pH:n_ tK->Nat->V->V->n_ tK
 |[],_,_,_=>[]
 |e::c,i,a,b=>match i with
  |0=>{e with key:=a,val:=b}::c
  |d+1=>e::pH c d a b
def uK(C:eN)(k:F')(m key j:V)(σ:VS)(h:VS->Prop):Prop:=
 match C.tt.get k,m with
 |some c,.map e=>
  match c.desc with
  |.map d _=>
   match C.tt.get d,nth σ e with
   |some b,q' (.map es a)=>
    match tG b.desc with
    |false=>False
    |true=>∃f,je b.desc key es 0=q' f/\(match f with
     |some (i,_)=>Ej σ e (.map (pH es i key j) a) h
     |none=>Ej σ e (.map (es++[{key:=key,val:=j,born:=a}]) (a+1)) h)
   |_,_=>False
  |_=>False
 |_,_=>False
def wD(C:eN)(h:V)(e:F')(c:Bool)(d:V->Prop):Prop:=
 match C.tt.get e with
 |none=>False
 |some a=>
  match a.desc with
  |.interface _=>False
  |_=>
   match h with
   |.iface i f=>match aiz i e with
    |true=>d (match c with|true=>.dP [f,cj A']|false=>f)
    |false=>match c with
     |true=>ed (wB a.zero) λb=>vmk a.agg b λb=>d (.dP [b,cj B'])
     |false=>False
   |.d .AN=>match c with
    |true=>ed (wB a.zero) λb=>vmk a.agg b λb=>d (.dP [b,cj B'])
    |false=>False
   |_=>False
def FY(b:V)(i:Nat)(c:V->Prop):Prop:=
 match b with
 |.dP a=>ed (nth a i) c
 |_=>False
def Y0(C:eN)(a:TI)(f:V)(σ:VS)(d:n_ (n_ V)->Prop):Prop:=
 match f with
 |.d .cu=>d []
 |.d (.ps _ _ es _ els)=>l3 (es=a.size) (d (els.map λj=>j.map V.d))
 |.ms i es b len _=>match nth σ i with
  |some (.row e els)=>l3 (es=a.size/\e=es/\b+len<=j' els) (match b,aiz len (j' els) with
   |0,A'=>d els
   |_,_=>d ((els.drop b).take len))
  |_=>False
 |.d (.str h)=>l3 (a.size=1) (d (h.map λc=>[io c]))
 |_=>False
def Mr(C:eN)(m:Bool)(d:n_ F')(h:n_ V)(σ:VS)(k:V->VS->Prop):Prop:=
 match d,h with
 |[s,t],[z,x]=>
  match C.tt.get s,C.tt.get t with
  |some r,q' n=>
   match r.desc,n.desc with
   |_,.int _=>False
   |.slice j,_=>
    match C.tt.get j with
    |some a=>
     match aiI 0 a.size&&aiz (j' a.zero) a.size with
     |false=>False
     |true=>Y0 C a x σ λxs=>
      match z with
      |.d .cu=>l3 (j' xs*a.bytes<=en/\j' xs<=en) (kE (k (.d .cu) σ)
       (match m with
       |true=>ed (sn xs) λp=>∀b:Nat,k (.d (.ps b 0 a.size (j' p) p)) σ
       |false=>FV σ (.row a.size xs) λi e=>k (.ms i a.size 0 (j' xs) (j' xs)) e) (aiz (j' xs) 0))
      |.ms i es f len c=>match nth σ i with
       |some (.row q els)=>l3 (es=a.size/\q=es/\f+len<=j' els/\len<=c/\(len+j' xs)*a.bytes<=en/\len+j' xs<=en) (kE (k (.ms i es f len c) σ)
        (kE False
        (Ej σ i .gone λσ=>
        (match m with
        |true=>ed (sn ((els.drop f).take len++xs)) λp=>∀b:Nat,k (.d (.ps b 0 a.size (j' p) p)) σ
        |false=>FV σ (.row a.size ((els.drop f).take len++xs)) λv e=>k (.ms v a.size 0 (len+j' xs) (len+j' xs)) e)) (aiF (len+j' xs) c)) (aiz (j' xs) 0))
       |_=>False
      |.d (.ps b o es c els)=>l3 (j' els<=c/\xs=[]/\j' els*a.bytes<=en/\j' els<=en) (k (.d (.ps b o es c els)) σ)
      |_=>False
    |none=>False
   |_,_=>False
  |_,_=>False
 |_,_=>False
def aeH(C:eN)(a:n_ F')(b:n_ V)(σ:VS)(c:V->Prop):Prop:=
 match a,b with
 |t::_,e::_=>
  match C.tt.get t with
  |none=>False
  |some d=>
   match d.desc,e with
   |.string,.d (.str f)=>c (.d (.int .i64 (aiL (j' f))))
   |.slice _,.d .cu=>c (.d (.int .i64 (aiL 0)))
   |.slice _,.d (.ps _ _ _ _ els)=>c (.d (.int .i64 (aiL (j' els))))
   |.slice _,.ms _ _ _ len _=>c (.d (.int .i64 (aiL len)))
   |.map _ _,e=>ed (AO σ e) λes=>c (.d (.int .i64 (aiL (j' es))))
   |_,_=>False
 |_,_=>False
def vmm(c:Bool)(d:E'):Int->n_ V->(V->Prop)->Prop
 |a,[],e=>e (.d (.int d a))
 |a,.d (.int _ b)::f,e=>vmm c d (match c with|true=>max a b|false=>min a b) f e
 |_,_::_,_=>False
def Y1(C:eN)(b:Builtin)(a:n_ F')(c:n_ V)(σ:VS)(f:V->Prop):Prop:=
 match b with
 |.len=>aeH C a c σ f
 |.max=>match c with
  |.d (.int d h)::e=>vmm A' d h e f
  |_=>False
 |.min=>match c with
  |.d (.int d h)::e=>vmm B' d h e f
  |_=>False
 |_=>False
def Ua(C:eN)(c:Nat)(a:n_ V)(σ:VS)(d:VR->Prop):Prop:=
 kE (d (.enter c a)) (match uJ a with
  |some e=>∃b,C.ext c (e.map cK)=q' (cK b)/\flat (cK b)=A'/\d (.val (.d b) σ)
  |none=>False) (C.ff.get c).isSome
def FZ(C:eN)(d:V)(a:n_ V)(σ:VS)(c:VR->Prop):Prop:=
 match d with
 |.fn e first b=>Ua C e (first++a++b) σ c
 |.wA f=>c (.yield f a)
 |_=>False
def Y2(b:V)(args:n_ V)(c:VR->Prop):Prop:=
 match b with
 |.fn d first a=>c (.defer {target:=.fn d a,args:=first++args})
 |_=>False
def Y3(ev:H'->Option V):Option H'->Option (Option V)
 |none=>q' u'
 |some a=>match ev a with
  |some b=>q' (q' b)
  |none=>u'
def HS(C:eN)(ev:H'->Option V)(j:Op)(σ:VS)(f:V->Prop):Prop:=
 match j with
 |.move d=>ed (ev d) f
 |.pick c o b=>match ev c,ev o,ev b with
  |some (.d (.bool e)),q' h,q' a=>kE (f h) (f a) e
  |_,_,_=>False
 |.build e p=>ed (FW ev p.toList) λs=>RW C e s f
 |.load e o=>ed (ev o) λa=>T8 C e a σ f
 |.nilCheck d=>ed (ev d) λa=>CL a f
 |.binOp j e d t _=>ed (ev d) λh=>ed (ev t) λa=>aeG C j e d t h a f
 |.unOp j _ d=>ed (ev d) λh=>vUn j h f
 |.convert x v d=>ed (ev d) λa=>FX C x v a σ f
 |.makeInterface e d=>ed (ev d) λa=>rr C e a f
 |.makeFunc fn o b=>match fn with
  |.func z=>ed (y9 ev o.toList) λh=>ed (y9 ev b.toList) λa=>f (.fn z h a)
  |_=>False
 |.slice e d lo hi r=>ed (ev d) λa=>ed (Y3 ev lo) λs=>ed (Y3 ev hi) λD=>ed (Y3 ev r) λm=>RY C e a s D m σ f
 |.fieldAddr e d q=>ed (ev d) λa=>zz C e a q f
 |.field e d q=>ed (ev d) λa=>RZ C e a q f
 |.indexAddr e d i=>ed (ev d) λh=>ed (ev i) λa=>zA C e h a f
 |.index e d i=>ed (ev d) λh=>ed (ev i) λa=>R0 C e h a f
 |.lookup e d i k=>ed (ev d) λh=>ed (ev i) λa=>Mq C e h a k σ f
 |.typeAssert d _ e k=>ed (ev d) λa=>wD C a e k f
 |.extract d i=>ed (ev d) λa=>FY a i f
 |.call c=>ed (y9 ev c.args.toList) λn=>match c.callee with
   |.builtin b=>Y1 C b c.argTypes.toList n σ f
   |_=>False
 |_=>False
def zB(C:eN)(k:F')(o c:V)(σ:VS)(m:V->VS->Prop):Prop:=
 match C.tt.get k with
 |some f=>match f.desc with
  |.slice d=>match C.tt.get d with
   |some a=>match aiI 0 a.size&&aiz (j' a.zero) a.size,wB a.zero with
    |true,q' j=>match o,c with
     |.d (.int .i64 h),.d (.int .i64 b)=>OQ h λn=>l3 (b=h/\n*a.bytes<=1099511627776/\n<=1099511627776) (FV σ (.row a.size (tL j n)) λi e=>m (.ms i a.size 0 n n) e)
     |_,_=>False
    |_,_=>False
   |none=>False
  |_=>False
 |none=>False
def vop(C:eN)(h:Bool)(ev:H'->Option V)(op:Op)(σ:VS)(d:VR->Prop):Prop:=
 match op with
 |.assign f=>ed (ev f) λa=>d (.val a σ)
 |.store e q f=>ed (ev q) λa=>ed (ev f) λp=>uI C e a p σ λσ=>d (.val (.dP []) σ)
 |.mapUpdate e m i a=>ed (ev m) λm=>ed (ev i) λi=>ed (ev a) λa=>uK C e m i a σ λσ=>d (.val (.dP []) σ)
 |.insert e m i a=>ed (ev m) λm=>ed (ev i) λi=>ed (ev a) λa=>uK C e m i a σ λσ=>d (.val (.dP []) σ)
 |.call c=>match c.callee with
  |.value k=>ed (y9 ev c.args.toList) λb=>ed (ev k) λa=>FZ C a b σ d
  |.builtin .append=>ed (y9 ev c.args.toList) λb=>Mr C h c.argTypes.toList b σ λa σ=>d (.val a σ)
  |.builtin .recover=>ed (y9 ev c.args.toList) λ_=>d .recover
  |_=>HS C ev (.call c) σ λa=>d (.val a σ)
 |.defer c=>ed (y9 ev c.args.toList) λb=>match c.callee with
  |.value k=>ed (ev k) λa=>Y2 a b d
  |_=>False
 |.panic f=>match ev f with
  |some (.iface e a)=>d (.fJ (.iface e a))
  |_=>False
 |.convert o j f=>match ab2 C j with
  |true=>ed (ev f) λa=>RX C h o j a σ λa σ=>d (.val a σ)
  |false=>HS C ev (.convert o j f) σ λa=>d (.val a σ)
 |.makeSlice e n c=>ed (ev n) λn=>ed (ev c) λc=>zB C e n c σ λa σ=>d (.val a σ)
 |op=>match hZ op with
  |true=>YY C h ev op σ λa σ=>d (.val a σ)
  |false=>HS C ev op σ λa=>d (.val a σ)
structure Fz where
 Ye:Nat->Option gJ
 HT:Nat->Prop
 uL:Nat->Prop
instance:CoeFun Fz (λ_=>Nat->Option gJ):=⟨Fz.Ye⟩
structure Fz.le (Φ dV:Fz):Prop where
 Ye:∀b o,Φ b=q' o->dV b=q' o
 HT:∀b o,Φ b=q' o->(dV.HT b↔Φ.HT b)
 uL:∀f,Φ.uL f->dV.uL f
def Fz.le_refl(Φ:Fz):Φ.le Φ:=⟨λ_ _ a=>a,λ_ _ _=>Iff.rfl,λ_ a=>a⟩
def Fz.le.trans{j b c:Fz}(f:j.le b)(h:b.le c):j.le c:=⟨λa e d=>h.Ye a e (f.Ye a e d),λa e d=>(h.HT a e (f.Ye a e d)).trans (f.HT a e d),λi d=>h.uL i (f.uL i d)⟩
inductive zC (Φ:Fz):D->Prop
 |bool (b:Bool):zC Φ (.bool b)
 |int (k:E') (n:Int):zC Φ (.int k n)
 |str (s:cC):zC Φ (.str s)
 |OO:zC Φ .OO
 |cu:zC Φ .cu
 |Mk:zC Φ .Mk
 |OP:zC Φ .OP
 |AN:zC Φ .AN
 |ps {b o es cap:Nat} {els:List cP} {c:List C'} {f p:Nat} (h:Φ b=q' (.cells c es f p)) (hl:∀e∈els,j' e=es)
   (hb:o+j' els*es<=j' c) (hc:(c.drop o).take (j' els*es)=els.flatten.map cK) (hs:∀e∈els,∀d∈e,zC Φ d) (hd:Φ.HT b):zC Φ (.ps b o es cap els)
variable{T:D}
def zC.mono{Φ dV:Fz}(j:Φ.le dV)(c:zC Φ T):zC dV T:=by
 induction c with
 |bool b=>exact .bool b
 |int m n=>exact .int m n
 |str k=>exact .str k
 |OO=>exact .OO
 |cu=>exact .cu
 |Mk=>exact .Mk
 |OP=>exact .OP
 |AN=>exact .AN
 |ps a f i h _ d e=>exact .ps (j.Ye _ _ a) f i h e ((j.HT _ _ a).2 d)
inductive gk (Φ:Fz) (m:Nat):V->Prop
 |d {x:D} (h:zC Φ x):gk Φ m (.d x)
 |bp {i f:Nat} (h:i<m):gk Φ m (.bp i f)
 |ptr {i es k f:Nat} (h:i<m):gk Φ m (.ptr i es k f)
 |fp {b off:Nat} {cs:cP} {c:List C'} {e f p:Nat} (h:Φ b=q' (.cells c e f p)) (hb:off+j' cs<=j' c) (hc:(c.drop off).take (j' cs)=cs.map cK)
   (hs:∀d∈cs,zC Φ d) (hd:Φ.HT b):gk Φ m (.fp b off cs)
 |ms {i es k len cap:Nat} (h:i<m):gk Φ m (.ms i es k len cap)
 |map {i:Nat} (h:i<m):gk Φ m (.map i)
 |fn {f:Nat} {a c:List V} (h1:∀v∈a,gk Φ m v) (h2:∀v∈c,gk Φ m v):gk Φ m (.fn f a c)
 |wA {l:Nat} (h:l<m):gk Φ m (.wA l)
 |iface {t:Nat} {v:V} (h:gk Φ m v):gk Φ m (.iface t v)
 |agg {l:List V} (h:∀v∈l,gk Φ m v):gk Φ m (.agg l)
 |dP {l:List V} (h:∀v∈l,gk Φ m v):gk Φ m (.dP l)
def fW(Φ:Fz)(m:Nat)(a:n_ V):Prop:=∀b∈a,gk Φ m b
def gk.mono{Φ dV:Fz}{m m':Nat}(e:Φ.le dV)(q:m<=m'){p:V}(h:gk Φ m p):gk dV m' p:=by
 induction h with
 |d c=>exact .d (c.mono e)
 |bp a=>exact .bp om
 |ptr a=>exact .ptr om
 |fp a i o j n=>exact .fp (e.Ye _ _ a) i o (λd c=>(j d c).mono e) ((e.HT _ _ a).2 n)
 |ms a=>exact .ms om
 |map a=>exact .map om
 |fn _ _ f k=>exact .fn f k
 |wA a=>exact .wA om
 |iface _ b=>exact .iface b
 |agg _ b=>exact .agg b
 |dP _ b=>exact .dP b
def fW.mono{Φ dV:Fz}{m m':Nat}(e:Φ.le dV)(a:m<=m'){d:n_ V}(b:fW Φ m d):fW dV m' d:=λf c=>(b f c).mono e a
theorem fs(ρ:Nat->Nat):∀a:n_ V,cE ρ a=a.map (erase ρ):=by
 intro a;induction a with
 |nil=>simp[cE]
 |cons c a b=>simp[cE,b]
theorem gD(ρ:Nat->Nat)(a b:n_ V):cE ρ (a++b)=cE ρ a++cE ρ b:=by simp[fs]
theorem dD(ρ:Nat->Nat)(a:n_ V):j' (cE ρ a)=j' a:=by simp[fs]
variable{w:V}
def DG{Φ:Fz}{m:Nat}{ρ dM:Nat->Nat}(c:∀i,i<m->dM i=ρ i)(f:gk Φ m w):erase dM w=erase ρ w:=by
 induction f with
 |d _=>simp[erase]
 |bp a=>simp[erase,c _ a]
 |ptr a=>simp[erase,c _ a]
 |fp=>simp[erase]
 |ms a=>simp[erase,c _ a]
 |map a=>simp[erase,c _ a]
 |fn _ _ e h=>
  simp only[erase,fs];rw[aiA e,aiA h]
 |wA a=>simp[erase,c _ a]
 |iface _ b=>simp[erase,b]
 |agg _ b=>simp only[erase,fs];rw[aiA b]
 |dP _ b=>simp only[erase,fs];rw[aiA b]
variable{u:n_ V}
def Ms{Φ:Fz}{m:Nat}{ρ dM:Nat->Nat}(c:∀i,i<m->dM i=ρ i)(a:fW Φ m u):cE dM u=cE ρ u:=by
 rw[fs,fs];exact aiA λd b=>DG c (a d b)
theorem Mt{ρ:Nat->Nat}(a:iy w=A'):gM (erase ρ w)=A':=by
 cases w with
 |d b=>cases b<;>simp[erase,cK,gM]
 |agg _=>cases a
 |dP _=>cases a
 |_=>simp[erase,gM]
def iU(Φ:Fz)(ρ:Nat->Nat)(m:Nat)(d:n_ (Nat×V))(a:Tr C'):Prop:=
 ∀c b,gE d c=q' b->a.get c=q' (erase ρ b)/\gk Φ m b
def ku(ρ:Nat->Nat)(a:gR):J':=
 {target:=(match a.target with|.Ml d=>.collected (ρ d)|.fn b c=>.fn (.func b) ⟨cE ρ c⟩),args:=⟨cE ρ a.args⟩}
def OS(Φ:Fz)(m:Nat)(a:gR):Prop:=
 (match a.target with|.Ml b=>b<m|.fn _ c=>fW Φ m c)/\fW Φ m a.args
def F0(Φ:Fz)(ρ:Nat->Nat)(m:Nat)(b:n_ gR)(a:n_ J'):Prop:=a=b.map (ku ρ)/\∀c∈b,OS Φ m c
def pb(ρ:Nat->Nat)(a:tK):MapEntry:={key:=erase ρ a.key,val:=erase ρ a.val,born:=a.born}
structure LOk (Φ:Fz) (ρ:Nat->Nat) (m:Nat) (L:la) (al:KX):Prop where
 state:al.state=L.state
 pending:al.pending=L.pending
 fn:al.fn=L.fn
 tm:iU Φ ρ m L.tm al.tm
 nt:al.nt=L.nt
 params:al.params=L.params
 assign:al.assign=L.assign
 body:al.body=L.body
 defers:al.defers=ρ L.defers
 eK:L.defers<m
def NY(Φ:Fz)(ρ:Nat->Nat)(m:Nat)(st:St)(o:cX)(b:Nat):Prop:=
 match o with
 |.box a=>(st.get b=q' (.cells (cE ρ a) (j' a) b 0)/\st.fm.get b=u')/\fW Φ m a/\(∀f∈a,iy f=A')
 |.row es els=>(∃h k,st.get b=q' (.cells (cE ρ els.flatten) es h k))/\(∀d∈els,j' d=es)/\(∀d∈els,fW Φ m d)/\(∀d∈els,∀f∈d,iy f=A')
 |.map es c=>st.get b=q' (.map (es.map (pb ρ)) c)/\∀d∈es,gk Φ m d.key/\gk Φ m d.val
 |.loop j=>∃e,st.get b=q' (.loop e)/\LOk Φ ρ m j e
 |.fP i=>st.get b=q' (.fP i)
 |.gone=>True
def live:cX->Bool
 |.gone=>B'
 |_=>A'
structure WM (st:St):Prop where
 lt:∀f ms x,st.fm.get f=q' ms->x∈ms->x<st.n
 row:∀f ms x o,st.fm.get f=q' ms->x∈ms->st.get x=q' o->o=.dead∨∃c e p,o=.cells c e f p
def WM.mem{st:St}(m:WM st):∀d a e c b h k,st.fm.get d=q' a->e∈a->st.get e=q' (.cells c b h k)->h=d:=by
 intro d a e c b h k f j i;rcases m.row d a e _ f j i with b|⟨_,_,_,b⟩
 ·cases b
 cases b;rfl
structure Real (Φ:Fz) (ρ:Nat->Nat) (σ:VS) (st:St):Prop where
 wf:WF st
 wm:WM st
 fz:∀b o,Φ b=q' o->st.get b=q' o
 VV:∀b,Φ b≠q' .dead
 uL:∀f,Φ.uL f->st.fm.get f=u'/\f<st.n
 VW:∀x y c e f p c' e' p',Φ x=q' (.cells c e f p)->Φ y=q' (.cells c' e' f p')->x=y
 Q9:∀i es els c e f p,σ[i]?=q' (.row es els)->st.get (ρ i)=q' (.cells c e f p)->¬Φ.uL f
 obj:∀i o,σ[i]?=q' o->live o=A'->NY Φ ρ (j' σ) st o (ρ i)/\Φ (ρ i)=u'
 inj:∀i j oi oj,σ[i]?=q' oi->σ[j]?=q' oj->live oi=A'->live oj=A'->ρ i=ρ j->i=j
 et:∀i es els c e f p ms x,σ[i]?=q' (.row es els)->st.get (ρ i)=q' (.cells c e f p)->st.fm.get f=q' ms->x∈ms->x≠ρ i->
  Φ x=u'/\∀j o,σ[j]?=q' o->live o=A'->ρ j≠x
structure jO (Φ:Fz) (ρ:Nat->Nat) (m:Nat) (dV:Fz) (dM:Nat->Nat) (m':Nat):Prop where
 le:Φ.le dV
 xO:∀i,i<m->dM i=ρ i
 len:m<=m'
def jO.refl(Φ:Fz)(ρ:Nat->Nat)(m:Nat):jO Φ ρ m Φ ρ m:=⟨Fz.le_refl _,λ_ _=>rfl,ai9 _⟩
def jO.trans{Φ a d:Fz}{ρ b c:Nat->Nat}{m f e:Nat}(h:jO Φ ρ m a b f)(j:jO a b f d c e):jO Φ ρ m d c e:=
 ⟨h.le.trans j.le,λi hi=>(j.xO i (ai4 hi h.len)).trans (h.xO i hi),Nat.le_trans h.len j.len⟩
section
variable{Φ dV:Fz} {ρ dM:Nat->Nat} {m m':Nat}
theorem jO.erase(c:jO Φ ρ m dV dM m'){b:V}(a:gk Φ m b):erase dM b=erase ρ b:=DG c.xO a
theorem jO.cE(c:jO Φ ρ m dV dM m'){b:n_ V}(a:fW Φ m b):cE dM b=cE ρ b:=Ms c.xO a
def jO.ok(b:jO Φ ρ m dV dM m')(a:gk Φ m w):gk dV m' w:=a.mono b.le b.len
def jO.Ub(b:jO Φ ρ m dV dM m')(a:fW Φ m u):fW dV m' u:=a.mono b.le b.len
def jO.tm(e:jO Φ ρ m dV dM m'){f:n_ (Nat×V)}{a:Tr C'}(i:iU Φ ρ m f a):iU dV dM m' f a:=λh j c=>by
 have⟨d,b⟩:=i h j c;exact⟨by rw[d,e.erase b],e.ok b⟩
def jO.df1(d:jO Φ ρ m dV dM m'){e:gR}(i:OS Φ m e):ku dM e=ku ρ e/\OS dV m' e:=by
 have⟨h,k⟩:=e;have⟨a,b⟩:=i;cases h with
 |Ml f=>exact⟨by simp only[ku];rw[d.xO f a,d.cE b],ai4 a d.len,d.Ub b⟩
 |fn j c=>exact⟨by simp only[ku];rw[d.cE a,d.cE b],d.Ub a,d.Ub b⟩
def jO.df(e:jO Φ ρ m dV dM m'){f:n_ gR}{b:n_ J'}(d:F0 Φ ρ m f b):F0 dV dM m' f b:=
 ⟨by rw[d.1];exact(aiA λc a=>(e.df1 (d.2 c a)).1).symm,λc a=>(e.df1 (d.2 c a)).2⟩
def jO.lo(c:jO Φ ρ m dV dM m'){d:la}{b:KX}(a:LOk Φ ρ m d b):LOk dV dM m' d b:=
 ⟨a.state,a.pending,a.fn,c.tm a.tm,a.nt,a.params,a.assign,a.body,by rw[a.defers,c.xO _ a.eK],ai4 a.eK c.len⟩
def Mu{els:n_ (n_ V)}(d:∀c∈els,fW Φ m c):fW Φ m els.flatten:=λe a=>by
 have⟨c,b,a⟩:=ai6.1 a;exact d c b e a
def jO.af3(i:jO Φ ρ m dV dM m'){st f:St}{o:cX}{b:Nat}(e:f.get b=st.get b)(q:∀n,o=.box n->f.fm.get b=u')(k:NY Φ ρ m st o b):NY dV dM m' f o b:=by
 cases o with
 |box n=>
  have⟨⟨c,v⟩,a,h⟩:=k;exact⟨⟨by rw[e,c,i.cE a],q _ Z⟩,i.Ub a,h⟩
 |row es els=>
  have⟨⟨t,x,c⟩,a,h,s⟩:=k;exact⟨⟨t,x,by rw[e,c,i.cE (Mu h)]⟩,a,λj d=>i.Ub (h j d),s⟩
 |map es p=>
  have⟨c,a⟩:=k;refine⟨?_,λj d=>⟨i.ok (a j d).1,i.ok (a j d).2⟩⟩;rw[e,c];have:es.map (pb dM)=es.map (pb ρ):=aiA λj d=>by
   simp only[pb];rw[i.erase (a j d).1,i.erase (a j d).2]
  rw[this]
 |loop z=>
  have⟨r,c,a⟩:=k;exact⟨r,by rw[e,c],i.lo a⟩
 |fP C=>exact e.trans k
 |gone=>trivial
def jO.obj(i:jO Φ ρ m dV dM m'){st dy:St}{o:cX}{b:Nat}(f:dy.get b=st.get b)(a:∀c h d k,st.get b=q' (.cells c h d k)->st.fm.get d=u'->dy.fm.get d=u')(e:NY Φ ρ m st o b):NY dV dM m' dy o b:=
 i.af3 f (λj h=>by subst h;exact a _ _ _ _ e.1.1 e.1.2) e
end
theorem R1(b lo hi:Nat):∀(a:n_ Nat) (c:Tr gJ) (d:Nat),d ∉ a->(gm b lo hi a c).1.get d=c.get d:=by
 intro a;induction a with
 |nil=>intro c d _;rfl
 |cons m a e=>
  all_goals grind [gm,dx]
theorem R2(b lo hi:Nat):∀(a:n_ Nat) (c:Tr gJ) (d:Nat),d∈(gm b lo hi a c).2->d∈a:=by
 intro a;induction a with
 |nil=>intro c d h;simp[gm]at h
 |cons m a f=>
  intro c d e;unfold gm at e;all_goals grind
variable{S U y:Nat}
section
variable{st:St} {et b lo hi:Nat}
def OT(c:∀a,st.fm.get et=q' a->y ∉ a):(st.kill et b lo hi).get y=st.get y:=by
 unfold St.kill;split
 ·rfl
 rename_i a d;exact R1 b lo hi a st.hp y (c a d)
theorem ya(e:Nat):(e≠et->(st.kill et b lo hi).fm.get e=st.fm.get e)/\(st.fm.get et=u'->(st.kill et b lo hi).fm.get e=st.fm.get e)/\
  (∀a,st.fm.get et=q' a->∃d,(st.kill et b lo hi).fm.get et=q' d/\∀f∈d,f∈a):=by
 cases c:st.fm.get et with
 |none=>rw[iw c];exact⟨λ_=>rfl,λ_=>rfl,λa h=>by cases h⟩
 |some a=>
  rw[js c]
  grind [dx,R2]
end
def WM.EP{st:St}(h:WM st){b:Nat}{c i:n_ C'}(j:st.get b=q' (.cells c y S U)):WM (st.put b (.cells i y S U)):=by
 refine⟨h.lt,λn d m o e f a=>?_⟩;rw[dH]at a;split at a
 ·rename_i k;cases a;have:=h.mem n d m c y S U e f (k▸j);subst this;exact .inr ⟨_,_,_,Z⟩
 exact h.row n d m o e f a
def WM.CM{st:St}(m:WM st){b:Nat}{t d:gJ}(n:st.get b=q' d)(k:d≠.dead)(h:∀c i s v,d≠.cells c i s v):WM (st.put b t):=by
 refine⟨m.lt,λr e q o f j a=>?_⟩;rw[dH]at a;split at a
 ·rename_i p;rcases m.row r e q d f j (p▸n)with i|⟨_,_,_,i⟩
  ·exact Y' i k
  exact Y' i (h _ _ _ _)
 exact m.row r e q o f j a
def WM.new{st:St}(i:WM st){k:gJ}:WM (st.new k):=by
 refine⟨λj a e f c=>aiR (i.lt j a e f c),λh a e o b c d=>?_⟩;have b:st.fm.get h=q' a:=b;rw[dT,W' (aiu (i.lt h a e b c))]at d;exact i.row h a e o b c d
theorem WM.kill{st:St}(t:WM st){et b lo hi:Nat}:WM (st.kill et b lo hi):=by
 have f:∀d c h,(st.kill et b lo hi).fm.get d=q' c->h∈c->∃a,st.fm.get d=q' a/\h∈a:=by
  intro d c h k i;have s:=ya (st:=st) (et:=et) (b:=b) (lo:=lo) (hi:=hi) d;by_cases q:d=et
  ·subst q;cases j:st.fm.get d with
   |none=>rw[s.2.1 j,j]at k;cases k
   |some a=>
    grind
  grind
 refine⟨λd c h m i=>?_,λd c h o m i r=>?_⟩
 ·have⟨a,n,p⟩:=f d c h m i;rw[iK];exact t.lt d a h n p
 have⟨a,n,p⟩:=f d c h m i;rcases nl r with e|e
 ·exact .inl e
 exact t.row d a h o n p e
def so:cX->Bool
 |.box _=>A'
 |.row _ _=>A'
 |_=>B'
variable{F:cX} {G:n_ C'}
section
variable{Φ:Fz} {ρ:Nat->Nat} {σ:VS} {st:St}
def Real.lt(b:Real Φ ρ σ st){i:Nat}{o:cX}(hi:σ[i]?=q' o)(c:live o=A'):ρ i<st.n:=by
 have a:=(b.obj i o hi c).1;cases o with
 |box f=>have⟨⟨d,_⟩,_⟩:=a;exact b.wf.lt _ _ d
 |row es els=>have⟨⟨_,_,d⟩,_⟩:=a;exact b.wf.lt _ _ d
 |map es e=>exact b.wf.lt _ _ a.1
 |loop j=>have⟨_,d,_⟩:=a;exact b.wf.lt _ _ d
 |fP h=>exact b.wf.lt _ _ a
 |gone=>cases c
def Real.flt(c:Real Φ ρ σ st){b:Nat}{o:gJ}(a:Φ b=q' o):b<st.n:=c.wf.lt _ _ (c.fz _ _ a)
theorem Real.apart(j:Real Φ ρ σ st){i:Nat}(hi:σ[i]?=q' F)(f:so F=A'){c:n_ C'}(e:st.get (ρ i)=q' (.cells c y S U)) 
  {ms:n_ Nat} (d:st.fm.get S=q' ms) {a:Nat} (h:a∈ms) (b:a≠ρ i):Φ a=u'/\∀k o,σ[k]?=q' o->live o=A'->ρ k≠a:=by
 cases F with
 |box n=>
  have⟨⟨⟨p,m⟩,_⟩,_⟩:=j.obj i _ hi rfl
  grind
 |row es els=>exact j.et i es els c y S U ms a hi e d h b
 |_=>cases f
theorem Real.qd(r:Real Φ ρ σ st){i:Nat}(hi:σ[i]?=q' F)(t:so F=A'){c:n_ C'}(f:st.get (ρ i)=q' (.cells c y S U)) 
  {k:Nat} {n d s:Nat} (q:st.get k=q' (.cells G n d s)) (e:k≠ρ i) (m:Φ k≠u'∨∃v o,σ[v]?=q' o/\live o=A'/\ρ v=k):d≠S:=by
 intro h;subst h;have p:=(r.wf.et _ _ _ _ _ f).2;have a:=(r.wf.et _ _ _ _ _ q).2;unfold wh at p a;cases j:st.fm.get d with
 |none=>
  grind
 |some x=>
  rw[j]at a;have⟨z,b⟩:=r.apart hi t f j a e;all_goals grind
theorem AP{σ:VS}{i:Nat}{o a:cX}(hi:σ[i]?=q' o)(b:Nat):(σ.set i a)[b]?=if b=i then q' a else σ[b]?:=by
 all_goals grind
theorem Real.upd(D:Real Φ ρ σ st){i:Nat}{t:cX}(hi:σ[i]?=q' F)(l:live F=A'){dy:St}(A:WF dy)(w:WM dy) 
  (k:∀e,e≠ρ i->(Φ e≠u'∨∃d o,σ[d]?=q' o/\live o=A'/\ρ d=e)->dy.get e=st.get e)
  (V:∀e c f j r,e≠ρ i->(Φ e≠u'∨∃d o,σ[d]?=q' o/\live o=A'/\ρ d=e)->st.get e=q' (.cells c f j r)->dy.fm.get j=st.fm.get j)
  (u:∀j,Φ.uL j->dy.fm.get j=u'/\j<dy.n)
  (I:∀es els c f j r,t=.row es els->dy.get (ρ i)=q' (.cells c f j r)->¬Φ.uL j)
  (B:NY Φ ρ (j' σ) dy t (ρ i))
  (J:∀es els c f j r v e,t=.row es els->dy.get (ρ i)=q' (.cells c f j r)->dy.fm.get j=q' v->e∈v->e≠ρ i->Φ e=u'/\∀d o,σ[d]?=q' o->live o=A'->ρ d≠e):
  Real Φ ρ (σ.set i t) dy:=by
 have C:=(D.obj i F hi l).2;have m:∀d o,d≠i->σ[d]?=q' o->live o=A'->ρ d≠ρ i:=λd o a B q f=>a (D.inj d i o F B hi q l f);refine⟨A,w,λb o x=>?_,D.VV,u,D.VW,λd es els c f j r a z=>?_,λd o a q=>?_,λd Q P L a p H E f=>?_,λd es els c f j r v e a z G M h=>?_⟩
 ·have h:b≠ρ i:=λf=>by rw[f,C]at x;cases x
  rw[k b h (.inl (by rw[x];simp))];exact D.fz b o x
 ·rw[AP hi]at a;by_cases n:d=i
  ·grind
  rw[W' n]at a;rw[k _ (m d _ n a rfl) (.inr ⟨d,_,a,rfl,rfl⟩)]at z;exact D.Q9 d es els c f j r a z
 ·rw[AP hi]at a;by_cases f:d=i
  ·grind
  rw[W' f]at a;have p:=D.obj d o a q;have h:=m d o f a q;refine⟨?_,p.2⟩;have:=(jO.refl Φ ρ (j' σ)).obj (st:=st) (dy:=dy) (k _ h (.inr ⟨d,o,a,q,rfl⟩)) (λc f j r O N=>by rw[V _ c f j r h (.inr ⟨d,o,a,q,rfl⟩) O];exact N) p.1;simpa using this
 ·rw[AP hi]at a p;by_cases n:d=i
  ·all_goals grind
  by_cases K:Q=i
  ·grind
  rw[W' n]at a;rw[W' K]at p;exact D.inj d Q P L a p H E f
 have y:(Φ e=u'/\∀d o,σ[d]?=q' o->live o=A'->ρ d≠e)->Φ e=u'/\∀d o,(σ.set i t)[d]?=q' o->live o=A'->ρ d≠e:=by
  all_goals grind
 rw[AP hi]at a;by_cases n:d=i
 ·grind
 rw[W' n]at a;have g:=m d _ n a rfl;have s:=z;rw[k _ g (.inr ⟨d,_,a,rfl,rfl⟩)]at s;rw[V _ c f j r g (.inr ⟨d,_,a,rfl,rfl⟩) s]at G;exact y (D.et d es els c f j r v e a s G M h)
theorem Real.write(u:Real Φ ρ σ st){i:Nat}{r o':cX}(hi:σ[i]?=q' r)(I:so r=A'){c c':n_ C'}{k d q lo hi':Nat} 
  (p:st.get (ρ i)=q' (.cells c k d q))
  (B:(∃V e,r=.box V/\o'=.box e/\j' e=j' V/\c'=cE ρ e/\fW Φ (j' σ) e/\∀R∈e,iy R=A')∨
   (∃els a,r=.row k els/\o'=.row k a/\c'=cE ρ a.flatten/\(∀h∈a,j' h=k)/\(∀h∈a,fW Φ (j' σ) h)/\∀h∈a,∀R∈h,iy R=A')):
  Real Φ ρ (σ.set i o') ((st.put (ρ i) (.cells c' k d q)).kill d (ρ i) lo hi'):=by
 have E:live r=A':=by cases r<;>first|rfl|cases I
 have y:∀h,(st.put (ρ i) (.cells c' k d q)).get h=if h=ρ i then q' (.cells c' k d q)else st.get h:=λh=>dH _ _ _ _
 have F:∀h,h≠ρ i->(Φ h≠u'∨∃W o,σ[W]?=q' o/\live o=A'/\ρ W=h)->((st.put (ρ i) (.cells c' k d q)).kill d (ρ i) lo hi').get h=st.get h:=by
  intro h s C;rw[OT,y,W' s];intro A t O;have⟨Q,b⟩:=u.apart hi I p (ms:=A) t O s;all_goals grind
 have f:((st.put (ρ i) (.cells c' k d q)).kill d (ρ i) lo hi').get (ρ i)=q' (.cells c' k d q):=by rw[LS,y,X' rfl]
 have j:∀J,(st.put (ρ i) (.cells c' k d q)).fm.get J=st.fm.get J:=λ_=>rfl;have D:st.fm.get d=u'->((st.put (ρ i) (.cells c' k d q)).kill d (ρ i) lo hi').fm.get d=u':=λN=>by
  rw[(ya (st:=st.put (ρ i) (.cells c' k d q)) d).2.1 N,j,N]
 have G:WM ((st.put (ρ i) (.cells c' k d q)).kill d (ρ i) lo hi'):=(u.wm.EP p).kill;refine u.upd hi E (WF.kill (u.wf.EP p)) G F (λh L l f1 M s C P=>?_) ?_ ?_ ?_ ?_
 ·have x:=u.qd hi I p P s C;rw[(ya f1).1 x,j]
 ·intro J K;have⟨Q,b⟩:=u.uL J K;refine⟨?_,by rw[iK];exact b⟩;by_cases l:J=d
  ·subst l;exact D Q
  rw[(ya (st:=st.put (ρ i) (.cells c' k d q)) J).1 l,j];exact Q
 ·intro es els L l f1 M H m;rw[f]at m;cases m;rcases B with⟨V,e,_,rfl,_⟩|⟨n,a,rfl,rfl,_⟩
  ·cases H
  exact u.Q9 i _ n _ _ _ _ hi p
 ·rcases B with⟨V,e,rfl,rfl,E,rfl,g,z⟩|⟨els,a,rfl,rfl,rfl,g,z,T⟩
  ·have⟨⟨⟨X,S⟩,_⟩,_⟩:=u.obj i _ hi rfl;rw[p]at X;cases X;exact⟨⟨by rw[f,E],D S⟩,g,z⟩
  exact⟨⟨_,_,f⟩,g,z,T⟩
 intro es els L l f1 M A h H m t s x;rw[f]at m;cases m;rcases B with⟨V,e,_,rfl,_,_⟩|⟨n,a,rfl,rfl,_⟩
 ·cases H
 cases v:st.fm.get d with
 |none=>rw[D v]at t;cases t
 |some w=>
  have⟨U,g,z⟩:=(ya (st:=st.put (ρ i) (.cells c' k d q)) (et:=d) (b:=ρ i) (lo:=lo) (hi:=hi') d).2.2 w v;rw[g]at t;cases t;exact u.et i _ n c k d q w h hi p v (z h s) x
theorem Real.put(j:Real Φ ρ σ st){i:Nat}{f o':cX}(hi:σ[i]?=q' f)(k:live f=A')(r:so f=B')(p:so o'=B'){a:gJ}(l:∀c d s t,a≠.cells c d s t) 
  (x:NY Φ ρ (j' σ) (st.put (ρ i) a) o' (ρ i)):Real Φ ρ (σ.set i o') (st.put (ρ i) a):=by
 have h:∀n,(st.put (ρ i) a).get n=if n=ρ i then q' a else st.get n:=λn=>dH _ _ _ _
 have q:WM (st.put (ρ i) a):=by
  have m:=(j.obj i f hi k).1;cases f with
  |box V=>cases r
  |row es els=>cases r
  |map es v=>exact j.wm.CM m.1 (λd=>by cases d) (λ_ _ _ _ d=>by cases d)
  |loop u=>have⟨g,D,_⟩:=m;exact j.wm.CM D (λd=>by cases d) λ_ _ _ _ d=>by cases d
  |fP w=>exact j.wm.CM m (λd=>by cases d) (λ_ _ _ _ d=>by cases d)
  |gone=>cases k
 refine j.upd hi k ⟨λb o e=>?_,λb c d s t e=>?_,j.wf.TX⟩ q (λn z _=>by rw[h,W' z]) (λ_ _ _ _ _ _ _ _=>Z) j.uL (λes els c d s t C=>by subst C;cases p) x ?_
 ·rw[h]at e;split at e
  ·rename_i d;rw[d];exact j.lt hi k
  exact j.wf.lt b o e
 ·rw[h]at e;split at e
  ·grind
  exact j.wf.et b c d s t e
 grind
def k0(ρ:Nat->Nat)(i b:Nat):Nat->Nat:=λa=>if a=i then b else ρ a
def lT(Φ:Fz)(ρ:Nat->Nat)(m b:Nat):jO Φ ρ m Φ (k0 ρ m b) (m+1):=
 ⟨Fz.le_refl _,λi hi=>W' om,om⟩
theorem lr(σ:VS)(o:cX)(a:Nat):(σ++[o])[a]?=if a=j' σ then q' o else σ[a]?:=by
 all_goals grind
theorem Real.new(h:Real Φ ρ σ st){o:cX}{q:gJ}(s:wi st q)(B:NY Φ (k0 ρ (j' σ) st.n) (j' σ+1) (st.new q) o st.n):
  Real Φ (k0 ρ (j' σ) st.n) (σ++[o]) (st.new q):=by
 have i:∀m,(st.new q).get m=if m=st.n then q' q else st.get m:=λm=>dT _ _ _
 have hs:=lT Φ ρ (j' σ) st.n;have hold:∀j oj,σ[j]?=q' oj->j<j' σ:=λj oj hj=>(aiQ.1 hj).1;have d:k0 ρ (j' σ) st.n (j' σ)=st.n:=X' rfl;have E:Φ st.n=u':=by
  exact xP
 have x:(st.new q).fm=st.fm:=rfl;refine⟨h.wf.new s,h.wm.new,λb o hb=>?_,h.VV,λp D=>⟨(h.uL p D).1,aiR (h.uL p D).2⟩,h.VW,λj es els c e p w hj f=>?_,λj oj hj g=>?_,λj k oj ok hj hk hlj hlk e=>?_,λj es els c e p w v m hj f n l r=>?_⟩
 ·rw[i,W' (aiu (h.flt hb))];exact h.fz b o hb
 ·rw[lr]at hj;by_cases a:j=j' σ
  ·subst a;rw[d,i,X' rfl]at f;cases f;have A:p=st.n:=by simpa [wi]using s
   intro t;have:=(h.uL p t).2;omega
  rw[W' a]at hj;rw[hs.xO j (hold j _ hj),i,W' (aiu (h.lt hj rfl))]at f;exact h.Q9 j es els c e p w hj f
 ·rw[lr]at hj;by_cases e:j=j' σ
  ·grind
  rw[W' e]at hj;have⟨u,y⟩:=h.obj j oj hj g;rw[hs.xO j (hold j oj hj)];refine⟨?_,y⟩;have:=hs.obj (st:=st) (dy:=st.new q) (by rw[i,W' (aiu (h.lt hj g))]) (λ_ _ _ _ _ t=>t) u;simpa using this
 ·rw[lr]at hj hk;by_cases a:j=j' σ
  ·by_cases e2:k=j' σ
   ·rw[a,e2]
   rw[W' e2]at hk;subst a;rw[d,hs.xO k (hold k ok hk)]at e;have:=h.lt hk hlk;omega
  rw[W' a]at hj;by_cases e2:k=j' σ
  ·subst e2;rw[d,hs.xO j (hold j oj hj)]at e;have:=h.lt hj hlj;omega
  exact Kt
 rw[x]at n;have C:(Φ m=u'/\∀j o,σ[j]?=q' o->live o=A'->ρ j≠m)->m≠st.n->Φ m=u'/\∀j oj,(σ++[o])[j]?=q' oj->live oj=A'->k0 ρ (j' σ) st.n j≠m:=by
  rintro⟨q,b⟩ V;refine⟨q,λk ok hk hlk=>?_⟩;rw[lr]at hk;by_cases a:k=j' σ
  ·subst a;rw[d];exact V.symm
  rw[W' a]at hk;rw[hs.xO k (hold k ok hk)];exact b k ok hk hlk
 rw[lr]at hj;by_cases a:j=j' σ
 ·
  subst a;rw[d,i,X' rfl]at f;cases f;have:p=st.n/\True:=⟨by simpa [wi]using s,tv⟩;rw[this.1]at n;exact Y' (h.wf.TX _ _ n) (ajd _)
 rw[W' a]at hj;rw[hs.xO j (hold j _ hj)]at f r;have z:=h.lt hj rfl;rw[i,W' (aiu z)]at f;have k:=h.et j es els c e p w v m hj f n l r;exact C k (aiu (h.wm.lt p v m n l))
def Real.YG(e:Real Φ ρ σ st){a:gJ}(v:wi st a):Real Φ ρ σ (st.new a):=by
 have f:∀i,(st.new a).get i=if i=st.n then q' a else st.get i:=λi=>dT _ _ _
 refine⟨e.wf.new v,e.wm.new,λb o m=>?_,e.VV,λj p=>⟨(e.uL j p).1,aiR (e.uL j p).2⟩,e.VW,λn es els c V j t d h=>?_,λn g d q=>?_,e.inj,λn es els c V j t r i d h C x k=>?_⟩
 ·rw[f,W' (aiu (e.flt m))];exact e.fz b o m
 ·rw[f,W' (aiu (e.lt d rfl))]at h;exact e.Q9 n es els c V j t d h
 ·have⟨s,D⟩:=e.obj n g d q;exact⟨(jO.refl Φ ρ _).obj (st:=st) (dy:=st.new a) (by rw[f,W' (aiu (e.lt d q))]) (λ_ _ _ _ _ z=>z) s,D⟩
 rw[f,W' (aiu (e.lt d rfl))]at h;exact e.et n es els c V j t r i d h C x k
def qe(Φ:Fz)(b:Nat)(o:gJ):Fz:=⟨λa=>if a=b then q' o else Φ a,λa=>a=b∨Φ.HT a,Φ.uL⟩
theorem mD(Φ:Fz)(b:Nat)(o:gJ)(a:Nat):(qe Φ b o) a=if a=b then q' o else Φ a:=rfl
def yb{Φ:Fz}{b:Nat}{o:gJ}(c:Φ b=u'):Φ.le (qe Φ b o):=⟨λh f a=>by
 rw[mD];split
 ·rename_i e;rw[e,c]at a;cases a
 exact a,λh f a=>⟨λd=>d.elim (λe=>by rw[e,c]at a;cases a) id,.inr⟩,λ_ c=>c⟩
theorem Real.Y4(d:Real Φ ρ σ st){b:Nat}{c:n_ C'}{es et j:Nat}(t:st.get b=q' (.cells c es et j))(z:Φ b=u') 
  (E:∀e o,σ[e]?=q' o->live o=A'->ρ e≠b) (x:∀e es els c m p j,σ[e]?=q' (.row es els)->st.get (ρ e)=q' (.cells c m p j)->p≠et)
  (l:∀u c m j,Φ u≠q' (.cells c m et j)):
  Real (qe Φ b (.cells c es et j)) ρ σ st:=by
 have y:jO Φ ρ (j' σ) (qe Φ b (.cells c es et j)) ρ (j' σ):=⟨yb z,λ_ _=>rfl,ai9 _⟩;refine⟨d.wf,d.wm,λi o a=>?_,λi a=>?_,d.uL,λi u H V f1 J I G F a f=>?_,d.Q9,λe B h w=>?_,d.inj,λe k els s m p g q i h v C a r=>?_⟩
 ·rw[mD]at a;split at a
  ·rename_i m;cases a;rw[m];exact t
  exact d.fz i o a
 ·rw[mD]at a;split at a
  ·cases a
  exact d.VV i a
 ·rw[mD]at a f;split at a
  ·all_goals grind
  split at f
  ·cases f;exact Y' a (l _ _ _ _)
  exact d.VW i u _ _ _ _ _ _ _ a f
 ·have⟨n,D⟩:=d.obj e B h w;refine⟨y.obj Z (λ_ _ _ _ _ A=>A) n,?_⟩
  grind [mD]
 have⟨n,D⟩:=d.et e k els s m p g q i h v C a r;refine⟨?_,D⟩;rw[mD];split
 ·rename_i V;subst V;exact Y' (d.wm.mem p q i c es et j C a t).symm (x e k els s m p g h v)
 exact n
theorem Real.Y5(h:Real Φ ρ σ st){b:Nat}{es et u:Nat}{els:n_ (n_ V)}(z:st.get b=q' (.cells (cE ρ els.flatten) es et u))(y:Φ b=u') 
  (t:∀j o,σ[j]?=q' o->live o=A'->ρ j≠b) (l:∀j es els c e x u,σ[j]?=q' (.row es els)->st.get (ρ j)=q' (.cells c e x u)->x≠et)
  (G:∀q n,st.fm.get et=q' q->n∈q->n≠b->Φ n=u'/\∀j o,σ[j]?=q' o->live o=A'->ρ j≠n) (J:¬Φ.uL et)
  (B:∀e∈els,j' e=es) (g:∀e∈els,fW Φ (j' σ) e) (E:∀e∈els,∀L∈e,iy L=A'):
  Real Φ (k0 ρ (j' σ) b) (σ++[.row es els]) st:=by
 have hs:=lT Φ ρ (j' σ) b;have hold:∀j oj,σ[j]?=q' oj->j<j' σ:=λj oj hj=>(aiQ.1 hj).1;have a:k0 ρ (j' σ) b (j' σ)=b:=X' rfl;have v:∀n,(Φ n=u'/\∀j o,σ[j]?=q' o->live o=A'->ρ j≠n)->n≠b->Φ n=u'/\∀j oj,(σ++[.row es els])[j]?=q' oj->live oj=A'->k0 ρ (j' σ) b j≠n:=by
  rintro n ⟨K,k⟩ w;refine⟨K,λj oj hj C=>?_⟩;rw[lr]at hj;by_cases d:j=j' σ
  ·subst d;rw[a];exact w.symm
  rw[W' d]at hj;rw[hs.xO j (hold j oj hj)];exact k j oj hj C
 refine⟨h.wf,h.wm,h.fz,h.VV,h.uL,h.VW,λj p i c e x s hj f=>?_,λj oj hj C=>?_,λj k oj ok hj hk hlj hlk e=>?_,λj p i c e x s q n hj f r D m=>?_⟩
 ·rw[lr]at hj;by_cases d:j=j' σ
  ·grind
  rw[W' d]at hj;rw[hs.xO j (hold j _ hj)]at f;exact h.Q9 j p i c e x s hj f
 ·rw[lr]at hj;by_cases e:j=j' σ
  ·subst e;rw[X' rfl]at hj;cases hj;rw[a];refine⟨⟨⟨et,u,?_⟩,B,λe I=>?_,E⟩,y⟩
   ·rw[z,hs.cE (Mu g)]
   have:=hs.Ub (g e I);simpa using this
  rw[W' e]at hj;have⟨A,H⟩:=h.obj j oj hj C;rw[hs.xO j (hold j oj hj)];refine⟨?_,H⟩;have:=hs.obj (st:=st) (dy:=st) rfl (λ_ _ _ _ _ F=>F) A;simpa using this
 ·rw[lr]at hj hk;by_cases d:j=j' σ
  ·by_cases e2:k=j' σ
   ·rw[d,e2]
   rw[W' e2]at hk;subst d;rw[a,hs.xO k (hold k ok hk)]at e;exact Y' e.symm (t k ok hk hlk)
  rw[W' d]at hj;by_cases e2:k=j' σ
  ·subst e2;rw[a,hs.xO j (hold j oj hj)]at e;exact Y' e (t j oj hj hlj)
  exact Kt
 rw[lr]at hj;by_cases d:j=j' σ
 ·subst d;rw[a]at f m;rw[z]at f;cases f;exact v n (G q n r D m) m
 rw[W' d]at hj;rw[hs.xO j (hold j _ hj)]at f m;have k:=h.et j p i c e x s q n hj f r D m;refine v n k λe2=>?_;subst e2;exact Y' (h.wm.mem x q n _ es et u r D z).symm (l j p i c e x s hj f)
def Real.drop(b:Real Φ ρ σ st){i:Nat}(hi:σ[i]?=q' F)(c:live F=A'):Real Φ ρ (σ.set i .gone) st:=
 b.upd hi c b.wf b.wm (λ_ _ _=>rfl) (λ_ _ _ _ _ _ _ _=>rfl) b.uL (λ_ _ _ _ _ _ a=>by cases a) trivial (λ_ _ _ _ _ _ _ _ a=>by cases a)
theorem tB{i:Nat}(hi:σ[i]?=q' F){o:cX}(a:(σ.set i .gone)[y]?=q' o)(b:live o=A'):y≠i/\σ[y]?=q' o:=by
 rw[AP hi]at a;by_cases c:y=i
 ·rw[X' c]at a;cases a;cases b
 rw[W' c]at a;exact⟨c,a⟩
def Real.freeze(h:Real Φ ρ σ st){i es:Nat}{els:n_ (n_ V)}(hi:σ[i]?=q' (.row es els)){c:n_ C'}(e:st.get (ρ i)=q' (.cells c y S U)):
  Real (qe Φ (ρ i) (.cells c y S U)) ρ (σ.set i .gone) st:=by
 have p:=(h.obj i _ hi rfl).2;refine(h.drop hi Z).Y4 e p (λk o j n=>?_) (λk v s q r z t j m=>?_) (λx q r t d=>?_)
 ·have⟨f,b⟩:=tB hi j n;exact λy=>f (h.inj k i o _ b hi n Z y)
 ·have⟨f,b⟩:=tB hi j rfl;have a:ρ k≠ρ i:=λy=>f (h.inj k i _ _ b hi rfl rfl y);exact h.qd hi Z e m a (.inr ⟨k,_,b,Z,Z⟩)
 have a:x≠ρ i:=λy=>by rw[y,p]at d;cases d
 exact h.qd hi Z e (h.fz _ _ d) a (.inl (by rw[d];simp)) Z
def Real.af4(h:Real Φ ρ σ st){c:n_ C'}{es:Nat}:Real (qe Φ st.n (.cells c es st.n 0)) ρ σ (st.new (.cells c es st.n 0)):=by
 have e:Φ st.n=u':=by
  exact xP
 have b:∀i,(st.new (.cells c es st.n 0)).get i=if i=st.n then q' (.cells c es st.n 0)else st.get i:=λi=>dT _ _ _
 refine(h.YG (a:=.cells c es st.n 0) Z).Y4 (by rw[b,X' rfl]) e (λt o d k=>aiu (h.lt d k)) (λt r j p q s n d f=>?_) (λv p q n m=>?_)
 ·rw[b,W' (aiu (h.lt d rfl))]at f;exact aiu (h.wf.et _ _ _ _ _ f).1
 exact ajd _ (h.wf.et _ _ _ _ _ (h.fz _ _ m)).1
section
variable{es et fo o len n i:Nat} {c old xs:n_ C'} {els:n_ (n_ V)} {e0:Nat}
theorem Y6(b:Nat)(m:Nat):(m≠et->(grown st es et fo b o len n c old xs).fm.get m=st.fm.get m)/\
  (∀f i,(grown st es et fo b o len n c old xs).fm.get et=q' f->i∈f->i=st.n∨i=b∨∃d,st.fm.get et=q' d/\i∈d):=by
 have k:=ya (st:=st) (et:=et) (b:=st.n) (lo:=fo+o+len*es) (hi:=fo+o+(len+n)*es) m;unfold grown;dsimp only;refine⟨λa=>?_,λf i h hx=>?_⟩
 ·rw[dx,W' a];split
  ·exact k.1 a
  exact k.1 a
 rw[dx,X' rfl]at h;cases h;rcases aiC.1 hx with q|hx
 ·exact .inl q
 right;split at hx
 ·rename_i p j;right;cases e:st.fm.get et with
  |none=>rw[iw e,e]at j;cases j
  |some d=>
   grind
 all_goals grind
theorem Real.grow(h:Real Φ ρ σ st)(hi:σ[i]?=q' (.row e0 els))(x:st.get (ρ i)=q' (.cells c es et fo)):
  Real Φ ρ (σ.set i .gone) (grown st es et fo (ρ i) o len n c old xs)/\
  (∀j l g E I y M,(σ.set i .gone)[j]?=q' (.row l g)->(grown st es et fo (ρ i) o len n c old xs).get (ρ j)=q' (.cells E I y M)->y≠et)/\
  (∀a d,(grown st es et fo (ρ i) o len n c old xs).fm.get et=q' a->d∈a->d≠st.n->Φ d=u'/\∀j o,(σ.set i .gone)[j]?=q' o->live o=A'->ρ j≠d):=by
 have P:=h.lt hi rfl;have D:∀d,d≠ρ i->(Φ d≠u'∨∃j o,σ[j]?=q' o/\live o=A'/\ρ j=d)->(grown st es et fo (ρ i) o len n c old xs).get d=st.get d:=by
  intro d f t;have C:d≠st.n:=by
   rcases t with R|⟨j,o,hj,hl,e⟩
   ·cases F:Φ d with
    |none=>exact Y' F R
    |some o=>exact aiu (h.flt F)
   rw[<-e];exact aiu (h.lt hj hl)
  rw[lS,W' C];have H:(st.kill et st.n (fo+o+len*es) (fo+o+(len+n)*es)).get d=st.get d:=by
   refine OT λa m L=>?_;have⟨Q,b⟩:=h.apart hi rfl x (ms:=a) m L f;all_goals grind
  unfold jZ;dsimp only;split
  ·exact H
  rw[dH,W' f,H]
 have G:=Az (o:=o) (len:=len) (n:=n) (old:=old) (xs:=xs) h.wf x;have p:=λb q=>Y6 (st:=st) (es:=es) (et:=et) (fo:=fo) (o:=o) (len:=len) (n:=n) (c:=c) (old:=old) (xs:=xs) b q;have J:WM (grown st es et fo (ρ i) o len n c old xs):=by
  have O:(grown st es et fo (ρ i) o len n c old xs).n=st.n+1:=rfl;refine⟨λq a d m f=>?_,λq a d S m f k=>?_⟩
  ·rw[O];by_cases r:q=et
   ·subst r;rcases(p (ρ i) q).2 a d m f with e|e|⟨s,z,V⟩
    ·omega
    ·omega
    have:=h.wm.lt q s d z V;omega
   rw[(p (ρ i) q).1 r]at m;have:=h.wm.lt q a d m f;omega
  by_cases r:q=et
  ·subst r;rw[lS]at k;split at k
   ·cases k;exact .inr ⟨_,_,_,rfl⟩
   rename_i C;rcases mL k with e0|hold
   ·exact .inl e0
   rcases(p (ρ i) q).2 a d m f with e|e|⟨s,z,V⟩
   ·exact Y' e C
   ·grind
   exact h.wm.row q s d _ z V hold
  rw[(p (ρ i) q).1 r]at m;have B:=h.wm.lt q a d m f;rw[lS,W' (aiu B)]at k;rcases mL k with e0|hold
  ·exact .inl e0
  exact h.wm.row q a d _ m f hold
 have N:Real Φ ρ (σ.set i .gone) (grown st es et fo (ρ i) o len n c old xs):=
  h.upd hi rfl G J D (λd T W f1 U f t k=>(p (ρ i) f1).1 (h.qd hi rfl x k f t))
   (λq r=>⟨by
    have K:q≠et:=λe=>h.Q9 i _ _ _ _ _ _ hi x (e▸r);rw[(p (ρ i) q).1 K];exact(h.uL q r).1,aiR (h.uL q r).2⟩) (λ_ _ _ _ _ _ A=>by cases A) trivial λ_ _ _ _ _ _ _ _ A=>by cases A
 refine⟨N,λj l g E I y M hj u=>?_,λa d m f v=>?_⟩
 ·have⟨h1,h2⟩:=tB hi hj rfl;have v:ρ j≠ρ i:=λe=>h1 (h.inj j i _ _ h2 hi rfl rfl e);rw[D _ v (.inr ⟨j,_,h2,rfl,rfl⟩)]at u;exact h.qd hi Z x u v (.inr ⟨j,_,h2,Z,Z⟩)
 rcases(p (ρ i) et).2 a d m f with e|e|⟨s,z,V⟩
 ·exact Y' e v
 ·subst e;exact Ka
 by_cases w:d=ρ i
 ·subst w;exact Ka
 have⟨Q,b⟩:=h.et i _ _ _ _ _ _ s d hi x z V w
 grind [tB]
end
end
def F1:∀(n:Nat) (e:n_ V) (k:n_ V->Prop),YU n e k->n<=j' e/\k (e.take n):=by
 exact B8
theorem CN:∀(f:n_ V) (a n:Nat) (d:n_ V->Prop),YV f a n d->a+n<=j' f/\d ((f.drop a).take n):=by
 intro f;induction f with
 |nil=>
  intro a n d e;cases a with
  |zero=>have⟨c,b⟩:=F1 n [] d e;exact⟨by simpa using c,b⟩
  |succ a=>exact e.elim
 |cons i j h=>
  intro a n d e;cases a with
  |zero=>have⟨c,b⟩:=F1 n (i::j) d e;exact⟨by simpa using c,b⟩
  |succ a=>
   have⟨c,b⟩:=h a n d e
   grind [ai7]
def OU:∀(n:Nat) (e:cP) (k:n_ V->Prop),RU n e k->n<=j' e/\k ((e.take n).map V.d):=by
 exact B8
def OV:∀(n:Nat) (e:cP) (k:cP->Prop),RV n e k->n<=j' e/\k (e.drop n):=by
 exact B8
def lay{a:Type}(c:n_ a)(d:Nat)(b:n_ a):n_ a:=c.take d++b++c.drop (d+j' b)
theorem zE:∀(c:n_ V) (b:Nat) (a:n_ V) (h:n_ V->Prop),FU c b a h->b+j' a<=j' c/\h (lay c b a):=by
 intro c;induction c with
 |nil=>
  intro b a h d;cases b with
  |zero=>cases a with
   |nil=>exact⟨by simp,by simp[lay];exact d⟩
   |cons _ _=>exact d.elim
  |succ b=>cases a<;>exact d.elim
 |cons i c e=>
  intro b a h d;cases b with
  |zero=>cases a with
   |nil=>exact⟨by simp,by simp[lay];exact d⟩
   |cons n a=>
    have⟨k,f⟩:=e 0 a _ d
    grind [lay]
  |succ b=>
   have d:FU c b a λj=>h (i::j):=by cases a<;>exact d
   have⟨k,f⟩:=e b a _ d;refine⟨by simp only[ai7];omega,?_⟩;have m:lay (i::c) (b+1) a=i::lay c b a:=by
    simp only[lay,ajh,show b+1+j' a=(b+j' a)+1 from om,ai3,aiM]
   rw[m];exact f
theorem sp:∀(c:n_ C') (b:Nat) (a:n_ C'),b+j' a<=j' c->eh c b a=lay c b a:=by
 intro c;induction c with
 |nil=>
  intro b a d;cases a with
  |nil=>simp[eh,lay]
  |cons _ _=>simp at d
 |cons h c e=>
  intro b a d;cases a with
  |nil=>simp[eh,lay]
  |cons f a=>
   cases b with
   |zero=>
    rw[eh,e 0 a (by simp at d⊢;exact d)];simp[lay]
   |succ b=>
    rw[eh,e b (f::a) (by simp at d⊢;omega)];simp only[lay,ajh,show b+1+j' (f::a)=(b+j' (f::a))+1 from om,ai3,aiM]
def F2{a:Type}{c:n_ a}{b:n_ a}(d:y+j' b<=j' c):j' (lay c y b)=j' c:=by
 simp only[lay,aiK,List.length_take,aiV];omega
theorem EU{a d:Type}(e:a->d)(c:n_ a)(f:Nat)(b:n_ a):(lay c f b).map e=lay (c.map e) f (b.map e):=by
 simp[lay,aiS,aiT]
theorem AQ{a:Type}{c:n_ a}{b:n_ a}{d:a}(e:d∈lay c y b):d∈c∨d∈b:=by
 all_goals grind [lay,aiw,aix]
theorem R3:∀(σ:VS) (o:cX) (i:Nat) (a:Nat->VS->Prop),YW σ o i a->a (i+j' σ) (σ++[o]):=by
 intro σ;induction σ with
 |nil=>intro o i a c;exact c
 |cons d e b=>
  intro o i a c;have:=b o (i+1) _ c
  grind
def CO{a:Type}(n:Nat)(b:Nat->a):zv n b=b n:=by cases n<;>rfl
def kT{σ:VS}{o:cX}{a:Nat->VS->Prop}(b:FV σ o a):a (j' σ) (σ++[o]):=by
 have:=R3 _ _ _ _ b;rw[CO]at this;simpa using this
def lU:∀(σ:VS) (i:Nat) (o:cX) (b:VS->Prop),Ej σ i o b->i<j' σ/\b (σ.set i o):=by
 intro σ;induction σ with
 |nil=>intro i o b a;cases i<;>exact a.elim
 |cons f h c=>
  intro i o b a;cases i with
  |zero=>exact⟨by simp,a⟩
  |succ i=>
   have⟨e,d⟩:=c i o _ a;exact⟨by simpa using e,d⟩
def cR{a:Type}{o:Option a}{d:a->Prop}(c:ed o d):∃b,o=q' b/\d b:=by
 cases o with
 |none=>exact c.elim
 |some b=>exact⟨b,rfl,c⟩
def nV(ρ:Nat->Nat)(a:V):cellsOf (erase ρ a)=cE ρ (eu a):=by
 cases a with
 |d b=>cases b<;>simp[erase,cK,cellsOf,eu,cE]
 |agg c=>simp[erase,cellsOf,eu]
 |_=>simp[erase,cellsOf,eu,cE]
def yc{Φ:Fz}{m:Nat}(b:gk Φ m w):fW Φ m (eu w):=by
 cases b with
 |agg b=>exact b
 |d b=>intro c a;simp[eu]at a;subst a;exact .d b
 |bp b=>intro c a;simp[eu]at a;subst a;exact .bp b
 |ptr b=>intro c a;simp[eu]at a;subst a;exact .ptr b
 |fp f e j h i=>intro c a;simp[eu]at a;subst a;exact .fp f e j h i
 |ms b=>intro c a;simp[eu]at a;subst a;exact .ms b
 |map b=>intro c a;simp[eu]at a;subst a;exact .map b
 |fn f e=>intro c a;simp[eu]at a;subst a;exact .fn f e
 |wA b=>intro c a;simp[eu]at a;subst a;exact .wA b
 |iface b=>intro c a;simp[eu]at a;subst a;exact .iface b
 |dP b=>intro c a;simp[eu]at a;subst a;exact .dP b
theorem pS(ρ:Nat->Nat)(a:cP):cE ρ (a.map V.d)=a.map cK:=by
 induction a with
 |nil=>rfl
 |cons c a b=>simp only[aiJ,cE,erase,b]
variable{E:C'}
theorem K8(a:toD E=q' T):cK T=E:=by
 unfold toD at a;split at a<;>first|(cases a;rfl)|cases a
def Y7(a:toD E=q' T)(Φ:Fz):zC Φ T:=by
 unfold toD at a;split at a<;>first|(cases a;constructor)|cases a
theorem kn(ρ:Nat->Nat):∀{a:n_ C'} {b:n_ V},wB a=q' b->cE ρ b=a:=by
 intro a;induction a with
 |nil=>intro b d;cases d;rfl
 |cons e a c=>
  all_goals grind [wB,cE,erase,K8]
def sa(Φ:Fz)(m:Nat):∀{c:n_ C'} {b:n_ V},wB c=q' b->fW Φ m b/\∀k∈b,iy k=A':=by
 intro c;induction c with
 |nil=>intro b a;cases a;exact⟨λ_ a=>by simp at a,λ_ a=>by simp at a⟩
 |cons k c f=>
  intro b a;unfold wB at a;split at a
  ·rename_i n o i h;cases a;have⟨d,j⟩:=f h;refine⟨λe hx=>?_,λe hx=>?_⟩
   ·rcases aiC.1 hx with rfl|hx
    ·exact .d (Y7 i Φ)
    exact d e hx
   rcases aiC.1 hx with rfl|hx
   ·rfl
   exact j e hx
  cases a
theorem VX{ρ:Nat->Nat}(a:toV E=q' w):erase ρ w=E:=by
 unfold toV at a;all_goals grind [erase,kn,K8]
def aeI(a:toV E=q' w)(Φ:Fz)(m:Nat):gk Φ m w:=by
 unfold toV at a;split at a
 ·split at a
  ·rename_i d b;cases a;exact .agg (sa Φ m b).1
  cases a
 split at a
 ·rename_i c b;cases a;exact .d (Y7 b Φ)
 cases a
theorem OW(a:toD E=q' T):flat E=A':=by
 unfold toD at a;split at a<;>first|rfl|cases a
theorem VY:∀{a:n_ C'} {b:n_ V},wB a=q' b->a.all flat=A':=by
 intro a;induction a with
 |nil=>intro b d;rfl
 |cons e a c=>
  all_goals grind [wB,OW,aiU]
theorem VZ(a:toV E=q' w):tH E=A':=by
 unfold toV at a;all_goals grind [tH,VY,OW]
def qo(Φ:Fz)(ρ:Nat->Nat)(m:Nat)(ev:H'->Option V)(oA:H'->Option C'):Prop:=
 ∀b a,ev b=q' a->oA b=q' (erase ρ a)/\gk Φ m a
variable{O:Fr}
def lc{Φ:Fz}{ρ:Nat->Nat}{m:Nat}{e:n_ (Nat×V)}(b:iU Φ ρ m e O.tm):qo Φ ρ m (RT e) (nR O):=by
 intro f d a;cases f with
 |tmp h=>exact b h d a
 |const c=>
  have a:toV c=q' d:=a;refine⟨?_,aeI a Φ m⟩;simp only[nR,VZ a];rw[VX a]
 |global j=>cases a
 |func i=>
  cases a;exact⟨by simp[nR,erase,cE],.fn (λ_ b=>by simp at b) (λ_ b=>by simp at b)⟩
variable{g:V->Prop} {B:Bool} {l:F'}
section
variable{C:eN} {Φ:Fz} {ρ:Nat->Nat} {σ:VS} {st:St} {m:Nat} {ev:H'->Option V} {oA:H'->Option C'}
def pc(h:qo Φ ρ m ev oA):∀{f:n_ H'} {e:n_ V},y9 ev f=q' e->oW oA f=q' (cE ρ e)/\fW Φ m e:=by
 intro f;induction f with
 |nil=>intro e a;cases a;exact⟨rfl,λ_ a=>by simp at a⟩
 |cons q f i=>
  intro e a;unfold y9 at a;split at a
  ·rename_i s r k j;cases a;have⟨p,b⟩:=h _ _ k;have⟨c,n⟩:=i j;refine⟨by simp only[oW,p,c,cE],λo d=>?_⟩;rcases aiC.1 d with rfl|d
   ·exact b
   exact n o d
  cases a
theorem F3(f:qo Φ ρ m ev oA):∀{e:n_ (Nat×H')} {d:n_ (Nat×V)},FW ev e=q' d->nQ oA e=q' (d.map λc=>(c.1,erase ρ c.2))/\∀c∈d,gk Φ m c.2:=by
 intro e;induction e with
 |nil=>intro d a;cases a;exact⟨rfl,λ_ a=>by simp at a⟩
 |cons c e j=>
  intro d a;obtain⟨i,c⟩:=c;unfold FW at a;split at a
  ·rename_i p n h k;cases a;have⟨o,b⟩:=f _ _ h;all_goals grind [nQ,aiC.1]
  cases a
theorem Uc{b:Type}:∀{els:n_ (n_ b)} {es kk f n:Nat} {e:n_ b},(∀c∈els,j' c=es)->els[kk]?=q' e->f+n<=es->
  (els.flatten.drop (kk*es+f)).take n=(e.drop f).take n/\kk*es+f+n<=j' els.flatten:=by
 intro els;induction els with
 |nil=>intro es kk f n e _ d;simp at d
 |cons c els h=>
  intro es kk f n e a d j;have m:=a c sm;cases kk with
  |zero=>
   grind
  |succ kk=>
   have:=h (λk i=>a k (by simp[i])) (kk:=kk) (f:=f) (n:=n) (e:=e) (by simpa using d) j;simp only[aiv,aiK];rw[aiZ];refine⟨?_,om⟩;rw[<-this.1,show kk*es+es+f=j' c+(kk*es+f)from om,aiO]
theorem tM{a:Type}{els:n_ (n_ a)}{es:Nat}(d:∀b∈els,j' b=es):j' els.flatten=j' els*es:=by
 induction els with
 |nil=>simp
 |cons b els c=>
  grind [aiv,aiK,ai7,aiZ]
def AS{c:n_ V}(a:vmk B c g)(ρ:Nat->Nat)(d:fW Φ m c):∃b,g b/\gk Φ m b/\Oc B (cE ρ c)=q' (erase ρ b):=by
 cases B with
 |true=>exact⟨_,a,.agg d,by simp[Oc,erase,List.toArray]⟩
 |false=>
  unfold vmk at a;dsimp only at a;split at a
  ·rename_i b;exact⟨b,a,d b sm,by simp[Oc,cE]⟩
  exact a.elim
def R4(c:fW Φ m u)(b n:Nat):fW Φ m ((u.drop b).take n):=λd a=>c d (aix (aiw a))
def rs(ρ:Nat->Nat)(a:n_ V)(b n:Nat):cE ρ ((a.drop b).take n)=((cE ρ a).drop b).take n:=by
 simp[fs,aiS,aiT]
theorem kv{b o n:Nat}{c:n_ C'}{es a d:Nat}(e:st.get b=q' (.cells c es a d))(f:o+n<=j' c):hX st b o n=q' ((c.drop o).take n):=by
 grind [hX,ais]
theorem OX(A:Real Φ ρ σ st)(E:gk Φ (j' σ) w){n:Nat}(a:YX n B w σ g):
  ∃p b o c,g p/\gk Φ (j' σ) p/\erase ρ w=.pointer (q' ⟨b,o,u'⟩)/\hX st b o n=q' c/\Oc B c=q' (erase ρ p):=by
 unfold YX at a;split at a
 ·rename_i i t;split at a
  ·rename_i y d;rw[cx]at d;have⟨⟨⟨h,_⟩,f,_⟩,_⟩:=A.obj i _ d rfl;have⟨r,e⟩:=CN _ _ _ _ a;have⟨p,q,k,j⟩:=AS e ρ (R4 f t n);exact⟨p,_,_,_,q,k,Z,kv h (by rw[dD];exact r),by rw[<-rs];exact j⟩
  exact a.elim
 ·rename_i i es J t;split at a
  ·rename_i G els d;rw[cx]at d;split at a
   ·rename_i D;have:=ait D;subst this;have⟨⟨⟨M,K,h⟩,f,r,_⟩,_⟩:=A.obj i _ d rfl;have⟨l,e,q⟩:=a;rw[cx]at e;have⟨k,j⟩:=CN _ _ _ _ q;have z:l∈els:=aiD e;have⟨p,s,C,v⟩:=AS j ρ (R4 (r l z) t n);have x:=Uc f e (f:=t) (n:=n) (by rw[<-f l z];exact k);refine⟨p,_,_,_,s,C,Z,kv h (by rw[dD];exact x.2),?_⟩;rw[<-rs,x.1];exact v
   exact a.elim
  exact a.elim
 ·rename_i b H y;cases E with
  |fp h f r e I=>
   rename_i c l t K;have⟨q,k⟩:=OU _ _ _ a;obtain⟨p,j,s,C⟩:=AS (Φ:=Φ) (m:=j' σ) k ρ (λp F=>by
    obtain⟨L,u,rfl⟩:=aiB.1 F;exact .d (e L (aiw u)))
   refine⟨p,_,_,_,j,s,Z,kv (A.fz _ _ h) om,?_⟩
   grind [ai8,pS,aiS]
 exact a.elim
theorem DH(q:Real Φ ρ σ st)(f:gk Φ (j' σ) w)(a:T8 C l w σ g):
  ∃e,g e/\gk Φ (j' σ) e/\At C l (erase ρ w) st=q' (.val (erase ρ e) st):=by
 unfold T8 at a;split at a
 ·rename_i p d;split at a
  ·rename_i m;have⟨e,b,o,c,j,h,n,i,k⟩:=OX q f a;refine⟨e,j,h,?_⟩;unfold At;rw[d,n];simp only[m,i,k];rfl
  exact a.elim
 exact a.elim
theorem Rj(ρ:Nat->Nat)(b:Nat->Option (Nat×Nat)):∀(d:n_ (Nat×V)) (a:n_ V) (r:n_ V->Prop),fW Φ m a->(∀k∈d,gk Φ m k.2)->OR b a d r->
  ∃c,r c/\fW Φ m c/\sb b (cE ρ a) (d.map λk=>(k.1,erase ρ k.2))=q' (cE ρ c):=by
 intro d;induction d with
 |nil=>intro a r j _ f;exact⟨a,f,j,rfl⟩
 |cons k d g=>
  intro a r j p f;have⟨i,u⟩:=k;unfold OR at f;split at f
  ·exact f.elim
  rename_i q v n;split at f
  ·rename_i D;have⟨z,t⟩:=zE _ _ _ _ f;have l:=yc (p _ (ajl ..));have o:fW Φ m (lay a q (eu u)):=λs h=>(AQ h).elim (j s) (l s);obtain⟨c,C,x,w⟩:=g _ _ o (λs h=>p s (by simp[h])) t;refine⟨c,C,x,?_⟩;have e:=ait D;simp only[aiJ,sb,n,nV,dD];rw[e,aiP,ais (by rw[<-e];exact z)]
   grind [aiU,sp,dD,fs,EU]
  exact f.elim
def Mv{ps:n_ (Nat×V)}(hp:∀b∈ps,gk Φ m b.2)(hk:RW C l ps g)(ρ:Nat->Nat)(st:St):
  ∃d,g d/\gk Φ m d/\zn C l (ps.map λb=>(b.1,erase ρ b.2)) st=q' (.val (erase ρ d) st):=by
 unfold RW at hk;split at hk
 ·rename_i f hti;split at hk
  ·rename_i a hd;split at hk
   ·rename_i z h1 h2 h3;exact Jv
   exact hk.elim
  ·rename_i n e hd;split at hk
   ·rename_i h z h1 h2 h3;exact Jv
   exact hk.elim
  exact hk.elim
 exact hk.elim
theorem Ek(c:gk Φ m w)(a:CL w g)(ρ:Nat->Nat)(st:St):
  ∃b,g b/\gk Φ m b/\oX (erase ρ w) st=q' (.val (erase ρ b) st):=by
 unfold CL at a
 grind [erase,oX,val]
end
theorem uM{a b:Nat}(c:a≠b):aiz a b=B':=by
 grind [ait]
theorem tN(a b:Int):tD a b=decide (a=b):=by
 cases a<;>cases b
 ·rename_i a b;simp only[tD];by_cases c:a=b
  ·subst c;simp
  grind [uM,Int.ofNat.inj]
 ·simp[tD]
 ·simp[tD]
 rename_i a b;simp only[tD];by_cases c:a=b
 ·subst c;simp
 grind [uM,Int.negSucc.inj]
theorem uN(c b:Nat):aiI c b=decide (c<b):=by
 by_cases a:c<b
 ·rw[a_ a];exact ais a
 rw[Z' a];cases d:aiI c b with
 |false=>rfl
 |true=>exact Y' (ai0 d) a
theorem Ud(a b:Nat):aiF a b=decide (a<=b):=by
 all_goals grind [ais,ai0]
theorem Ue(c b:Nat):aiz c b=decide (c=b):=by
 by_cases a:c=b
 ·subst a;simp
 rw[Z' a];exact uM a
theorem CP(a b:Int):tF a b=decide (a<b):=by
 cases a<;>cases b<;>simp only[tF]
 ·grind [uN]
 ·grind [aje,aji]
 ·grind [aje,aji]
 grind [uN]
theorem OY:∀(a b:cC),mA a b=decide (a=b):=by
 intro a;induction a with
 |nil=>intro b;cases b<;>simp[mA]
 |cons e a c=>
  intro b;cases b with
  |nil=>simp[mA]
  |cons d b=>
   simp only[mA];by_cases f:e=d
   ·subst f;simp[c]
   grind [uM,UInt8.toNat_inj.1]
theorem CQ(a b:cC):pO ⟨⟨a⟩⟩ ⟨⟨b⟩⟩=decide (a=b):=OY a b
variable{K:BinOp} {Q:E'} {R W:H'}
section
variable{C:eN} {Φ:Fz} {ρ:Nat->Nat} {σ:VS} {st:St} {m:Nat} {ev:H'->Option V} {oA:H'->Option C'}
def HU{d b:Int}(a:Mn K Q d b g):∃c,g c/\gk Φ m c/\wb K Q d b=q' (erase ρ c):=by
 unfold Mn at a;split at a;all_goals first
  |exact a.elim
  |exact⟨_,a,.d (.int _ _),rfl⟩
  |exact⟨_,a.2,.d (.int _ _),by simp only[wb,tN,Z' a.1];rfl⟩
  |exact⟨_,a,.d (.bool _),by simp only[wb,tN,CP];rfl⟩
  |(refine⟨_,a,.d (.bool _),?_⟩
    simp only[wb,tN,CP,cj,erase,cK];congr 2;rw[<-decide_not];exact decide_eq_decide.2 om)
def Mw{d b:Int}(a:YZ K Q d b g):∃c,g c/\gk Φ m c/\wc K Q d b=q' (erase ρ c):=by
 obtain⟨n,rfl,a⟩:=a;split at a
 ·exact⟨_,a,.d (.int _ _),Z⟩
 ·exact⟨_,a,.d (.int _ _),Z⟩
 exact a.elim
def HV{d b:cC}(a:Mo K d b g):∃c,g c/\gk Φ m c/\zr K ⟨⟨d⟩⟩ ⟨⟨b⟩⟩=q' (erase ρ c):=by
 unfold Mo at a;split at a;all_goals first
  |exact a.elim
  |exact⟨_,a,.d (.bool _),by simp only[zr,CQ];rfl⟩
  |exact⟨_,a.2,.d (.str _),by simp only[zr,ais a.1];rfl⟩
theorem qK:∀{a:n_ V} {b:cP},uJ a=q' b->a=b.map V.d:=by
 intro a;induction a with
 |nil=>intro b c;cases c;rfl
 |cons e a d=>
  intro b c;unfold uJ at c;all_goals grind
theorem Vj{o b:V}{p:Bool->Prop}(c:vEq C l R W o b p):∃i,p i/\Ro C l R W (erase ρ o) (erase ρ b)=q' i:=by
 unfold vEq at c;split at c
 ·all_goals grind [Ro,erase,cK,lR]
 ·rename_i z m;split at c
  ·rename_i t m' e d;have⟨i,n,k⟩:=c;refine⟨i,k,?_⟩;rw[qK e,qK d];simp only[erase,pS];exact n
  exact c.elim
 split at c
 ·rename_i r s v q x h e d;split at c
  ·rename_i a;refine⟨_,c,?_⟩;unfold Ro;rw[h];dsimp only;rw[aiE]at a;obtain⟨f,a⟩:=a;unfold aeF at e d;split at a
   rotate_right
   ·cases a
   all_goals
    rename_i j;rw[j];split at e<;>cases e<;>split at d<;>cases d<;>simp[erase,cK]at a f⊢
   rcases a with a|a<;>simp[a]
  exact c.elim
 exact c.elim
theorem R5{h b:V}(hk:aeG C K l R W h b g):∃k,g k/\gk Φ m k/\LO C K l R W (erase ρ h) (erase ρ b)=q' (erase ρ k):=by
 unfold aeG at hk;split at hk
 ·rename_i z n t x;split at hk
  ·rename_i p;have⟨k,f,e,h3⟩:=Mw (Φ:=Φ) (ρ:=ρ) (m:=m) hk
   grind [LO,erase,cK]
  rename_i p;split at hk
  ·rename_i s;have⟨k,f,e,h3⟩:=HU (Φ:=Φ) (ρ:=ρ) (m:=m) hk
   grind [LO,erase,cK]
  exact hk.elim
 ·have⟨k,f,e,h3⟩:=HV (Φ:=Φ) (ρ:=ρ) (m:=m) hk
  grind [LO,erase,cK]
 rename_i f e;have shape:∀(r:Option C'),(match(generalizing:=false) K with|.eql=>(Ro C l R W (erase ρ h) (erase ρ b)).map .bool|.neq=>(Ro C l R W (erase ρ h) (erase ρ b)).map λr=>.bool (!r)|_=>u')=r->Ro C l R W (erase ρ h) (erase ρ b)≠u'->LO C K l R W (erase ρ h) (erase ρ b)=r:=by
  intro r o q;subst o;unfold LO;split
  ·rename_i v u y D c a;exfalso;cases h with
   |d i=>
    cases i<;>simp[erase,cK]at c;cases b with
    |d j=>
     cases j<;>simp[erase,cK]at a;exact f _ _ _ _ Z Z
    |_=>simp[erase]at a
   |_=>simp[erase]at c
  ·rename_i w A c a;exfalso;cases h with
   |d i=>
    cases i<;>simp[erase,cK]at c;cases b with
    |d j=>
     cases j<;>simp[erase,cK]at a;exact e _ _ Z Z
    |_=>simp[erase]at a
   |_=>simp[erase]at c
  rfl
 split at hk
 ·exact Kg
 ·exact Kg
 exact hk.elim
def V0{b:UnOp}(a:vUn b w g):∃c,g c/\gk Φ m c/\aUn b (erase ρ w)=q' (erase ρ c):=by
 unfold vUn at a;split at a
 ·exact⟨_,a,.d (.int _ _),Z⟩
 ·exact⟨_,a,.d (.bool _),Z⟩
 exact a.elim
def DI(b:cC):uB ((b.map λc=>[wC c]).flatten.map cK)=q' b:=by
 induction b with
 |nil=>rfl
 |cons c b a=>
  simp only[aiJ,aiv,aiM,ai1,wC,cK,uB,toByte];simp only[wC]at a;rw[a];simp
def OZ(ρ:Nat->Nat)(a:cC):cE ρ (a.map λc=>[io c]).flatten=(a.map λc=>[wC c]).flatten.map cK:=by
 induction a with
 |nil=>rfl
 |cons c a b=>
  simp only[aiJ,aiv,aiM,ai1,cE,b];rfl
theorem F4(H:Real Φ ρ σ st){s d:F'}(k:gk Φ (j' σ) w)(a:FX C s d w σ g):
  ∃B,g B/\gk Φ (j' σ) B/\jY C s d (erase ρ w) st=q' (.val (erase ρ B) st):=by
 unfold FX at a;split at a
 ·rename_i P N h f;split at a
  ·rename_i e c;split at a
   ·exact⟨_,a,.d (.int _ _),by simp only[jY,h,f,e,c,erase,cK];rfl⟩
   exact a.elim
  ·rename_i U e c;split at a
   ·rename_i M j;split at a
    ·rename_i v;split at a
     ·exact⟨_,a,.d (.str _),by simp only[jY,h,f,e,c,erase,cK,j,v];rfl⟩
     ·rename_i b o es D els;obtain⟨Q,rfl,rfl,x⟩:=a;cases k with
      |d k=>
      cases k with
      |ps E J t q O=>
       simp only[Nat.mul_one,aiy]at t q;refine⟨_,x,.d (.str _),?_⟩;simp only[jY,h,f,e,c,erase,cK,j,v,aiy];rw[kv (H.fz _ _ E) t,q];simp only[DI];rfl
     ·rename_i i es K len D;split at a
      ·rename_i G els m;obtain⟨Q,rfl,rfl,x,t,q⟩:=a;rw[cx]at m;have⟨⟨⟨R,S,A⟩,y,L,_⟩,_⟩:=H.obj i _ m rfl;have u:∀(z:n_ (n_ V)) (p n:Nat),(∀w∈z,j' w=1)->(z.flatten.drop p).take n=((z.drop p).take n).flatten:=by
        intro z;induction z with
        |nil=>intro p n _;simp
        |cons w z r=>
         intro p n l;have k:=l w sm;obtain⟨T,rfl⟩:=List.length_eq_one_iff.1 k;have r:=λp n=>r p n (λI F=>l I (by simp[F]));cases p with
         |zero=>
          cases n with
          |zero=>simp
          |succ n=>
           have:=r 0 n
           grind
         |succ p=>simpa using r p n
       refine⟨_,q,.d (.str _),?_⟩;simp only[jY,h,f,e,c,erase,cK,j,v,Nat.mul_one];rw[kv A (by rw[dD,tM y];omega),<-rs,u _ _ _ y,x,OZ];simp only[DI];rfl
      exact a.elim
     exact a.elim
    exact a.elim
   exact a.elim
  exact a.elim
 exact a.elim
def wE(e:gk Φ m w)(a:rr C l w g)(ρ:Nat->Nat)(st:St):
  ∃d,g d/\gk Φ m d/\iS C l (erase ρ w) st=q' (.val (erase ρ d) st):=by
 unfold rr at a;split at a
 ·rename_i f b;split at a
  ·exact a.elim
  rename_i c;refine⟨_,a,.iface e,?_⟩;unfold iS;rw[b];dsimp only;split
  ·rename_i h;exact Y' h (c _)
  simp only[erase];rfl
 exact a.elim
theorem DJ(h:fW Φ m u)(a:T9 C l u y g)(ρ:Nat->Nat):
  ∃d,g d/\gk Φ m d/\Ft C l (cE ρ u) y=q' (erase ρ d):=by
 unfold T9 at a;split at a
 ·rename_i i f;split at a
  ·rename_i e;have⟨b,c⟩:=CN _ _ _ _ a;refine⟨_,c,.agg (R4 h _ _),?_⟩;simp only[Ft,f,e,dD,ais b,erase,rs]
  rename_i e;have⟨d,b,c⟩:=cR a;rw[cx]at b;refine⟨d,c,h d (aiD b),?_⟩
  grind [Ft,cx,fs]
 exact a.elim
def Mx(b:gk Φ m w)(a:RZ C l w y g)(ρ:Nat->Nat)(st:St):
  ∃e,g e/\gk Φ m e/\zs C l (erase ρ w) y st=q' (.val (erase ρ e) st):=by
 unfold RZ at a;split at a
 ·rename_i n p c;split at a
  ·rename_i d h;split at a
   ·rename_i o f;cases b with
    |agg b=>
     have⟨e,j,i,k⟩:=DJ b a ρ;refine⟨e,j,i,?_⟩;simp only[zs,c,erase,h,f,k];rfl
   exact a.elim
  exact a.elim
 exact a.elim
def CS(h:gk Φ m w)(a:zz C l w y g)(ρ:Nat->Nat)(st:St):
  ∃k,g k/\gk Φ m k/\gW C l (erase ρ w) y st=q' (.val (erase ρ k) st):=by
 unfold zz at a;split at a
 ·rename_i F d;split at a
  ·rename_i j c;split at a
   ·rename_i x n f;split at a
    ·rename_i i u e;rw[CO]at a;cases h with
     |bp v=>exact⟨_,a,.bp v,by simp only[gW,d,erase,c,f,e];rfl⟩
    ·rename_i i es D u e;rw[CO]at a;cases h with
     |ptr v=>exact⟨_,a,.ptr v,by simp only[gW,d,erase,c,f,e,Nat.add_assoc];rfl⟩
    ·rename_i b o A e;cases h with
     |fp q z s p r=>
      have⟨B,t⟩:=OV _ _ _ a;refine⟨_,t,.fp q (by rw[aiV];omega) ?_ (λE c=>p E (aix c)) r,by simp only[gW,d,erase,c,f,e];rfl⟩;rw[aiV,aiT,<-s,ajb,ajc]
    exact a.elim
   exact a.elim
  exact a.elim
 exact a.elim
end
def K9{e:Type}:∀{els:n_ (n_ e)} {es:Nat} (a:Nat),(∀b∈els,j' b=es)->els.flatten.drop (a*es)=(els.drop a).flatten:=by
 intro els;induction els with
 |nil=>intro es a _;simp
 |cons b els c=>
  intro es a f;cases a with
  |zero=>simp
  |succ a=>
   rw[aiv,aiZ,ai3,<-c a λh d=>f h (by simp[d])];rw[show a*es+es=j' b+a*es from by rw[f b sm];omega,aiO]
theorem La{b:Type}:∀{els:n_ (n_ b)} {es:Nat} (a:Nat),(∀c∈els,j' c=es)->els.flatten.take (a*es)=(els.take a).flatten:=by
 intro els;induction els with
 |nil=>intro es a _;simp
 |cons c els d=>
  intro es a e;cases a with
  |zero=>simp
  |succ a=>
   grind [aiv,aiZ,aja]
variable{Y:TI} {L:n_ F'}
section
variable{C:eN} {Φ:Fz} {ρ:Nat->Nat} {σ:VS} {st:St} {m:Nat} {ev:H'->Option V} {oA:H'->Option C'}
def hF{o:Option V}{b:Nat->Prop}(a:mC o y b)(ρ:Nat->Nat):∃n,b n/\oZ (o.map (erase ρ)) y=q' n:=by
 unfold mC at a;split at a
 ·exact⟨_,a,Z⟩
 ·obtain⟨n,rfl,a⟩:=a;exact⟨n,a,Z⟩
 exact a.elim
theorem My(ae:Real Φ ρ σ st)(z:gk Φ (j' σ) w){lo hi A:Option V}(a:RY C l w lo hi A σ g):
  ∃U,g U/\gk Φ (j' σ) U/\qc C l (erase ρ w) (lo.map (erase ρ)) (hi.map (erase ρ)) (A.map (erase ρ)) st=q' (.val (erase ρ U) st):=by
 unfold RY at a;split at a
 ·exact a.elim
 rename_i ai h;split at a
 ·rename_i s t;split at a
  ·have⟨H,a,m⟩:=hF a ρ;have⟨f,a,k⟩:=hF a ρ;obtain⟨⟨y,D⟩,a⟩:=a;refine⟨_,a,.d (.str _),?_⟩;simp only[qc,h,t,erase,cK,m,k,aiX];rw[ais y,ais D];rfl
  exact a.elim
 ·rename_i X t;split at a
  ·exact a.elim
  rename_i v q;split at a
  ·have⟨H,p,m⟩:=hF a ρ;have⟨f,n,k⟩:=hF p ρ;have⟨m',E,x⟩:=hF n ρ;clear a p n;obtain⟨⟨rfl,rfl,rfl,K⟩,S⟩:=E;refine⟨_,S,.d .cu,?_⟩;have N:((hi.map (erase ρ)).isSome||(A.map (erase ρ)).isNone)=A':=by simpa using K
   simp only[qc,h,t,erase,cK,q,m,k,x,N];rfl
  ·rename_i b o es e els;split at a
   ·have⟨H,a,m⟩:=hF a ρ;have⟨f,a,k⟩:=hF a ρ;obtain⟨⟨y,D,T,K,rfl⟩,a⟩:=a;cases z with
    |d z=>
    cases z with
    |ps I L ag ab W aa=>
     rename_i c aj ah;have j:j' ((els.take f).drop H)=f-H:=by
      grind
     have Y:H*v.size<=f*v.size:=ai2 _ y;have J:f*v.size<=j' els*v.size:=ai2 _ D;refine⟨_,a,.d (.ps I (λac M=>L ac (aiw (aix M))) ?_ ?_ (λac M=>W ac (aiw (aix M))) aa),?_⟩
     ·rw[j,ajf];omega
     ·have O:∀w∈els.take f,j' w=v.size:=λw z=>L w (aiw z);rw[j,<-K9 H O,<-La f L,aiT,aiS,<-ab,List.take_take,ai8 J,ajb,ajc,ajf]
     have x:oZ u' e=q' e:=rfl;rcases ajk e with B|B
     ·subst B;obtain rfl:f=0:=om;obtain rfl:H=0:=om;have r:((hi.map (erase ρ)).isSome||true)=A':=Bool.or_true _;simp only[qc,h,t,erase,cK,q,m,k,aiX,x,ajj,r,j,aiY,ai5];rfl
     have F:Vl st b=q' v.size:=by simp only[Vl,ae.fz _ _ I]
     have u:aiz e 0=B':=uM om;have r:(aiF H f&&aiF f e&&aiF e e&&((hi.map (erase ρ)).isSome||true))=A':=by
      grind [ais]
     simp only[qc,h,t,erase,cK,q,m,k,aiX,x,ajj,r,u,F,aiP,j];rfl
   exact a.elim
  ·rename_i i es af len e;split at a
   ·rename_i ad els G;have⟨H,p,m⟩:=hF a ρ;have⟨f,n,k⟩:=hF p ρ;have⟨m',E,x⟩:=hF n ρ;clear a p n;obtain⟨⟨y,D,T,K,rfl,rfl,R⟩,a⟩:=E;rw[cx]at G;have⟨⟨⟨ak,ah,I⟩,_⟩,_⟩:=ae.obj i _ G rfl;cases z with
    |ms Q=>
     refine⟨_,a,.ms Q,?_⟩;rcases ajk e with B|B
     ·subst B;obtain rfl:m'=0:=om;obtain rfl:f=0:=om;obtain rfl:H=0:=om;have P:((hi.map (erase ρ)).isSome||(A.map (erase ρ)).isNone)=A':=by simpa using R
      simp only[qc,h,t,erase,q,m,k,x,P];rfl
     have F:Vl st (ρ i)=q' v.size:=by simp only[Vl,I]
     have u:aiz e 0=B':=uM om;have r:(aiF H f&&aiF f m'&&aiF m' e&&((hi.map (erase ρ)).isSome||(A.map (erase ρ)).isNone))=A':=by
      rw[ais y,ais D,ais T];simpa using R
     simp only[qc,h,t,erase,q,m,k,x,r,u,F,aiP,ajg];rfl
   exact a.elim
  exact a.elim
 exact a.elim
theorem CT{A i:V}(f:gk Φ m A)(a:zA C l A i g)(ρ:Nat->Nat)(st:St):
  ∃y,g y/\gk Φ m y/\iT C l (erase ρ A) (erase ρ i) st=q' (.val (erase ρ y) st):=by
 unfold zA at a;split at a
 ·rename_i N _ n k;split at a
  ·rename_i F s;split at a
   ·rename_i x j;split at a
    ·rename_i P es L len t;split at a
     ·rename_i e;have:=ait e;subst this;obtain⟨u,rfl,q,a⟩:=a;cases f with
      |ms I=>
       refine⟨_,a,.ptr I,?_⟩;have p:aiI u len=A':=by rw[uN];exact a_ q
       simp only[iT,k,erase,cK,s,j,p,ajg,ai5];rfl
     exact a.elim
    ·rename_i b o es t els;split at a
     ·rename_i e;have:=ait e;subst this;obtain⟨u,rfl,J,h,a⟩:=a;rw[cx]at h;have q:u<j' els:=(aiQ.1 h).1;cases f with
      |d f=>
      cases f with
      |ps w r M O E H=>
       rename_i c K Q;have D:=aiD h;have G:=r J D;have v:=Uc r h (f:=0) (n:=x.size) om;have z:=tM r;refine⟨_,a,.fp w (by rw[G];rw[z]at v;omega) ?_ (E J D) H,?_⟩
       ·have B:=v.1;rw[ai5,List.drop_zero,aiW (by omega:j' J<=x.size)]at B
        grind [ajb,ajc,ajf,ai8,aiT,aiS,Nat.le_mul_of_pos_left]
       have p:aiI u (j' els)=A':=by rw[uN];exact a_ q
       simp only[iT,k,erase,cK,s,j,p];rfl
     exact a.elim
    exact a.elim
   exact a.elim
  exact a.elim
 exact a.elim
def Mz{o i:V}(e:gk Φ m o)(a:R0 C l o i g)(ρ:Nat->Nat)(st:St):
  ∃f,g f/\gk Φ m f/\we C l (erase ρ o) (erase ρ i) st=q' (.val (erase ρ f) st):=by
 unfold R0 at a;split at a
 ·rename_i v s _ n b;split at a
  ·rename_i d;obtain⟨z,rfl,c,x,a⟩:=a;refine⟨_,a,.d (.int _ _),?_⟩;simp only[we,b,erase,cK,d,x];rfl
  exact a.elim
 ·rename_i v D _ n b;split at a
  ·rename_i len r d;split at a
   ·rename_i u h;obtain⟨z,rfl,p,a⟩:=a;cases e with
    |agg e=>
     have⟨f,q,j,t⟩:=DJ e a ρ;refine⟨f,q,j,?_⟩;have k:aiI z len=A':=by rw[uN];exact a_ p
     simp only[we,b,erase,cK,d,h,k,t];rfl
   exact a.elim
  exact a.elim
 exact a.elim
theorem DK(ρ:Nat->Nat)(f:TypeDesc)(a:V):∀(es:n_ tK) (i:Nat) (b:Option (Nat×V)),je f a es i=q' b->
  Dy f (erase ρ a) (es.map (pb ρ)) i=q' (b.map λh=>(h.1,erase ρ h.2))/\(∀j e,b=q' (j,e)->∃c∈es,c.val=e):=by
 intro es;induction es with
 |nil=>intro i b d;cases d;exact⟨rfl,λj e c=>by cases c⟩
 |cons c es k=>
  intro i b d;unfold je at d;all_goals grind [Dy,pb,erase,cK,lR,CQ,tN]
def wF(i:Real Φ ρ σ st){es:n_ tK}(a:AO σ w=q' es):
  ((erase ρ w=.map u'/\es=[])∨(∃c f,erase ρ w=.map (q' c)/\st.get c=q' (.map (es.map (pb ρ)) f)))/\∀j∈es,gk Φ (j' σ) j.key/\gk Φ (j' σ) j.val:=by
 unfold AO at a;split at a
 ·cases a;exact⟨.inl ⟨rfl,rfl⟩,λ_ i=>by simp at i⟩
 ·rename_i c;split at a
  ·rename_i k d b;cases a;rw[cx]at b;have⟨⟨e,h⟩,_⟩:=i.obj c _ b rfl;exact⟨.inr ⟨_,_,Z,e⟩,h⟩
  cases a
 cases a
theorem zF(b:ed (wB Y.zero) λe=>vmk Y.agg e g)(Φ:Fz)(m:Nat)(ρ:Nat->Nat):∃a,g a/\gk Φ m a/\Oc Y.agg Y.zero=q' (erase ρ a):=by
 have⟨e,d,c⟩:=cR b;have⟨a,i,f,h⟩:=AS c ρ (sa Φ m d).1
 grind [kn]
def AT{e b:V}(c:gk Φ m e)(d:gk Φ m b):gk Φ m (.dP [e,b]):=.dP λf a=>by
 rcases aiC.1 a with rfl|a
 ·exact c
 rcases aiC.1 a with rfl|a
 ·exact d
 simp at a
theorem HW(N:Real Φ ρ σ st){b:V}(a:Mq C l w b B σ g):
  ∃d,g d/\gk Φ (j' σ) d/\sc C l (erase ρ w) (erase ρ b) B st=q' (.val (erase ρ d) st):=by
 unfold Mq at a;split at a
 ·exact a.elim
 rename_i L k;split at a
 ·rename_i H K q;split at a
  ·rename_i I j f h;split at a
   ·rename_i es s o;obtain⟨F,D,a⟩:=a;have⟨z,r⟩:=wF N o;have⟨u,x⟩:=DK ρ _ _ _ _ _ D;have m:sc C l (erase ρ w) (erase ρ b) B st=match(generalizing:=false) (F.map λw=>(w.1,erase ρ w.2):Option (Nat×C'))with
      |some (_,d)=>val (if B then .tuple #[d,.bool A']else d) st
      |none=>match(generalizing:=false) Oc j.agg j.zero with
       |none=>u'
       |some E=>val (if B then .tuple #[E,.bool B']else E) st:=by
     unfold sc;rcases z with⟨p,rfl⟩|⟨G,M,p,t⟩
     ·grind
     simp only[k,q,f,h,s,p,t,u]
     grind
    rw[m];cases F with
    |some J=>
     have⟨i,d⟩:=J;have⟨p,y,A⟩:=x i d rfl;have c:gk Φ (j' σ) d:=A▸(r p y).2;cases B with
     |true=>exact⟨_,a,AT c (.d (.bool _)),rfl⟩
     |false=>exact⟨_,a,c,rfl⟩
    |none=>
     dsimp only at a;have⟨d,e,n,v⟩:=zF a Φ (j' σ) ρ;rw[aiX];dsimp only;rw[v];cases B with
     |true=>exact⟨_,e,AT n (.d (.bool _)),rfl⟩
     |false=>exact⟨_,e,n,rfl⟩
   exact a.elim
  exact a.elim
 exact a.elim
theorem AU(n:gk Φ m w)(a:wD C w l B g)(ρ:Nat->Nat)(st:St):
  ∃c,g c/\gk Φ m c/\ki C (erase ρ w) l B st=q' (.val (erase ρ c) st):=by
 unfold wD at a;split at a
 ·exact a.elim
 rename_i e p;split at a
 ·exact a.elim
 rename_i r;have b:∀o,(match(generalizing:=false) erase ρ w with
  |.iface q c=>match(generalizing:=false) aiz q l with
   |true=>val (if B then .tuple #[c,.bool A']else c) st
   |false=>match(generalizing:=false) B,Oc e.agg e.zero with
    |true,q' k=>val (.tuple #[k,.bool B']) st
    |_,_=>u'
  |.nilIface=>match(generalizing:=false) B,Oc e.agg e.zero with
   |true,q' k=>val (.tuple #[k,.bool B']) st
   |_,_=>u'
  |_=>u')=o->ki C (erase ρ w) l B st=o:=by
  all_goals grind [ki]
 split at a
 ·rename_i q c;cases n with
  |iface j=>
  split at a
  ·rename_i d;cases B with
   |true=>exact⟨_,a,AT j (.d (.bool _)),b _ (by simp only[erase,d];rfl)⟩
   |false=>exact⟨_,a,j,b _ (by simp only[erase,d];rfl)⟩
  rename_i d;split at a
  ·have⟨c,f,i,h⟩:=zF a Φ m ρ;exact⟨_,f,AT i (.d (.bool _)),b _ (by simp only[erase,d,h];rfl)⟩
  exact a.elim
 ·split at a
  ·have⟨c,f,i,h⟩:=zF a Φ m ρ;exact⟨_,f,AT i (.d (.bool _)),b _ (by simp only[erase,cK,h];rfl)⟩
  exact a.elim
 exact a.elim
def F5(c:gk Φ m w){i:Nat}(a:FY w i g)(ρ:Nat->Nat)(st:St):
  ∃d,g d/\gk Φ m d/\rh (erase ρ w) i st=q' (.val (erase ρ d) st):=by
 unfold FY at a;split at a
 ·rename_i f;have⟨d,b,e⟩:=cR a;rw[cx]at b;cases c with
  |dP c=>
   refine⟨d,e,c d (aiD b),?_⟩;simp only[rh,erase,cx,fs,List.getElem?_map,b,Option.map_some];rfl
 exact a.elim
def R6(p:Real Φ ρ σ st)(a:aeH C L u σ g):
  ∃f,g f/\gk Φ (j' σ) f/\CC C L (cE ρ u) st=q' (.val (erase ρ f) st):=by
 unfold aeH at a;split at a
 ·rename_i t _ r _;split at a
  ·exact a.elim
  rename_i n c;split at a
  ·rename_i s b;exact⟨_,a,.d (.int _ _),by simp only[CC,cE,c,b,erase,cK];rfl⟩
  ·rename_i d b;exact⟨_,a,.d (.int _ _),by simp only[CC,cE,c,b,erase,cK];rfl⟩
  ·rename_i d _ _ _ _ els b;exact⟨_,a,.d (.int _ _),by simp only[CC,cE,c,b,erase,cK];rfl⟩
  ·rename_i d _ _ _ len _ b;exact⟨_,a,.d (.int _ _),by simp only[CC,cE,c,b,erase,cK];rfl⟩
  ·rename_i k m b;have⟨es,i,e⟩:=cR a;have⟨j,_⟩:=wF p i;refine⟨_,e,.d (.int _ _),?_⟩;rcases j with⟨d,rfl⟩|⟨q,o,d,h⟩
   ·simp only[CC,cE,c,b,d];rfl
   simp only[CC,cE,c,b,d,h,aiy];rfl
  exact a.elim
 exact a.elim
theorem Vh(a:Bool)(e:E'):∀(f:n_ V) (i:Int) (h:V->Prop),vmm a e i f h->∃j,h j/\gk Φ m j/\sd a (.int e i) (cE ρ f)=q' (erase ρ j):=by
 intro f;induction f with
 |nil=>intro i h c;exact⟨_,c,.d (.int _ _),rfl⟩
 |cons s f k=>
  intro i h c;cases s with
  |d r=>
   cases r with
   |int q b=>
    have c:vmm a e (match(generalizing:=false) a with|true=>max i b|false=>min i b) f h:=c;have⟨j,o,n,p⟩:=k _ h c;refine⟨j,o,n,?_⟩;rw[<-p];simp only[cE,erase,cK,sd,CP]
    grind
   |_=>exact c.elim
  |_=>exact c.elim
theorem Y8(f:qo Φ ρ m ev oA){o:Option H'}{e:Option V}(b:Y3 ev o=q' e):(o=u'/\e=u')∨∃c d,o=q' c/\e=q' d/\oA c=q' (erase ρ d):=by
 cases o with
 |none=>cases b;exact .inl ⟨rfl,rfl⟩
 |some c=>
  simp only[Y3]at b;cases a:ev c with
  |none=>rw[a]at b;cases b
  |some d=>rw[a]at b;cases b;exact .inr ⟨c,d,rfl,rfl,(f _ _ a).1⟩
theorem ru(I:Real Φ ρ σ st)(f:qo Φ ρ (j' σ) ev oA){o:M'}(d:HS C ev o.op σ g):
  ∃v,g v/\gk Φ (j' σ) v/\kZ C oA o st=q' (.val (erase ρ v) st):=by
 have⟨D,G,F,y,l,A⟩:=o;dsimp only at d;unfold HS at d;split at d
 ·have⟨v,a,h2⟩:=cR d;have⟨h,e⟩:=f _ _ a;exact⟨v,h2,e,by simp only[kZ,h];rfl⟩
 ·split at d
  ·rename_i J H v a h2 h;have⟨q,_⟩:=f _ _ a;have⟨r,z⟩:=f _ _ h2;have⟨p,x⟩:=f _ _ h;cases J with
   |true=>exact⟨H,d,z,by simp only[kZ,q,r,p,erase,cK];rfl⟩
   |false=>exact⟨v,d,x,by simp only[kZ,q,r,p,erase,cK];rfl⟩
  exact d.elim
 ·have⟨K,a,h2⟩:=cR d;have⟨h,e⟩:=F3 f a;have⟨v,h5,h6,h7⟩:=Mv e h2 ρ st
  grind [kZ]
 ·have⟨n,a,h2⟩:=cR d;have⟨h,e⟩:=f _ _ a
  grind [kZ,DH]
 ·have⟨n,a,h2⟩:=cR d;have⟨h,e⟩:=f _ _ a;have⟨v,h5,h6,h7⟩:=Ek e h2 ρ st
  grind [kZ]
 ·have⟨n,a,h2⟩:=cR d;have⟨b,i,h2⟩:=cR h2;have⟨h,e⟩:=f _ _ a;have⟨j,k⟩:=f _ _ i;have⟨v,h5,h6,h7⟩:=R5 (Φ:=Φ) (ρ:=ρ) (m:=j' σ) h2;exact⟨v,h5,h6,by simp only[kZ,h,j,h7];rfl⟩
 ·have⟨n,a,h2⟩:=cR d;have⟨h,e⟩:=f _ _ a;have⟨v,h5,h6,h7⟩:=V0 (Φ:=Φ) (ρ:=ρ) (m:=j' σ) h2;exact⟨v,h5,h6,by simp only[kZ,h,h7];rfl⟩
 ·have⟨n,a,h2⟩:=cR d;have⟨h,e⟩:=f _ _ a
  grind [kZ,F4]
 ·have⟨n,a,h2⟩:=cR d;have⟨h,e⟩:=f _ _ a;have⟨v,h5,h6,h7⟩:=wE e h2 ρ st
  grind [kZ]
 ·split at d
  ·have⟨n,a,h2⟩:=cR d;have⟨b,i,h2⟩:=cR h2;have⟨h,e⟩:=pc f a;have⟨j,k⟩:=pc f i;exact⟨_,h2,.fn e k,by simp only[kZ,h,j,aeu,erase];rfl⟩
  exact d.elim
 ·have⟨n,a,h2⟩:=cR d;have⟨K,E,h2⟩:=cR h2;have⟨hi,w,h2⟩:=cR h2;have⟨B,u,h2⟩:=cR h2;have⟨h,e⟩:=f _ _ a
  grind [kZ,My,Y8]
 ·have⟨n,a,h2⟩:=cR d;have⟨h,e⟩:=f _ _ a;have⟨v,h5,h6,h7⟩:=CS e h2 ρ st
  grind [kZ]
 ·have⟨n,a,h2⟩:=cR d;have⟨h,e⟩:=f _ _ a;have⟨v,h5,h6,h7⟩:=Mx e h2 ρ st
  grind [kZ]
 ·have⟨n,a,h2⟩:=cR d;have⟨b,i,h2⟩:=cR h2;have⟨h,e⟩:=f _ _ a;have⟨j,k⟩:=f _ _ i;have⟨v,h5,h6,h7⟩:=CT e h2 ρ st
  grind [kZ]
 ·have⟨n,a,h2⟩:=cR d;have⟨b,i,h2⟩:=cR h2;have⟨h,e⟩:=f _ _ a;have⟨j,k⟩:=f _ _ i;have⟨v,h5,h6,h7⟩:=Mz e h2 ρ st
  grind [kZ]
 ·have⟨n,a,h2⟩:=cR d;have⟨b,i,h2⟩:=cR h2;have⟨h,e⟩:=f _ _ a;have⟨j,k⟩:=f _ _ i
  grind [kZ,HW]
 ·have⟨n,a,h2⟩:=cR d;have⟨h,e⟩:=f _ _ a;have⟨v,h5,h6,h7⟩:=AU e h2 ρ st
  grind [kZ]
 ·have⟨n,a,h2⟩:=cR d;have⟨h,e⟩:=f _ _ a;have⟨v,h5,h6,h7⟩:=F5 e h2 ρ st
  grind [kZ]
 ·rename_i c;have⟨s,a,h2⟩:=cR d;have⟨h,e⟩:=pc f a;split at h2
  ·rename_i b t;simp only[kZ,h,t];unfold Y1 at h2;split at h2
   ·have⟨v,h5,h6,h7⟩:=R6 I h2;exact⟨v,h5,h6,h7⟩
   ·exact Jw
   ·exact Jw
   exact h2.elim
  exact h2.elim
 exact d.elim
end
theorem O0{d:Type}:∀{els:n_ (n_ d)} {es kk f:Nat} {e vs:n_ d},(∀a∈els,j' a=es)->els[kk]?=q' e->f+j' vs<=es->
  (els.set kk (lay e f vs)).flatten=lay els.flatten (kk*es+f) vs/\kk*es+f+j' vs<=j' els.flatten:=by
 intro els;induction els with
 |nil=>intro es kk f e vs _ b;simp at b
 |cons a els h=>
  intro es kk f e vs c b j;have m:=c a sm;cases kk with
  |zero=>
   simp at b;subst b;simp only[aiY,Nat.zero_add,List.set_cons_zero,aiv,aiK]
   grind [lay,List.append_assoc]
  |succ kk=>
   have:=h (λk i=>c k (by simp[i])) (kk:=kk) (f:=f) (e:=e) (vs:=vs) (by simpa using b) j;simp only[List.set_cons_succ,aiv,aiK];rw[aiZ];refine⟨?_,om⟩;rw[this.1];simp only[lay];rw[show kk*es+es+f=j' a+(kk*es+f)from om,aja,
    show (j' a)+(kk*es+f)+j' vs=j' a+(kk*es+f+j' vs)from om,aiO]
   simp only[List.append_assoc]
theorem ab3{b:Type}{c a:n_ b}(d:j' c=j' a):lay c 0 a=a:=by
 simp only[lay,List.take_zero,ai1,Nat.zero_add]
 grind
variable{M:VS->Prop} {P:n_ cP} {A:V->VS->Prop}
section
variable{C:eN} {Φ:Fz} {ρ:Nat->Nat} {σ:VS} {st:St} {m:Nat} {ev:H'->Option V} {oA:H'->Option C'}
def F6(Φ:Fz)(ρ:Nat->Nat)(σ:VS)(d:V->VS->Prop)(e:Option AR):Prop:=
 ∃c a dV dM b,d c a/\jO Φ ρ (j' σ) dV dM (j' a)/\Real dV dM a b/\gk dV (j' a) c/\e=q' (.val (erase dM c) b)
def An:gk Φ m (.dP []):=.dP λ_ a=>by simp at a
theorem wG(a:u.all iy=A')(ρ:Nat->Nat):(cE ρ u).all gM=A':=by
 grind [aiH,fs,aiB.1,Mt]
def nW(L:Real Φ ρ σ st){e:V}(U:gk Φ (j' σ) w)(O:gk Φ (j' σ) e)(a:uI C l w e σ M):
  ∃q o,M q/\j' q=j' σ/\Real Φ ρ q o/\mN C l (erase ρ w) (erase ρ e) st=q' (.val mM o)/\o.n=st.n:=by
 unfold uI at a;split at a
 ·rename_i T D;split at a
  ·rename_i I;rw[aiE]at I;have⟨g,p⟩:=I;have z:=yc O;have x:∀R∈eu e,iy R=A':=aiH.1 p;split at a
   ·rename_i i f;split at a
    ·rename_i s c;rw[cx]at c;have⟨⟨⟨n,_⟩,m,r⟩,_⟩:=L.obj i _ c rfl;have⟨k,u⟩:=zE _ _ _ _ a;have⟨N,y⟩:=lU _ _ _ _ u;have B:=L.write (o':=.box (lay s f (eu e))) (c':=cE ρ (lay s f (eu e))) (lo:=0+f) (hi':=0+f+j' (eu e)) c rfl n
      (.inl ⟨_,_,rfl,rfl,F2 k,rfl,λd b=>(AQ b).elim (m d) (z d),λd b=>(AQ b).elim (r d) (x d)⟩)
     refine⟨_,_,y,by simp,B,?_,?_⟩
     ·have F:eh (cE ρ s) f (cE ρ (eu e))=cE ρ (lay s f (eu e)):=by
       rw[sp _ _ _ (by rw[dD,dD];exact k),fs,fs,fs,EU]
      simp only[mN,D,erase,nV,dD,g,ic,n,wG p ρ,ais k,aiU,F];rfl
     rw[iK];rfl
    exact a.elim
   ·rename_i i es h f;split at a
    ·rename_i Q els c;split at a
     ·rename_i J;have:=ait J;subst this;rw[cx]at c;have⟨⟨⟨W,P,n⟩,m,r,K⟩,_⟩:=L.obj i _ c rfl;obtain⟨v,G,a⟩:=a;rw[cx]at G;have t:=aiD G;have⟨k,u⟩:=zE _ _ _ _ a;have⟨N,y⟩:=lU _ _ _ _ u;have E:=O0 m G (f:=f) (vs:=eu e) (by rw[<-m v t];exact k);have j:∀d∈els.set h (lay v f (eu e)),d∈els∨d=lay v f (eu e):=λd b=>aiG b;have B:=L.write (o':=.row es (els.set h (lay v f (eu e)))) (c':=cE ρ (els.set h (lay v f (eu e))).flatten) (lo:=P+(h*es+f)) (hi':=P+(h*es+f)+j' (eu e)) c rfl n
       (.inr ⟨_,_,rfl,rfl,rfl,λd b=>by
        rcases j d b with b|rfl
        ·exact m d b
        ·rw[F2 k];exact m v t,λd b=>by
        rcases j d b with b|rfl
        ·exact r d b
        ·exact λH A=>(AQ A).elim (r v t H) (z H),λd b=>by
        rcases j d b with b|rfl
        ·exact K d b
        exact λH A=>(AQ A).elim (K v t H) (x H)⟩)
      refine⟨_,_,y,by simp,B,?_,?_⟩
      ·have F:eh (cE ρ els.flatten) (h*es+f) (cE ρ (eu e))=cE ρ (els.set h (lay v f (eu e))).flatten:=by
        rw[sp _ _ _ (by rw[dD,dD];exact E.2),E.1,fs,fs,fs,EU]
       simp only[mN,D,erase,nV,dD,g,ic,n,wG p ρ,ais E.2,aiU,F];rfl
      rw[iK];rfl
     exact a.elim
    exact a.elim
   exact a.elim
  exact a.elim
 exact a.elim
def HX(ρ:Nat->Nat):∀(es:n_ tK) (i:Nat) (a b:V),(pH es i a b).map (pb ρ)=zt (es.map (pb ρ)) i (erase ρ a) (erase ρ b):=by
 intro es;induction es with
 |nil=>intro i a b;rfl
 |cons d es c=>
  intro i a b;cases i with
  |zero=>rfl
  |succ i=>simp only[pH,aiJ,zt,c]
theorem O1:∀{es:n_ tK} {i:Nat} {b c:V} {a:tK},a∈pH es i b c->a∈es∨(a.key=b/\a.val=c):=by
 intro es;induction es with
 |nil=>intro i b c a h;simp[pH]at h
 |cons e es d=>
  intro i b c a h;cases i with
  |zero=>
   rcases aiC.1 h with rfl|h
   ·exact .inr ⟨Z,Z⟩
   exact .inl (by simp[h])
  |succ i=>
   rcases aiC.1 h with rfl|h
   ·exact .inl sm
   grind
theorem Cd(g:Real Φ ρ σ st){d m:V}(x:gk Φ (j' σ) d)(J:gk Φ (j' σ) m)(c:uK C l w d m σ M):
  ∃f j,M f/\j' f=j' σ/\Real Φ ρ f j/\kq C l (erase ρ w) (erase ρ d) (erase ρ m) st=q' (.val mM j):=by
 unfold uK at c;split at c
 ·rename_i H v k;split at c
  ·rename_i A G o;split at c
   ·rename_i B es b h e;rw[cx]at e;have⟨⟨p,I⟩,_⟩:=g.obj v _ e rfl;split at c
    ·exact c.elim
    rename_i q;obtain⟨y,D,c⟩:=c;have⟨t,E⟩:=DK ρ _ _ _ _ _ D;have s:∀a,(st.put (ρ v) a).get (ρ v)=q' a:=λa=>by rw[dH,X' rfl]
    cases y with
    |some F=>
     have⟨i,K⟩:=F;have⟨z,n⟩:=lU _ _ _ _ c;refine⟨_,_,n,by simp,g.put (o':=.map (pH es i d m) b) (a:=.map ((pH es i d m).map (pb ρ)) b) e Z Z Z (λ_ _ _ _ r=>by cases r) ⟨s _,λr u=>?_⟩,?_⟩
     ·all_goals grind [O1]
     simp only[kq,k,erase,o,h,p,q,t,HX];rfl
    |none=>
     have⟨z,n⟩:=lU _ _ _ _ c;refine⟨_,_,n,by simp,g.put (o':=.map (es++[tK.mk d m b]) (b+1)) (a:=.map ((es++[tK.mk d m b]).map (pb ρ)) (b+1)) e Z Z Z (λ_ _ _ _ r=>by cases r) ⟨s _,λr u=>?_⟩,?_⟩
     ·all_goals grind [aiN.1]
     simp only[kq,k,erase,o,h,p,q,t,List.map_append];rfl
   exact c.elim
  exact c.elim
 exact c.elim
theorem gS:∀{els:n_ (n_ V)} {a:n_ cP},sn els=q' a->els=a.map λb=>b.map V.d:=by
 intro els;induction els with
 |nil=>intro a d;cases d;rfl
 |cons b els c=>
  all_goals grind [sn,qK]
theorem wH(ρ:Nat->Nat)(a:n_ cP):cE ρ (a.map λb=>b.map V.d).flatten=a.flatten.map cK:=by
 grind [aiv,gD,pS]
def adT{b es c:Nat}{f p:Nat}(e:Φ b=q' (.cells (P.flatten.map cK) es f p))(a:∀i∈P,j' i=es)(h:∀i∈P,∀j∈i,zC Φ j)(d:Φ.HT b):zC Φ (.ps b 0 es c P):=by
 have:=tM a;refine .ps e a (by rw[aiy];omega) ?_ h d;rw[List.drop_zero,aiW (by rw[aiy];omega)]
structure kj (Φ:Fz) (m es:Nat) (els:List (List V)):Prop where
 len:∀e∈els,j' e=es
 ok:∀e∈els,fW Φ m e
 cell:∀e∈els,∀v∈e,iy v=A'
def kj.d{es:Nat}{f:n_ cP}(c:kj Φ m es (f.map λa=>a.map V.d)):(∀a∈f,j' a=es)/\∀a∈f,∀d∈a,zC Φ d:=by
 refine⟨λa b=>?_,λa b d e=>?_⟩
 ·have:=c.len (a.map V.d) (aiB.2 ⟨a,b,rfl⟩);simpa using this
 have:=c.ok (a.map V.d) (aiB.2 ⟨a,b,rfl⟩) (.d d) (aiB.2 ⟨d,e,rfl⟩);cases this with
 |d c=>exact c
def kj.mono{dV:Fz}{m' es:Nat}{els:n_ (n_ V)}(c:kj Φ m es els)(a:Φ.le dV)(b:m<=m'):kj dV m' es els:=
 ⟨c.len,λe d=>(c.ok e d).mono a b,c.cell⟩
def Real.newRow(c:Real Φ ρ σ st){es:Nat}{els:n_ (n_ V)}(a:kj Φ (j' σ) es els):
  Real Φ (k0 ρ (j' σ) st.n) (σ++[.row es els]) (st.new (.cells (cE ρ els.flatten) es st.n 0)):=by
 have b:=lT Φ ρ (j' σ) st.n;refine c.new Z ⟨⟨st.n,0,?_⟩,a.len,λd c=>b.Ub (a.ok d c),a.cell⟩;rw[dT,X' rfl,b.cE (Mu a.ok)]
def Real.Yz(d:Real Φ ρ σ st)(a:fW Φ (j' σ) u)(c:∀h∈u,iy h=A'):
  Real Φ (k0 ρ (j' σ) st.n) (σ++[.box u]) (st.new (.cells (cE ρ u) (j' u) st.n 0)):=by
 have b:=lT Φ ρ (j' σ) st.n;refine d.new Z ⟨⟨?_,?_⟩,b.Ub a,c⟩
 ·rw[dT,X' rfl,b.cE a]
 cases e:st.fm.get st.n with
 |none=>exact e
 |some f=>exact Y' (d.wf.TX _ _ e) (ajd _)
def Real.Uf(h:Real Φ ρ σ st){es:Nat}(c:kj Φ m es (P.map λj=>j.map V.d)):
  Real (qe Φ st.n (.cells (P.flatten.map cK) es st.n 0)) ρ σ (st.new (.cells (P.flatten.map cK) es st.n 0))/\
  jO Φ ρ (j' σ) (qe Φ st.n (.cells (P.flatten.map cK) es st.n 0)) ρ (j' σ)/\∀b,zC (qe Φ st.n (.cells (P.flatten.map cK) es st.n 0)) (.ps st.n 0 es b P):=by
 have d:Φ st.n=u':=by
  exact xP
 have a:=yb (o:=.cells (P.flatten.map cK) es st.n 0) d;refine⟨h.af4,⟨a,λ_ _=>Z,ai9 _⟩,λb=>?_⟩;have⟨i,f⟩:=c.d;exact adT (by rw[mD];exact X' rfl) i (λj c k e=>(f j c k e).mono a) (.inl Z)
def tO:∀{n:Nat} {a:n_ V},a∈tL u n->a=u:=by
 intro n;induction n with
 |zero=>intro a h;simp[tL]at h
 |succ n b=>
  intro a h;rcases aiC.1 h with rfl|h
  ·rfl
  exact b h
def Lb(ρ:Nat->Nat):∀(n:Nat),cE ρ (tL u n).flatten=yH (cE ρ u) n:=by
 intro n;induction n with
 |zero=>rfl
 |succ n a=>simp only[tL,aiv,gD,a,yH]
def Y9:∀(n:Nat),j' (tL u n)=n:=by
 intro n;induction n with
 |zero=>rfl
 |succ n a=>simp[tL,a]
theorem MA(ρ:Nat->Nat):∀(c:n_ (Nat×V)) (els b:n_ (n_ V)),kj Φ m y els->(∀k∈c,gk Φ m k.2)->Mm y els c=q' b->
  kj Φ m y b/\j' b=j' els/\sb (λi=>q' (i*y,y)) (cE ρ els.flatten) (c.map λk=>(k.1,erase ρ k.2))=q' (cE ρ b.flatten):=by
 intro c;induction c with
 |nil=>intro els b j _ n;cases n;exact⟨j,rfl,rfl⟩
 |cons k c D=>
  intro els b j q n;have⟨i,u⟩:=k;unfold Mm at n;split at n
  ·rename_i o;simp only[aiE]at o;have⟨⟨t,s⟩,x⟩:=o;have e:=ait t;have hi:i<j' els:=ai0 s;obtain⟨e0,d⟩:∃e0,els[i]?=q' e0:=⟨els[i],List.getElem?_eq_getElem hi⟩;have p:=aiD d;have l:=j.len e0 p;have g:=yc (q _ (ajl ..));have f:kj Φ m y (els.set i (eu u)):=by
    refine⟨λh a=>?_,λh a=>?_,λh a=>?_⟩
    ·rcases aiG a with a|rfl
     ·exact j.len h a
     exact e
    ·rcases aiG a with a|rfl
     ·exact j.ok h a
     exact g
    rcases aiG a with a|rfl
    ·exact j.cell h a
    exact aiH.1 x
   obtain⟨C,z,A⟩:=D _ _ f (λh a=>q h (by simp[a])) n;refine⟨C,by simpa using z,?_⟩;have r:=O0 j.len d (f:=0) (vs:=eu u) om;rw[ab3 om,ai5]at r;simp only[aiJ,sb,nV,dD];have v:i*y+y<=j' els.flatten:=by have:=r.2;omega
   rw[e,aiP,ais v]
   grind [aiU,sp,dD,fs,EU]
  cases n
def jU(c:Op)(b:cX)(ρ:Nat->Nat)(n:Nat):Option (C'×gJ):=
 match c,b with
 |.alloc _,.box a=>q' (ptr n 0,.cells (cE ρ a) (j' a) n 0)
 |.box _ _,.box a=>q' (ptr n 0,.cells (cE ρ a) (j' a) n 0)
 |.makeMap _ _,.map _ _=>q' (.map (q' n),.map [] 0)
 |.buildSlice _ len _,.row es els=>q' (.slice (q' ⟨n,0,u'⟩) len len,.cells (cE ρ els.flatten) es n 0)
 |_,_=>u'
def rv(Φ:Fz)(m:Nat)(d:Op)(b:cX):Prop:=
 match d,b with
 |.alloc _,.box a=>fW Φ m a/\∀e∈a,iy e=A'
 |.box _ _,.box a=>fW Φ m a/\∀e∈a,iy e=A'
 |.makeMap _ _,.map es c=>es=[]/\c=0
 |.buildSlice _ len _,.row es els=>kj Φ m es els/\j' els=len
 |_,_=>False
def sq(b:qo Φ ρ m ev oA){o:M'}(a:K7 C ev o.op=q' F):
  rv Φ m o.op F/\∀st:St,∃q E,jU o.op F ρ st.n=q' (q,E)/\kZ C oA o st=q' (.val q (st.new E)):=by
 have⟨B,L,K,H,G,J⟩:=o;dsimp only at a;unfold K7 at a;split at a
 ·rename_i M;split at a
  ·rename_i V e;split at a
   ·rename_i l c A;cases a;have d:j' l=V.size:=by rw[<-ait A,<-dD ρ,kn ρ c]
    refine⟨sa Φ m c,λst=>⟨_,_,Z,?_⟩⟩;simp only[kZ,zq,e,kn ρ c,d];rfl
   cases a
  cases a
 ·rename_i O;split at a
  ·rename_i q f;split at a
   ·rename_i g;cases a;have⟨k,i⟩:=b _ _ f;refine⟨⟨yc i,aiH.1 g⟩,λst=>⟨_,_,Z,?_⟩⟩;simp only[kZ,k,Rn,nV,wG g ρ,dD];rfl
   cases a
  cases a
 ·cases a;exact⟨⟨Z,Z⟩,λst=>⟨_,_,Z,Z⟩⟩
 ·rename_i M len I;split at a
  ·rename_i N V D e;split at a
   ·rename_i y w;split at a
    ·rename_i x t;split at a
     ·rename_i l r c;split at a
      ·rename_i els j;cases a;have⟨k,i⟩:=F3 b D;have h:=r;simp only[aiE]at h;have d:j' l=x.size:=by rw[<-ait h.2,<-dD ρ,kn ρ c]
       have p:kj Φ m x.size (tL l len):=⟨λu b=>by rw[tO b,d],λu b=>by rw[tO b];exact(sa Φ m c).1,λu b=>by rw[tO b];exact(sa Φ m c).2⟩;have⟨z,s,v⟩:=MA ρ N _ els p i j;rw[Y9]at s;refine⟨⟨z,s⟩,λst=>⟨_,_,Z,?_⟩⟩;rw[Lb,kn ρ c]at v;have n:(cE ρ els.flatten).all gM=A':=wG (aiH.2 λq f=>by
        have⟨u,b,f⟩:=ai6.1 f;exact z.cell u b q f) ρ
       simp only[kZ,k,lp,e,w,t,r,v,n];rfl
      cases a
     cases a
    cases a
   cases a
  cases a
 cases a
def O2(h:Real Φ ρ σ st)(x:qo Φ ρ (j' σ) ev oA){o:M'}(a:YY C B ev o.op σ A):F6 Φ ρ σ A (kZ C oA o st):=by
 unfold YY at a;split at a
 ·rename_i l k;have⟨hm,j⟩:=sq x k;have⟨w,D,h1,q⟩:=j st;rw[q];have t:=lT Φ ρ (j' σ) st.n;have LM:k0 ρ (j' σ) st.n (j' σ)=st.n:=X' rfl;split at a
  ·rename_i e;split at a
   ·rename_i es els;split at a
    ·rename_i z f;have c:pa o.op=A':=by rw[aiE]at e;exact e.2
     cases kg:o.op with
     |buildSlice y len g=>
      rw[kg]at h1 hm;cases h1;have⟨d,m⟩:=hm;rw[gS f]at d;have⟨r,v,p⟩:=h.Uf d;have i:j' z=len:=by rw[<-m,gS f,aiy]
      have n:cE ρ els.flatten=z.flatten.map cK:=by rw[gS f,wH]
      refine⟨_,σ,_,ρ,st.new (.cells (z.flatten.map cK) es st.n 0),a st.n,v,r,.d (p _),?_⟩;simp only[erase,cK,i,n]
     |_=>rw[kg]at c;cases c
    exact a.elim
   exact a.elim
  have b:=kT a;clear a;have⟨u,h3,s⟩:=cR b;clear b;have hlen:∀o:cX,j' (σ++[o])=j' σ+1:=λo=>by simp
  refine⟨u,_,Φ,k0 ρ (j' σ) st.n,st.new D,s,by rw[hlen];exact t,?_,?_,?_⟩;all_goals
   unfold jU at h1;split at h1
   ·exact JR
   ·exact JR
   ·rename_i kg;rw[kg]at h3 hm;obtain⟨rfl,rfl⟩:=hm;cases h1;cases h3;first
     |exact h.new trivial ⟨by rw[dT,X' rfl];rfl,λ_ h=>by simp at h⟩
     |exact .map (by rw[hlen];omega)
     |(simp only[erase,LM])
   ·rename_i kg;rw[kg]at h3 hm;cases h1;cases h3;first
     |exact h.newRow hm.1
     |exact .ms (by rw[hlen];omega)
     |(simp only[erase,LM,aiY])
   cases h1
 exact a.elim
theorem CU(y:Real Φ ρ σ st){D c:V}(a:zB C l D c σ A):F6 Φ ρ σ A (kp C l (erase ρ D) (erase ρ c) st):=by
 unfold zB at a;split at a
 ·rename_i w r;split at a
  ·rename_i x t;split at a
   ·rename_i d p;split at a
    ·rename_i v m h;split at a
     ·rename_i B b;obtain⟨n,rfl,⟨rfl,u,g⟩,a⟩:=a;simp only[aiE]at m;have q:j' v=d.size:=by rw[<-ait m.2,<-dD ρ,kn ρ h]
      have k:kj Φ (j' σ) d.size (tL v n):=⟨λs f=>by rw[tO f,q],λs f=>by rw[tO f];exact(sa Φ (j' σ) h).1,λs f=>by rw[tO f];exact(sa Φ (j' σ) h).2⟩;have s:kp C l (erase ρ (.d (.int .i64 (aiL n)))) (erase ρ (.d (.int .i64 (aiL n)))) st=q' (.val (.slice (q' ⟨st.n,0,u'⟩) n n) (st.new (.cells (cE ρ (tL v n).flatten) d.size st.n 0))):=by
       have z:(aiF n n&&aiI 0 d.size&&aiF (n*d.bytes) 1099511627776&&aiF n 1099511627776&&aiz (j' d.zero) d.size)=A':=by
        grind [Nat.ble_eq]
       rw[Lb,kn ρ h];simp only[kp,erase,cK,r,t,p,z];rfl
      rw[s];have j:=kT a;have e:∀o:cX,j' (σ++[o])=j' σ+1:=λo=>by simp
      have i:k0 ρ (j' σ) st.n (j' σ)=st.n:=X' rfl;exact⟨_,_,Φ,k0 ρ (j' σ) st.n,_,j,by rw[e];exact lT Φ ρ (j' σ) st.n,y.newRow k,.ms (by rw[e];omega),by simp only[erase,i,aiY]⟩
     exact a.elim
    exact a.elim
   exact a.elim
  exact a.elim
 exact a.elim
end
section
variable{C:eN} {Φ:Fz} {ρ:Nat->Nat} {σ:VS} {st:St} {m:Nat} {ev:H'->Option V} {oA:H'->Option C'}
theorem Ug{es:Nat}{els:n_ (n_ V)}(c:kj Φ m es els)(d len:Nat):kj Φ m es ((els.drop d).take len):=
 ⟨λb a=>c.len b (aix (aiw a)),λb a=>c.ok b (aix (aiw a)),λb a=>c.cell b (aix (aiw a))⟩
def kj.append{es:Nat}{f b:n_ (n_ V)}(d:kj Φ m es f)(e:kj Φ m es b):kj Φ m es (f++b):=
 ⟨λc a=>(aiN.1 a).elim (d.len c) (e.len c),λc a=>(aiN.1 a).elim (d.ok c) (e.ok c),λc a=>(aiN.1 a).elim (d.cell c) (e.cell c)⟩
def O3{c:Type}{els:n_ (n_ c)}{es:Nat}(e:∀b∈els,j' b=es)(a len:Nat):(els.flatten.drop (a*es)).take (len*es)=((els.drop a).take len).flatten:=by
 rw[K9 a e,La len λb d=>e b (aix d)]
def uO(h:Real Φ ρ σ st){i es:Nat}{els:n_ (n_ V)}(c:σ[i]?=q' (.row es els)):kj Φ (j' σ) es els/\∃f j,st.get (ρ i)=q' (.cells (cE ρ els.flatten) es f j):=by
 have⟨⟨d,a,e,b⟩,_⟩:=h.obj i _ c rfl;exact⟨⟨a,e,b⟩,d⟩
theorem O4(f:Real Φ ρ σ st){i es:Nat}{els:n_ (n_ V)}(d:σ[i]?=q' (.row es els)){a len:Nat}(c:a+len<=j' els):
  hX st (ρ i) (a*es) (len*es)=q' (cE ρ ((els.drop a).take len).flatten):=by
 have⟨b,h,j,e⟩:=uO f d;rw[kv e (by rw[dD,tM b.len,<-ajg];exact ai2 _ c),<-rs,O3 b.len]
theorem zG(e:cC):kj Φ m 1 (e.map λc=>[io c]):=by
 refine⟨λd b=>?_,λd b f a=>?_,λd b f a=>?_⟩;all_goals
  obtain⟨c,_,rfl⟩:=aiB.1 b
 ·rfl
 ·simp at a;subst a;exact .d (.int _ _)
 simp at a;subst a;rfl
theorem CV(ρ:Nat->Nat)(a:cC):cE ρ (a.map λc=>[io c]).flatten=ofBytes a:=by
 induction a with
 |nil=>rfl
 |cons c a b=>
  simp only[aiJ,aiv,aiM,ai1,cE,b,ofBytes];rfl
theorem V1(f:Real Φ ρ σ st)(h:gk Φ (j' σ) w){t:n_ (n_ V)->Prop}(a:Y0 C Y w σ t):
  ∃xs,t xs/\kj Φ (j' σ) Y.size xs/\zu (erase ρ w)=q' (j' xs)/\lq st Y.size (j' xs) (erase ρ w)=q' (cE ρ xs.flatten):=by
 unfold Y0 at a;split at a
 ·exact⟨[],a,⟨λ_ f=>by simp at f,λ_ f=>by simp at f,λ_ f=>by simp at f⟩,Z,Z⟩
 ·rename_i b o es n els;obtain⟨rfl,a⟩:=a;cases h with
  |d h=>
  cases h with
  |ps p A r x v=>
   refine⟨_,a,⟨λg c=>?_,λg c l j=>?_,λg c l j=>?_⟩,by simp[erase,cK,zu],?_⟩
   ·grind [aiy,aiB.1]
   ·obtain⟨e0,m,rfl⟩:=aiB.1 c;obtain⟨d,k,rfl⟩:=aiB.1 j;exact .d (v e0 m d k)
   ·obtain⟨e0,m,rfl⟩:=aiB.1 c;obtain⟨d,k,rfl⟩:=aiB.1 j;rfl
   simp only[erase,cK,lq,aiy];rw[kv (f.fz _ _ p) r,x,wH]
 ·rename_i i es q len n;split at a
  ·rename_i D els e;rw[cx]at e;obtain⟨⟨rfl,rfl,y⟩,a⟩:=a;have⟨c,_⟩:=uO f e;have z:t ((els.drop q).take len):=by
    all_goals grind [aiW,ait]
   grind [List.length_take,aiV,erase,zu,lq,Ug,O4]
  exact a.elim
 ·rename_i s;obtain⟨u,a⟩:=a
  grind [erase,cK,zu,lq,aiy,CV,List.take_length,zG]
 exact a.elim
def kw(i:Nat)(o:cX):j' (σ.set i o)=j' σ:=List.length_set
theorem HY(h:Real Φ ρ σ st)(ag:fW Φ (j' σ) u)(a:Mr C B L u σ A):
  F6 Φ ρ σ A (qF C L (cE ρ u) st):=by
 unfold Mr at a;split at a
 ·rename_i L ar s aF;have ad:=ag s sm;have am:=ag aF sm;split at a
  ·rename_i aH aB ak T;split at a
   ·exact a.elim
   ·rename_i aq W aA;split at a
    ·rename_i d af;split at a
     ·exact a.elim
     rename_i hb;have⟨xs,O,t,an,aw⟩:=V1 h am a;clear a;have a:=O;clear O;have ae:=hb;simp only[aiE]at ae;have aE:(cE ρ xs.flatten).all gM=A':=wG (aiH.2 λaM U=>by
      have⟨R,E,U⟩:=ai6.1 U;exact t.cell R E aM U) ρ
     have aC:j' (cE ρ xs.flatten)=j' xs*d.size:=by rw[dD,tM t.len]
     have y:∀v len f,erase ρ s=.slice v len f->(len+j' xs)*d.bytes<=en->len+j' xs<=en->
       qF C [L,ar] (cE ρ [s,aF]) st=gQ st d.size v len f (j' xs) (cE ρ xs.flatten):=by
      intro v len f es X M;have S:(aiI 0 d.size&&aiz (j' (cE ρ xs.flatten)) (j' xs*d.size)&&(cE ρ xs.flatten).all gM&&aiF ((len+j' xs)*d.bytes) en&&aiF (len+j' xs) en&&aiz (j' d.zero) d.size)=A':=by
       grind [aiP,ais]
      simp only[qF,cE,ak,T,es,W,af,an,aw,S]
     have F:Φ st.n=u':=by
      exact xP
     split at a
     ·obtain⟨⟨X,M⟩,a⟩:=a;rw[y u' 0 0 rfl (by simpa using X) (by simpa using M)];cases q:aiz (j' xs) 0 with
      |true=>
       rw[q]at a;have r:=ait q;refine⟨_,σ,Φ,ρ,st,a,.refl _ _ _,h,.d .cu,?_⟩;simp only[gQ,r];rfl
      |false=>
       rw[q]at a;have r:aiF (0+j' xs) 0=B':=by
        rw[Ud];refine Z' λaL=>?_;have:j' xs=0:=om;rw[this]at q;cases q
       have x:gQ st d.size u' 0 0 (j' xs) (cE ρ xs.flatten)=q' (.val (.slice (q' ⟨st.n,0,u'⟩) (j' xs) (j' xs)) (st.new (.cells (cE ρ xs.flatten) d.size st.n 0))):=by
        simp only[gQ,r];rfl
       rw[x];simp only[kE]at a;cases B with
       |true=>
        have⟨al,p,a⟩:=cR a;have H:=t;rw[gS p]at H;have⟨D,ax,au⟩:=h.Uf H;have G:j' xs=j' al:=by rw[gS p,aiy]
        have ac:cE ρ xs.flatten=al.flatten.map cK:=by rw[gS p,wH]
        exact⟨_,σ,_,ρ,_,a st.n,ax,D,.d (au _),by simp only[erase,cK,G,ac]⟩
       |false=>
        have z:=kT a;have k:j' (σ++[cX.row d.size xs])=j' σ+1:=by simp
        refine⟨_,_,Φ,_,_,z,by rw[k];exact lT Φ ρ (j' σ) st.n,h.newRow t,.ms (by rw[k];omega),?_⟩;exact KP
     ·rename_i i es j len f;split at a
      ·rename_i aD els e;rw[cx]at e;obtain⟨⟨rfl,rfl,Q,aJ,ap,ay⟩,a⟩:=a;rw[y (q' ⟨ρ i,j*d.size,u'⟩) len f rfl ap ay];have⟨P,Y,aa,I⟩:=uO h e;cases q:aiz (j' xs) 0 with
       |true=>
        rw[q]at a;have r:=ait q;have ab:xs=[]:=List.length_eq_zero_iff.1 r;subst ab;refine⟨_,σ,Φ,ρ,st,a,.refl _ _ _,h,ad,?_⟩;have:aiF (len+0) f=A':=ais om;simp only[gQ,List.length_nil,this,List.flatten_nil,cE];rfl
       |false=>
        rw[q]at a;simp only[kE]at a;cases w:aiF (len+j' xs) f with
        |true=>rw[w]at a;exact a.elim
        |false=>
         rw[w]at a;simp only at a;have⟨hi,a⟩:=lU _ _ _ _ a;have ah:=O4 h e Q;have x:gQ st d.size (q' ⟨ρ i,j*d.size,u'⟩) len f (j' xs) (cE ρ xs.flatten)=
           q' (.val (.slice (q' ⟨st.n,0,u'⟩) (len+j' xs) (len+j' xs)) (grown st d.size Y aa (ρ i) (j*d.size) len (j' xs) (cE ρ els.flatten) (cE ρ ((els.drop j).take len).flatten) (cE ρ xs.flatten))):=by
          simp only[gQ,w,I,aiP,ah];rfl
         rw[x];have⟨aj,ai,az⟩:=h.grow (o:=j*d.size) (len:=len) (n:=j' xs) (old:=cE ρ ((els.drop j).take len).flatten) (xs:=cE ρ xs.flatten) e I;have m:=Ug P j len|>.append t;have l:=lS (st:=st) (es:=d.size) (et:=Y) (fo:=aa) (b:=ρ i) (o:=j*d.size) (len:=len) (n:=j' xs) (c:=cE ρ els.flatten) (old:=cE ρ ((els.drop j).take len).flatten) (xs:=cE ρ xs.flatten) st.n;rw[X' rfl,<-gD,<-List.flatten_append]at l;have N:∀av o,(σ.set i .gone)[av]?=q' o->live o=A'->ρ av≠st.n:=λav o ao p=>aiu (h.lt (tB e ao p).2 p);have K:j' ((els.drop j).take len++xs)=len+j' xs:=by
          grind
         cases B with
         |true=>
          have⟨al,p,a⟩:=cR a;have g:=yb (o:=gJ.cells (cE ρ ((els.drop j).take len++xs).flatten) d.size Y (aa+j*d.size)) F;have D:=aj.Y4 l F N ai (λaO aK aN aI J=>h.qd e rfl I (h.fz _ _ J) (λR=>by rw[R,(h.obj i _ e rfl).2]at J;cases J) (.inl (by rw[J];simp)) rfl);have G:j' al=len+j' xs:=by rw[<-K,gS p,aiy]
          rw[gS p]at m;have⟨d1,d2⟩:=m.d;refine⟨_,_,_,ρ,_,a st.n,⟨g,λ_ _=>Z,by rw[kw];exact ai9 _⟩,D,.d (adT (f:=Y) (p:=aa+j*d.size) ?_ d1 (λR E aG W=>(d2 R E aG W).mono g) (.inl Z)),by simp only[erase,cK,G]⟩;rw[<-wH ρ,<-gS p,mD];exact X' Z
         |false=>
          have z:=kT a;have k:j' ((σ.set i .gone)++[cX.row d.size ((els.drop j).take len++xs)])=j' σ+1:=by simp
          have D:=aj.Y5 (els:=(els.drop j).take len++xs) l F N ai az (h.Q9 i _ _ _ _ _ _ e I) m.len (λR E=>by rw[kw];exact m.ok R E) m.cell;rw[kw]at D z;refine⟨_,_,Φ,_,_,z,by rw[k];exact lT Φ ρ (j' σ) st.n,D,.ms (by rw[k];omega),?_⟩;exact KP
      exact a.elim
     ·rename_i b o es f els;obtain⟨⟨X,rfl,M,Q⟩,a⟩:=a;rw[y (q' ⟨b,o,u'⟩) (j' els) f rfl (by simpa using M) (by simpa using Q)];refine⟨_,σ,Φ,ρ,st,a,.refl _ _ _,h,ad,?_⟩;have:aiF (j' els+0) f=A':=ais om;simp only[gQ,List.length_nil,this,List.flatten_nil,cE];rfl
     exact a.elim
    exact a.elim
   exact a.elim
  exact a.elim
 exact a.elim
theorem MB(z:Real Φ ρ σ st){t:F'}(a:RX C B l t w σ A):F6 Φ ρ σ A (jY C l t (erase ρ w) st):=by
 unfold RX at a;split at a
 ·rename_i u g o j;split at a
  ·rename_i q s k f;split at a
   ·rename_i D i;split at a
    ·rename_i v;have e:jY C l t (erase ρ (.d (.str s))) st=q' (.val (.slice (q' ⟨st.n,0,u'⟩) (j' s) (j' s)) (st.new (.cells (ofBytes s) 1 st.n 0))):=by
      simp only[jY,o,j,k,f,erase,cK,i,v];rfl
     rw[e];cases B with
     |true=>
      have p:kj Φ 0 1 ((s.map λc=>[wC c]).map λq=>q.map V.d):=by
       have:((s.map λc=>[wC c]).map λq=>q.map V.d)=s.map λc=>[io c]:=by
        rw[List.map_map];rfl
       rw[this];exact zG s
      have⟨d,x,r⟩:=z.Uf p;have n:ofBytes s=(s.map λc=>[wC c]).flatten.map cK:=by rw[<-CV ρ,OZ]
      exact⟨_,σ,_,ρ,_,a st.n,x,d,.d (r _),by simp only[erase,cK,n,aiy]⟩
     |false=>
      have h:=kT a;have b:j' (σ++[cX.row 1 (s.map λc=>[io c])])=j' σ+1:=by simp
      have d:=z.newRow (zG (Φ:=Φ) (m:=j' σ) s);rw[CV]at d;refine⟨_,_,Φ,_,_,h,by rw[b];exact lT Φ ρ (j' σ) st.n,d,.ms (by rw[b];omega),?_⟩;simp only[erase,aiY]
      grind [k0]
    exact a.elim
   exact a.elim
  exact a.elim
 exact a.elim
inductive adU (Φ:Fz) (ρ:Nat->Nat) (σ:VS) (st:St) (K:VR->Prop) (r:Option AR):Prop
 |val (h:F6 Φ ρ σ (λv pL=>K (.val v pL)) r)
 |fJ (v:V) (hk:K (.fJ v)) (hv:gk Φ (j' σ) v) (hr:r=q' (.fJ (erase ρ v) st))
 |enter (f:D') (args:List V) (hk:K (.enter f args)) (hv:fW Φ (j' σ) args) (hr:r=q' (.enter f (cE ρ args)))
 |yield (l:Nat) (args:List V) (hk:K (.yield l args)) (hl:l<j' σ) (hv:fW Φ (j' σ) args) (hr:r=q' (.yield (ρ l) (cE ρ args)))
 |recover (hk:K .recover) (hr:r=q' .recover)
 |defer (d:gR) (hk:K (.defer d)) (hv:OS Φ (j' σ) d) (hr:r=q' (.defer (ku ρ d)))
def fW.append{e b:n_ V}(c:fW Φ m e)(d:fW Φ m b):fW Φ m (e++b):=λf a=>(aiN.1 a).elim (c f) (d f)
def V2(h:Real Φ ρ σ st)(he:qo Φ ρ (j' σ) ev oA){o:M'}{z:VR->Prop}(hk:vop C B ev o.op σ z):adU Φ ρ σ st z (kZ C oA o st):=by
 have d:∀{o:M'},HS C ev o.op σ (λv=>z (.val v σ))->adU Φ ρ σ st z (kZ C oA o st):=by
  intro o l;have⟨v,h1,h2,h3⟩:=ru h he l;exact .val ⟨v,σ,Φ,ρ,st,h1,.refl _ _ _,h,h2,h3⟩
 have⟨dst,op,q,pos,j,n⟩:=o;dsimp only at hk;unfold vop at hk;split at hk
 ·have⟨v,h1,h2⟩:=cR hk;have⟨h3,h4⟩:=he _ _ h1;exact .val ⟨v,σ,Φ,ρ,st,h2,.refl _ _ _,h,h4,by simp only[kZ,h3];rfl⟩
 ·have⟨K,h1,h2⟩:=cR hk;have⟨x,Hu,h2⟩:=cR h2;have⟨h3,h4⟩:=he _ _ h1;have⟨Yc,Vd⟩:=he _ _ Hu;have⟨pL,dy,k1,k2,k3,k4,_⟩:=nW h h4 Vd h2;exact .val ⟨_,pL,Φ,ρ,dy,k1,⟨Fz.le_refl _,λ_ _=>Z,om⟩,k3,An,by simp only[kZ,h3,Yc];rw[k4];rfl⟩
 ·exact IZ
 ·exact IZ
 ·rename_i c;split at hk
  ·rename_i H f;have⟨a,h1,h2⟩:=cR hk;have⟨v,Hu,h2⟩:=cR h2;have⟨h3,h4⟩:=pc he h1;have⟨Yc,Vd⟩:=he _ _ Hu;have b:kZ C oA {dst:=dst,op:=.call c,type:=q,pos:=pos,after:=j,guard:=n} st=mO C (erase ρ v) (cE ρ a) st:=by simp only[kZ,h3,f,Yc]
   rw[b];unfold FZ at h2;split at h2
   ·rename_i V first e
    cases Vd with
    |fn s t=>
    have r:fW Φ (j' σ) (first++a++e):=(fW.append s h4).append t;unfold Ua at h2;cases i:C.ff.get V with
    |some J=>
     rw[i]at h2;have h2:z (.enter V (first++a++e)):=h2;refine .enter V _ h2 r ?_;simp only[erase,mO,i,gD]
    |none=>
     rw[i]at h2;simp only[Option.isSome_none,kE]at h2;split at h2
     ·rename_i D p;obtain⟨x,E,y,h2⟩:=h2;have k:cE ρ first++cE ρ a++cE ρ e=D.map cK:=by rw[<-gD,<-gD,qK p,pS]
      have g:zC Φ x:=by cases x<;>first|(cases y;done)|constructor
      exact .val ⟨_,σ,Φ,ρ,st,h2,.refl _ _ _,h,.d g,by simp only[erase,mO,i,k,E];rfl⟩
     exact h2.elim
   ·rename_i D;cases Vd with
    |wA p=>exact .yield D a h2 p h4 (by simp only[erase,mO])
   exact h2.elim
  ·rename_i f;have⟨a,h1,h2⟩:=cR hk;have⟨h3,h4⟩:=pc he h1;have b:kZ C oA {dst:=dst,op:=.call c,type:=q,pos:=pos,after:=j,guard:=n} st=qF C c.argTypes.toList (cE ρ a) st:=by simp only[kZ,h3,f,ll]
   rw[b];exact .val (HY h h4 h2)
  ·rename_i f;have⟨a,h1,h2⟩:=cR hk;have⟨h3,h4⟩:=pc he h1;exact .recover h2 (by simp only[kZ,h3,f,ll])
  exact d hk
 ·rename_i c;have⟨a,h1,h2⟩:=cR hk;have⟨h3,h4⟩:=pc he h1;split at h2
  ·rename_i H f;have⟨v,Hu,h2⟩:=cR h2;have⟨Yc,Vd⟩:=he _ _ Hu;unfold Y2 at h2;split at h2
   ·rename_i V first e
    cases Vd with
    |fn s t=>exact .defer _ h2 ⟨t,fW.append s h4⟩ (by simp only[kZ,h3,f,Yc,erase,Fu,ku,gD])
   exact h2.elim
  exact h2.elim
 ·split at hk
  ·rename_i G v F;have⟨h3,h4⟩:=he _ _ F;exact .fJ _ hk h4 (by simp only[kZ,h3,erase])
  exact hk.elim
 ·split at hk
  ·have⟨v,h1,h2⟩:=cR hk;have⟨h3,h4⟩:=he _ _ h1;refine .val ?_;have:=MB (C:=C) (ρ:=ρ) h h2;simpa only[kZ,h3]using this
  exact d hk
 ·rename_i G D c;have⟨v,h1,h2⟩:=cR hk;have⟨I,w,A⟩:=cR h2;have⟨h3,_⟩:=he _ _ h1;have⟨u,_⟩:=he _ _ w;have b:kZ C oA {dst:=dst,op:=.makeSlice G D c,type:=q,pos:=pos,after:=j,guard:=n} st=kp C G (erase ρ v) (erase ρ I) st:=by simp only[kZ,h3,u]
  rw[b];exact .val (CU h A)
 split at hk
 ·exact .val (O2 h he hk)
 exact d hk
end
structure Yg (rc EV:Rec):Prop where
 code:∀fc c fr ps st r,rc.code fc c fr ps st=q' r->EV.code fc c fr ps st=q' r
 call:∀f args Hv ps st r,rc.call f args Hv ps st=q' r->EV.call f args Hv ps st=q' r
 round:∀l args st r,rc.round l args st=q' r->EV.round l args st=q' r
variable{J:eM} {X:Ee} {N:FC} {I:n_ M'} {H:CR×eM×St}
section
variable{C:eN} {rc EV:Rec} {cU:r3}
theorem R7(e:Yg rc EV){o:M'}{st:St}(c:pM C rc N o O J st=q' X):pM C EV N o O J st=q' X:=by
 unfold pM at c⊢;cases d:kZ C (nR O) o st with
 |none=>rw[d]at c;cases c
 |some i=>
  rw[d]at c;cases i with
  |enter f a=>
   simp only at c⊢;cases b:rc.call f a B' .none st with
   |none=>rw[b]at c;cases c
   |some h=>rw[b]at c;rw[e.call _ _ _ _ _ _ b];exact c
  |yield j a=>
   simp only at c⊢;cases b:rc.round j a st with
   |none=>rw[b]at c;cases c
   |some h=>rw[b]at c;rw[e.round _ _ _ _ b];exact c
  |_=>exact c
theorem sr(a:Yg rc EV){o:M'}{st:St}(b:mP C rc N I o O J st=q' X):mP C EV N I o O J st=q' X:=by
 grind [mP,R7]
theorem DL(h:Yg rc EV):∀(c:n_ M') {b:Fr} {a:eM} {st:St} {d:Ex×Fr×eM×St},ri C rc N I c b a st=q' d->ri C EV N I c b a st=q' d:=by
 intro c;induction c with
 |nil=>intro b a st d f;exact f
 |cons o c e=>
  grind [ri,sr]
theorem AV(x:Yg rc EV){f:n_ Nat}:∀(h:n_ Nat) {b:Nat} {a:n_ uC} {e:Fr} {d:eM} {st:St} {j:Ex×Fr×eM×St},gg C rc N I f h b a e d st=q' j->gg C EV N I f h b a e d st=q' j:=by
 intro h;induction h with
 |nil=>intro b a e d st j c;exact c
 |cons i h t=>
  intro b a e d st j c;unfold gg at c⊢;split at c
  ·rename_i o r p m;split at c
   ·all_goals grind [sr]
   rename_i s;split at c
   ·cases c
   ·all_goals grind
   rename_i n;split at c
   ·rename_i v k q;split at c
    ·cases c
    all_goals grind
   cases c
  cases c
theorem O5(d:Yg rc EV){a:Array M'}{st:St}{b:Ex×Fr×eM×St}(c:region C rc N a B O J st=q' b):region C EV N a B O J st=q' b:=by
 unfold region at c⊢
 grind [AV,DL]
theorem iI(x:Yg rc EV):∀(c:T') {e:Fr} {d:eM} {st:St} {k:Ex×Fr×eM×St},code C rc N c e d st=q' k->code C EV N c e d st=q' k:=by
 intro c;induction c with
 |region id z v=>intro e d st k a;exact O5 x a
 |seq g b n p=>
  grind [code]
 |cond c g b n p=>
  all_goals grind [code]
 |block id b q=>
  grind [code]
 |loop b q=>
  intro e d st k a;unfold code at a⊢;cases f:code C rc N b e d st with
  |none=>rw[f]at a;cases a
  |some s=>
   rw[f]at a;rw[q f];obtain⟨s,o,D,h⟩:=s;cases s with
   |norm=>exact x.code _ _ _ _ _ _ a
   |_=>exact a
 |rangeFunc A r m t=>
  intro e d st k a;unfold code at a⊢;split at a
  ·rename_i l first j y o h f V
   split at a
   ·cases a
   rename_i w u;cases i:rc.call l (first.toList++[.func (.yield y) #[] #[]]++j.toList) B' .none h with
   |none=>rw[i]at a;cases a
   |some s=>rw[i]at a;rw[x.call _ _ _ _ _ _ i];exact a
  cases a
 |_=>intro e d st k a;exact a
theorem AW(k:Yg rc EV):∀(c:n_ J') {m:AM.Mode} {st:St} {d:AM.Mode×St},mB C rc c m st=q' d->mB C EV c m st=q' d:=by
 intro c;induction c with
 |nil=>intro m st d a;exact a
 |cons o c b=>
  intro m st d a;unfold mB at a⊢;split at a
  ·split at a
   ·exact b a
   cases a
  ·rename_i p f _;split at a
   ·rename_i n q j i h e;rw[h,k.call _ _ _ _ _ _ e];exact b a
   cases a
  cases a
theorem DM(b:Yg rc EV){a:FI}{m:AM.Mode}{st:St}(c:finish C rc a m O J st=q' H):finish C EV a m O J st=q' H:=by
 grind [finish,AW]
theorem R8(c:Yg rc EV){b:D'}{st:St}(a:Au C rc b G B J st=q' H):Au C EV b G B J st=q' H:=by
 unfold Au at a⊢;split at a
 ·cases a
 all_goals grind [iI,DM]
theorem O6(k:Yg rc EV){st:St}{f:CR×St}(a:wg C rc y G st=q' f):wg C EV y G st=q' f:=by
 unfold wg at a⊢;split at a
 ·rename_i b o;split at a
  ·cases a
  ·cases a
  rename_i p e n m;simp only at a⊢;cases c:code C rc ⟨b.fn,b.nt,q' y,B'⟩ b.assign ⟨e,[]⟩ .none st with
  |none=>rw[c]at a;cases a
  |some d=>
   rw[c]at a;rw[iI k _ c];obtain⟨d,h,j,i⟩:=d;cases d with
   |norm=>
    simp only at a⊢;split at a
    ·all_goals grind [iI]
    cases a
   |_=>exact a
 cases a
theorem V3:∀n,Yg (kY C cU n) (kY C cU (n+1)):=by
 intro n;induction n with
 |zero=>exact⟨λ_ _ _ _ _ _ a=>(by cases a),λ_ _ _ _ _ _ a=>(by cases a),λ_ _ _ _ a=>(by cases a)⟩
 |succ n d=>
  refine⟨λi c j e st f a=>iI d c a,λk b h e st f a=>?_,λm b st f a=>O6 d a⟩;all_goals grind [kY,R8]
def jc{n m:Nat}(c:n<=m):Yg (kY C cU n) (kY C cU m):=by
 induction c with
 |refl=>exact⟨λ_ _ _ _ _ _ a=>a,λ_ _ _ _ _ _ a=>a,λ_ _ _ _ a=>a⟩
 |step _ b=>
  have:=V3 (C:=C) (cU:=cU) ‹_›;exact⟨λ_ _ _ _ _ _ a=>this.code _ _ _ _ _ _ (b.code _ _ _ _ _ _ a),λ_ _ _ _ _ _ a=>this.call _ _ _ _ _ _ (b.call _ _ _ _ _ _ a),λ_ _ _ _ a=>this.round _ _ _ _ (b.round _ _ _ _ a)⟩
end
abbrev Tm:=List (Nat×V)
def fI(ρ:Nat->Nat):dt->CR
 |.ret a=>.ret (erase ρ a)
 |.fJ a=>.fJ (erase ρ a)
def F7(Φ:Fz)(m:Nat):dt->Prop
 |.ret a=>gk Φ m a
 |.fJ a=>gk Φ m a
def dN(ρ:Nat->Nat):o9->eM
 |.none=>.none
 |.hD a=>.hD (erase ρ a)
 |.tC=>.tC
def El(Φ:Fz)(m:Nat):o9->Prop
 |.none=>True
 |.hD a=>gk Φ m a
 |.tC=>True
def gb(ρ:Nat->Nat):Hy->Ex
 |.norm=>.norm
 |.exit id=>.exit id
 |.ret=>.ret
 |.panic a=>.panic (erase ρ a)
def V4(Φ:Fz)(m:Nat):Hy->Prop
 |.panic a=>gk Φ m a
 |_=>True
def fj(ρ:Nat->Nat)(a:x9):FC:=⟨a.fn,a.nt,a.round.map ρ,a.Hv⟩
def AX(m:Nat)(a:x9):Prop:=(∀b,a.round=q' b->b<a.fl)/\a.fl<=m
structure b7 (C:eN) (cU:r3) (f:D') (args:List V) (σ:VS) (K:dt->VS->Prop):Prop where
 go:∀Φ ρ st,Real Φ ρ σ st->fW Φ (j' σ) args->∃n r ps' dy dV dM pL,(kY C cU n).call f (cE ρ args) B' .none st=q' (fI dM r,ps',dy)/\
  jO Φ ρ (j' σ) dV dM (j' pL)/\Real dV dM pL dy/\F7 dV (j' pL) r/\K r pL
structure CW (C:eN) (cU:r3) (f:D') (args:List V) (ps:o9) (σ:VS) (K:dt->o9->VS->Prop):Prop where
 go:∀Φ ρ st,Real Φ ρ σ st->fW Φ (j' σ) args->El Φ (j' σ) ps->∃n r ps' dy dV dM pL,(kY C cU n).call f (cE ρ args) A' (dN ρ ps) st=q' (fI dM r,dN dM ps',dy)/\
  jO Φ ρ (j' σ) dV dM (j' pL)/\Real dV dM pL dy/\F7 dV (j' pL) r/\El dV (j' pL) ps'/\K r ps' pL
structure jF (C:eN) (cU:r3) (l:Nat) (args:List V) (σ:VS) (K:dt->VS->Prop):Prop where
 go:∀Φ ρ st,Real Φ ρ σ st->fW Φ (j' σ) args->l<j' σ->∃n r dy dV dM pL,(kY C cU n).round (ρ l) (cE ρ args) st=q' (fI dM r,dy)/\
  jO Φ ρ (j' σ) dV dM (j' pL)/\Real dV dM pL dy/\F7 dV (j' pL) r/\K r pL
structure ck (C:eN) (cU:r3) (fc:x9) (c:T') (tm:Tm) (df:List gR) (ps:o9) (σ:VS) (Q:Hy->Tm->List gR->o9->VS->Prop):Prop where
 go:∀Φ ρ st fr,Real Φ ρ σ st->iU Φ ρ (j' σ) tm fr.tm->F0 Φ ρ (j' σ) df fr.df->El Φ (j' σ) ps->AX (j' σ) fc->
  ∃n x fr' Yd HB ps' dy dV dM pL,code C (kY C cU n) (fj ρ fc) c fr (dN ρ ps) st=q' (gb dM x,fr',dN dM ps',dy)/\
   jO Φ ρ fc.fl dV dM (j' pL)/\Real dV dM pL dy/\iU dV dM (j' pL) Yd fr'.tm/\F0 dV dM (j' pL) HB fr'.df/\El dV (j' pL) ps'/\V4 dV (j' pL) x/\Q x Yd HB ps' pL
inductive VOR where
 |next (tm:Tm) (df:List gR) (ps:o9) (σ:VS)
 |fJ (v:V) (tm:Tm) (df:List gR) (ps:o9) (σ:VS)
def V5(c:Nat)(b:Tm)(a:Option Tmp)(f:V)(e:Tm->Prop):Prop:=
 match a with
 |none=>e b
 |some d=>match aiI d c with
  |true=>e ((d,f)::b)
  |false=>False
def aht(b:x9)(a:Option Tmp):Bool:=
 match a with
 |some c=>b.fz c
 |none=>B'
def R9(C:eN)(cU:r3)(c:x9)(o:M')(a:Tm)(d:n_ gR)(e:o9)(σ:VS)(i:VOR->Prop):Prop:=
 vop C (aht c o.dst) (RT a) o.op σ λj=>match j with
  |.val h b=>V5 c.nt a o.dst h λa=>i (.next a d e b)
  |.fJ h=>i (.fJ h a d e σ)
  |.enter m f=>b7 C cU m f σ λj b=>match j with
   |.ret h=>V5 c.nt a o.dst h λa=>i (.next a d e b)
   |.fJ h=>i (.fJ h a d e b)
  |.yield n f=>jF C cU n f σ λj b=>match j with
   |.ret h=>V5 c.nt a o.dst h λa=>i (.next a d e b)
   |.fJ h=>i (.fJ h a d e b)
  |.recover=>match c.round with
   |some _=>False
   |none=>match c.Hv,e with
    |true,.hD h=>V5 c.nt a o.dst h λa=>i (.next a d .tC σ)
    |_,_=>V5 c.nt a o.dst (.d .AN) λa=>i (.next a d e σ)
  |.defer k=>match c.round with
   |some _=>False
   |none=>V5 c.nt a o.dst (.dP []) λa=>i (.next a (k::d) e σ)
def DN(e:n_ M')(f:Tm)(o:M')(d a:Prop):Prop:=
 match o.guard with
 |none=>d
 |some (j,c)=>match nth e j with
  |none=>False
  |some h=>match h.dst with
   |none=>False
   |some i=>match gE f i with
    |some (.d (.bool b))=>(match c with
     |true=>kE d a b
     |false=>kE a d b)
    |some (.dP _)=>a
    |_=>False
def EW(C:eN)(cU:r3)(e:x9)(d:n_ M')(o:M')(a:Tm)(b:n_ gR)(c:o9)(σ:VS)(f:VOR->Prop):Prop:=
 DN d a o (R9 C cU e o a b c σ f) (V5 e.nt a o.dst (.dP []) λa=>f (.next a b c σ))
abbrev VQ:=Hy->Tm->List gR->o9->VS->Prop
abbrev VK:=Tm->List gR->o9->VS->VQ->Prop
def F8(C:eN)(cU:r3)(e:x9)(d:n_ M')(o:M')(i:VK):VK:=
 λc a b σ f=>EW C cU e d o c a b σ λh=>match h with
  |.next c a b σ=>i c a b σ f
  |.fJ j c a b σ=>f (.panic j) c a b σ
noncomputable def EX(C:eN)(cU:r3)(h:x9)(a:n_ M')(j:n_ M'):VK:=
 List.rec (motive:=λ_=>VK) (λe c d σ i=>i .norm e c d σ) (λo _ f=>F8 C cU h a o f) j
def MC(C:eN)(cU:r3)(b:x9)(a:n_ M')(o:M')(c:n_ M'):EX C cU b a (o::c)=F8 C cU b a o (EX C cU b a c):=rfl
inductive nX where
 |val (i:Nat) (v:V)
 |obj (i:Nat) (v:V) (ob:cX) (j:Option Nat)
 |skip (i:Nat)
 |fresh (i:Nat) (v:V) (ob:cX) (j:Nat)
 |never (i:Nat)
def nX.idx:nX->Nat
 |.val i _=>i
 |.obj i _ _ _=>i
 |.skip i=>i
 |.fresh i _ _ _=>i
 |.never i=>i
def MD:nX->nX
 |.fresh i _ _ _=>.never i
 |c=>c
noncomputable def AY(d:n_ nX):n_ nX:=List.rec (motive:=λ_=>n_ nX) [] (λc _ b=>MD c::b) d
def HZ(c:nX)(a:n_ nX):AY (c::a)=MD c::AY a:=rfl
def V6(b:Tm)(a:Option Tmp)(d:V):Prop:=
 match a with
 |none=>True
 |some c=>gE b c=q' d
def yd(C:eN)(a:n_ M')(b:Tm)(σ:VS):nX->Prop
 |.val i d=>match nth a i with
  |some o=>DN a b o (V6 b o.dst d/\HS C (RT b) o.op σ λf=>f=d) False
  |none=>False
 |.obj i d c e=>match nth a i with
  |some o=>DN a b o (V6 b o.dst d/\K7 C (RT b) o.op=q' c/\(match e with|some e=>nth σ e=q' c|none=>True)) False
  |none=>False
 |.skip i=>match nth a i with
  |some o=>DN a b o False (V6 b o.dst (.dP []))
  |none=>False
 |.fresh i d c e=>match nth a i with
  |some o=>DN a b o (V6 b o.dst d/\K7 C (RT b) o.op=q' c/\nth σ e=q' c) False
  |none=>False
 |.never _=>False
def O7:Nat->Nat->Bool
 |b,0=>aiz (b%2) 1
 |b,i+1=>O7 (b/2) i
theorem ME:∀(i b:Nat),O7 b i=Nat.testBit b i:=by
 intro i;induction i with
 |zero=>
  intro b;simp only[O7,Nat.testBit_zero];rw[Bool.eq_iff_iff,Nat.beq_eq,j_]
 |succ i a=>intro b;rw[O7,a,Nat.testBit_succ]
def tP(C:eN)(a:n_ M')(d:Tm)(σ:VS)(b:Nat):n_ nX->Prop
 |[]=>True
 |c::e=>match O7 b c.idx with
  |true=>tP C a d σ b e
  |false=>yd C a d σ c/\tP C a d σ b e
def wI(a:Nat):Tm->Tm
 |[]=>[]
 |(c,d)::b=>match aiz c a with
  |true=>wI a b
  |false=>(c,d)::wI a b
def pd:n_ M'->Tm->Tm
 |[],a=>a
 |o::b,a=>match o.dst with
  |some c=>match hY o.op with
   |true=>pd b a
   |false=>pd b (wI c a)
  |none=>pd b a
def AZ:Op->Bool
 |.buildSlice _ 0 _=>A'
 |_=>B'
def ahu(b:x9)(a:Option Tmp):Bool:=
 match a with
 |some c=>b.fz (2000000+c)
 |none=>B'
def Sa(C:eN)(k:Bool)(ev:H'->Option V)(c:Op)(i:Nat)(σ:VS)(j:V->nX->VS->Prop):Prop:=
 match K7 C ev c with
 |some a=>match AZ c||(k&&pa c)with
  |true=>FV σ a λf d=>ed (aeE c a f) λe=>j e (.fresh i e a f) d
  |false=>match pa c with
   |true=>match a with
    |.row es els=>match sn els with
     |some h=>∀b:Nat,j (.d (.ps b 0 es (j' h) h)) (.obj i (.d (.ps b 0 es (j' h) h)) (.row es els) u') σ
     |none=>False
    |_=>False
   |false=>FV σ a λf d=>ed (aeE c a f) λe=>j e (.obj i e a (q' f)) d
 |none=>False
noncomputable def CX(C:eN)(cU:r3)(j:x9)(h:n_ M')(r:n_ Nat)(i:Nat)(p:Nat->n_ nX->VK):Nat->n_ nX->VK:=
 λb d a e f σ m=>
  match nth h i,nth r i with
  |some o,q' q=>
   match hY o.op with
   |true=>l3 (tP C h a σ b d) (EW C cU j h o a e f σ λs=>match s with
     |.fJ k a e f σ=>m (.panic k) (pd h a) e f σ
     |.next a e f σ=>p q (AY d) a e f σ m)
   |false=>DN h a o
     (match hZ o.op with
     |true=>Sa C (ahu j o.dst) (RT a) o.op i σ λk c n=>V5 j.nt a o.dst k λa=>p b (c::d) a e f n m
     |false=>HS C (RT a) o.op σ λk=>V5 j.nt a o.dst k λa=>p b (.val i k::d) a e f σ m)
     (V5 j.nt a o.dst (.dP []) λa=>p b (.skip i::d) a e f σ m)
  |_,_=>False
noncomputable def A0(C:eN)(cU:r3)(k:x9)(a:n_ M')(m:n_ Nat)(o:n_ Nat):Nat->n_ nX->VK:=
 List.rec (motive:=λ_=>Nat->n_ nX->VK) (λb c d f h σ n=>l3 (tP C a d σ b c) (n .norm d f h σ)) (λi _ j=>CX C cU k a m i j) o
def H0(C:eN)(cU:r3)(c:x9)(a:n_ M')(b:n_ Nat)(i:Nat)(d:n_ Nat):A0 C cU c a b (i::d)=CX C cU c a b i (A0 C cU c a b d):=rfl
def V7:Op->Bool
 |.indexAddr _ _ _=>A'
 |_=>B'
def Sb(C:eN)(e b:Nat)(fo:Option M')(a:Tm)(σ:VS)(f:Tm->Tm->Prop):Prop:=
 match fo with
 |none=>f (wI b a) (wI b a)
 |some d=>match d.dst,d.op with
  |some c,.fieldAddr _ _ _=>match aiz b c,aiI c e with
   |false,A'=>HS C (RT (wI b (wI c a))) d.op σ λh=>f (wI b (wI c a)) ((c,h)::wI b (wI c a))
   |_,_=>False
  |_,_=>False
def Uh(C:eN)(j:Nat)(s k:M')(fo:Option M')(d:M')(V:Tm)(q:n_ gR)(x:o9)(σ:VS)(u:Hy->Tm->n_ gR->o9->VS->Prop):Prop:=
 match s.dst,k.dst,d.dst,k.op,d.op,V7 s.op with
 |some h,u',u',.store t1 g v,.store t2 D l,A'=>match aiI h j with
  |true=>Sb C j h fo V σ λt0 a=>HS C (RT t0) s.op σ λt=>
   ed (RT ((h,t)::t0) g) λz=>ed (RT ((h,t)::t0) v) λf=>ed (RT a D) λr=>ed (RT a l) λe=>
   match z,r with
   |.ptr n o b f1,.bp c f2=>l3 (uI C t2 (.bp c f2) e σ λm=>uI C t1 (.ptr n o b f1) f m λ_=>True)
     (uI C t1 (.ptr n o b f1) f σ λi=>uI C t2 (.bp c f2) e i λp=>u .norm ((h,t)::a) q x p)
   |_,_=>False
  |false=>False
 |_,_,_,_,_,_=>False
noncomputable def MF(C:eN)(cU:r3)(e:x9)(a:Array M')(n:Bool)(d:Tm)(b:n_ gR)(c:o9)(σ:VS)(o:Hy->Tm->n_ gR->o9->VS->Prop):Prop:=
 match n with
 |false=>EX C cU e a.toList a.toList d b c σ o
 |true=>match vM a.toList with
  |⟨k,m,f⟩=>A0 C cU e a.toList k f 0 [] d b c σ λx d b c σ=>match x with
   |.norm=>(match aiz m (j' a.toList) with
    |true=>o .norm d b c σ
    |false=>match a.toList.drop m,nth k (m+1)with
     |[p,j,i],q' h=>(match O7 h m with
      |true=>Uh C e.nt p j u' i d b c σ o
      |false=>False)
     |[p,j,r,i],q' h=>(match O7 h m,nth k (m+3)with
      |true,q' q=>(match O7 q (m+2)with
       |true=>Uh C e.nt p j (q' r) i d b c σ o
       |false=>False)
      |_,_=>False)
     |_,_=>False)
   |x=>o x d b c σ
def Za:Option T'->Option Hy
 |none=>q' .norm
 |some .ret=>q' .ret
 |some (.exit id)=>q' (.exit id)
 |_=>u'
def MG(C:eN)(cU:r3)(k:D')(first c:n_ V)(b:Nat)(f:Tm)(e:n_ gR)(h:o9)(σ:VS)(j:Hy->Tm->n_ gR->o9->VS->Prop):Prop:=
 match C.ff.get k with
 |none=>False
 |some _=>b7 C cU k (first++[.wA b]++c) σ λm a=>match m with
  |.ret _=>(match nth a b with
   |some (.loop i)=>(match i.state with
    |.busy=>False
    |_=>ed (Za i.pending) λn=>Ej a b (.loop {i with state:=.exhausted}) λd=>j n f e h d)
   |_=>False)
  |.fJ o=>j (.panic o) f e h a
def cutAt(a:x9):T'->Bool
 |.region id _ _=>a.fz (1000000+id)
 |.seq b _=>cutAt a b
 |.block _ b=>cutAt a b
 |_=>B'
def Zb(d:Bool)(e h i:VK):VK:=λc a b σ f=>e c a b σ λx c a b σ=>match x with
  |.norm=>(match d with
   |true=>i c a b σ f
   |false=>h c a b σ f)
  |x=>f x c a b σ
def Sc(c:H')(e f:VK):VK:=λa b d σ h=>match RT a c with
  |some (.d (.bool i))=>kE (e a b d σ h) (f a b d σ h) i
  |_=>False
def ab4(id:Nat)(f:VK):VK:=λc a b σ e=>f c a b σ λx c a b σ=>match x with
  |.exit d=>(match aiz d id with
   |true=>e .norm c a b σ
   |false=>e (.exit d) c a b σ)
  |x=>e x c a b σ
def MH(C:eN)(cU:r3)(c:x9)(s:H')(b:Array Tmp)(a d:T'):VK:=λe i m σ o=>match RT e s with
  |some (.fn q first f)=>(match c.round with
   |some t=>(match nth σ t with
    |some (.loop r)=>FV σ (.loop ⟨.ready,u',c.fn,e,c.nt,b.toList,a,d,r.defers,c.fz⟩) λh k=>MG C cU q first f h e i m k o
    |_=>False)
   |none=>FV σ (.fP B') λp j=>FV j (.loop ⟨.ready,u',c.fn,e,c.nt,b.toList,a,d,p,c.fz⟩) λh n=>MG C cU q first f h e (⟨.Ml p,[]⟩::i) m n o)
  |_=>False
noncomputable def vc(C:eN)(cU:r3)(h:x9)(c:T'):VK:=
 Code.rec (motive:=λ_=>VK)
  (λe a d σ j=>j .norm e a d σ)
  (λ_ p o e a d σ j=>MF C cU h p o e a d σ j)
  (λ_ b k n=>Zb (cutAt h b) k n (ck C cU h b))
  (λc _ _ k n=>Sc c k n)
  (λid _ s=>ab4 id s)
  (λb _ e a d σ j=>ck C cU h (.loop b) e a d σ j)
  (λr i f m _ _=>MH C cU h r i f m)
  (λid e a d σ j=>j (.exit id) e a d σ)
  (λ_ _ _ _ _ _ _=>False)
  (λ_ _ _ _ _ _=>False)
  (λ_ _ _ _ _ _=>False)
  (λe a d σ j=>j .ret e a d σ)
  (λ_ _ _ _ _ _=>False)
  c
def aeJ(C:eN)(cU:r3)(a:x9)(c b:T'):vc C cU a (.seq c b)=Zb (cutAt a b) (vc C cU a c) (vc C cU a b) (ck C cU a b):=rfl
def ab5(C:eN)(cU:r3)(a:x9)(c:H')(d b:T'):vc C cU a (.cond c d b)=Sc c (vc C cU a d) (vc C cU a b):=rfl
def Zc(C:eN)(cU:r3)(d:x9)(e:H')(b:Array Tmp)(a c:T'):vc C cU d (.rangeFunc e b a c)=MH C cU d e b a c:=rfl
inductive tQ where
 |returning
 |panicking (v:V)
def VO:tQ->o9
 |.returning=>.none
 |.panicking a=>.hD a
def q7:tQ->o9->tQ
 |.returning,_=>.returning
 |.panicking _,.tC=>.returning
 |.panicking a,_=>.panicking a
def uP(C:eN)(cU:r3):n_ gR->tQ->VS->(tQ->VS->Prop)->Prop
 |[],m,σ,d=>d m σ
 |⟨.Ml e,_⟩::c,m,σ,d=>match nth σ e with
  |some (.fP B')=>Ej σ e (.fP A') λσ=>uP C cU c m σ d
  |_=>False
 |⟨.fn h b,a⟩::c,m,σ,d=>match C.ff.get h with
  |some _=>CW C cU h (a++b) (VO m) σ λe f σ=>match e with
   |.ret _=>uP C cU c (q7 m f) σ d
   |.fJ _=>False
  |none=>False
def A1(C:eN)(a:Tm)(σ:VS):n_ ResultVar->(n_ V->Prop)->Prop
 |[],c=>c []
 |.tmp d::f,c=>ed (gE a d) λe=>A1 C a σ f λb=>c (e::b)
 |.cell h d::f,c=>ed (gE a h) λi=>T8 C d i σ λe=>A1 C a σ f λb=>c (e::b)
def ry:n_ V->V
 |[b]=>b
 |a=>.dP a
def ye(C:eN)(cU:r3)(a:n_ ResultVar)(m:tQ)(c:Tm)(b:n_ gR)(σ:VS)(e:dt->VS->Prop):Prop:=
 uP C cU b m σ λm σ=>match m with
  |.panicking f=>e (.fJ f) σ
  |.returning=>A1 C c σ a λd=>e (.ret (ry d)) σ
def uQ:Nat->n_ V->Tm
 |_,[]=>[]
 |i,b::a=>(i,b)::uQ (i+1) a
noncomputable def F9(C:eN)(cU:r3)(i:Nat->Bool)(k:D')(c:n_ V)(h:Bool)(b:o9)(σ:VS)(j:dt->o9->VS->Prop):Prop:=
 match C.ff.get k with
 |none=>False
 |some a=>match aiF (j' c) a.nt with
  |false=>False
  |true=>vc C cU ⟨k,a.nt,u',h,i,j' σ⟩ a.body (uQ 0 c) [] b σ λm d e b σ=>match m with
   |.norm=>ye C cU a.B1 .returning d e σ λf σ=>j f b σ
   |.ret=>ye C cU a.B1 .returning d e σ λf σ=>j f b σ
   |.panic n=>ye C cU a.B1 (.panicking n) d e σ λf σ=>j f b σ
   |.exit _=>False
def uR:n_ Tmp->n_ V->Nat->Tm->(Tm->Prop)->Prop
 |[],[],_,a,e=>e a
 |t::d,f::c,b,a,e=>match aiI t b with
  |true=>uR d c b ((t,f)::a) e
  |false=>False
 |_,_,_,_,_=>False
def tR(c:Nat)(b:Bool)(st:LoopState)(pending:Option T')(a:n_ gR)(σ:VS)(e:dt->VS->Prop):Prop:=
 match a,nth σ c with
 |[],q' (.loop d)=>Ej σ c (.loop {d with state:=st,pending:=pending}) λσ=>e (.ret (.d (.bool b))) σ
 |_,_=>False
noncomputable def Ui(C:eN)(cU:r3)(h c:Nat)(e:n_ V)(σ:VS)(i:dt->VS->Prop):Prop:=
 match nth σ c with
 |some (.loop b)=>match C.ff.get b.fn with
  |none=>False
  |some _=>uR b.params e b.nt b.tm λd=>
   vc C cU ⟨b.fn,b.nt,q' c,B',b.fz,h⟩ b.assign d [] .none σ λj d a _ σ=>match j with
    |.norm=>(match nth σ c with
     |some (.loop f)=>(match f.state with
      |.ready=>Ej σ c (.loop {f with state:=.busy}) λσ=>
        vc C cU ⟨b.fn,b.nt,q' c,B',b.fz,h⟩ b.body d a .none σ λj _ a _ σ=>match j with
         |.norm=>tR c A' .ready u' a σ i
         |.ret=>tR c B' .done (q' .ret) a σ i
         |.exit id=>tR c B' .done (q' (.exit id)) a σ i
         |.panic k=>(match a with
          |[]=>i (.fJ k) σ
          |_=>False)
      |_=>False)
     |_=>False)
    |_=>False
 |_=>False
noncomputable def Zd(C:eN)(cU:r3)(b:Nat)(a:n_ V)(σ:VS)(c:dt->VS->Prop):Prop:=Ui C cU (j' σ) b a σ c
end Go.VM
