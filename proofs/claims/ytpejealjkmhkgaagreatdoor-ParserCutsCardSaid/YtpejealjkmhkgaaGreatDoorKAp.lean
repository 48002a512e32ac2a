/- Part of the proof. -/
import Derived.Test.YtpejealjkmhkgaaGreatDoorKAo
set_option linter.all false
set_option maxHeartbeats 16000000
set_option maxRecDepth 100000
open Nat renaming beq_refl->YL,lt_of_lt_of_le->YN,beq->YP
open Bool renaming and_self->YM
open Option renaming map_none->YO
namespace Go.VM
open Go.AM
abbrev Tm:=List (Nat×V)
def eu(ρ:Nat->Nat):dC->CR
 |.ret b=>.ret (erase ρ b)
 |.eE b=>.eE (erase ρ b)
def An(Φ:Fz)(m:Nat):dC->Prop
 |.ret b=>eV Φ m b
 |.eE b=>eV Φ m b
def c4(ρ:Nat->Nat):lm->ec
 |.none=>.none
 |.fu b=>.fu (erase ρ b)
 |.pG=>.pG
def yT(Φ:Fz)(m:Nat):lm->Prop
 |.none=>True
 |.fu b=>eV Φ m b
 |.pG=>True
def eh(ρ:Nat->Nat):zk->Ex
 |.norm=>.norm
 |.exit id=>.exit id
 |.ret=>.ret
 |.panic b=>.panic (erase ρ b)
def Mj(Φ:Fz)(m:Nat):zk->Prop
 |.panic b=>eV Φ m b
 |_=>True
def ea(ρ:Nat->Nat)(b:s7):FC:=⟨b.fn,b.nt,b.round.map ρ,b.BA⟩
def uW(m:Nat)(b:s7):Prop:=(∀c,b.round=some c->c<b.fl)/\b.fl<=m
structure b1 (C:dU) (cD:FuncId->List Value->Option Value) (f:FuncId) (args:List V) (σ:VS) (K:dC->VS->Prop):Prop where
 go:∀Φ ρ st,Real Φ ρ σ st->eP Φ σ.length args->∃n r ps' dI dx dm qv,(iS C cD n).call f (cm ρ args) false .none st=some (eu dm r,ps',dI)/\
  hU Φ ρ σ.length dx dm qv.length/\Real dx dm qv dI/\An dx qv.length r/\K r qv
structure my (C:dU) (cD:FuncId->List Value->Option Value) (f:FuncId) (args:List V) (ps:lm) (σ:VS) (K:dC->lm->VS->Prop):Prop where
 go:∀Φ ρ st,Real Φ ρ σ st->eP Φ σ.length args->yT Φ σ.length ps->∃n r ps' dI dx dm qv,(iS C cD n).call f (cm ρ args) true (c4 ρ ps) st=some (eu dm r,c4 dm ps',dI)/\
  hU Φ ρ σ.length dx dm qv.length/\Real dx dm qv dI/\An dx qv.length r/\yT dx qv.length ps'/\K r ps' qv
structure gT (C:dU) (cD:FuncId->List Value->Option Value) (l:Nat) (args:List V) (σ:VS) (K:dC->VS->Prop):Prop where
 go:∀Φ ρ st,Real Φ ρ σ st->eP Φ σ.length args->l<σ.length->∃n r dI dx dm qv,(iS C cD n).round (ρ l) (cm ρ args) st=some (eu dm r,dI)/\
  hU Φ ρ σ.length dx dm qv.length/\Real dx dm qv dI/\An dx qv.length r/\K r qv
structure cl (C:dU) (cD:FuncId->List Value->Option Value) (fc:s7) (c:Code) (tm:Tm) (df:List e8) (ps:lm) (σ:VS) (Q:zk->Tm->List e8->lm->VS->Prop):Prop where
 go:∀Φ ρ st fr,Real Φ ρ σ st->gD Φ ρ σ.length tm fr.tm->Ae Φ ρ σ.length df fr.df->yT Φ σ.length ps->uW σ.length fc->
  ∃n x fr' XY XZ ps' dI dx dm qv,code C (iS C cD n) (ea ρ fc) c fr (c4 ρ ps) st=some (eh dm x,fr',c4 dm ps',dI)/\
   hU Φ ρ fc.fl dx dm qv.length/\Real dx dm qv dI/\gD dx dm qv.length XY fr'.tm/\Ae dx dm qv.length XZ fr'.df/\yT dx qv.length ps'/\Mj dx qv.length x/\Q x XY XZ ps' qv
inductive WJ where
 |next (tm:Tm) (df:List e8) (ps:lm) (σ:VS)
 |eE (v:V) (tm:Tm) (df:List e8) (ps:lm) (σ:VS)
def KM(f:Nat)(c:Tm)(b:Option Tmp)(m:V)(l:Tm->Prop):Prop:=
 match b with
 |none=>l c
 |some i=>match Nat.blt i f with
  |true=>l ((i,m)::c)
  |false=>False
def W1(c:s7)(b:Option Tmp):Bool:=
 match b with
 |some f=>c.fz f
 |none=>false
def IV(C:dU)(cD:FuncId->List Value->Option Value)(f:s7)(o:Oper)(b:Tm)(i:List e8)(l:lm)(σ:VS)(t:WJ->Prop):Prop:=
 WZ C (W1 f o.dst) (CB b) o.op σ fun x=>match x with
  |.val n c=>KM f.nt b o.dst n fun b=>t (.next b i l c)
  |.eE n=>t (.eE n b i l σ)
  |.enter E m=>b1 C cD E m σ fun x c=>match x with
   |.ret n=>KM f.nt b o.dst n fun b=>t (.next b i l c)
   |.eE n=>t (.eE n b i l c)
  |.yield F m=>gT C cD F m σ fun x c=>match x with
   |.ret n=>KM f.nt b o.dst n fun b=>t (.next b i l c)
   |.eE n=>t (.eE n b i l c)
  |.recover=>match f.round with
   |some _=>False
   |none=>match f.BA,l with
    |true,.fu n=>KM f.nt b o.dst n fun b=>t (.next b i .pG σ)
    |_,_=>KM f.nt b o.dst (.d .vO) fun b=>t (.next b i l σ)
  |.defer D=>match f.round with
   |some _=>False
   |none=>KM f.nt b o.dst (.dV []) fun b=>t (.next b (D::i) l σ)
def yp(i:List Oper)(l:Tm)(o:Oper)(f b:Prop):Prop:=
 match o.guard with
 |none=>f
 |some (x,c)=>match nth i x with
  |none=>False
  |some m=>match m.dst with
   |none=>False
   |some t=>match fb l t with
    |some (.d (.bool n))=>(match c with
     |true=>hz f b n
     |false=>hz b f n)
    |some (.dV _)=>b
    |_=>False
def zn(C:dU)(cD:FuncId->List Value->Option Value)(l:s7)(i:List Oper)(o:Oper)(b:Tm)(c:List e8)(f:lm)(σ:VS)(m:WJ->Prop):Prop:=
 yp i b o (IV C cD l o b c f σ m) (KM l.nt b o.dst (.dV []) fun b=>m (.next b c f σ))
abbrev VQ:=zk->Tm->List e8->lm->VS->Prop
abbrev VK:=Tm->List e8->lm->VS->VQ->Prop
def Ao(C:dU)(cD:FuncId->List Value->Option Value)(l:s7)(i:List Oper)(o:Oper)(t:VK):VK:=
 fun f b c σ m=>zn C cD l i o f b c σ fun n=>match n with
  |.next f b c σ=>t f b c σ m
  |.eE x f b c σ=>m (.panic x) f b c σ
noncomputable def zo(C:dU)(cD:FuncId->List Value->Option Value)(o:s7)(b:List Oper)(l:List Oper):VK:=
 List.rec (motive:=fun _=>VK) (fun m f i σ t=>t .norm m f i σ) (fun x _ n=>Ao C cD o b x n) l
theorem Ec(C:dU)(cD:FuncId->List Value->Option Value)(c:s7)(b:List Oper)(o:Oper)(l:List Oper):zo C cD c b (o::l)=Ao C cD c b o (zo C cD c b l):=rfl
inductive kZ where
 |val (i:Nat) (v:V)
 |obj (i:Nat) (v:V) (ob:cL) (j:Option Nat)
 |skip (i:Nat)
 |fresh (i:Nat) (v:V) (ob:cL) (j:Nat)
 |never (i:Nat)
def kZ.idx:kZ->Nat
 |.val b _=>b
 |.obj b _ _ _=>b
 |.skip b=>b
 |.fresh b _ _ _=>b
 |.never b=>b
def Ed:kZ->kZ
 |.fresh b _ _ _=>.never b
 |c=>c
noncomputable def vW(l:List kZ):List kZ:=List.rec (motive:=fun _=>List kZ) [] (fun f _ c=>Ed f::c) l
theorem BX(c:kZ)(l:List kZ):vW (c::l)=Ed c::vW l:=rfl
def Mk(c:Tm)(b:Option Tmp)(i:V):Prop:=
 match b with
 |none=>True
 |some f=>fb c f=some i
def tj(C:dU)(b:List Oper)(c:Tm)(σ:VS):kZ->Prop
 |.val l m=>match nth b l with
  |some f=>yp b c f (Mk c f.dst m/\Ad C (CB c) f.op σ fun o=>o=m) False
  |none=>False
 |.obj l m i n=>match nth b l with
  |some f=>yp b c f (Mk c f.dst m/\CC C (CB c) f.op=some i/\(match n with|some n=>nth σ n=some i|none=>True)) False
  |none=>False
 |.skip l=>match nth b l with
  |some f=>yp b c f False (Mk c f.dst (.dV []))
  |none=>False
 |.fresh l m i n=>match nth b l with
  |some f=>yp b c f (Mk c f.dst m/\CC C (CB c) f.op=some i/\nth σ n=some i) False
  |none=>False
 |.never _=>False
def Gm:Nat->Nat->Bool
 |b,0=>YP (b%2) 1
 |b,c+1=>Gm (b/2) c
theorem Ee:∀(b c:Nat),Gm c b=Nat.testBit c b:=by
 intro b;induction b with
 |zero=>
  intro c;simp only[Gm,Nat.testBit_zero];rw[Bool.eq_iff_iff,Nat.beq_eq,decide_eq_true_eq]
 |succ b f=>intro c;rw[Gm,f,Nat.testBit_succ]
def pT(C:dU)(f:List Oper)(i:Tm)(σ:VS)(b:Nat):List kZ->Prop
 |[]=>True
 |c::l=>match Gm b c.idx with
  |true=>pT C f i σ b l
  |false=>tj C f i σ c/\pT C f i σ b l
def pU(b:Nat):Tm->Tm
 |[]=>[]
 |(f,i)::c=>match YP f b with
  |true=>pU b c
  |false=>(f,i)::pU b c
def lM:List Oper->Tm->Tm
 |[],b=>b
 |o::c,b=>match o.dst with
  |some f=>match fM o.op with
   |true=>lM c b
   |false=>lM c (pU f b)
  |none=>lM c b
def vX:Op->Bool
 |.buildSlice _ 0 _=>true
 |_=>false
def W2(c:s7)(b:Option Tmp):Bool:=
 match b with
 |some f=>c.fz (2000000+f)
 |none=>false
def IW(C:dU)(E:Bool)(t:Operand->Option V)(c:Op)(D:Nat)(σ:VS)(x:V->kZ->VS->Prop):Prop:=
 match CC C t c with
 |some b=>match vX c||(E&&lI c)with
  |true=>z6 σ b fun n f=>dn (T7 c b n) fun m=>x m (.fresh D m b n) f
  |false=>match lI c with
   |true=>match b with
    |.row l i=>match oK i with
     |some o=>∀F:Nat,x (.d (.ps F 0 l o.length o)) (.obj D (.d (.ps F 0 l o.length o)) (.row l i) none) σ
     |none=>False
    |_=>False
   |false=>z6 σ b fun n f=>dn (T7 c b n) fun m=>x m (.obj D m b (some n)) f
 |none=>False
noncomputable def xC(C:dU)(cD:FuncId->List Value->Option Value)(m:s7)(l:List Oper)(H:List Nat)(x:Nat)(E:Nat->List kZ->VK):Nat->List kZ->VK:=
 fun F c b f i σ t=>
  match nth l x,nth H x with
  |some n,some G=>
   match fM n.op with
   |true=>iY (pT C l b σ F c) (zn C cD m l n b f i σ fun I=>match I with
     |.eE o b f i σ=>t (.panic o) (lM l b) f i σ
     |.next b f i σ=>E G (vW c) b f i σ t)
   |false=>yp l b n
     (match ft n.op with
     |true=>IW C (W2 m n.dst) (CB b) n.op x σ fun o J D=>KM m.nt b n.dst o fun b=>E F (J::c) b f i D t
     |false=>Ad C (CB b) n.op σ fun o=>KM m.nt b n.dst o fun b=>E F (.val x o::c) b f i σ t)
     (KM m.nt b n.dst (.dV []) fun b=>E F (.skip x::c) b f i σ t)
  |_,_=>False
noncomputable def vY(C:dU)(cD:FuncId->List Value->Option Value)(t:s7)(b:List Oper)(x:List Nat)(l:List Nat):Nat->List kZ->VK:=
 List.rec (motive:=fun _=>Nat->List kZ->VK) (fun E c f m n σ D=>iY (pT C b f σ E c) (D .norm f m n σ)) (fun F _ o=>xC C cD t b x F o) l
theorem BY(C:dU)(cD:FuncId->List Value->Option Value)(f:s7)(b:List Oper)(c:List Nat)(i:Nat)(l:List Nat):vY C cD f b c (i::l)=xC C cD f b c i (vY C cD f b c l):=rfl
def CJ:Op->Bool
 |.indexAddr _ _ _=>true
 |_=>false
def IX(C:dU)(N:Nat)(I t l:Oper)(c:Tm)(G:List e8)(K:lm)(σ:VS)(R:zk->Tm->List e8->lm->VS->Prop):Prop:=
 match I.dst,t.dst,l.dst,t.op,l.op,CJ I.op with
 |some L,none,none,.store t1 P J,.store t2 O Q,true=>
  Ad C (CB c) I.op σ fun S=>KM N c (some L) S fun b=>
   dn (CB b P) fun M=>dn (CB b J) fun n=>dn (CB (pU L c) O) fun H=>dn (CB (pU L c) Q) fun m=>
   match M,H with
   |.ptr D E f f1,.bp i f2=>iY (kt C t2 (.bp i f2) m σ fun x=>kt C t1 (.ptr D E f f1) n x fun _=>True)
     (kt C t1 (.ptr D E f f1) n σ fun o=>kt C t2 (.bp i f2) m o fun F=>R .norm b G K F)
   |_,_=>False
 |_,_,_,_,_,_=>False
def IY(C:dU)(E:Nat)(M F f o:Oper)(b:Tm)(K:List e8)(P:lm)(σ:VS)(U:zk->Tm->List e8->lm->VS->Prop):Prop:=
 match M.dst,F.dst,f.dst,o.dst with
 |some c,none,some i,none=>match F.op,f.op,o.op,CJ M.op with
  |.store t1 S O,.fieldAddr W V X,.store t2 R T,true=>match YP c i,Nat.blt c E,Nat.blt i E with
   |false,true,true=>
    Ad C (CB (pU i b)) M.op σ fun N=>Ad C (CB (pU c b)) f.op σ fun l=>
     dn (CB ((c,N)::pU i b) S) fun Q=>dn (CB ((c,N)::pU i b) O) fun x=>dn (CB ((i,l)::pU c b) R) fun L=>dn (CB ((i,l)::pU c b) T) fun t=>
     match Q,L with
     |.ptr H I m f1,.bp n f2=>iY (kt C t2 (.bp n f2) t σ fun G=>kt C t1 (.ptr H I m f1) x G fun _=>True)
       (kt C t1 (.ptr H I m f1) x σ fun D=>kt C t2 (.bp n f2) t D fun J=>U .norm ((i,l)::(c,N)::b) K P J)
     |_,_=>False
   |_,_,_=>False
  |_,_,_,_=>False
 |_,_,_,_=>False
noncomputable def Ef(C:dU)(cD:FuncId->List Value->Option Value)(l:s7)(b:Array Oper)(F:Bool)(i:Tm)(c:List e8)(f:lm)(σ:VS)(G:zk->Tm->List e8->lm->VS->Prop):Prop:=
 match F with
 |false=>zo C cD l b.toList b.toList i c f σ G
 |true=>match pK b.toList with
  |⟨E,m,n⟩=>vY C cD l b.toList E n 0 [] i c f σ fun x i c f σ=>match x with
   |.norm=>(match YP m b.toList.length with
    |true=>G .norm i c f σ
    |false=>match b.toList.drop m,nth E (m+1)with
     |[H,D,t],some o=>(match Gm o m with
      |true=>IX C l.nt H D t i c f σ G
      |false=>False)
     |[H,D,J,t],some o=>(match Gm o m,nth E (m+3)with
      |true,some I=>(match Gm I (m+2)with
       |true=>IY C l.nt H D J t i c f σ G
       |false=>False)
      |_,_=>False)
     |_,_=>False)
   |x=>G x i c f σ
def OU:Option Code->Option zk
 |none=>some .norm
 |some .ret=>some .ret
 |some (.exit id)=>some (.exit id)
 |_=>none
def Eg(C:dU)(cD:FuncId->List Value->Option Value)(x:FuncId)(first f:List V)(c:Nat)(m:Tm)(l:List e8)(n:lm)(σ:VS)(t:zk->Tm->List e8->lm->VS->Prop):Prop:=
 match C.ff.get x with
 |none=>False
 |some _=>b1 C cD x (first++[.rN c]++f) σ fun D b=>match D with
  |.ret _=>(match nth b c with
   |some (.loop o)=>(match o.state with
    |.busy=>False
    |_=>dn (OU o.pending) fun E=>yR b c (.loop {o with state:=.exhausted}) fun i=>t E m l n i)
   |_=>False)
  |.eE F=>t (.panic F) m l n b
def cutAt(b:s7):Code->Bool
 |.region id _ _=>b.fz (1000000+id)
 |.seq c _=>cutAt b c
 |_=>false
def OV(i:Bool)(l n o:VK):VK:=fun f b c σ m=>l f b c σ fun x f b c σ=>match x with
  |.norm=>(match i with
   |true=>o f b c σ m
   |false=>n f b c σ m)
  |x=>m x f b c σ
def IZ(c:Operand)(l m:VK):VK:=fun b f i σ n=>match CB b c with
  |some (.d (.bool o))=>hz (l b f i σ n) (m b f i σ n) o
  |_=>False
def RJ(id:Nat)(m:VK):VK:=fun f b c σ l=>m f b c σ fun x f b c σ=>match x with
  |.exit i=>(match YP i id with
   |true=>l .norm f b c σ
   |false=>l (.exit i) f b c σ)
  |x=>l x f b c σ
def Eh(C:dU)(cD:FuncId->List Value->Option Value)(i:s7)(f:Operand)(c:Array Tmp)(b l:Code):VK:=fun m t E σ G=>match CB m f with
  |some (.fn I first n)=>(match i.round with
   |some K=>(match nth σ K with
    |some (.loop J)=>z6 σ (.loop ⟨.ready,none,i.fn,m,i.nt,c.toList,b,l,J.defers,i.fz⟩) fun o D=>Eg C cD I first n o m t E D G
    |_=>False)
   |none=>z6 σ (.eG false) fun H x=>z6 x (.loop ⟨.ready,none,i.fn,m,i.nt,c.toList,b,l,H,i.fz⟩) fun o F=>Eg C cD I first n o m (⟨.DT H,[]⟩::t) E F G)
  |_=>False
noncomputable def vc(C:dU)(cD:FuncId->List Value->Option Value)(m:s7)(c:Code):VK:=
 Code.rec (motive:=fun _=>VK)
  (fun i b f σ o=>o .norm i b f σ)
  (fun _ F E i b f σ o=>Ef C cD m F E i b f σ o)
  (fun _ H t D=>OV (cutAt m H) t D (cl C cD m H))
  (fun c _ _ t D=>IZ c t D)
  (fun id _ J=>RJ id J)
  (fun H _ i b f σ o=>cl C cD m (.loop H) i b f σ o)
  (fun I n l x _ _=>Eh C cD m I n l x)
  (fun id i b f σ o=>o (.exit id) i b f σ)
  (fun _ _ _ _ _ _ _=>False)
  (fun _ _ _ _ _ _=>False)
  (fun _ _ _ _ _ _=>False)
  (fun i b f σ o=>o .ret i b f σ)
  (fun _ _ _ _ _ _=>False)
  c
theorem Ud(C:dU)(cD:FuncId->List Value->Option Value)(c:s7)(f b:Code):vc C cD c (.seq f b)=OV (cutAt c b) (vc C cD c f) (vc C cD c b) (cl C cD c b):=rfl
theorem RL(C:dU)(cD:FuncId->List Value->Option Value)(f:s7)(c:Operand)(i b:Code):vc C cD f (.cond c i b)=IZ c (vc C cD f i) (vc C cD f b):=rfl
theorem OW(C:dU)(cD:FuncId->List Value->Option Value)(l:s7)(f:Operand)(c:Array Tmp)(b i:Code):vc C cD l (.rangeFunc f c b i)=Eh C cD l f c b i:=rfl
inductive ri where
 |returning
 |panicking (v:V)
def L5:ri->lm
 |.returning=>.none
 |.panicking b=>.fu b
def nw:ri->lm->ri
 |.returning,_=>.returning
 |.panicking _,.pG=>.returning
 |.panicking b,_=>.panicking b
def qw(C:dU)(cD:FuncId->List Value->Option Value):List e8->ri->VS->(ri->VS->Prop)->Prop
 |[],m,σ,i=>i m σ
 |⟨.DT l,_⟩::f,m,σ,i=>match nth σ l with
  |some (.eG false)=>yR σ l (.eG true) fun σ=>qw C cD f m σ i
  |_=>False
 |⟨.fn o c,b⟩::f,m,σ,i=>match C.ff.get o with
  |some _=>my C cD o (b++c) (L5 m) σ fun l n σ=>match l with
   |.ret _=>qw C cD f (nw m n) σ i
   |.eE _=>False
  |none=>False
def vZ(C:dU)(b:Tm)(σ:VS):List ResultVar->(List V->Prop)->Prop
 |[],f=>f []
 |.tmp i::m,f=>dn (fb b i) fun l=>vZ C b σ m fun c=>f (l::c)
 |.cell n i::m,f=>dn (fb b n) fun o=>KD C i o σ fun l=>vZ C b σ m fun c=>f (l::c)
def nT:List V->V
 |[c]=>c
 |b=>.dV b
def tl(C:dU)(cD:FuncId->List Value->Option Value)(b:List ResultVar)(m:ri)(f:Tm)(c:List e8)(σ:VS)(l:dC->VS->Prop):Prop:=
 qw C cD c m σ fun m σ=>match m with
  |.panicking n=>l (.eE n) σ
  |.returning=>vZ C f σ b fun i=>l (.ret (nT i)) σ
def qx:Nat->List V->Tm
 |_,[]=>[]
 |i,c::b=>(i,c)::qx (i+1) b
noncomputable def Ap(C:dU)(cD:FuncId->List Value->Option Value)(t:Nat->Bool)(f:FuncId)(i:List V)(o:Bool)(c:lm)(σ:VS)(x:dC->lm->VS->Prop):Prop:=
 match C.ff.get f with
 |none=>False
 |some b=>match Nat.ble i.length b.nt with
  |false=>False
  |true=>vc C cD ⟨f,b.nt,none,o,t,σ.length⟩ b.body (qx 0 i) [] c σ fun D l m c σ=>match D with
   |.norm=>tl C cD b.Ro .returning l m σ fun n σ=>x n c σ
   |.ret=>tl C cD b.Ro .returning l m σ fun n σ=>x n c σ
   |.panic E=>tl C cD b.Ro (.panicking E) l m σ fun n σ=>x n c σ
   |.exit _=>False
def qy:List Tmp->List V->Nat->Tm->(Tm->Prop)->Prop
 |[],[],_,b,l=>l b
 |t::i,m::f,c,b,l=>match Nat.blt t c with
  |true=>qy i f c ((t,m)::b) l
  |false=>False
 |_,_,_,_,_=>False
def pV(l:Nat)(b:Bool)(st:LoopState)(pending:Option Code)(c:List e8)(σ:VS)(i:dC->VS->Prop):Prop:=
 match c,nth σ l with
 |[],some (.loop f)=>yR σ l (.loop {f with state:=st,pending:=pending}) fun σ=>i (.ret (.d (.bool b))) σ
 |_,_=>False
noncomputable def KN(C:dU)(cD:FuncId->List Value->Option Value)(n l:Nat)(i:List V)(σ:VS)(o:dC->VS->Prop):Prop:=
 match nth σ l with
 |some (.loop c)=>match C.ff.get c.fn with
  |none=>False
  |some _=>qy c.params i c.nt c.tm fun f=>
   vc C cD ⟨c.fn,c.nt,some l,false,c.fz,n⟩ c.assign f [] .none σ fun t f b _ σ=>match t with
    |.norm=>(match nth σ l with
     |some (.loop m)=>(match m.state with
      |.ready=>yR σ l (.loop {m with state:=.busy}) fun σ=>
        vc C cD ⟨c.fn,c.nt,some l,false,c.fz,n⟩ c.body f b .none σ fun t _ b _ σ=>match t with
         |.norm=>pV l true .ready none b σ o
         |.ret=>pV l false .done (some .ret) b σ o
         |.exit id=>pV l false .done (some (.exit id)) b σ o
         |.panic x=>(match b with
          |[]=>o (.eE x) σ
          |_=>False)
      |_=>False)
     |_=>False)
    |_=>False
 |_=>False
noncomputable def OX(C:dU)(cD:FuncId->List Value->Option Value)(l:Nat)(b:List V)(σ:VS)(c:dC->VS->Prop):Prop:=KN C cD σ.length l b σ c
variable{e:Option Tmp} {z:V} {B h:Nat} {A:Fz} {q:Nat->Nat} {p:s7} {s:lm} {g:Tm} {k:Fr} {j:List e8} {d:WJ->Prop} {a:List Oper}
section
variable{C:dU} {cD:FuncId->List Value->Option Value} {Φ dx:Fz} {ρ dm:Nat->Nat} {σ:VS} {st:St} {m m':Nat}
theorem jn(c t:Nat)(i:V)(b:Tm):fb ((c,i)::b) t=if t=c then some i else fb b t:=by
 simp only[fb,KJ];by_cases f:t=c
 ·subst f;simp
 ·rw[decide_eq_false (fun l=>f l.symm),if_neg f]
theorem gD.set{c:Tm}{t:Tr Value}(x:gD Φ ρ m c t){n:Nat}{i:V}(f:eV Φ m i):gD Φ ρ m ((n,i)::c) (t.set n (erase ρ i)):=by
 intro C o b;rw[jn]at b;rw[cw];split at b
 ·rename_i l;cases b;rw[if_pos l];exact⟨Z,f⟩
 ·rename_i l;rw[if_neg l];exact x C o b
theorem pW{tm:Tm}{o:Tm->Prop}(b:KM h tm e z o){fr:Fr}(i:gD Φ ρ m tm fr.tm)(l:eV Φ m z):
  ∃f c,o f/\gI h fr e (erase ρ z)=some c/\gD Φ ρ m f c.tm/\c.df=fr.df:=by
 unfold KM at b;split at b
 ·exact⟨tm,fr,b,Z,i,Z⟩
 ·rename_i t;split at b
  ·rename_i n;exact⟨_,{fr with tm:=fr.tm.set t (erase ρ z)},b,by simp only[gI,n],i.set l,rfl⟩
  ·exact b.elim
theorem hU.ps(f:hU Φ ρ m dx dm m'){b:lm}(c:yT Φ m b):c4 dm b=c4 ρ b/\yT dx m' b:=by
 cases b with
 |none=>exact⟨rfl,tv⟩
 |fu i=>exact⟨by simp only[c4,f.erase c],f.ok c⟩
 |pG=>exact⟨rfl,tv⟩
theorem hU.weaken(c:hU Φ ρ m dx dm m')(b:h<=m):hU Φ ρ h dx dm m':=⟨c.le,fun i f=>c.rG i (YN f b),Nat.le_trans b c.len⟩
theorem hU.then(i:hU Φ ρ m dx dm m')(f:hU dx dm h A q B)(b:m<=h):hU Φ ρ m A q B:=
 ⟨i.le.trans f.le,fun l c=>(f.rG l (YN c b)).trans (i.rG l c),Nat.le_trans b f.len⟩
theorem hU.I0(f:hU Φ ρ p.fl dx dm m')(b:uW m p):ea dm p=ea ρ p/\uW m' p:=by
 refine⟨?_,b.1,f.len⟩;unfold ea;cases c:p.round with
 |none=>rfl
 |some i=>simp only[Option.map_some];rw[f.rG i (b.1 i c)]
theorem hU.fc(f:hU Φ ρ m dx dm m'){b:s7}(c:uW m b):ea dm b=ea ρ b/\uW m' b:=(f.weaken c.2).I0 c
structure SR (Φ:Fz) (ρ:Nat->Nat) (σ:VS) (st:St) (tm:Tm) (df:List e8) (ps:lm) (fr:Fr):Prop where
 real:Real Φ ρ σ st
 tm:gD Φ ρ σ.length tm fr.tm
 df:Ae Φ ρ σ.length df fr.df
 ps:yT Φ σ.length ps
inductive W4 (Φ:Fz) (ρ:Nat->Nat) (m:Nat) (K:WJ->Prop) (r:yb):Prop
 |next (dx:Fz) (dm:Nat->Nat) (qv:VS) (dI:St) (tm:Tm) (df:List e8) (ps:lm) (fr:Fr) (hk:K (.next tm df ps qv)) (hs:hU Φ ρ m dx dm qv.length) (h:SR dx dm qv dI tm df ps fr)
   (hr:r=.next fr (c4 dm ps) dI)
 |eE (v:V) (dx:Fz) (dm:Nat->Nat) (qv:VS) (dI:St) (tm:Tm) (df:List e8) (ps:lm) (fr:Fr) (hk:K (.eE v tm df ps qv)) (hs:hU Φ ρ m dx dm qv.length) (h:SR dx dm qv dI tm df ps fr) (hv:eV dx qv.length v)
   (hr:r=.eE (erase dm v) fr (c4 dm ps) dI)
theorem SR.move(i:SR Φ ρ σ st g j s k){b:VS}{c:St}(f:hU Φ ρ σ.length dx dm b.length)(l:Real dx dm b c):SR dx dm b c g j s k:=
 ⟨l,f.tm i.tm,f.df i.df,(f.ps i.ps).2⟩
theorem xD{m0:Nat}{TB:Fz}{TC:Nat->Nat}(t:hU TB TC m0 Φ ρ σ.length) 
  (l:KM p.nt g e z fun g=>d (.next g j s σ)) (f:SR Φ ρ σ st g j s k) (x:eV Φ σ.length z):∃C,yb.go p.nt k e (erase ρ z) (c4 ρ s) st=some C/\W4 TB TC m0 d C:=by
 obtain⟨b,c,n,i,o,m⟩:=pW l f.tm x;refine⟨_,by simp only[yb.go,i],.next Φ ρ σ st b j s c n t ⟨f.real,o,?_,f.ps⟩ rfl⟩;rw[m];exact f.df
theorem Ei{o:Oper}{df:List e8}(W:IV C cD p o g df s σ d)(l:SR Φ ρ σ st g df s k)(ab:uW σ.length p):
  ∃Q E,kS C (iS C cD Q) (ea ρ p) o k (c4 ρ s) st=some E/\W4 Φ ρ σ.length d E:=by
 unfold IV at W;have w:=Mh l.real (gz l.tm) W;cases w with
 |val S=>
  obtain⟨F,J,dx,dm,t,b,i,f,A,u⟩:=S;have x:=l.move i f;obtain⟨E,n,c⟩:=xD (TB:=Φ) (TC:=ρ) (m0:=σ.length) i b x A;refine⟨0,E,?_,c⟩;unfold kS;rw[u];simp only;rw[(i.ps l.ps).1]at n;exact n
 |eE F b i f=>
  refine⟨0,.eE (erase ρ F) k (c4 ρ s) st,?_,.eE F Φ ρ σ st g df s k b (.refl _ _ _) l i Z⟩;unfold kS;rw[f]
 |enter ac P b i f=>
  obtain⟨Q,E,B,t,dx,dm,J,n,c,R,M,K⟩:=b.go Φ ρ st l.real i;have x:=l.move c R;cases E with
  |ret F=>
   obtain⟨E,D,G⟩:=xD (TB:=Φ) (TC:=ρ) (m0:=σ.length) c K x M;refine⟨Q,E,?_,G⟩;unfold kS;rw[f];simp only[n,eu];rw[(c.ps l.ps).1]at D;exact D
  |eE F=>
   refine⟨Q,.eE (erase dm F) k (c4 dm s) t,?_,.eE F dx dm J t g df s k K c x M Z⟩;unfold kS;rw[f];simp only[n,eu,(c.ps l.ps).1]
 |yield ad P b y i f=>
  obtain⟨Q,E,t,dx,dm,J,n,c,R,M,K⟩:=b.go Φ ρ st l.real i y;have x:=l.move c R;cases E with
  |ret F=>
   obtain⟨E,D,G⟩:=xD (TB:=Φ) (TC:=ρ) (m0:=σ.length) c K x M;refine⟨Q,E,?_,G⟩;unfold kS;rw[f];simp only[n,eu];rw[(c.ps l.ps).1]at D;exact D
  |eE F=>
   refine⟨Q,.eE (erase dm F) k (c4 dm s) t,?_,.eE F dx dm J t g df s k K c x M Z⟩;unfold kS;rw[f];simp only[n,eu,(c.ps l.ps).1]
 |recover b f=>
  dsimp only at b;split at b
  ·exact b.elim
  ·rename_i O;split at b
   ·rename_i F h;have S:eV Φ σ.length F:=l.ps;have x:SR Φ ρ σ st g df .pG k:=⟨l.real,l.tm,l.df,tv⟩;obtain⟨E,D,G⟩:=xD (TB:=Φ) (TC:=ρ) (m0:=σ.length) (.refl _ _ _) b x S;refine⟨0,E,?_,G⟩;unfold kS;rw[f];simp only[ea,O,YO,h,c4];exact D
   ·rename_i T;obtain⟨E,D,G⟩:=xD (TB:=Φ) (TC:=ρ) (m0:=σ.length) (.refl _ _ _) b l (.d .vO);refine⟨0,E,?_,G⟩;unfold kS;rw[f];simp only[ea,O,YO];split
    ·rename_i F n c;exfalso;have:∀e:lm,c4 ρ e=.fu F->∃Y,e=.fu Y:=fun e X=>by
      cases e with
      |fu Y=>exact⟨Y,rfl⟩
      |none=>cases X
      |pG=>cases X
     obtain⟨Y,v⟩:=this _ c;exact T Y n v
    ·exact D
 |defer a b i f=>
  dsimp only at b;split at b
  ·exact b.elim
  ·rename_i O;obtain⟨U,L,r,j,z,q⟩:=pW (fr:={k with df:=iv ρ a::k.df}) b l.tm (th (Φ:=Φ) (m:=σ.length));have V:Ae Φ ρ σ.length (a::df) L.df:=by
    rw[q];refine⟨by simp only[List.map_cons];rw[l.df.1],fun aa hx=>?_⟩;rcases List.mem_cons.1 hx with rfl|hx
    ·exact i
    ·exact l.df.2 aa hx
   refine⟨0,_,?_,.next Φ ρ σ st U (a::df) s L r (.refl _ _ _) ⟨l.real,z,V,l.ps⟩ Z⟩;unfold kS;rw[f];simp only[ea,O,YO,yb.go];have:gI p.nt {k with df:=iv ρ a::k.df} o.dst kn=some L:=j;rw[this]
theorem lN{o:Oper}{C D:Prop}(b:yp a g o C D)(x:gD Φ ρ m g k.tm):(gw a k o=some true/\C)∨(gw a k o=some false/\D):=by
 unfold yp at b;split at b
 ·rename_i c;exact .inl ⟨by simp only[gw,c],b⟩
 ·rename_i H l c;split at b
  ·exact b.elim
  ·rename_i F i;split at b
   ·exact b.elim
   ·rename_i G f;split at b
    ·rename_i E n;have t:=(x _ _ n).1;cases l with
     |true=>
      cases E with
      |true=>exact .inl ⟨by simp only[gw,c,i,f,t,erase,cx],b⟩
      |false=>exact .inr ⟨by simp only[gw,c,i,f,t,erase,cx],b⟩
     |false=>
      cases E with
      |true=>exact .inr ⟨by simp only[gw,c,i,f,t,erase,cx],b⟩
      |false=>exact .inl ⟨by simp only[gw,c,i,f,t,erase,cx],b⟩
    ·rename_i I n;have t:=(x _ _ n).1;exact .inr ⟨by simp only[gw,c,i,f,t,erase],b⟩
    ·exact b.elim
theorem uk{o:Oper}(b:zn C cD p a o g j s σ d)(x:SR Φ ρ σ st g j s k)(m:uW σ.length p):
  ∃n c,ji C (iS C cD n) (ea ρ p) a o k (c4 ρ s) st=some c/\W4 Φ ρ σ.length d c:=by
 unfold zn at b;rcases lN b x.tm with⟨D,b⟩|⟨D,b⟩
 ·obtain⟨n,c,l,f⟩:=Ei b x m;exact⟨n,c,by simp only[ji,D];exact l,f⟩
 ·obtain⟨c,t,i⟩:=xD (TB:=Φ) (TC:=ρ) (m0:=σ.length) (.refl _ _ _) b x th;exact⟨0,c,by simp only[ji,D];exact t,i⟩
def OY(Φ:Fz)(ρ:Nat->Nat)(m:Nat)(t:zk->Tm->List e8->lm->VS->Prop)(x:Ex×Fr×ec×St):Prop:=
 ∃dx dm b c o l i f n,t o l i f b/\hU Φ ρ m dx dm b.length/\SR dx dm b c l i f n/\Mj dx b.length o/\x=(eh dm o,n,c4 dm f,c)
theorem OY.after{E:zk->Tm->List e8->lm->VS->Prop}{F:Ex×Fr×ec×St}(C:hU A q h Φ ρ B)(H:OY Φ ρ h E F):OY A q h E F:=by
 obtain⟨dx,dm,c,b,G,D,f,l,t,n,i,x,m,o⟩:=H;exact⟨dx,dm,c,b,G,D,f,l,t,n,C.then i (Nat.le_refl _),x,m,o⟩
theorem BZ:∀(N:List Oper) {Φ:Fz} {ρ:Nat->Nat} {σ:VS} {st:St} {x:Tm} {f:List e8} {c:lm} {O:zk->Tm->List e8->lm->VS->Prop},
  zo C cD p a N x f c σ O->∀{l:Fr},SR Φ ρ σ st x f c l->uW σ.length p->
  ∃K P,nF C (iS C cD K) (ea ρ p) a N l (c4 ρ c) st=some P/\OY Φ ρ p.fl O P:=by
 intro N;induction N with
 |nil=>
  intro Φ ρ σ st x f c O i l U b;exact⟨0,_,Z,Φ,ρ,σ,st,.norm,x,f,c,l,i,(hU.refl _ _ _).weaken b.2,U,tv,Z⟩
 |cons X N V=>
  intro Φ ρ σ st x f c O i l U b;rw[Ec]at i;unfold Ao at i;obtain⟨K,P,L,R⟩:=uk i U b;cases R with
  |next dx dm E m D F n o G t I J=>
   subst J;obtain⟨H,Q,M,S⟩:=V G I (t.fc b).2;refine⟨max K H,Q,?_,S.after (t.weaken b.2)⟩;unfold nF;rw[oR (gP (Nat.le_max_left K H)) L];simp only;rw[(t.fc b).1]at M;exact yo (gP (Nat.le_max_right K H)) _ M
  |eE W dx dm E m D F n o G t I J T=>
   subst T;refine⟨K,(.panic (erase dm W),o,c4 dm n,m),?_,dx,dm,E,m,.panic W,D,F,n,o,G,t.weaken b.2,I,J,Z⟩;unfold nF;rw[L]
end
theorem Gn(b:IntKind):rO b b=true:=by cases b<;>rfl
mutual
theorem kE(ρ:Nat->Nat):∀v:V,lp (erase ρ v) (erase ρ v)=true
 |.d x=>by
  cases x<;>simp only[erase,cx,lp,addrEq,YL,YM]
  ·simp
  ·rw[Gn,nv];simp
  ·rw[te];simp
 |.bp i f=>by simp only[erase,lp,addrEq,YL,YM]
 |.ptr i es k f=>by simp only[erase,lp,addrEq,YL,YM]
 |.fp b off cs=>by simp only[erase,lp,addrEq,YL,YM]
 |.ms i es k len cap=>by simp only[erase,lp,addrEq,YL,YM]
 |.map i=>by simp only[erase,lp,YL]
 |.fn f a c=>by simp only[erase,lp,Oe,YL,jo ρ a,jo ρ c,YM]
 |.rN l=>by simp only[erase,lp,Oe,YL];rfl
 |.iface t v=>by simp only[erase,lp,YL,kE ρ v,YM]
 |.agg l=>by simp only[erase,lp,jo ρ l]
 |.dV l=>by simp only[erase,lp,jo ρ l]
theorem jo(ρ:Nat->Nat):∀l:List V,xh (cm ρ l) (cm ρ l)=true
 |[]=>by simp only[cm,xh]
 |v::l=>by simp only[cm,xh,kE ρ v,jo ρ l,YM]
end
variable{u:Op} {r:cL} {v:rF} {y:fH} {w:Value}
section
variable{C:dU} {cD:FuncId->List Value->Option Value} {Φ dx:Fz} {ρ dm:Nat->Nat} {σ:VS} {st:St} {m m':Nat}
theorem il.VB{es:Nat}{b:List (List V)}(f:il Φ m es b)(c:hU Φ ρ m dx dm m'):il dx m' es b:=f.mono c.le c.len
theorem nS.mono(b:nS Φ m u r)(c:hU Φ ρ m dx dm m'):nS dx m' u r:=by
 unfold nS at b⊢;split at b
 ·exact⟨c.KG b.1,b.2⟩
 ·exact⟨c.KG b.1,b.2⟩
 ·exact b
 ·exact⟨b.1.VB c,b.2⟩
 ·exact b.elim
theorem me(c:nS Φ m u r)(b:hU Φ ρ m dx dm m')(n:Nat):hX u r dm n=hX u r ρ n:=by
 unfold nS at c;split at c
 ·simp only[hX,b.cm c.1]
 ·simp only[hX,b.cm c.1]
 ·rfl
 ·simp only[hX,b.cm (D3 c.1.ok)]
 ·exact c.elim
inductive ku (Φ:Fz) (ρ:Nat->Nat) (m:Nat) (ops:List Oper) (st:St):kZ->rF->Prop
 |val {i:Nat} {v:V} {o:Oper} (ho:nth ops i=some o) (hm:ft o.op=false) (hv:eV Φ m v):ku Φ ρ m ops st (.val i v) (.val i (erase ρ v))
 |obj {i:Nat} {v:V} {ob:cL} {j:Option Nat} {o:Oper} {bl:Nat} {a:fH} (ho:nth ops i=some o) (hm:ft o.op=true) (hv:eV Φ m v) (hk:nS Φ m o.op ob)
   (Yh:hX o.op ob ρ bl=some (erase ρ v,a)) (hj:match j with|some j=>j<m/\ρ j=bl/\lI o.op=false|none=>Φ bl=some a):ku Φ ρ m ops st (.obj i v ob j) (.obj i (erase ρ v) bl a)
 |skip {i:Nat}:ku Φ ρ m ops st (.skip i) (.skip i)
 |fresh {i:Nat} {v:V} {ob:cL} {j:Nat} {o:Oper} {bl:Nat} {a:fH} (ho:nth ops i=some o) (hm:ft o.op=true) (hv:eV Φ m v) (hk:nS Φ m o.op ob)
   (Yh:hX o.op ob ρ bl=some (erase ρ v,a)) (hg:st.get bl=some a) (hl:bl<st.n):ku Φ ρ m ops st (.fresh i v ob j) (.obj i (erase ρ v) bl a)
 |never {i:Nat} {c:rF} (h:c.idx=i):ku Φ ρ m ops st (.never i) c
theorem ku.mono{C:List Oper}{st n:St}{c:kZ}{E:rF}(J:ku Φ ρ m C st c E)(b:hU Φ ρ m dx dm m')(F:∀H,H<st.n->n.get H=st.get H)(I:st.n<=n.n):ku dx dm m' C n c E:=by
 cases J with
 |val l o f=>rw[<-b.erase f];exact .val l o (b.ok f)
 |obj l o f i x t=>
  rename_i Q O M K P L N;rw[<-b.erase f];refine .obj l o (b.ok f) (i.mono b) (by rw[me i b,x,b.erase f]) ?_;cases K with
  |some K=>exact⟨YN t.1 b.len,by rw[b.rG _ t.1];exact t.2.1,t.2.2⟩
  |none=>exact b.le.L9 _ _ t
 |skip=>exact .skip
 |fresh l o f i x G D=>
  rw[<-b.erase f];exact .fresh l o (b.ok f) (i.mono b) (by rw[me i b,x,b.erase f]) (by rw[F _ D];exact G) (YN D I)
 |never J=>exact .never J
theorem ku.I1{st x:St}{c:kZ}(C:ku Φ ρ m a st c v)(b:hU Φ ρ m dx dm m'):ku dx dm m' a x (Ed c) v:=by
 cases C with
 |val l n f=>rw[<-b.erase f];exact .val l n (b.ok f)
 |obj l n f t o i=>
  rename_i L J H D K F I;rw[<-b.erase f];refine .obj l n (b.ok f) (t.mono b) (by rw[me t b,o,b.erase f]) ?_;cases D with
  |some D=>exact⟨YN i.1 b.len,by rw[b.rG _ i.1];exact i.2.1,i.2.2⟩
  |none=>exact b.le.L9 _ _ i
 |skip=>exact .skip
 |fresh l n f t o G E=>exact .never rfl
 |never C=>exact .never C
theorem qz(c:gD Φ ρ m g k.tm)(b:Mk g e z):yc k e (erase ρ z)=true:=by
 unfold Mk at b;split at b
 ·rfl
 ·simp only[yc,(c _ _ b).1,kE]
theorem yq(b:hX u r ρ h=some (w,y)):rW y y=true:=by
 unfold hX at b;split at b<;>first|cases b|skip
 ·simp only[rW,jo,YL,YM]
 ·simp only[rW,jo,YL,YM]
 ·rfl
 ·simp only[rW,jo,YL,YM]
theorem I2(i:Real Φ ρ σ st)(b:hX u r ρ (ρ h)=some (w,y))(f:nS Φ m u r)(l:lI u=false)(c:nth σ h=some r):st.get (ρ h)=some y:=by
 rw[cv]at c;unfold hX at b;split at b
 ·cases b;exact(i.obj h _ c rfl).1.1.1
 ·cases b;exact(i.obj h _ c rfl).1.1.1
 ·obtain⟨rfl,rfl⟩:=f;cases b;exact(i.obj h _ c Z).1.1
 ·cases l
 ·cases b
theorem B0(P:Real Φ ρ σ st)(l:gD Φ ρ σ.length g k.tm){c:kZ}(X:ku Φ ρ σ.length a st c v)(b:tj C a g σ c):nG C a k st v=true:=by
 cases X with
 |val i F N=>
  unfold tj at b;simp only[i]at b;rcases lN b l with⟨J,o,D⟩|⟨_,t⟩
  ·obtain⟨j,rfl,_,V⟩:=lL P (gz l) D;simp only[nG,i,J,isSome,F,qz l o,V,kE,YL];rfl
  ·exact t.elim
 |obj i F N G m O=>
  rename_i W d U R Y f K;unfold tj at b;simp only[i]at b;rcases lN b l with⟨J,o,D,M⟩|⟨_,t⟩
  ·obtain⟨_,x⟩:=oP (gz l) D;obtain⟨h,T,E,H⟩:=x ⟨.nil,f,.nil⟩;rw[show(⟨.nil,f,.nil⟩:St).n=f from rfl,m]at E;cases E;have I:st.get f=some K:=by
    cases R with
    |some R=>
     obtain⟨_,Q,L⟩:=O;subst Q;exact I2 P m G L M
    |none=>exact P.fz _ _ O
   have n:((⟨.nil,f,.nil⟩:St).new K).get f=some K:=by rw[dl];exact if_pos rfl
   simp only[nG,i,J,isSome,F,qz l o,I,H,kE,yq m,n,YM]
  ·exact t.elim
 |fresh i F N G m S e=>
  rename_i W d U R Y f K;unfold tj at b;simp only[i]at b;rcases lN b l with⟨J,o,D,M⟩|⟨_,t⟩
  ·obtain⟨_,x⟩:=oP (gz l) D;obtain⟨h,T,E,H⟩:=x ⟨.nil,f,.nil⟩;rw[show(⟨.nil,f,.nil⟩:St).n=f from rfl,m]at E;cases E;have n:((⟨.nil,f,.nil⟩:St).new K).get f=some K:=by rw[dl];exact if_pos rfl
   simp only[nG,i,J,isSome,F,qz l o,S,H,kE,yq m,n,YM]
  ·exact t.elim
 |never P=>exact b.elim
 |skip=>
  rename_i W;unfold tj at b;cases i:nth a W with
  |none=>simp only[i]at b
  |some Y=>
   simp only[i]at b;rcases lN b l with⟨_,t⟩|⟨J,o⟩
   ·exact t.elim
   ·have:=qz (ρ:=ρ) l o;simp only[nG,i,J,isSome];exact this
inductive k0 (Φ:Fz) (ρ:Nat->Nat) (m:Nat) (ops:List Oper) (st:St):List kZ->List rF->Prop
 |nil:k0 Φ ρ m ops st [] []
 |cons {c:kZ} {c':rF} {l:List kZ} {l':List rF} (h:ku Φ ρ m ops st c c') (t:k0 Φ ρ m ops st l l'):k0 Φ ρ m ops st (c::l) (c'::l')
theorem k0.mono{c:List Oper}{st b:St}{l:List kZ}{f:List rF}(i:k0 Φ ρ m c st l f)(t:hU Φ ρ m dx dm m')(x:∀o,o<st.n->b.get o=st.get o)(C:st.n<=b.n):k0 dx dm m' c b l f:=by
 induction i with
 |nil=>exact .nil
 |cons i _ n=>exact .cons (i.mono t x C) n
theorem k0.I1{b:List Oper}{st f:St}{l:List kZ}{c:List rF}(i:k0 Φ ρ m b st l c)(o:hU Φ ρ m dx dm m'):k0 dx dm m' b f (vW l) c:=by
 induction i with
 |nil=>exact .nil
 |cons i _ n=>rw[BX];exact .cons (i.I1 o) n
theorem RM{st:St}{c:kZ}(b:ku Φ ρ m a st c v):v.idx=c.idx:=by cases b<;>first|rfl|assumption
theorem si(t:Real Φ ρ σ st)(n:gD Φ ρ σ.length g k.tm){b:Nat}{l:List kZ}{m:List rF}(f:k0 Φ ρ σ.length a st l m)(c:pT C a g σ b l):mW C a k st b m=true:=by
 induction f with
 |nil=>rfl
 |cons f _ i=>
  unfold pT at c;unfold mW;rw[RM f];split at c
  ·rename_i o;rw[Ee]at o;rw[o,i c];rfl
  ·rename_i o;rw[B0 t n f c.1,i c.2,Bool.or_true];rfl
theorem Ml(l t:Nat):∀b:Tm,fb (pU l b) t=if t=l then none else fb b t:=by
 intro b;induction b with
 |nil=>simp[pU,fb]
 |cons n b f=>
  obtain⟨m,o⟩:=n;unfold pU;split
  ·rename_i i;have:=Nat.eq_of_beq_eq_true i;subst this;rw[f,jn];by_cases c:t=m
   ·rw[if_pos c,if_pos c]
   ·rw[if_neg c,if_neg c,if_neg c]
  ·rename_i i;rw[jn,f,jn];by_cases c:t=m
   ·subst c;rw[if_pos rfl,if_pos rfl,if_neg];intro c;subst c;rw[YL]at i;cases i
   ·rw[if_neg c,if_neg c]
theorem gD.del{t:Tr Value}(i:gD Φ ρ m g t)(c:Nat):gD Φ ρ m (pU c g) (t.put c none):=by
 intro l f b;rw[Ml]at b;rw[cT];split at b
 ·cases b
 ·rename_i n;rw[if_neg n];exact i l f b
theorem gD.erase(b:List Oper):∀{c:Tm} {l:Tr Value},gD Φ ρ m c l->gD Φ ρ m (lM b c) (nu b l):=by
 induction b with
 |nil=>intro c l i;exact i
 |cons n b f=>
  intro c l i;unfold lM;simp only[nu,List.foldl_cons];cases o:n.dst with
  |none=>exact f i
  |some t=>
   simp only;cases x:fM n.op with
   |true=>exact f i
   |false=>exact f (i.del t)
theorem Gp(e:Real Φ ρ σ st){k:Operand->Option V}{S:Operand->Option Value}(aa:mJ Φ ρ σ.length k S){B:Bool}{o:Oper}(Y:nth a h=some o)(L:ft o.op=true) 
  {ac:V->kZ->VS->Prop} (i:IW C B k o.op h σ ac):
  ∃W ae D dx dm P,ac W ae D/\hU Φ ρ σ.length dx dm D.length/\Real dx dm D (st.new P)/\eV dx D.length W/\h0 C S o st=some (.val (erase dm W) (st.new P))/\
   ku dx dm D.length a (st.new P) ae (.obj h (erase dm W) st.n P):=by
 unfold IW at i;split at i
 ·rename_i N q;obtain⟨f,j⟩:=oP aa q;obtain⟨W,P,l,T⟩:=j st;have H:=jL Φ ρ σ.length st.n;have m:iH ρ σ.length st.n σ.length=st.n:=if_pos rfl;split at i
  ·rename_i R;have x:=iQ i;clear i;obtain⟨w,t,X⟩:=cy x;clear x;have c:(σ++[N]).length=σ.length+1:=by simp
   cases b:o.op with
   |buildSlice af G A=>
    cases N with
    |row K E=>
     rw[b]at l t f;cases l;cases t;refine⟨_,_,_,Φ,_,_,X,by rw[c];exact H,e.newRow f.1,by rw[c];exact .ms om,by rw[T];simp only[erase,m,Nat.zero_mul],?_⟩;have F:nS Φ σ.length o.op (.row K E):=by rw[b];exact f
     have M:hX o.op (.row K E) ρ st.n=some (.slice (some ⟨st.n,0,none⟩) G G,.cells (cm ρ E.flatten) K st.n 0):=by rw[b];rfl
     refine .fresh Y L (by rw[c];exact .ms om) (by rw[c];exact F.mono H) ?_ (by rw[dl,if_pos rfl]) (Nat.lt_succ_self _);rw[me F H,M];simp only[erase,m,Nat.zero_mul]
    |_=>rw[b]at l;cases l
   |_=>rw[b]at R;simp[vX,lI]at R
  split at i
  ·rename_i n;split at i
   ·rename_i K E;split at i
    ·rename_i ab d;cases b:o.op with
     |buildSlice af G A=>
      have M:=l;have F:=f;rw[b]at l f;cases l;obtain⟨I,J⟩:=f;have ad:=I;rw[fx d]at I;obtain⟨z,s,g⟩:=e.KK I;have O:ab.length=G:=by rw[<-J,fx d,List.length_map]
      have Q:cm ρ E.flatten=ab.flatten.map cx:=by rw[fx d,sh]
      refine⟨_,_,σ,_,ρ,.cells (ab.flatten.map cx) K st.n 0,i st.n,s,z,.d (g _),?_,.obj Y L (.d (g _)) (F.mono s) ?_ (if_pos Z)⟩
      ·rw[T];simp only[erase,cx,O,Q]
      ·rw[M];simp only[erase,cx,O,Q]
     |_=>rw[b]at n;cases n
    ·exact i.elim
   ·exact i.elim
  ·rename_i n;have x:=iQ i;clear i;obtain⟨w,t,X⟩:=cy x;clear x;have c:∀o:cL,(σ++[o]).length=σ.length+1:=fun o=>by simp
   have U:iH ρ σ.length st.n σ.length=st.n:=m;have v:hX o.op N (iH ρ σ.length st.n) st.n=some (W,P):=by rw[me f H];exact l
   have r:Real Φ (iH ρ σ.length st.n) (σ++[N]) (st.new P)/\eV Φ (σ.length+1) w/\erase (iH ρ σ.length st.n) w=W:=by
    unfold hX at l;split at l
    ·rename_i b;rw[b]at t f;cases l;cases t;exact⟨e.D9 f.1 f.2,.bp om,by simp only[erase,m];rfl⟩
    ·rename_i b;rw[b]at t f;cases l;cases t;exact⟨e.D9 f.1 f.2,.bp om,by simp only[erase,m];rfl⟩
    ·rename_i b;rw[b]at t f;obtain⟨rfl,rfl⟩:=f;cases l;cases t;exact⟨e.new trivial ⟨by rw[dl,if_pos rfl];rfl,fun _ e=>by simp at e⟩,.map om,by simp only[erase,m]⟩
    ·rename_i b;rw[b]at n;cases n
    ·cases l
   obtain⟨y,u,p⟩:=r;have J:=f.mono H;refine⟨w,_,_,Φ,_,P,X,by rw[c];exact H,y,by rw[c];exact u,by rw[T,p],?_⟩;rw[c];exact .obj Y L u J (by rw[v,p]) ⟨om,U,by simpa using n⟩
 ·exact i.elim
theorem Aq{s:List Nat}:∀(y:List Nat) {v:Nat} {E:List kZ} {l:List rF} {Φ:Fz} {ρ:Nat->Nat} {σ:VS} {st:St} {tm:Tm} {G:List e8} {x:lm} {z:zk->Tm->List e8->lm->VS->Prop},
  vY C cD p a s y v E tm G x σ z->∀{F:Fr},SR Φ ρ σ st tm G x F->uW σ.length p->k0 Φ ρ σ.length a st E l->
  ∃r B,eM C (iS C cD r) (ea ρ p) a s y v l F (c4 ρ x) st=some B/\OY Φ ρ p.fl z B:=by
 intro y;induction y with
 |nil=>
  intro v E l Φ ρ σ st tm G x z c F t i Q;refine⟨0,(.norm,F,c4 ρ x,st),?_,Φ,ρ,σ,st,.norm,tm,G,x,F,c.2,(hU.refl _ _ _).weaken i.2,t,tv,Z⟩;unfold eM;rw[si t.real t.tm Q c.1]
 |cons ag y e=>
  intro v E l Φ ρ σ st tm G x z c F t i Q;rw[BY]at c;unfold xC at c;split at c
  ·rename_i ac af P I;split at c
   ·rename_i T;have g:=si t.real t.tm Q c.1;obtain⟨r,B,u,aa⟩:=uk c.2 t i;cases aa with
    |next dx dm R V n h W b M f o Y=>
     subst Y;obtain⟨D,N,K,O⟩:=e M o (f.fc i).2 (Q.I1 f);refine⟨max r D,N,?_,O.after (f.weaken i.2)⟩;unfold eM;simp only[P,I,T,g];rw[oR (gP (Nat.le_max_left r D)) u];simp only;rw[(f.fc i).1]at K;exact vU (gP (Nat.le_max_right r D)) _ K
    |eE q dx dm R V n h W b M f o Y k=>
     subst k;refine⟨r,(.panic (erase dm q),{b with tm:=nu a b.tm},c4 dm W,V),?_,dx,dm,R,V,.panic q,_,h,W,{b with tm:=nu a b.tm},M,f.weaken i.2,⟨o.real,o.tm.erase a,o.df,o.ps⟩,Y,Z⟩;unfold eM;simp only[P,I,T,g,u]
   ·rename_i T;rcases lN c t.tm with⟨A,c⟩|⟨A,c⟩
    ·split at c
     ·rename_i L;obtain⟨q,ah,R,dx,dm,ab,M,f,o,Y,k,ad⟩:=Gp t.real (gz t.tm) P L c;have j:=t.move f o;obtain⟨n,b,K,O,d,U⟩:=pW M j.tm Y;have H:SR dx dm R (st.new ab) n G x b:=⟨o,d,by rw[U];exact j.df,j.ps⟩;obtain⟨D,N,S,X⟩:=e K H (f.fc i).2 (.cons ad (Q.mono f (fun v ae=>by rw[dl,if_neg om]) (Nat.le_succ _)));refine⟨D,N,?_,X.after (f.weaken i.2)⟩;unfold eM;have w:(st.new ab).get st.n=some ab:=by rw[dl,if_pos rfl]
      rw[(f.fc i).1,(f.ps t.ps).1]at S;simp only[P,I,T,A,k];have J:gI (ea ρ p).nt F ac.dst (erase dm q)=some b:=O;simp only[J,L,w];exact S
     ·rename_i L;obtain⟨q,M,f,o⟩:=lL t.real (gz t.tm) c;obtain⟨n,b,K,O,d,U⟩:=pW M t.tm f;have H:SR Φ ρ σ st n G x b:=⟨t.real,d,by rw[U];exact t.df,t.ps⟩;obtain⟨D,N,S,X⟩:=e K H i (.cons (.val P L f) Q);refine⟨D,N,?_,X⟩;unfold eM;have J:gI (ea ρ p).nt F ac.dst (erase ρ q)=some b:=O;simp only[P,I,T,A,o,J,L,YL];exact S
    ·obtain⟨n,b,K,O,d,U⟩:=pW c t.tm (th (Φ:=Φ) (m:=σ.length));have H:SR Φ ρ σ st n G x b:=⟨t.real,d,by rw[U];exact t.df,t.ps⟩;obtain⟨D,N,S,X⟩:=e K H i (.cons .skip Q);refine⟨D,N,?_,X⟩;unfold eM;have J:gI (ea ρ p).nt F ac.dst kn=some b:=O;simp only[P,I,T,A,J];exact S
  ·exact c.elim
end
end Go.VM
