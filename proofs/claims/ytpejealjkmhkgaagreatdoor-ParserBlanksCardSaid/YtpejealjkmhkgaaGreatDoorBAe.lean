/- Part of the proof. -/
import Derived.Test.YtpejealjkmhkgaaGreatDoorBAd
import Derived.Test.YtpejealjkmhkgaaGreatDoorBAc
set_option linter.all false
set_option maxHeartbeats 16000000
set_option maxRecDepth 100000
open List renaming getElem?_eq_some_iff->agj,mem_map->agl,length_set->agn,mem_cons->ags,getElem?_eq_getElem->agv,map_congr_left->agw,mem_cons_of_mem->agx,length_cons->agy,length_map->agB,mem_cons_self->agC,range'->agE,map_cons->agF,length_take->agG,all_eq_true->agH,length_nil->agM,mem_of_getElem?->agN,getElem?_set_ne->agO,getElem?_of_mem->agP,map_id->agQ,getElem?_map->agS,cons_append->agT,pairwise_iff_getElem->agU,getElem?_append_left->agV,getElem?_set_self->agX,getElem?_eq_none->agZ,mem_of_mem_take->ag1,mem_of_mem_drop->ag2
open Bool renaming and_eq_true->agk,and_self->ago,or_true->ag0
open Nat renaming beq_refl->agm,le_refl->agp,le_max_right->agr,le_max_left->agt,le_of_ble_eq_true->agu,blt->agz,not_lt_zero->agA,ble->agD,le_trans->agJ,eq_of_beq_eq_true->agK,beq->agL,lt_of_lt_of_le->agR,lt_of_succ_lt_succ->agW,zero_add->agY,one_pos->ag3
open Int renaming ofNat->agq
open Option renaming map_none->agI
namespace Go.VM
open Go.AM
abbrev Tm:=List (Nat×V)
def eG(ρ:Nat->Nat):cO->CR
 |.ret a=>.ret (erase ρ a)
 |.eH a=>.eH (erase ρ a)
def CW(Φ:Fz)(m:Nat):cO->Prop
 |.ret a=>e9 Φ m a
 |.eH a=>e9 Φ m a
def c6(ρ:Nat->Nat):lJ->dW
 |.none=>.none
 |.gg a=>.gg (erase ρ a)
 |.rD=>.rD
def Bx(Φ:Fz)(m:Nat):lJ->Prop
 |.none=>True
 |.gg a=>e9 Φ m a
 |.rD=>True
def ek(ρ:Nat->Nat):Bu->Ex
 |.norm=>.norm
 |.exit id=>.exit id
 |.ret=>.ret
 |.panic a=>.panic (erase ρ a)
def PT(Φ:Fz)(m:Nat):Bu->Prop
 |.panic a=>e9 Φ m a
 |_=>True
def dV(ρ:Nat->Nat)(a:uw):FC:=⟨a.fn,a.nt,a.round.map ρ,a.DZ⟩
def xB(m:Nat)(a:uw):Prop:=(∀l,a.round=some l->l<a.fl)/\a.fl<=m
structure b4 (C:dR) (cF:ql) (f:FuncId) (args:List V) (σ:VS) (K:cO->VS->Prop):Prop where
 go:∀Φ ρ st,Real Φ ρ σ st->eV Φ σ.length args->∃n r ps' dC du dk oK,(jN C cF n).call f (cl ρ args) false .none st=some (eG dk r,ps',dC)/\
  iJ Φ ρ σ.length du dk oK.length/\Real du dk oK dC/\CW du oK.length r/\K r oK
structure oA (C:dR) (cF:ql) (f:FuncId) (args:List V) (ps:lJ) (σ:VS) (K:cO->lJ->VS->Prop):Prop where
 go:∀Φ ρ st,Real Φ ρ σ st->eV Φ σ.length args->Bx Φ σ.length ps->∃n r ps' dC du dk oK,(jN C cF n).call f (cl ρ args) true (c6 ρ ps) st=some (eG dk r,c6 dk ps',dC)/\
  iJ Φ ρ σ.length du dk oK.length/\Real du dk oK dC/\CW du oK.length r/\Bx du oK.length ps'/\K r ps' oK
structure iA (C:dR) (cF:ql) (l:Nat) (args:List V) (σ:VS) (K:cO->VS->Prop):Prop where
 go:∀Φ ρ st,Real Φ ρ σ st->eV Φ σ.length args->l<σ.length->∃n r dC du dk oK,(jN C cF n).round (ρ l) (cl ρ args) st=some (eG dk r,dC)/\
  iJ Φ ρ σ.length du dk oK.length/\Real du dk oK dC/\CW du oK.length r/\K r oK
structure cd (C:dR) (cF:ql) (fc:uw) (c:Code) (tm:Tm) (df:List fq) (ps:lJ) (σ:VS) (Q:Bu->Tm->List fq->lJ->VS->Prop):Prop where
 go:∀Φ ρ st fr,Real Φ ρ σ st->gK Φ ρ σ.length tm fr.tm->CN Φ ρ σ.length df fr.df->Bx Φ σ.length ps->xB σ.length fc->
  ∃n x fr' VC Rw ps' dC du dk oK,code C (jN C cF n) (dV ρ fc) c fr (c6 ρ ps) st=some (ek dk x,fr',c6 dk ps',dC)/\
   iJ Φ ρ fc.fl du dk oK.length/\Real du dk oK dC/\gK du dk oK.length VC fr'.tm/\CN du dk oK.length Rw fr'.df/\Bx du oK.length ps'/\PT du oK.length x/\Q x VC Rw ps' oK
inductive VOR where
 |next (tm:Tm) (df:List fq) (ps:lJ) (σ:VS)
 |eH (v:V) (tm:Tm) (df:List fq) (ps:lJ) (σ:VS)
def N7(c:Nat)(b:Tm)(a:Option Tmp)(e:V)(k:Tm->Prop):Prop:=
 match a with
 |none=>k b
 |some d=>match agz d c with
  |true=>k ((d,e)::b)
  |false=>False
def adG(b:uw)(a:Option Tmp):Bool:=
 match a with
 |some c=>b.fz c
 |none=>false
def L7(C:dR)(cF:ql)(c:uw)(o:Oper)(a:Tm)(d:List fq)(e:lJ)(σ:VS)(i:VOR->Prop):Prop:=
 vop C (adG c o.dst) (Fq a) o.op σ fun j=>match j with
  |.val h b=>N7 c.nt a o.dst h fun a=>i (.next a d e b)
  |.eH h=>i (.eH h a d e σ)
  |.enter f g=>b4 C cF f g σ fun j b=>match j with
   |.ret h=>N7 c.nt a o.dst h fun a=>i (.next a d e b)
   |.eH h=>i (.eH h a d e b)
  |.yield l g=>iA C cF l g σ fun j b=>match j with
   |.ret h=>N7 c.nt a o.dst h fun a=>i (.next a d e b)
   |.eH h=>i (.eH h a d e b)
  |.recover=>match c.round with
   |some _=>False
   |none=>match c.DZ,e with
    |true,.gg h=>N7 c.nt a o.dst h fun a=>i (.next a d .rD σ)
    |_,_=>N7 c.nt a o.dst (.d .yx) fun a=>i (.next a d e σ)
  |.defer k=>match c.round with
   |some _=>False
   |none=>N7 c.nt a o.dst (.dS []) fun a=>i (.next a (k::d) e σ)
def A0(e:List Oper)(f:Tm)(o:Oper)(d a:Prop):Prop:=
 match o.guard with
 |none=>d
 |some (i,c)=>match nth e i with
  |none=>False
  |some g=>match g.dst with
   |none=>False
   |some h=>match gm f h with
    |some (.d (.bool b))=>(match c with
     |true=>jR d a b
     |false=>jR a d b)
    |some (.dS _)=>a
    |_=>False
def BX(C:dR)(cF:ql)(e:uw)(d:List Oper)(o:Oper)(a:Tm)(b:List fq)(c:lJ)(σ:VS)(f:VOR->Prop):Prop:=
 A0 d a o (L7 C cF e o a b c σ f) (N7 e.nt a o.dst (.dS []) fun a=>f (.next a b c σ))
abbrev VQ:=Bu->Tm->List fq->lJ->VS->Prop
abbrev VK:=Tm->List fq->lJ->VS->VQ->Prop
def CX(C:dR)(cF:ql)(e:uw)(d:List Oper)(o:Oper)(k:VK):VK:=
 fun c a b σ f=>BX C cF e d o c a b σ fun g=>match g with
  |.next c a b σ=>k c a b σ f
  |.eH h c a b σ=>f (.panic h) c a b σ
noncomputable def BY(C:dR)(cF:ql)(g:uw)(a:List Oper)(l:List Oper):VK:=
 List.rec (motive:=fun _=>VK) (fun e c d σ h=>h .norm e c d σ) (fun i _ f=>CX C cF g a i f) l
theorem Hb(C:dR)(cF:ql)(b:uw)(a:List Oper)(o:Oper)(l:List Oper):BY C cF b a (o::l)=CX C cF b a o (BY C cF b a l):=rfl
inductive mi where
 |val (i:Nat) (v:V)
 |obj (i:Nat) (v:V) (ob:cN) (j:Option Nat)
 |skip (i:Nat)
 |fresh (i:Nat) (v:V) (ob:cN) (j:Nat)
 |never (i:Nat)
def mi.idx:mi->Nat
 |.val i _=>i
 |.obj i _ _ _=>i
 |.skip i=>i
 |.fresh i _ _ _=>i
 |.never i=>i
def Hc:mi->mi
 |.fresh i _ _ _=>.never i
 |c=>c
noncomputable def yF(l:List mi):List mi:=List.rec (motive:=fun _=>List mi) [] (fun c _ b=>Hc c::b) l
theorem Ev(c:mi)(l:List mi):yF (c::l)=Hc c::yF l:=rfl
def PU(b:Tm)(a:Option Tmp)(d:V):Prop:=
 match a with
 |none=>True
 |some c=>gm b c=some d
def vM(C:dR)(a:List Oper)(b:Tm)(σ:VS):mi->Prop
 |.val i e=>match nth a i with
  |some c=>A0 a b c (PU b c.dst e/\CM C (Fq b) c.op σ fun g=>g=e) False
  |none=>False
 |.obj i e d f=>match nth a i with
  |some c=>A0 a b c (PU b c.dst e/\Fs C (Fq b) c.op=some d/\(match f with|some f=>nth σ f=some d|none=>True)) False
  |none=>False
 |.skip i=>match nth a i with
  |some c=>A0 a b c False (PU b c.dst (.dS []))
  |none=>False
 |.fresh i e d f=>match nth a i with
  |some c=>A0 a b c (PU b c.dst e/\Fs C (Fq b) c.op=some d/\nth σ f=some d) False
  |none=>False
 |.never _=>False
def Jw:Nat->Nat->Bool
 |b,0=>agL (b%2) 1
 |b,i+1=>Jw (b/2) i
theorem Hd:∀(i b:Nat),Jw b i=Nat.testBit b i:=by
 intro i;induction i with
 |zero=>
  intro b;simp only[Jw,Nat.testBit_zero];rw[Bool.eq_iff_iff,Nat.beq_eq,decide_eq_true_eq]
 |succ i a=>intro b;rw[Jw,a,Nat.testBit_succ]
def rO(C:dR)(a:List Oper)(d:Tm)(σ:VS)(b:Nat):List mi->Prop
 |[]=>True
 |c::e=>match Jw b c.idx with
  |true=>rO C a d σ b e
  |false=>vM C a d σ c/\rO C a d σ b e
def rP(a:Nat):Tm->Tm
 |[]=>[]
 |(c,d)::b=>match agL c a with
  |true=>rP a b
  |false=>(c,d)::rP a b
def nq:List Oper->Tm->Tm
 |[],a=>a
 |o::b,a=>match o.dst with
  |some c=>match gb o.op with
   |true=>nq b a
   |false=>nq b (rP c a)
  |none=>nq b a
def yG:Op->Bool
 |.buildSlice _ 0 _=>true
 |_=>false
def adH(b:uw)(a:Option Tmp):Bool:=
 match a with
 |some c=>b.fz (2000000+c)
 |none=>false
def aep:cN->Bool
 |.j2 _ _ _=>true
 |_=>false
def L8(C:dR)(m:Bool)(j:Operand->Option V)(c:Op)(i:Nat)(σ:VS)(k:V->mi->VS->Prop):Prop:=
 match Fs C j c with
 |some a=>match aep a with
  |true=>False
  |false=>match yG c||(m&&nk c)with
   |true=>CH σ a fun h d=>dn (aaE c a h) fun g=>k g (.fresh i g a h) d
   |false=>match nk c with
    |true=>match a with
     |.row f e=>match qC e with
      |some l=>∀b:Nat,k (.d (.ps b 0 f l.length l)) (.obj i (.d (.ps b 0 f l.length l)) (.row f e) none) σ
      |none=>False
     |_=>False
    |false=>CH σ a fun h d=>dn (aaE c a h) fun g=>k g (.obj i g a (some h)) d
 |none=>False
noncomputable def Ae(C:dR)(cF:ql)(g:uw)(f:List Oper)(o:List Nat)(i:Nat)(m:Nat->List mi->VK):Nat->List mi->VK:=
 fun b c a d e σ k=>
  match nth f i,nth o i with
  |some h,some n=>
   match gb h.op with
   |true=>jS (rO C f a σ b c) (BX C cF g f h a d e σ fun p=>match p with
     |.eH j a d e σ=>k (.panic j) (nq f a) d e σ
     |.next a d e σ=>m n (yF c) a d e σ k)
   |false=>A0 f a h
     (match gh h.op with
     |true=>L8 C (adH g h.dst) (Fq a) h.op i σ fun j r l=>N7 g.nt a h.dst j fun a=>m b (r::c) a d e l k
     |false=>CM C (Fq a) h.op σ fun j=>N7 g.nt a h.dst j fun a=>m b (.val i j::c) a d e σ k)
     (N7 g.nt a h.dst (.dS []) fun a=>m b (.skip i::c) a d e σ k)
  |_,_=>False
noncomputable def yH(C:dR)(cF:ql)(j:uw)(a:List Oper)(k:List Nat)(l:List Nat):Nat->List mi->VK:=
 List.rec (motive:=fun _=>Nat->List mi->VK) (fun b c d f g σ m=>jS (rO C a d σ b c) (m .norm d f g σ)) (fun i _ h=>Ae C cF j a k i h) l
theorem Ew(C:dR)(cF:ql)(b:uw)(a:List Oper)(c:List Nat)(i:Nat)(l:List Nat):yH C cF b a c (i::l)=Ae C cF b a c i (yH C cF b a c l):=rfl
def Fx:Op->Bool
 |.indexAddr _ _ _=>true
 |_=>false
def L9(C:dR)(x:Nat)(p i e:Oper)(b:Tm)(n:List fq)(s:lJ)(σ:VS)(P:Bu->Tm->List fq->lJ->VS->Prop):Prop:=
 match p.dst,i.dst,e.dst,i.op,e.op,Fx p.op with
 |some t,none,none,.store t1 I r,.store t2 D M,true=>
  CM C (Fq b) p.op σ fun S=>N7 x b (some t) S fun a=>
   dn (Fq a I) fun v=>dn (Fq a r) fun g=>dn (Fq (rP t b) D) fun o=>dn (Fq (rP t b) M) fun f=>
   match v,o with
   |.ptr k l c f1,.bp d f2=>jS (mU C t2 (.bp d f2) f σ fun j=>mU C t1 (.ptr k l c f1) g j fun _=>True)
     (mU C t1 (.ptr k l c f1) g σ fun h=>mU C t2 (.bp d f2) f h fun m=>P .norm a n s m)
   |_,_=>False
 |_,_,_,_,_,_=>False
def Ma(C:dR)(l:Nat)(v m f h:Oper)(a:Tm)(s:List fq)(I:lJ)(σ:VS)(V:Bu->Tm->List fq->lJ->VS->Prop):Prop:=
 match v.dst,m.dst,f.dst,h.dst with
 |some b,none,some c,none=>match m.op,f.op,h.op,Fx v.op with
  |.store t1 S D,.fieldAddr u q w,.store t2 P T,true=>match agL b c,agz b l,agz c l with
   |false,true,true=>
    CM C (Fq (rP c a)) v.op σ fun x=>CM C (Fq (rP b a)) f.op σ fun d=>
     dn (Fq ((b,x)::rP c a) S) fun M=>dn (Fq ((b,x)::rP c a) D) fun j=>dn (Fq ((c,d)::rP b a) P) fun t=>dn (Fq ((c,d)::rP b a) T) fun i=>
     match M,t with
     |.ptr o p e f1,.bp g f2=>jS (mU C t2 (.bp g f2) i σ fun n=>mU C t1 (.ptr o p e f1) j n fun _=>True)
       (mU C t1 (.ptr o p e f1) j σ fun k=>mU C t2 (.bp g f2) i k fun r=>V .norm ((c,d)::(b,x)::a) s I r)
     |_,_=>False
   |_,_,_=>False
  |_,_,_,_=>False
 |_,_,_,_=>False
noncomputable def He(C:dR)(cF:ql)(e:uw)(a:Array Oper)(l:Bool)(d:Tm)(b:List fq)(c:lJ)(σ:VS)(n:Bu->Tm->List fq->lJ->VS->Prop):Prop:=
 match l with
 |false=>BY C cF e a.toList a.toList d b c σ n
 |true=>match rH a.toList with
  |⟨k,m,g⟩=>yH C cF e a.toList k g 0 [] d b c σ fun x d b c σ=>match x with
   |.norm=>(match agL m a.toList.length with
    |true=>n .norm d b c σ
    |false=>match a.toList.drop m,nth k (m+1)with
     |[o,j,i],some h=>(match Jw h m with
      |true=>L9 C e.nt o j i d b c σ n
      |false=>False)
     |[o,j,f,i],some h=>(match Jw h m,nth k (m+3)with
      |true,some p=>(match Jw p (m+2)with
       |true=>Ma C e.nt o j f i d b c σ n
       |false=>False)
      |_,_=>False)
     |_,_=>False)
   |x=>n x d b c σ
def S2:Option Code->Option Bu
 |none=>some .norm
 |some .ret=>some .ret
 |some (.exit id)=>some (.exit id)
 |_=>none
def Hf(C:dR)(cF:ql)(j:FuncId)(first c:List V)(b:Nat)(f:Tm)(e:List fq)(g:lJ)(σ:VS)(i:Bu->Tm->List fq->lJ->VS->Prop):Prop:=
 match C.ff.get j with
 |none=>False
 |some _=>b4 C cF j (first++[.tR b]++c) σ fun k a=>match k with
  |.ret _=>(match nth a b with
   |some (.loop h)=>(match h.state with
    |.busy=>False
    |_=>dn (S2 h.pending) fun l=>Bv a b (.loop {h with state:=.exhausted}) fun d=>i l f e g d)
   |_=>False)
  |.eH m=>i (.panic m) f e g a
def cutAt(a:uw):Code->Bool
 |.region id _ _=>a.fz (1000000+id)
 |.seq b _=>cutAt a b
 |_=>false
def S3(d:Bool)(e g h:VK):VK:=fun c a b σ f=>e c a b σ fun x c a b σ=>match x with
  |.norm=>(match d with
   |true=>h c a b σ f
   |false=>g c a b σ f)
  |x=>f x c a b σ
def Mb(c:Operand)(e f:VK):VK:=fun a b d σ g=>match Fq a c with
  |some (.d (.bool h))=>jR (e a b d σ g) (f a b d σ g) h
  |_=>False
def V4(id:Nat)(k:VK):VK:=fun c a b σ e=>k c a b σ fun x c a b σ=>match x with
  |.exit d=>(match agL d id with
   |true=>e .norm c a b σ
   |false=>e (.exit d) c a b σ)
  |x=>e x c a b σ
def Hg(C:dR)(cF:ql)(c:uw)(f:Operand)(b:Array Tmp)(a g:Code):VK:=fun d i j σ o=>match Fq d f with
  |some (.fn p first e)=>(match c.round with
   |some l=>(match nth σ l with
    |some (.loop s)=>CH σ (.loop ⟨.ready,none,c.fn,d,c.nt,b.toList,a,g,s.defers,c.fz⟩) fun h n=>Hf C cF p first e h d i j n o
    |_=>False)
   |none=>CH σ (.eI false) fun r k=>CH k (.loop ⟨.ready,none,c.fn,d,c.nt,b.toList,a,g,r,c.fz⟩) fun h m=>Hf C cF p first e h d (⟨.GS r,[]⟩::i) j m o)
  |_=>False
noncomputable def vc(C:dR)(cF:ql)(h:uw)(c:Code):VK:=
 Code.rec (motive:=fun _=>VK)
  (fun e a d σ j=>j .norm e a d σ)
  (fun _ p o e a d σ j=>He C cF h p o e a d σ j)
  (fun _ b l n=>S3 (cutAt h b) l n (cd C cF h b))
  (fun c _ _ l n=>Mb c l n)
  (fun id _ k=>V4 id k)
  (fun b _ e a d σ j=>cd C cF h (.loop b) e a d σ j)
  (fun f i g m _ _=>Hg C cF h f i g m)
  (fun id e a d σ j=>j (.exit id) e a d σ)
  (fun _ _ _ _ _ _ _=>False)
  (fun _ _ _ _ _ _=>False)
  (fun _ _ _ _ _ _=>False)
  (fun e a d σ j=>j .ret e a d σ)
  (fun _ _ _ _ _ _=>False)
  c
theorem aaJ(C:dR)(cF:ql)(a:uw)(c b:Code):vc C cF a (.seq c b)=S3 (cutAt a b) (vc C cF a c) (vc C cF a b) (cd C cF a b):=rfl
theorem V5(C:dR)(cF:ql)(a:uw)(c:Operand)(d b:Code):vc C cF a (.cond c d b)=Mb c (vc C cF a d) (vc C cF a b):=rfl
theorem S4(C:dR)(cF:ql)(d:uw)(f:Operand)(b:Array Tmp)(a c:Code):vc C cF d (.rangeFunc f b a c)=Hg C cF d f b a c:=rfl
inductive tc where
 |returning
 |panicking (v:V)
def PE:tc->lJ
 |.returning=>.none
 |.panicking a=>.gg a
def pn:tc->lJ->tc
 |.returning,_=>.returning
 |.panicking _,.rD=>.returning
 |.panicking a,_=>.panicking a
def su(C:dR)(cF:ql):List fq->tc->VS->(tc->VS->Prop)->Prop
 |[],m,σ,k=>k m σ
 |⟨.GS d,_⟩::c,m,σ,k=>match nth σ d with
  |some (.eI false)=>Bv σ d (.eI true) fun σ=>su C cF c m σ k
  |_=>False
 |⟨.fn f b,a⟩::c,m,σ,k=>match C.ff.get f with
  |some _=>oA C cF f (a++b) (PE m) σ fun d e σ=>match d with
   |.ret _=>su C cF c (pn m e) σ k
   |.eH _=>False
  |none=>False
def yI(C:dR)(a:Tm)(σ:VS):List ResultVar->(List V->Prop)->Prop
 |[],k=>k []
 |.tmp c::l,k=>dn (gm a c) fun d=>yI C a σ l fun b=>k (d::b)
 |.cell e c::l,k=>dn (gm a e) fun p=>NX C c p σ fun d=>yI C a σ l fun b=>k (d::b)
def pO:List V->V
 |[b]=>b
 |a=>.dS a
def vN(C:dR)(cF:ql)(a:List ResultVar)(m:tc)(c:Tm)(b:List fq)(σ:VS)(e:cO->VS->Prop):Prop:=
 su C cF b m σ fun m σ=>match m with
  |.panicking f=>e (.eH f) σ
  |.returning=>yI C c σ a fun d=>e (.ret (pO d)) σ
def sv:Nat->List V->Tm
 |_,[]=>[]
 |i,a::l=>(i,a)::sv (i+1) l
noncomputable def CY(C:dR)(cF:ql)(i:Nat->Bool)(f:FuncId)(c:List V)(h:Bool)(b:lJ)(σ:VS)(j:cO->lJ->VS->Prop):Prop:=
 match C.ff.get f with
 |none=>False
 |some a=>match agD c.length a.nt with
  |false=>False
  |true=>vc C cF ⟨f,a.nt,none,h,i,σ.length⟩ a.body (sv 0 c) [] b σ fun k d e b σ=>match k with
   |.norm=>vN C cF a.VE .returning d e σ fun g σ=>j g b σ
   |.ret=>vN C cF a.VE .returning d e σ fun g σ=>j g b σ
   |.panic l=>vN C cF a.VE (.panicking l) d e σ fun g σ=>j g b σ
   |.exit _=>False
def sw:List Tmp->List V->Nat->Tm->(Tm->Prop)->Prop
 |[],[],_,a,k=>k a
 |t::d,e::c,b,a,k=>match agz t b with
  |true=>sw d c b ((t,e)::a) k
  |false=>False
 |_,_,_,_,_=>False
def rQ(l:Nat)(b:Bool)(st:LoopState)(pending:Option Code)(a:List fq)(σ:VS)(d:cO->VS->Prop):Prop:=
 match a,nth σ l with
 |[],some (.loop c)=>Bv σ l (.loop {c with state:=st,pending:=pending}) fun σ=>d (.ret (.d (.bool b))) σ
 |_,_=>False
noncomputable def N8(C:dR)(cF:ql)(f l:Nat)(d:List V)(σ:VS)(g:cO->VS->Prop):Prop:=
 match nth σ l with
 |some (.loop b)=>match C.ff.get b.fn with
  |none=>False
  |some _=>sw b.params d b.nt b.tm fun c=>
   vc C cF ⟨b.fn,b.nt,some l,false,b.fz,f⟩ b.assign c [] .none σ fun h c a _ σ=>match h with
    |.norm=>(match nth σ l with
     |some (.loop e)=>(match e.state with
      |.ready=>Bv σ l (.loop {e with state:=.busy}) fun σ=>
        vc C cF ⟨b.fn,b.nt,some l,false,b.fz,f⟩ b.body c a .none σ fun h _ a _ σ=>match h with
         |.norm=>rQ l true .ready none a σ g
         |.ret=>rQ l false .done (some .ret) a σ g
         |.exit id=>rQ l false .done (some (.exit id)) a σ g
         |.panic i=>(match a with
          |[]=>g (.eH i) σ
          |_=>False)
      |_=>False)
     |_=>False)
    |_=>False
 |_=>False
noncomputable def S5(C:dR)(cF:ql)(l:Nat)(a:List V)(σ:VS)(b:cO->VS->Prop):Prop:=N8 C cF σ.length l a σ b
variable{K:Option Tmp} {N:Nat} {Q:Nat->Nat} {A:uw} {B:Tm} {w:List fq} {R:VS} {y:lJ} {G:Fr} {J:VOR->Prop} {X:Prop} {z:List Oper} {q:Bu->Tm->List fq->lJ->VS->Prop}
section
variable{C:dR} {cF:ql} {Φ du:Fz} {ρ dk:Nat->Nat} {σ:VS} {st:St} {m m':Nat}
theorem lM(b t:Nat)(d:V)(a:Tm):gm ((b,d)::a) t=if t=b then some d else gm a t:=by
 simp only[gm,N4];by_cases c:t=b
 ·subst c;simp
 ·rw[decide_eq_false (fun e=>c e.symm),if_neg c]
theorem gK.set{b:Tm}{t:Tr Value}(h:gK Φ ρ m b t){f:Nat}{d:V}(c:e9 Φ m d):gK Φ ρ m ((f,d)::b) (t.set f (erase ρ d)):=by
 intro i g a;rw[lM]at a;rw[cB];split at a
 ·rename_i e;cases a;rw[if_pos e];exact⟨Z,c⟩
 ·rename_i e;rw[if_neg e];exact h i g a
theorem rR{tm:Tm}{e:V}{k:Tm->Prop}(a:N7 N tm K e k){fr:Fr}(d:gK Φ ρ m tm fr.tm)(f:e9 Φ m e):
  ∃c b,k c/\gV N fr K (erase ρ e)=some b/\gK Φ ρ m c b.tm/\b.df=fr.df:=by
 unfold N7 at a;split at a
 ·exact⟨tm,fr,a,Z,d,Z⟩
 ·rename_i h;split at a
  ·rename_i g;exact⟨_,{fr with tm:=fr.tm.set h (erase ρ e)},a,by simp only[gV,g],d.set f,Z⟩
  ·exact a.elim
theorem iJ.ps(c:iJ Φ ρ m du dk m'){a:lJ}(b:Bx Φ m a):c6 dk a=c6 ρ a/\Bx du m' a:=by
 cases a with
 |none=>exact⟨rfl,tv⟩
 |gg d=>exact⟨by simp only[c6,c.erase b],c.ok b⟩
 |rD=>exact⟨rfl,tv⟩
theorem iJ.weaken(b:iJ Φ ρ m du dk m'){k:Nat}(a:k<=m):iJ Φ ρ k du dk m':=⟨b.le,fun i c=>b.vA i (agR c a),agJ a b.len⟩
theorem iJ.then{a:Fz}{c:Nat}(e:iJ Φ ρ m du dk m')(k:iJ du dk N a Q c)(b:m<=N):iJ Φ ρ m a Q c:=
 ⟨e.le.trans k.le,fun i d=>(k.vA i (agR d b)).trans (e.vA i d),agJ b k.len⟩
theorem iJ.Mc(c:iJ Φ ρ A.fl du dk m')(a:xB m A):dV dk A=dV ρ A/\xB m' A:=by
 refine⟨?_,a.1,c.len⟩;unfold dV;cases b:A.round with
 |none=>rfl
 |some l=>simp only[Option.map_some];rw[c.vA l (a.1 l b)]
theorem iJ.fc(c:iJ Φ ρ m du dk m'){a:uw}(b:xB m a):dV dk a=dV ρ a/\xB m' a:=(c.weaken b.2).Mc b
structure SR (Φ:Fz) (ρ:Nat->Nat) (σ:VS) (st:St) (tm:Tm) (df:List fq) (ps:lJ) (fr:Fr):Prop where
 real:Real Φ ρ σ st
 tm:gK Φ ρ σ.length tm fr.tm
 df:CN Φ ρ σ.length df fr.df
 ps:Bx Φ σ.length ps
inductive OR' (Φ:Fz) (ρ:Nat->Nat) (m:Nat) (K:VOR->Prop) (r:AK):Prop
 |next (du:Fz) (dk:Nat->Nat) (oK:VS) (dC:St) (tm:Tm) (df:List fq) (ps:lJ) (fr:Fr) (hk:K (.next tm df ps oK)) (hs:iJ Φ ρ m du dk oK.length) (h:SR du dk oK dC tm df ps fr)
   (hr:r=.next fr (c6 dk ps) dC)
 |eH (v:V) (du:Fz) (dk:Nat->Nat) (oK:VS) (dC:St) (tm:Tm) (df:List fq) (ps:lJ) (fr:Fr) (hk:K (.eH v tm df ps oK)) (hs:iJ Φ ρ m du dk oK.length) (h:SR du dk oK dC tm df ps fr) (hv:e9 du oK.length v)
   (hr:r=.eH (erase dk v) fr (c6 dk ps) dC)
theorem SR.move(c:SR Φ ρ σ st B w y G){a:St}(b:iJ Φ ρ σ.length du dk R.length)(d:Real du dk R a):SR du dk R a B w y G:=
 ⟨d,b.tm c.tm,b.df c.df,(b.ps c.ps).2⟩
theorem Cj{e:V}{m0:Nat}{Φ0:Fz}{ρ0:Nat->Nat}(j:iJ Φ0 ρ0 m0 Φ ρ σ.length) 
  (f:N7 A.nt B K e fun B=>J (.next B w y σ)) (c:SR Φ ρ σ st B w y G) (k:e9 Φ σ.length e):∃l,AK.go A.nt G K (erase ρ e) (c6 ρ y) st=some l/\OR' Φ0 ρ0 m0 J l:=by
 obtain⟨a,b,h,d,i,g⟩:=rR f c.tm k;refine⟨_,by simp only[AK.go,d],.next Φ ρ σ st a w y b h j ⟨c.real,i,?_,c.ps⟩ Z⟩;rw[g];exact c.df
theorem Hh{o:Oper}{tm:Tm}{df:List fq}{ps:lJ}(p:L7 C cF A o tm df ps σ J){fr:Fr}(h:SR Φ ρ σ st tm df ps fr)(E:xB σ.length A):
  ∃n r,nT C (jN C cF n) (dV ρ A) o fr (c6 ρ ps) st=some r/\OR' Φ ρ σ.length J r:=by
 unfold L7 at p;have q:=PQ h.real (gF h.tm) p;cases q with
 |val g=>
  obtain⟨v,oK,du,dk,dC,a,b,k3,y,T⟩:=g;have h':=h.move b k3;obtain⟨r,e1,e2⟩:=Cj (Φ0:=Φ) (ρ0:=ρ) (m0:=σ.length) b a h' y;refine⟨0,r,?_,e2⟩;unfold nT;rw[T];simp only;rw[(b.ps h.ps).1]at e1;exact e1
 |eH v a b k3=>
  refine⟨0,.eH (erase ρ v) fr (c6 ρ ps) st,?_,.eH v Φ ρ σ st tm df ps fr a (.refl _ _ _) h b Z⟩;unfold nT;rw[k3]
 |enter f e a b k3=>
  obtain⟨n,r,z,dC,du,dk,oK,e1,e2,e3,e4,e5⟩:=a.go Φ ρ st h.real b;exact Yr
 |yield l e a u b k3=>
  obtain⟨n,r,dC,du,dk,oK,e1,e2,e3,e4,e5⟩:=a.go Φ ρ st h.real b u;exact Yr
 |recover a k3=>
  dsimp only at a;split at a
  ·exact a.elim
  ·rename_i d;split at a
   ·rename_i v I;have g:e9 Φ σ.length v:=h.ps;have h':SR Φ ρ σ st tm df .rD fr:=⟨h.real,h.tm,h.df,tv⟩;obtain⟨r,g1,g2⟩:=Cj (Φ0:=Φ) (ρ0:=ρ) (m0:=σ.length) (.refl _ _ _) a h' g;refine⟨0,r,?_,g2⟩;unfold nT;rw[k3];simp only[dV,d,agI,I,c6];exact g1
   ·rename_i i;obtain⟨r,g1,g2⟩:=Cj (Φ0:=Φ) (ρ0:=ρ) (m0:=σ.length) (.refl _ _ _) a h (.d .yx);refine⟨0,r,?_,g2⟩;unfold nT;rw[k3];simp only[dV,d,agI];split
    ·rename_i v e1 e2;exfalso;have:∀D:lJ,c6 ρ D=.gg v->∃t,D=.gg t:=fun D s=>by
      cases D with
      |gg t=>exact⟨t,rfl⟩
      |none=>cases s
      |rD=>cases s
     obtain⟨t,V⟩:=this _ e2;exact i t e1 V
    ·exact g1
 |defer x a b k3=>
  dsimp only at a;split at a
  ·exact a.elim
  ·rename_i d;obtain⟨j,c,S,M,w,P⟩:=rR (fr:={fr with df:=jq ρ x::fr.df}) a h.tm (x9 (Φ:=Φ) (m:=σ.length));have k:CN Φ ρ σ.length (x::df) c.df:=by
    rw[P];refine⟨by simp only[agF];rw[h.df.1],fun B hx=>?_⟩;rcases ags.1 hx with rfl|hx
    ·exact b
    ·exact h.df.2 B hx
   refine⟨0,_,?_,.next Φ ρ σ st j (x::df) ps c S (.refl _ _ _) ⟨h.real,w,k,h.ps⟩ Z⟩;unfold nT;rw[k3];simp only[dV,d,agI,AK.go];have:gV A.nt {fr with df:=jq ρ x::fr.df} o.dst lr=some c:=M;rw[this]
theorem nr{o:Oper}{i:Prop}(a:A0 z B o X i)(j:gK Φ ρ m B G.tm):(gC z G o=some true/\X)∨(gC z G o=some false/\i):=by
 unfold A0 at a;split at a
 ·rename_i c;exact .inl ⟨by simp only[gC,c],a⟩
 ·rename_i p f c;split at a
  ·exact a.elim
  ·rename_i k e;split at a
   ·exact a.elim
   ·rename_i n d;split at a
    ·rename_i b g;have h:=(j _ _ g).1;cases f with
     |true=>
      cases b with
      |true=>exact .inl ⟨by simp only[gC,c,e,d,h,erase,cz],a⟩
      |false=>exact .inr ⟨by simp only[gC,c,e,d,h,erase,cz],a⟩
     |false=>
      cases b with
      |true=>exact .inr ⟨by simp only[gC,c,e,d,h,erase,cz],a⟩
      |false=>exact .inl ⟨by simp only[gC,c,e,d,h,erase,cz],a⟩
    ·rename_i l g;have h:=(j _ _ g).1;exact .inr ⟨by simp only[gC,c,e,d,h,erase],a⟩
    ·exact a.elim
theorem wM{o:Oper}(a:BX C cF A z o B w y σ J)(i:SR Φ ρ σ st B w y G)(f:xB σ.length A):
  ∃g b,kg C (jN C cF g) (dV ρ A) z o G (c6 ρ y) st=some b/\OR' Φ ρ σ.length J b:=by
 unfold BX at a;rcases nr a i.tm with⟨j,a⟩|⟨j,a⟩
 ·obtain⟨g,b,e,c⟩:=Hh a i f;exact⟨g,b,by simp only[kg,j];exact e,c⟩
 ·obtain⟨b,h,d⟩:=Cj (Φ0:=Φ) (ρ0:=ρ) (m0:=σ.length) (.refl _ _ _) a i x9;exact⟨0,b,by simp only[kg,j];exact h,d⟩
def S6(Φ:Fz)(ρ:Nat->Nat)(m:Nat)(h:Bu->Tm->List fq->lJ->VS->Prop)(i:Ex×Fr×dW×St):Prop:=
 ∃du dk a b g e d c f,h g e d c a/\iJ Φ ρ m du dk a.length/\SR du dk a b e d c f/\PT du a.length g/\i=(ek dk g,f,c6 dk c,b)
theorem S6.after{a:Fz}{b M:Nat}{o:Ex×Fr×dW×St}(m:iJ a Q b Φ ρ M)(r:S6 Φ ρ b q o):S6 a Q b q o:=by
 obtain⟨du,dk,d,c,p,n,e,g,k,i,f,l,h,j⟩:=r;exact⟨du,dk,d,c,p,n,e,g,k,i,m.then f (agp _),l,h,j⟩
theorem Ey:∀(l:List Oper) {Φ:Fz} {ρ:Nat->Nat} {σ:VS} {st:St} {j:Tm} {c:List fq} {b:lJ} {D:Bu->Tm->List fq->lJ->VS->Prop},
  BY C cF A z l j c b σ D->∀{e:Fr},SR Φ ρ σ st j c b e->xB σ.length A->
  ∃t I,pC C (jN C cF t) (dV ρ A) z l e (c6 ρ b) st=some I/\S6 Φ ρ A.fl D I:=by
 intro l;induction l with
 |nil=>
  intro Φ ρ σ st j c b D d e V a;exact⟨0,_,Z,Φ,ρ,σ,st,.norm,j,c,b,e,d,(iJ.refl _ _ _).weaken a.2,V,tv,Z⟩
 |cons w l q=>
  intro Φ ρ σ st j c b D d e V a;rw[Hb]at d;unfold CX at d;obtain⟨t,I,v,P⟩:=wM d V a;cases P with
  |next du dk m f k n g h o i r s=>
   subst s;obtain⟨p,M,x,S⟩:=q o r (i.fc a).2;refine⟨max t p,M,?_,S.after (i.weaken a.2)⟩;unfold pC;rw[qH (hG (agt t p)) v];simp only;rw[(i.fc a).1]at x;exact AZ (hG (agr t p)) _ x
  |eH u du dk m f k n g h o i r s T=>
   subst T;refine⟨t,(.panic (erase dk u),h,c6 dk g,f),?_,du,dk,m,f,.panic u,k,n,g,h,o,i.weaken a.2,r,s,Z⟩;unfold pC;rw[v]
end
theorem Jx(k:IntKind):tY k k=true:=by cases k<;>rfl
mutual
theorem mY(ρ:Nat->Nat):∀v:V,nV (erase ρ v) (erase ρ v)=true
 |.d x=>by
  cases x<;>simp only[erase,cz,nV,addrEq,agm,ago]
  ·simp
  ·rw[Jx,pk];simp
  ·rw[vL];simp
 |.bp i f=>by simp only[erase,nV,addrEq,agm,ago]
 |.ptr i es k f=>by simp only[erase,nV,addrEq,agm,ago]
 |.fp b off cs=>by simp only[erase,nV,addrEq,agm,ago]
 |.ms i es k len cap=>by simp only[erase,nV,addrEq,agm,ago]
 |.map i=>by simp only[erase,nV,agm]
 |.fn f a c=>by simp only[erase,nV,Sm,agm,mX ρ a,mX ρ c,ago]
 |.tR l=>by simp only[erase,nV,Sm,agm];rfl
 |.iface t v=>by simp only[erase,nV,agm,mY ρ v,ago]
 |.agg l=>by simp only[erase,nV,mX ρ l]
 |.dS l=>by simp only[erase,nV,mX ρ l]
theorem mX(ρ:Nat->Nat):∀l:List V,zO (cl ρ l) (cl ρ l)=true
 |[]=>by simp only[cl,zO]
 |v::l=>by simp only[cl,zO,mY ρ v,mX ρ l,ago]
end
variable{O:List (List V)} {Y:Op} {U:cN} {W:Bool} {H:List Nat}
section
variable{C:dR} {cF:ql} {Φ du:Fz} {ρ dk:Nat->Nat} {σ:VS} {st:St} {m m':Nat}
theorem jh.acA{es:Nat}(b:jh Φ m es O)(a:iJ Φ ρ m du dk m'):jh du m' es O:=b.mono a.le a.len
theorem pN.mono(a:pN Φ m Y U)(b:iJ Φ ρ m du dk m'):pN du m' Y U:=by
 unfold pN at a⊢;split at a
 ·exact⟨b.N1 a.1,a.2⟩
 ·exact a
 ·exact⟨b.N1 a.1,a.2⟩
 ·exact a
 ·exact⟨a.1.acA b,a.2⟩
 ·exact a.elim
theorem qn(b:pN Φ m Y U)(a:iJ Φ ρ m du dk m')(n:Nat):iP Y U dk n=iP Y U ρ n:=by
 unfold pN at b;split at b
 ·simp only[iP,a.cl b.1]
 ·subst b;rfl
 ·simp only[iP,a.cl b.1]
 ·rfl
 ·simp only[iP,a.cl (G3 b.1.ok)]
 ·exact b.elim
inductive lA (Φ:Fz) (ρ:Nat->Nat) (m:Nat) (ops:List Oper) (st:St):mi->tJ->Prop
 |val {i:Nat} {v:V} {o:Oper} (ho:nth ops i=some o) (hm:gh o.op=false) (hv:e9 Φ m v):lA Φ ρ m ops st (.val i v) (.val i (erase ρ v))
 |obj {i:Nat} {v:V} {ob:cN} {j:Option Nat} {o:Oper} {bl:Nat} {a:fX} (ho:nth ops i=some o) (hm:gh o.op=true) (hv:e9 Φ m v) (hk:pN Φ m o.op ob)
   (hmo:iP o.op ob ρ bl=some (erase ρ v,a)) (hj:match j with|some j=>j<m/\ρ j=bl/\nk o.op=false|none=>Φ bl=some a) (hoe:yd a a=true):lA Φ ρ m ops st (.obj i v ob j) (.obj i (erase ρ v) bl a)
 |skip {i:Nat}:lA Φ ρ m ops st (.skip i) (.skip i)
 |fresh {i:Nat} {v:V} {ob:cN} {j:Nat} {o:Oper} {bl:Nat} {a:fX} (ho:nth ops i=some o) (hm:gh o.op=true) (hv:e9 Φ m v) (hk:pN Φ m o.op ob)
   (hmo:iP o.op ob ρ bl=some (erase ρ v,a)) (hg:st.get bl=some a) (hl:bl<st.n) (hoe:yd a a=true):lA Φ ρ m ops st (.fresh i v ob j) (.obj i (erase ρ v) bl a)
 |never {i:Nat} {c:tJ} (h:c.idx=i):lA Φ ρ m ops st (.never i) c
theorem lA.mono{e:List Oper}{st d:St}{c:mi}{g:tJ}(h:lA Φ ρ m e st c g)(hs:iJ Φ ρ m du dk m')(l:∀b,b<st.n->d.get b=st.get b)(n:st.n<=d.n):lA du dk m' e d c g:=by
 cases h with
 |val ho hm hv=>rw[<-hs.erase hv];exact .val ho hm (hs.ok hv)
 |obj ho hm hv hk hmo hj hoe=>
  exact Nr
 |skip=>exact .skip
 |fresh ho hm hv hk hmo k f hoe=>
  rw[<-hs.erase hv];exact .fresh ho hm (hs.ok hv) (hk.mono hs) (by rw[qn hk hs,hmo,hs.erase hv]) (by rw[l _ f];exact k) (agR f n) hoe
 |never h=>exact .never h
theorem lA.Md{st d:St}{c:mi}{b:tJ}(e:lA Φ ρ m z st c b)(hs:iJ Φ ρ m du dk m'):lA du dk m' z d (Hc c) b:=by
 cases e with
 |val ho hm hv=>rw[<-hs.erase hv];exact .val ho hm (hs.ok hv)
 |obj ho hm hv hk hmo hj hoe=>
  exact Nr
 |skip=>exact .skip
 |fresh ho hm hv hk hmo g f hoe=>exact .never rfl
 |never e=>exact .never e
theorem sx(b:gK Φ ρ m B G.tm){c:V}(a:PU B K c):AL G K (erase ρ c)=true:=by
 unfold PU at a;split at a
 ·rfl
 ·simp only[AL,(b _ _ a).1,mY]
theorem A3{d:Value}{b:fX}(a:iP Y U ρ N=some (d,b))(c:aep U=false):yd b b=true:=by
 unfold iP at a;split at a<;>first|(cases c;done)|cases a|skip
 ·exact X3
 ·exact X3
 ·rfl
 ·exact X3
theorem Me(c:Real Φ ρ σ st){g:Value}{f:fX}(a:iP Y U ρ (ρ N)=some (g,f))(d:pN Φ m Y U)(e:nk Y=false)(b:nth σ N=some U):st.get (ρ N)=some f:=by
 rw[ck]at b;unfold iP at a;split at a
 ·cases a;exact(c.obj N _ b rfl).1.1.1
 ·cases a;exact(c.obj N _ b rfl).1
 ·cases a;exact(c.obj N _ b rfl).1.1.1
 ·obtain⟨rfl,rfl⟩:=d;cases a;exact(c.obj N _ b Z).1.1
 ·cases e
 ·cases a
theorem Ez(h:Real Φ ρ σ st)(e:gK Φ ρ σ.length B G.tm){c:mi}{D:tJ}(A:lA Φ ρ σ.length z st c D)(a:vM C z B σ c):pD C z G st D=true:=by
 cases A with
 |val d o P=>
  unfold vM at a;simp only[d]at a;rcases nr a e with⟨v,g,m⟩|⟨_,j⟩
  ·obtain⟨K,rfl,_,y⟩:=np h (gF e) m;simp only[pD,d,v,isSome,o,sx e g,y,mY,agm];rfl
  ·exact j.elim
 |obj d o P r k S p=>
  rename_i i F w V E b x;unfold vM at a;simp only[d]at a;rcases nr a e with⟨v,g,m,M⟩|⟨_,j⟩
  ·obtain⟨_,l⟩:=qG (gF e) m;obtain⟨J,u,n,s⟩:=l ⟨.nil,b,.nil⟩;rw[show(⟨.nil,b,.nil⟩:St).n=b from rfl,k]at n;cases n;have t:st.get b=some x:=by
    cases V with
    |some V=>
     obtain⟨_,T,I⟩:=S;subst T;exact Me h k r I M
    |none=>exact h.fz _ _ S
   have f:((⟨.nil,b,.nil⟩:St).new x).get b=some x:=by rw[dm];exact if_pos rfl
   simp only[pD,d,v,isSome,o,sx e g,t,s,mY,p,f,ago]
  ·exact j.elim
 |fresh d o P r k q H p=>
  rename_i i F w V E b x;unfold vM at a;simp only[d]at a;rcases nr a e with⟨v,g,m,M⟩|⟨_,j⟩
  ·obtain⟨_,l⟩:=qG (gF e) m;obtain⟨J,u,n,s⟩:=l ⟨.nil,b,.nil⟩;rw[show(⟨.nil,b,.nil⟩:St).n=b from rfl,k]at n;cases n;have f:((⟨.nil,b,.nil⟩:St).new x).get b=some x:=by rw[dm];exact if_pos rfl
   simp only[pD,d,v,isSome,o,sx e g,q,s,mY,p,f,ago]
  ·exact j.elim
 |never h=>exact a.elim
 |skip=>
  rename_i i;unfold vM at a;cases d:nth z i with
  |none=>simp only[d]at a
  |some E=>
   simp only[d]at a;rcases nr a e with⟨_,j⟩|⟨v,g⟩
   ·exact j.elim
   ·have:=sx (ρ:=ρ) e g;simp only[pD,d,v,isSome];exact this
inductive mj (Φ:Fz) (ρ:Nat->Nat) (m:Nat) (ops:List Oper) (st:St):List mi->List tJ->Prop
 |nil:mj Φ ρ m ops st [] []
 |cons {c:mi} {c':tJ} {l:List mi} {l':List tJ} (h:lA Φ ρ m ops st c c') (t:mj Φ ρ m ops st l l'):mj Φ ρ m ops st (c::l) (c'::l')
theorem mj.mono{c:List Oper}{st a:St}{l:List mi}{d:List tJ}(e:mj Φ ρ m c st l d)(g:iJ Φ ρ m du dk m')(h:∀b,b<st.n->a.get b=st.get b)(i:st.n<=a.n):mj du dk m' c a l d:=by
 induction e with
 |nil=>exact .nil
 |cons e _ f=>exact .cons (e.mono g h i) f
theorem mj.Md{a:List Oper}{st c:St}{l:List mi}{b:List tJ}(d:mj Φ ρ m a st l b)(f:iJ Φ ρ m du dk m'):mj du dk m' a c (yF l) b:=by
 induction d with
 |nil=>exact .nil
 |cons d _ e=>rw[Ev];exact .cons (d.Md f) e
theorem V6{st:St}{c:mi}{a:tJ}(b:lA Φ ρ m z st c a):a.idx=c.idx:=by cases b<;>first|rfl|assumption
theorem uE(h:Real Φ ρ σ st)(f:gK Φ ρ σ.length B G.tm){b:Nat}{l:List mi}{e:List tJ}(c:mj Φ ρ σ.length z st l e)(a:rO C z B σ b l):o7 C z G st b e=true:=by
 induction c with
 |nil=>rfl
 |cons c _ d=>
  unfold rO at a;unfold o7;rw[V6 c];split at a
  ·rename_i g;rw[Hd]at g;rw[g,d a];rfl
  ·rename_i g;rw[Ez h f c a.1,d a.2,ag0];rfl
theorem PV(e t:Nat):∀a:Tm,gm (rP e a) t=if t=e then none else gm a t:=by
 intro a;induction a with
 |nil=>simp[rP,gm]
 |cons f a c=>
  obtain⟨k,g⟩:=f;unfold rP;split
  ·rename_i d;have:=agK d;subst this;rw[c,lM];by_cases b:t=k
   ·rw[if_pos b,if_pos b]
   ·rw[if_neg b,if_neg b,if_neg b]
  ·rename_i d;rw[lM,c,lM];by_cases b:t=k
   ·subst b;rw[if_pos rfl,if_pos rfl,if_neg];intro b;subst b;rw[agm]at d;cases d
   ·rw[if_neg b,if_neg b]
theorem gK.del{t:Tr Value}(d:gK Φ ρ m B t)(b:Nat):gK Φ ρ m (rP b B) (t.put b none):=by
 intro i c a;rw[PV]at a;rw[cY];split at a
 ·cases a
 ·rename_i e;rw[if_neg e];exact d i c a
theorem gK.erase(a:List Oper):∀{b:Tm} {e:Tr Value},gK Φ ρ m b e->gK Φ ρ m (nq a b) (pj a e):=by
 induction a with
 |nil=>intro b e d;exact d
 |cons f a c=>
  intro b e d;unfold nq;simp only[pj,List.foldl_cons];cases g:f.dst with
  |none=>exact c d
  |some h=>
   simp only;cases i:gb f.op with
   |true=>exact c d
   |false=>exact c (d.del h)
theorem Jy(h:Real Φ ρ σ st){G:Operand->Option V}{T:Operand->Option Value}(Y:oL Φ ρ σ.length G T){i:Nat}{o:Oper}(A:nth z i=some o)(t:gh o.op=true) 
  {k:V->mi->VS->Prop} (b:L8 C W G o.op i σ k):
  ∃w ab e du dk M,k w ab e/\iJ Φ ρ σ.length du dk e.length/\Real du dk e (st.new M)/\e9 du e.length w/\j8 C T o st=some (.val (erase dk w) (st.new M))/\
   lA du dk e.length z (st.new M) ab (.obj i (erase dk w) st.n M):=by
 unfold L8 at b;split at b
 ·rename_i D J;obtain⟨hm,F⟩:=qG Y J;obtain⟨w,M,h1,q⟩:=F st;split at b
  ·exact b.elim
  rename_i P;have x:=A3 h1 P;have m:=la Φ ρ σ.length st.n;have Gg:jM ρ σ.length st.n σ.length=st.n:=if_pos rfl;split at b
  ·rename_i S;have d:=jK b;clear b;obtain⟨Q,h3,y⟩:=cA d;clear d;have a:(σ++[D]).length=σ.length+1:=by simp
   cases gT:o.op with
   |buildSlice ac j X=>
    cases D with
    |row r f=>
     rw[gT]at h1 h3 hm;cases h1;cases h3;refine⟨_,_,_,Φ,_,_,y,by rw[a];exact m,h.newRow hm.1,by rw[a];exact .ms om,by rw[q];simp only[erase,Gg,Nat.zero_mul],?_⟩;have g:pN Φ σ.length o.op (.row r f):=by rw[gT];exact hm
     have s:iP o.op (.row r f) ρ st.n=some (.slice (some ⟨st.n,0,none⟩) j j,.cells (cl ρ f.flatten) r st.n 0):=by rw[gT];rfl
     refine .fresh A t (by rw[a];exact .ms om) (by rw[a];exact g.mono m) ?_ (by rw[dm,if_pos rfl]) (Nat.lt_succ_self _) x;rw[qn g m,s];simp only[erase,Gg,Nat.zero_mul]
    |_=>rw[gT]at h1;cases h1
   |_=>rw[gT]at S;simp[yG,nk]at S
  split at b
  ·rename_i c;split at b
   ·rename_i r f;split at b
    ·rename_i l B;cases gT:o.op with
     |buildSlice ac j X=>
      have s:=h1;have g:=hm;rw[gT]at h1 hm;cases h1;obtain⟨n,p⟩:=hm;have aa:=n;rw[fQ B]at n;obtain⟨U,L,E⟩:=h.N5 n;have I:l.length=j:=by rw[<-p,fQ B,agB]
      have v:cl ρ f.flatten=l.flatten.map cz:=by rw[fQ B,uD]
      refine⟨_,_,σ,_,ρ,.cells (l.flatten.map cz) r st.n 0,b st.n,L,U,.d (E _),?_,.obj A t (.d (E _)) (g.mono L) ?_ (if_pos Z) (by rw[<-v];exact x)⟩
      ·rw[q];simp only[erase,cz,I,v]
      ·rw[s];simp only[erase,cz,I,v]
     |_=>rw[gT]at c;cases c
    ·exact b.elim
   ·exact b.elim
  ·rename_i c;have d:=jK b;clear b;obtain⟨Q,h3,y⟩:=cA d;clear d;have a:∀o:cN,(σ++[o]).length=σ.length+1:=fun o=>by simp
   have u:jM ρ σ.length st.n σ.length=st.n:=Gg;have O:iP o.op D (jM ρ σ.length st.n) st.n=some (w,M):=by rw[qn hm m];exact h1
   have K:Real Φ (jM ρ σ.length st.n) (σ++[D]) (st.new M)/\e9 Φ (σ.length+1) Q/\erase (jM ρ σ.length st.n) Q=w:=by
    unfold iP at h1;split at h1
    ·exact abV
    ·cases P
    ·exact abV
    ·rename_i gT;rw[gT]at h3 hm;obtain⟨rfl,rfl⟩:=hm;cases h1;cases h3;exact⟨h.new trivial ⟨by rw[dm,if_pos rfl];rfl,fun _ h=>by simp at h⟩,.map om,by simp only[erase,Gg]⟩
    ·rename_i gT;rw[gT]at c;cases c
    ·cases h1
   obtain⟨R,N,H⟩:=K;have p:=hm.mono m;refine⟨Q,_,_,Φ,_,M,y,by rw[a];exact m,R,by rw[a];exact N,by rw[q,H],?_⟩;rw[a];exact .obj A t N p (by rw[O,H]) ⟨om,u,by simpa using c⟩ x
 ·exact b.elim
theorem CZ:∀(l:List Nat) {b:Nat} {o:List mi} {f:List tJ} {Φ:Fz} {ρ:Nat->Nat} {σ:VS} {st:St} {tm:Tm} {r:List fq} {k:lJ} {U:Bu->Tm->List fq->lJ->VS->Prop},
  yH C cF A z H l b o tm r k σ U->∀{p:Fr},SR Φ ρ σ st tm r k p->xB σ.length A->mj Φ ρ σ.length z st o f->
  ∃O X,eM C (jN C cF O) (dV ρ A) z H l b f p (c6 ρ k) st=some X/\S6 Φ ρ A.fl U X:=by
 intro l;induction l with
 |nil=>
  intro b o f Φ ρ σ st tm r k U c p h e T;refine⟨0,(.norm,p,c6 ρ k,st),?_,Φ,ρ,σ,st,.norm,tm,r,k,p,c.2,(iJ.refl _ _ _).weaken e.2,h,tv,Z⟩;unfold eM;rw[uE h.real h.tm T c.1]
 |cons i l F=>
  intro b o f Φ ρ σ st tm r k U c p h e T;rw[Ew]at c;unfold Ae at c;split at c
  ·rename_i ab ae S t;split at c
   ·rename_i q;have G:=uE h.real h.tm T c.1;obtain⟨O,X,Q,Y⟩:=wM c.2 h e;cases Y with
    |next du dk V w g J y a I d j B=>
     subst B;obtain⟨n,M,x,P⟩:=F I j (d.fc e).2 (T.Md d);refine⟨max O n,M,?_,P.after (d.weaken e.2)⟩;unfold eM;simp only[S,t,q,G];rw[qH (hG (agt O n)) Q];simp only;rw[(d.fc e).1]at x;exact yD (hG (agr O n)) _ x
    |eH N du dk V w g J y a I d j B L=>
     subst L;refine⟨O,(.panic (erase dk N),{a with tm:=pj z a.tm},c6 dk y,w),?_,du,dk,V,w,.panic N,_,J,y,{a with tm:=pj z a.tm},I,d.weaken e.2,⟨j.real,j.tm.erase z,j.df,j.ps⟩,B,Z⟩;unfold eM;simp only[S,t,q,G,Q]
   ·rename_i q;rcases nr c h.tm with⟨W,c⟩|⟨W,c⟩
    ·split at c
     ·rename_i D;obtain⟨N,af,V,du,dk,aa,I,d,j,B,L,ac⟩:=Jy h.real (gF h.tm) S D c;have K:=h.move d j;obtain⟨g,a,x,P,E,u⟩:=rR I K.tm B;have s:SR du dk V (st.new aa) g r k a:=⟨j,E,by rw[u];exact K.df,K.ps⟩;obtain⟨n,M,q1,q2⟩:=F x s (d.fc e).2 (.cons ac (T.mono d (fun b ad=>by rw[dm,if_neg om]) (Nat.le_succ _)));refine⟨n,M,?_,q2.after (d.weaken e.2)⟩;unfold eM;have R:(st.new aa).get st.n=some aa:=by rw[dm,if_pos rfl]
      rw[(d.fc e).1,(d.ps h.ps).1]at q1;simp only[S,t,q,W,L];have v:gV (dV ρ A).nt p ab.dst (erase dk N)=some a:=P;simp only[v,D,R];exact q1
     ·rename_i D;obtain⟨N,I,d,j⟩:=np h.real (gF h.tm) c;obtain⟨g,a,x,P,E,u⟩:=rR I h.tm d;have s:SR Φ ρ σ st g r k a:=⟨h.real,E,by rw[u];exact h.df,h.ps⟩;obtain⟨n,M,q1,q2⟩:=F x s e (.cons (.val S D d) T);refine⟨n,M,?_,q2⟩;unfold eM;have v:gV (dV ρ A).nt p ab.dst (erase ρ N)=some a:=P;simp only[S,t,q,W,j,v,D,agm];exact q1
    ·obtain⟨g,a,x,P,E,u⟩:=rR c h.tm (x9 (Φ:=Φ) (m:=σ.length));have s:SR Φ ρ σ st g r k a:=⟨h.real,E,by rw[u];exact h.df,h.ps⟩;obtain⟨n,M,q1,q2⟩:=F x s e (.cons .skip T);refine⟨n,M,?_,q2⟩;unfold eM;have v:gV (dV ρ A).nt p ab.dst lr=some a:=P;simp only[S,t,q,W,v];exact q1
  ·exact c.elim
end
section
variable{C:dR} {cF:ql} {Φ du:Fz} {ρ dk:Nat->Nat} {σ:VS} {st:St} {m m':Nat}
theorem VB{t:TypeId}{b i c:Value}{st:St}(h:gv C t b i st=some (.val c st))(a:St):gv C t b i a=some (.val c a):=by
 unfold gv at h⊢;split at h
 ·exact aeD
 ·exact aeD
 ·cases h
theorem Hi{fc:uw}{a H L:Oper}(d:L9 C fc.nt a H L B w y σ q)(h:SR Φ ρ σ st B w y G)(X:xB σ.length fc):
  ∃au,ID C (dV ρ fc) a H L G (c6 ρ y) st=some au/\S6 Φ ρ fc.fl q au:=by
 unfold L9 at d;split at d
 ·rename_i Q t1 aF aD t2 aC aG ad E I F z hia;obtain⟨ax,af,R,k3⟩:=np h.real (gF h.tm) d;obtain⟨N,c,M,ah,n,ab⟩:=rR af h.tm R;obtain⟨aI,U,S⟩:=cA M;obtain⟨aB,aa,D⟩:=cA S;obtain⟨aA,aj,s⟩:=cA D;obtain⟨aH,ae,l⟩:=cA s;clear M S D s;obtain⟨f1,V⟩:=gF n _ _ U;obtain⟨f2,T⟩:=gF n _ _ aa;have b:gK Φ ρ σ.length (rP Q B) (⟨G.tm.put Q none,G.df⟩:Fr).tm:=h.tm.del Q;obtain⟨f3,v⟩:=gF b _ _ aj;obtain⟨f4,O⟩:=gF b _ _ ae;split at l
  ·rename_i i1 al aq az i2 ar;obtain⟨hA,hB⟩:=l;obtain⟨ao,av,q1,q2,q3,q4,aE⟩:=l5 h.real V T hB;obtain⟨J,j,ag,m,W,w4,aJ⟩:=l5 q3 (by rw[q2];exact v) (by rw[q2];exact O) q1;obtain⟨ai,RW,P,k,p,q4',ay⟩:=l5 h.real v O hA;obtain⟨Y,ac,am,aw,ak,w4',an⟩:=l5 p (by rw[k];exact V) (by rw[k];exact T) P;have g:∃u els,σ[i1]?=some (.row u els):=by
    exact w5
   have f:∃cs,σ[i2]?=some (.box cs):=by
    exact X9
   obtain⟨u,els,If⟩:=g;obtain⟨cs,RD⟩:=f;have o:i1≠i2:=fun e=>by subst e;rw[If]at RD;cases RD
   have aaa:ρ i1≠ρ i2:=fun e=>o (h.real.inj _ _ _ _ If RD rfl rfl e);obtain⟨_,fm1,ap,hg1⟩:=sf h.real If;obtain⟨⟨⟨hg2,Bn⟩,_⟩,_⟩:=h.real.obj i2 _ RD rfl;have adx:ρ i2≠fm1:=fun e=>by
    exact YU
   have hap:apart st (ρ i1) (ρ i2)=true:=by
    exact q5
   have Y4:j8 C (jy G) a RW=some (.val (erase ρ ax) RW):=by
    exact Y3
   have r:(gb a.op||gh a.op)=false:=by
    cases K:a.op with
    |indexAddr t x i=>rfl
    |_=>rw[K]at hia;cases hia
   have A:gV (dV ρ fc).nt G (some Q) (erase ρ ax)=some c:=ah;refine⟨(.norm,c,c6 ρ y,j),?_,Φ,ρ,J,j,.norm,N,w,y,c,ag,⟨Fz.le_refl _,fun _ _=>Z,by have:=X.2;omega⟩,⟨W,?_,?_,?_⟩,tv,Z⟩
   ·unfold ID;simp only[ad,E,I,F,z,r,k3,agm,A,f1,f2,f3,f4,erase];exact ab8
   ·rw[m,q2];exact n
   ·rw[m,q2,ab];exact h.df
   ·rw[m,q2];exact h.ps
  ·exact l.elim
 ·exact d.elim
theorem Hj{fc:uw}{a ac f af:Oper}(b:Ma C fc.nt a ac f af B w y σ q)(h:SR Φ ρ σ st B w y G)(ao:xB σ.length fc):
  ∃aM,IE C (dV ρ fc) a ac f af G (c6 ρ y) st=some aM/\S6 Φ ρ fc.fl q aM:=by
 unfold Ma at b;split at b
 ·rename_i g e aw aa J E;split at b
  ·rename_i t1 aW aU av aB ak t2 aT aX ab r W hia;split at b
   ·rename_i p F ah;have ap:g≠e:=Nat.ne_of_beq_eq_false p;have j:gK Φ ρ σ.length (rP e B) (⟨G.tm.put e none,G.df⟩:Fr).tm:=h.tm.del e;have d:gK Φ ρ σ.length (rP g B) (⟨G.tm.put g none,G.df⟩:Fr).tm:=h.tm.del g;obtain⟨v,az,H,k3⟩:=np h.real (gF j) b;obtain⟨c,ay,Y,k⟩:=np h.real (gF d) az;have N:gK Φ ρ σ.length ((g,v)::rP e B) (⟨(G.tm.put e none).set g (erase ρ v),G.df⟩:Fr).tm:=j.set H;have ag:gK Φ ρ σ.length ((e,c)::rP g B) (⟨(G.tm.put g none).set e (erase ρ c),G.df⟩:Fr).tm:=d.set Y;obtain⟨ba,aj,O⟩:=cA ay;obtain⟨aS,ar,A⟩:=cA O;obtain⟨aR,aD,u⟩:=cA A;obtain⟨aY,ax,I⟩:=cA u;clear O A u;obtain⟨f1,R⟩:=gF N _ _ aj;obtain⟨f2,Q⟩:=gF N _ _ ar;obtain⟨f3,z⟩:=gF ag _ _ aD;obtain⟨f4,ai⟩:=gF ag _ _ ax;split at I
    ·rename_i i1 aF aK aQ i2 aL;obtain⟨hA,hB⟩:=I;obtain⟨aI,aN,q1,q2,q3,q4,aV⟩:=l5 h.real R Q hB;obtain⟨ad,o,aA,P,am,w4,bb⟩:=l5 q3 (by rw[q2];exact z) (by rw[q2];exact ai) q1;obtain⟨aC,RW,K,s,T,q4',aP⟩:=l5 h.real z ai hA;obtain⟨aq,au,aG,aO,aE,w4',aH⟩:=l5 T (by rw[s];exact R) (by rw[s];exact Q) K;have n:∃U els,σ[i1]?=some (.row U els):=by
      exact w5
     have m:∃cs,σ[i2]?=some (.box cs):=by
      exact X9
     obtain⟨U,els,If⟩:=n;obtain⟨cs,RD⟩:=m;have S:i1≠i2:=fun e=>by subst e;rw[If]at RD;cases RD
     have aaa:ρ i1≠ρ i2:=fun e=>S (h.real.inj _ _ _ _ If RD rfl rfl e);obtain⟨_,fm1,aJ,hg1⟩:=sf h.real If;obtain⟨⟨⟨hg2,Bn⟩,_⟩,_⟩:=h.real.obj i2 _ RD rfl;have adx:ρ i2≠fm1:=fun e=>by
      exact YU
     have hap:apart st (ρ i1) (ρ i2)=true:=by
      exact q5
     have Y4:j8 C (jy ⟨G.tm.put e none,G.df⟩) a RW=some (.val (erase ρ v) RW):=by
      exact Y3
     have V:(gb a.op||gh a.op)=false:=by
      cases ae:a.op with
      |indexAddr t x i=>rfl
      |_=>rw[ae]at hia;cases hia
     obtain⟨l,an,al⟩:∃l,jy ⟨G.tm.put g none,G.df⟩ aB=some l/\fI C av l ak st=some (.val (erase ρ c) st):=by
      unfold j8 at k;rw[r]at k;simp only at k;split at k
      ·rename_i l L;exact⟨l,L,k⟩
      ·cases k
     have X:agz g (dV ρ fc).nt=true:=F;have M:agz e (dV ρ fc).nt=true:=ah;have D:gK Φ ρ σ.length ((e,c)::(g,v)::B) (⟨(G.tm.set g (erase ρ v)).set e (erase ρ c),G.df⟩:Fr).tm:=(h.tm.set H).set Y;refine⟨(.norm,⟨(G.tm.set g (erase ρ v)).set e (erase ρ c),G.df⟩,c6 ρ y,o),?_,Φ,ρ,ad,o,.norm,(e,c)::(g,v)::B,w,y,_,aA,⟨Fz.le_refl _,fun _ _=>Z,by have:=ao.2;omega⟩,⟨am,?_,?_,?_⟩,tv,Z⟩
     ·unfold IE;simp only[aw,aa,E,J,ab,r,W,V,p,k3,an,al,agm,X,M,f1,f2,f3,f4,erase,ago];exact ab8
     ·rw[P,q2];exact D
     ·rw[P,q2];exact h.df
     ·rw[P,q2];exact h.ps
    ·exact I.elim
   ·exact b.elim
  ·exact b.elim
 ·exact b.elim
theorem EA{s:Array Oper}(r:He C cF A s W B w y σ q)(H:SR Φ ρ σ st B w y G)(p:xB σ.length A):
  ∃D I,region C (jN C cF D) (dV ρ A) s W G (c6 ρ y) st=some I/\S6 Φ ρ A.fl q I:=by
 unfold He at r;split at r
 ·exact Ey _ r H p
 ·split at r;rename_i L m T o;obtain⟨D,I,n,u⟩:=CZ _ r H p .nil;obtain⟨du,dk,h,e,O,d,j,g,i,a,c,l,F,rfl⟩:=u;cases O with
  |norm=>
   simp only at a;cases x:agL m s.toList.length with
   |true=>
    rw[x]at a;refine⟨D,_,?_,du,dk,h,e,.norm,d,j,g,i,a,c,l,tv,Z⟩;unfold region;simp only[o,n,ek,x]
   |false=>
    rw[x]at a;simp only at a;split at a
    ·rename_i J E z V v M;split at a
     ·rename_i b;rw[Hd]at b;obtain⟨I,t,P⟩:=Hi (fc:=A) a l (c.Mc p).2;refine⟨D,I,?_,P.after c⟩;rw[(c.Mc p).1]at t;unfold region;simp only[o,n,ek,x,v,M,b,t]
     ·exact a.elim
    ·rename_i J E f z V v M;split at a
     ·rename_i N b S;split at a
      ·rename_i k;rw[Hd]at b k;obtain⟨I,t,P⟩:=Hj (fc:=A) a l (c.Mc p).2;refine⟨D,I,?_,P.after c⟩;rw[(c.Mc p).1]at t;unfold region;simp only[o,n,ek,x,v,M,b,S,k,t]
      ·exact a.elim
     ·exact a.elim
    ·exact a.elim
  |exit id=>
   refine⟨D,_,?_,du,dk,h,e,.exit id,d,j,g,i,a,c,l,tv,Z⟩;unfold region;simp only[o,n,ek]
  |ret=>
   refine⟨D,_,?_,du,dk,h,e,.ret,d,j,g,i,a,c,l,tv,Z⟩;unfold region;simp only[o,n,ek]
  |panic K=>
   refine⟨D,_,?_,du,dk,h,e,.panic K,d,j,g,i,a,c,l,F,Z⟩;unfold region;simp only[o,n,ek]
theorem yJ{fc:uw}{O:FuncId}{first d:List V}(l:Hf C cF O first d N B w y σ q)(L:SR Φ ρ σ st B w y G) 
  (z:xB σ.length fc) (v:N<σ.length) (k:eV Φ σ.length first) (n:eV Φ σ.length d):
  ∃r K J,C.ff.get O=some r/\(match(jN C cF K).call O (cl ρ first++[.func (.yield (ρ N)) #[] #[]]++cl ρ d) false .none st with
    |some (.ret _,_,st)=>match st.get (ρ N)with
     |some (.loop f)=>match f.state with
      |.busy=>none
      |_=>match Gl f.pending with
       |some s=>some (s,G,c6 ρ y,st.put (ρ N) (.loop {f with state:=.exhausted}))
       |none=>none
     |_=>none
    |some (.eH T,_,st)=>some (.panic T,G,c6 ρ y,st)
    |none=>none)=some J/\S6 Φ ρ fc.fl q J:=by
 unfold Hf at l;split at l
 ·exact l.elim
 ·rename_i r x;have o:eV Φ σ.length (first++[.tR N]++d):=(k.append (fun T E=>by simp at E;subst E;exact .tR v)).append n;obtain⟨K,J,R,i,du,dk,j,p,h,M,Q,c⟩:=l.go Φ ρ st L.real o;have m:=L.move h M;rw[fC,fC]at p;simp only[cl,erase]at p;cases J with
  |ret T=>
   simp only at c;split at c
   ·rename_i S D;rw[ck]at D;obtain⟨⟨f,F,b⟩,_⟩:=M.obj N _ D rfl;have u:S.state≠.busy/\dn (S2 S.pending) fun s=>Bv j N (.loop {S with state:=.exhausted}) fun I=>q s B w y I:=by
     cases g:S.state with
     |busy=>rw[g]at c;exact c.elim
     |_=>rw[g]at c;exact⟨by simp,c⟩
    obtain⟨H,c⟩:=u;obtain⟨s,hx,c⟩:=cA c;obtain⟨_,c⟩:=kD _ _ _ _ c;have P:=M.put (o':=.loop {S with state:=.exhausted}) (a:=.loop {f with state:=.exhausted}) D rfl rfl rfl (fun _ _ _ _ e=>by cases e)
     ⟨{f with state:=.exhausted},by rw[c8,if_pos rfl],⟨rfl,b.pending,b.fn,b.tm,b.nt,b.params,b.assign,b.body,b.defers,b.ee⟩⟩
    have t:Gl f.pending=some (ek dk s)/\PT du j.length s:=by
     rw[b.pending];unfold S2 at hx;split at hx
     ·exact X4
     ·exact X4
     ·exact X4
     ·cases hx
    have A:ρ N=dk N:=(h.vA N v).symm;refine⟨r,K,(ek dk s,G,c6 dk y,i.put (dk N) (.loop {f with state:=.exhausted})),x,?_,du,dk,_,_,s,B,w,y,G,c,by rw[js];exact h.weaken z.2,⟨P,by rw[js];exact m.tm,by rw[js];exact m.df,by rw[js];exact m.ps⟩,by rw[js];exact t.2,Z⟩;rw[p];simp only[eG];rw[A,F];simp only;rw[b.state];cases g:S.state with
    |busy=>exact absurd g H
    |_=>simp only[t.1,(h.ps L.ps).1]
   ·exact c.elim
  |eH T=>
   refine⟨r,K,(.panic (erase dk T),G,c6 dk y,i),x,?_,du,dk,j,i,.panic T,B,w,y,G,c,h.weaken z.2,m,Q,Z⟩;rw[p];simp only[eG,(h.ps L.ps).1]
theorem rS:∀(ax:Code) {Φ:Fz} {ρ:Nat->Nat} {σ:VS} {st:St} {g:Tm} {df:List fq} {i:lJ} {q:Bu->Tm->List fq->lJ->VS->Prop},
  vc C cF A ax g df i σ q->∀{fr:Fr},SR Φ ρ σ st g df i fr->xB σ.length A->
  ∃M F,code C (jN C cF M) (dV ρ A) ax fr (c6 ρ i) st=some F/\S6 Φ ρ A.fl q F:=by
 intro ax;induction ax with
 |skip=>intro Φ ρ σ st g df i q a fr h c;exact⟨0,_,rfl,Φ,ρ,σ,st,.norm,g,df,i,fr,a,(iJ.refl _ _ _).weaken c.2,h,tv,rfl⟩
 |region id aT aL=>intro Φ ρ σ st g df i q a fr h c;exact EA a h c
 |seq aU b E z=>
  intro Φ ρ σ st g df i q a fr h c;rw[aaJ]at a;unfold S3 at a;obtain⟨M,F,j,du,dk,o,k,aE,n,r,m,p,s,x,I,w,rfl⟩:=E a h c;cases aE with
  |norm=>
   cases ab:cutAt A b with
   |false=>
    rw[ab]at s;obtain⟨u,aK,aF,an⟩:=z s I (x.Mc c).2;refine⟨max M u,aK,?_,an.after x⟩;unfold code;rw[gN (hG (agt M u)) _ j];simp only[ek];rw[(x.Mc c).1]at aF;exact gN (hG (agr M u)) _ aF
   |true=>
    rw[ab]at s;have s:cd C cF A b n r m o q:=s;obtain⟨u,au,W,aD,az,X,aa,ar,K,aC,Q,ah,aq,ak,ag,ae,ad,ap⟩:=s.go du dk k p I.real I.tm I.df I.ps (x.Mc c).2;have an:S6 du dk A.fl q (ek K au,W,c6 K X,aa):=⟨ar,K,aC,aa,au,aD,az,X,W,ap,ah,⟨aq,ak,ag,ae⟩,ad,rfl⟩;refine⟨max M u,_,?_,an.after x⟩;unfold code;rw[gN (hG (agt M u)) _ j];simp only[ek];rw[(x.Mc c).1]at Q;exact gN (hG (agr M u)) _ Q
  |exit id=>exact⟨M,_,by unfold code;rw[j];rfl,du,dk,o,k,.exit id,n,r,m,p,s,x,I,w,rfl⟩
  |ret=>exact⟨M,_,by unfold code;rw[j];rfl,du,dk,o,k,.ret,n,r,m,p,s,x,I,w,rfl⟩
  |panic aP=>exact⟨M,_,by unfold code;rw[j];rfl,du,dk,o,k,.panic aP,n,r,m,p,s,x,I,w,rfl⟩
 |cond ax aU b E z=>
  intro Φ ρ σ st g df i q a fr h c;rw[V5]at a;unfold Mb at a;split at a
  ·rename_i aW aH;have ay:=(gF h.tm _ _ aH).1;cases aW with
   |true=>
    obtain⟨M,F,j,V⟩:=E a h c;exact⟨M,F,by unfold code;simp only[ay,erase,cz];exact j,V⟩
   |false=>
    obtain⟨M,F,j,V⟩:=z a h c;exact⟨M,F,by unfold code;simp only[ay,erase,cz];exact j,V⟩
  ·exact a.elim
 |block id b ac=>
  intro Φ ρ σ st g df i q a fr h c;obtain⟨M,F,j,du,dk,o,k,aE,n,r,m,p,s,x,I,w,rfl⟩:=ac a h c;cases aE with
  |exit Y=>
   simp only at s;cases N:agL Y id with
   |true=>
    rw[N]at s;exact⟨M,_,by unfold code;rw[j];simp only[ek,N],du,dk,o,k,.norm,n,r,m,p,s,x,I,tv,Z⟩
   |false=>
    rw[N]at s;exact⟨M,_,by unfold code;rw[j];simp only[ek,N],du,dk,o,k,.exit Y,n,r,m,p,s,x,I,tv,Z⟩
  |norm=>exact⟨M,_,by unfold code;rw[j];rfl,du,dk,o,k,.norm,n,r,m,p,s,x,I,w,rfl⟩
  |ret=>exact⟨M,_,by unfold code;rw[j];rfl,du,dk,o,k,.ret,n,r,m,p,s,x,I,w,rfl⟩
  |panic aP=>exact⟨M,_,by unfold code;rw[j];rfl,du,dk,o,k,.panic aP,n,r,m,p,s,x,I,w,rfl⟩
 |loop b ac=>
  intro Φ ρ σ st g df i q a fr h c;have a:cd C cF A (.loop b) g df i σ q:=a;obtain⟨M,aE,p,n,r,m,k,du,dk,o,Q,ah,aq,ak,ag,ae,ad,ap⟩:=a.go Φ ρ st fr h.real h.tm h.df h.ps c;exact⟨M,_,Q,du,dk,o,k,aE,n,r,m,p,ap,ah,⟨aq,ak,ag,ae⟩,ad,Z⟩
 |rangeFunc f e d v E z=>
  intro Φ ρ σ st g df i q a fr h c;rw[S4]at a;unfold Hg at a;split at a
  ·rename_i aX first aQ aO
   obtain⟨ay,av⟩:=gF h.tm _ _ aO;cases av with
   |fn D S=>
   have t:∀(σ:VS) (aR:cN),(σ++[aR]).length=σ.length+1:=fun σ aR=>by simp
   split at a
   ·rename_i l aj;split at a
    ·rename_i aS aA;rw[ck]at aA;obtain⟨⟨aG,aw,G⟩,_⟩:=h.real.obj l _ aA rfl;have a:=jK a;have af:=la Φ ρ σ.length st.n;have ai:jM ρ σ.length st.n σ.length=st.n:=if_pos rfl;have ao:Real Φ (jM ρ σ.length st.n) (σ++[.loop ⟨.ready,none,A.fn,g,A.nt,e.toList,d,v,aS.defers,A.fz⟩]) (st.new (.loop ⟨.ready,none,A.fn,fr.tm,A.nt,e.toList,d,v,aG.defers⟩)):=
      h.real.new trivial ⟨_,by rw[dm,if_pos rfl],⟨rfl,rfl,rfl,af.tm h.tm,rfl,rfl,rfl,rfl,by show aG.defers=_;rw[G.defers];exact(af.vA _ G.ee).symm,Nat.lt_succ_of_lt G.ee⟩⟩
     have P:iJ Φ ρ σ.length Φ (jM ρ σ.length st.n) (σ++[cN.loop ⟨.ready,none,A.fn,g,A.nt,e.toList,d,v,aS.defers,A.fz⟩]).length:=by rw[t];exact af
     have aN:=h.move P ao;obtain⟨aM,M,F,q1,q2,q3⟩:=yJ (fc:=A) a aN (P.fc c).2 (by rw[t];omega) (P.N1 D) (P.N1 S);refine⟨M,F,?_,q3.after (P.weaken c.2)⟩;unfold code;rw[P.cl D,P.cl S,ai,(P.ps h.ps).1]at q2;simp only[ay,erase,dV,pE,aj,Option.map_some,aw,q1];exact q2
    ·exact a.elim
   ·rename_i aj;have a:=jK (jK a);have aB:=la Φ ρ σ.length st.n;have B:jM ρ σ.length st.n σ.length=st.n:=if_pos rfl;have U:Real Φ (jM ρ σ.length st.n) (σ++[.eI false]) (st.new (.eI false)):=h.real.new trivial (by show(st.new (.eI false)).get st.n=_;rw[dm,if_pos rfl]);have H:iJ Φ ρ σ.length Φ (jM ρ σ.length st.n) (σ++[cN.eI false]).length:=by rw[t];exact aB
    have j:=h.move H U;have y:=la Φ (jM ρ σ.length st.n) (σ++[cN.eI false]).length (st.new (.eI false)).n;have O:jM (jM ρ σ.length st.n) (σ++[cN.eI false]).length (st.new (.eI false)).n (σ++[cN.eI false]).length=(st.new (.eI false)).n:=if_pos rfl;have J:σ.length<(σ++[cN.eI false]).length:=by rw[t];omega
    have R:Real Φ (jM (jM ρ σ.length st.n) (σ++[cN.eI false]).length (st.new (.eI false)).n) ((σ++[cN.eI false])++[cN.loop ⟨.ready,none,A.fn,g,A.nt,e.toList,d,v,σ.length,A.fz⟩])
      ((st.new (.eI false)).new (.loop ⟨.ready,none,A.fn,fr.tm,A.nt,e.toList,d,v,st.n⟩)):=
     j.real.new trivial ⟨_,by rw[dm,if_pos rfl],⟨rfl,rfl,rfl,y.tm j.tm,rfl,rfl,rfl,rfl,by show st.n=_;rw[y.vA _ J,B],Nat.lt_succ_of_lt J⟩⟩
    have L:iJ Φ (jM ρ σ.length st.n) (σ++[cN.eI false]).length Φ (jM (jM ρ σ.length st.n) (σ++[cN.eI false]).length (st.new (.eI false)).n) ((σ++[cN.eI false])++[cN.loop ⟨.ready,none,A.fn,g,A.nt,e.toList,d,v,σ.length,A.fz⟩]).length:=by
     rw[t (σ++[cN.eI false])];exact y
    have V:=j.move L R;have T:=H.trans L;have aI:SR Φ (jM (jM ρ σ.length st.n) (σ++[cN.eI false]).length (st.new (.eI false)).n) ((σ++[cN.eI false])++[cN.loop ⟨.ready,none,A.fn,g,A.nt,e.toList,d,v,σ.length,A.fz⟩])
      ((st.new (.eI false)).new (.loop ⟨.ready,none,A.fn,fr.tm,A.nt,e.toList,d,v,st.n⟩)) g (⟨.GS σ.length,[]⟩::df) i {fr with df:={target:=.collected st.n,args:= #[]}::fr.df}:=by
     refine⟨V.real,V.tm,⟨?_,fun aV am=>?_⟩,V.ps⟩
     ·have aJ:=V.df.1;simp only[agF];rw[<-aJ];congr 1;simp only[jq,y.vA _ J,B,cl]
     ·rcases ags.1 am with rfl|am
      ·exact⟨by show σ.length<_;rw[t (σ++[cN.eI false]),t];omega,fun _ h=>by simp at h⟩
      ·exact V.df.2 aV am
    obtain⟨aM,M,F,q1,q2,q3⟩:=yJ (fc:=A) a aI (T.fc c).2 (by rw[t (σ++[cN.eI false])];omega) (T.N1 D) (T.N1 S);refine⟨M,F,?_,q3.after (T.weaken c.2)⟩;unfold code;rw[T.cl D,T.cl S,O,(T.ps h.ps).1]at q2;simp only[ay,erase,dV,pE,aj,agI,q1];exact q2
  ·exact a.elim
 |exit id=>intro Φ ρ σ st g df i q a fr h c;exact⟨0,_,rfl,Φ,ρ,σ,st,.exit id,g,df,i,fr,a,(iJ.refl _ _ _).weaken c.2,h,tv,rfl⟩
 |ret=>intro Φ ρ σ st g df i q a fr h c;exact⟨0,_,rfl,Φ,ρ,σ,st,.ret,g,df,i,fr,a,(iJ.refl _ _ _).weaken c.2,h,tv,rfl⟩
 |scope b ac=>intro Φ ρ σ st g df i q a fr h c;exact a.elim
 |label l=>intro Φ ρ σ st g df i q a fr h c;exact a.elim
 |goto l=>intro Φ ρ σ st g df i q a fr h c;exact a.elim
 |refuse aY=>intro Φ ρ σ st g df i q a fr h c;exact a.elim
end
variable{E:List V} {L u:cO->VS->Prop} {F:cO->lJ->VS->Prop}
section
variable{C:dR} {cF:ql} {Φ du:Fz} {ρ dk:Nat->Nat} {σ:VS} {st:St} {m m':Nat}
def ns(ρ:Nat->Nat):tc->AM.Mode
 |.returning=>.returning
 |.panicking a=>.panicking (erase ρ a)
def MOk(Φ:Fz)(m:Nat):tc->Prop
 |.returning=>True
 |.panicking a=>e9 Φ m a
theorem iJ.mode(c:iJ Φ ρ m du dk m'){a:tc}(b:MOk Φ m a):ns dk a=ns ρ a/\MOk du m' a:=by
 cases a with
 |returning=>exact⟨rfl,tv⟩
 |panicking d=>exact⟨by simp only[ns,c.erase b],c.ok b⟩
theorem EB:∀(l:List fq) {e:tc} {Φ:Fz} {ρ:Nat->Nat} {σ:VS} {st:St} {k:tc->VS->Prop},su C cF l e σ k->Real Φ ρ σ st->(∀p∈l,Jh Φ σ.length p)->MOk Φ σ.length e->
  ∃D g du dk c j,kB C (jN C cF D) (l.map (jq ρ)) (ns ρ e) st=some (ns dk g,j)/\iJ Φ ρ σ.length du dk c.length/\Real du dk c j/\MOk du c.length g/\k g c:=by
 intro l;induction l with
 |nil=>intro e Φ ρ σ st k d S _ m;exact⟨0,e,Φ,ρ,σ,st,rfl,.refl _ _ _,S,m,d⟩
 |cons p l F=>
  intro e Φ ρ σ st k d S o m;obtain⟨ab,L⟩:=p;have J:=o _ (agC ..);have r:∀p∈l,Jh Φ σ.length p:=fun p S=>o p (agx _ S);cases ab with
  |GS V=>
   unfold su at d;split at d
   ·rename_i I;rw[ck]at I;obtain⟨_,d⟩:=kD _ _ _ _ d;have Q:=(S.obj V _ I rfl).1;have T:=S.put (o':=.eI true) (a:=.eI true) I rfl rfl rfl (fun _ _ _ _ ac=>by cases ac) (by show(st.put (ρ V) (.eI true)).get (ρ V)=_;rw[c8,if_pos rfl]);obtain⟨D,g,du,dk,c,j,M,h,P,H,q⟩:=F d T (by rw[js];exact r) (by rw[js];exact m);rw[js]at h;refine⟨D,g,du,dk,c,j,?_,h,P,H,q⟩;have z:st.get (ρ V)=some (.eI false):=Q;simp only[agF,jq,kB,z];exact M
   ·exact d.elim
  |fn f v=>
   unfold su at d;split at d
   ·rename_i ad K;obtain⟨x,N⟩:=J;have x:eV Φ σ.length v:=x;have E:Bx Φ σ.length (PE e):=by
     cases e with
     |returning=>trivial
     |panicking O=>exact m
    obtain⟨D,V,n,j,du,dk,c,M,h,P,H,q,s⟩:=d.go Φ ρ st S (N.append x) E;cases V with
    |eH O=>exact s.elim
    |ret O=>
     have u:MOk du c.length (pn e n):=by
      cases e with
      |returning=>trivial
      |panicking O=>
       cases n with
       |rD=>trivial
       |none=>exact h.ok m
       |gg aa=>exact h.ok m
     have s:su C cF l (pn e n) c k:=s;obtain⟨t,g,A,w,G,y,B,R,Y,U,X⟩:=F s P (fun p o=>(h.df1 (r p o)).2) u;refine⟨max D t,g,A,w,G,y,?_,h.trans R,Y,U,X⟩;have W:l.map (jq dk)=l.map (jq ρ):=agw fun p o=>(h.df1 (r p o)).1;rw[W]at B;have i:=(hG (C:=C) (cF:=cF) (agt D t)).call _ _ _ _ _ _ M;have b:=yE (hG (C:=C) (cF:=cF) (agr D t)) _ B;rw[fC]at i;unfold kB;simp only[agF,jq,K];cases e with
     |returning=>
      simp only[PE,c6]at i;simp only[pn,ns]at b⊢;rw[i];simp only[eG];exact b
     |panicking aa=>
      simp only[PE,c6]at i;simp only[ns];rw[i];simp only[eG];cases n with
      |rD=>exact b
      |none=>
       simp only[pn,ns]at b;rw[h.erase m]at b;exact b
      |gg ae=>
       simp only[pn,ns]at b;rw[h.erase m]at b;exact b
   ·exact d.elim
theorem C0(D:Real Φ ρ σ st){t:Tr Value}(j:gK Φ ρ σ.length B t):∀(l:List ResultVar) {k:List V->Prop},yI C B σ l k->∃a,k a/\eV Φ σ.length a/\qt C t st l=some (cl ρ a):=by
 intro l;induction l with
 |nil=>intro k c;exact⟨[],c,fun _ D=>by simp at D,rfl⟩
 |cons I l m=>
  intro k c;cases I with
  |tmp i=>
   obtain⟨o,f,d⟩:=cA c;obtain⟨a,h,e,g⟩:=m d;obtain⟨n,b⟩:=j _ _ f;refine⟨o::a,h,fun r hx=>?_,by simp only[qt,Cq,n,g,cl]⟩;rcases ags.1 hx with rfl|hx
   ·exact b
   ·exact e r hx
  |cell i M=>
   obtain⟨p,f,d⟩:=cA c;obtain⟨n,b⟩:=j _ _ f;obtain⟨o,h,e,g⟩:=AV D b d;obtain⟨a,x,s,v⟩:=m h;refine⟨o::a,x,fun r hx=>?_,by simp only[qt,Cq,n,g,v,cl]⟩;rcases ags.1 hx with rfl|hx
   ·exact e
   ·exact s r hx
theorem C1(ρ:Nat->Nat)(a:List V):vD (cl ρ a)=erase ρ (pO a):=by
 cases a with
 |nil=>simp[pO,vD,cl,erase]
 |cons c a=>
  cases a with
  |nil=>simp[pO,vD,cl]
  |cons b a=>simp[pO,vD,cl,erase,List.toArray]
theorem Jz(a:eV Φ m E):e9 Φ m (pO E):=by
 cases E with
 |nil=>exact .dS a
 |cons b E=>
  cases E with
  |nil=>exact a b sm
  |cons c E=>exact .dS a
theorem EC{fi:FI}{d:tc}(h:vN C cF fi.VE d B w σ u)(f:SR Φ ρ σ st B w y G)(r:MOk Φ σ.length d):
  ∃k l du dk a b,finish C (jN C cF k) fi (ns ρ d) G (c6 ρ y) st=some (eG dk l,c6 dk y,b)/\iJ Φ ρ σ.length du dk a.length/\Real du dk a b/\CW du a.length l/\u l a:=by
 unfold vN at h;obtain⟨k,i,du,dk,a,b,j,c,e,s,g⟩:=EB w h f.real f.df.2 r;cases i with
 |panicking t=>
  refine⟨k,.eH t,du,dk,a,b,?_,c,e,s,g⟩;unfold finish;rw[f.df.1,j];simp only[ns,eG,(c.ps f.ps).1]
 |returning=>
  obtain⟨n,o,m,p⟩:=C0 e (c.tm f.tm) fi.VE g;refine⟨k,.ret (pO n),du,dk,a,b,?_,c,e,Jz m,o⟩;unfold finish;rw[f.df.1,j];simp only[ns,p,eG,(c.ps f.ps).1,C1]
theorem Hk(a:List V):∀(i b:Nat),gm (sv i a) b=if i<=b/\b<i+a.length then a[b-i]? else none:=by
 induction a with
 |nil=>
  intro i b;simp only[sv,gm,agM,Nat.add_zero];rw[if_neg om]
 |cons f a d=>
  intro i b;simp only[sv,lM,d,agy];by_cases e:b=i
  ·subst e;rw[if_pos rfl,if_pos om,Nat.sub_self];rfl
  ·rw[if_neg e];by_cases c:i+1<=b/\b<i+1+a.length
   ·rw[if_pos c,if_pos om,show b-i=(b-(i+1))+1 from by omega];rfl
   ·rw[if_neg c,if_neg om]
theorem uF{S:Nat->Bool}{f:FuncId}(g:CY C cF S f E W y σ F)(ae:Real Φ ρ σ st)(af:eV Φ σ.length E)(X:Bx Φ σ.length y):
  ∃s j c du dk a d,yg C (jN C cF s) f (cl ρ E) W (c6 ρ y) st=some (eG dk j,c6 dk c,d)/\iJ Φ ρ σ.length du dk a.length/\Real du dk a d/\CW du a.length j/\Bx du a.length c/\F j c a:=by
 unfold CY at g;split at g
 ·exact g.elim
 ·rename_i e O;split at g
  ·exact g.elim
  ·rename_i ac;have N:gK Φ ρ σ.length (sv 0 E) (⟨eE 0 (cl ρ E) .nil,[]⟩:Fr).tm:=by
    intro ak x i;rw[Hk]at i;split at i
    ·rename_i D;refine⟨?_,af x (agN i)⟩;show(eE 0 (cl ρ E) .nil).get ak=_;rw[qw,if_pos (by rw[cW];exact D),dL,agS,i];rfl
    ·cases i
   have T:SR Φ ρ σ st (sv 0 E) [] y ⟨eE 0 (cl ρ E) .nil,[]⟩:=⟨ae,N,⟨rfl,fun _ ae=>by simp at ae⟩,X⟩;obtain⟨s,j,U,B,n,o,aj,R,H,I,p,ai,k,K,u,ag,rfl⟩:=rS e.body g T ⟨fun l ab=>(by cases ab),agp _⟩;have A:agD (cl ρ E).length e.nt=true:=by rw[cW];exact ac
   have h:∀m:tc,MOk B o.length m->(match(generalizing:=false) ek n R with|.norm=>some AM.Mode.returning|.ret=>some .returning|.panic x=>some (.panicking x)|.exit _=>none)=some (ns n m)->
     vN C cF e.VE m H I o (fun j σ=>F j p σ)->
     ∃s j c du dk a d,yg C (jN C cF s) f (cl ρ E) W (c6 ρ y) st=some (eG dk j,c6 dk c,d)/\iJ Φ ρ σ.length du dk a.length/\Real du dk a d/\CW du a.length j/\Bx du a.length c/\F j c a:=by
    intro m J b v;obtain⟨r,Q,w,M,L,P,aa,q,ah,Y,ad⟩:=EC (fi:=e) v u J;refine⟨max s r,Q,p,w,M,L,P,?_,K.then q K.len,ah,Y,(q.ps u.ps).2,ad⟩;have z:=gN (hG (C:=C) (cF:=cF) (agt s r)) _ U;have t:=qI (hG (C:=C) (cF:=cF) (agr s r)) aa;unfold yg;simp only[O,A];have G:dV ρ ⟨f,e.nt,none,W,S,σ.length⟩=⟨f,e.nt,none,W⟩:=rfl;rw[G]at z;rw[z];cases R with
    |norm=>simp only[ek]at b⊢;injection b with b;rw[b];exact t
    |ret=>simp only[ek]at b⊢;injection b with b;rw[b];exact t
    |panic x=>simp only[ek]at b⊢;injection b with b;rw[b];exact t
    |exit id=>cases b
   cases R with
   |norm=>exact h .returning trivial rfl k
   |ret=>exact h .returning trivial rfl k
   |panic x=>exact h (.panicking x) ag rfl k
   |exit id=>exact k.elim
theorem b4.body(g:Nat->Bool){f:FuncId}(k:∀l,cF f l=none)(h:CY C cF g f E false .none σ fun e _ σ=>u e σ)(j:∀r s,C.prm f r s=none:=by intro _ _;rfl):b4 C cF f E σ u:=by
 refine⟨fun Φ ρ st v o=>?_⟩;obtain⟨t,e,b,du,dk,c,a,m,i,n,p,_,d⟩:=uF h v o trivial;refine⟨t+1,e,c6 dk b,a,du,dk,c,?_,i,n,p,d⟩;simp only[jN,k,j];exact m
theorem oA.body(e:Nat->Bool){f:FuncId}(g:CY C cF e f E true y σ F):oA C cF f E y σ F:=by
 refine⟨fun Φ ρ st r m j=>?_⟩;obtain⟨p,o,b,du,dk,c,a,k,i,l,n,d,h⟩:=uF g r m j;exact⟨p+1,o,b,a,du,dk,c,k,i,l,n,d,h⟩
theorem dx{f:FuncId}{args:cH}{x:D}(b:cF f (args.map cz)=some (cz x))(c:flat (cz x)=true)(a:u (.ret (.d x)) σ):b4 C cF f (args.map V.d) σ u:=by
 refine⟨fun Φ ρ st d e=>⟨1,.ret (.d x),.none,st,Φ,ρ,σ,?_,.refl _ _ _,d,.d ?_,a⟩⟩
 ·rw[nY];simp only[jN,b,eG,erase];cases x<;>rfl
 ·cases x<;>first|(cases c;done)|constructor
theorem b4.mono{f:FuncId}(o:b4 C cF f E σ u)(h:∀d a,u d a->L d a):b4 C cF f E σ L:=by
 refine⟨fun Φ ρ st g k=>?_⟩;obtain⟨n,d,c,b,du,dk,a,i,m,j,l,e⟩:=o.go Φ ρ st g k;exact⟨n,d,c,b,du,dk,a,i,m,j,l,h _ _ e⟩
theorem cd.loop{o:uw}{b:Code}{p:Tm}{m:List fq}{n:lJ}{u:Bu->Tm->List fq->lJ->VS->Prop} 
  (B:vc C cF o b p m n σ fun x p m n σ=>match x with
   |.norm=>cd C cF o (.loop b) p m n σ u
   |x=>u x p m n σ):cd C cF o (.loop b) p m n σ u:=by
 refine⟨fun Φ ρ st S U A w H I=>?_⟩;obtain⟨M,W,s,i,c,h,e,x,j,g,f,d,k,l,a,Q,rfl⟩:=rS b B (fr:=S) ⟨U,A,w,H⟩ I;cases x with
 |norm=>
  have k:cd C cF o (.loop b) j g f h u:=k;obtain⟨r,x,D,P,q,v,t,du,dk,V,L,F,N,O,y,E,z,K⟩:=k.go i c e d a.real a.tm a.df a.ps (l.Mc I).2;refine⟨max M (r+1),x,D,P,q,v,t,du,dk,V,?_,l.then F (agp _),N,O,y,E,z,K⟩;have G:=gN (hG (C:=C) (cF:=cF) (agt M (r+1))) _ s;have J:(jN C cF (r+1)).code (dV c o) (.loop b) d (c6 c f) e=some (ek dk x,D,c6 dk v,t):=L;have T:=(hG (C:=C) (cF:=cF) (agr M (r+1))).code _ _ _ _ _ _ J;unfold code;rw[G];simp only[ek];rw[(l.Mc I).1]at T;exact T
 |exit id=>exact⟨M,.exit id,d,j,g,f,e,i,c,h,by unfold code;rw[s];rfl,l,a.real,a.tm,a.df,a.ps,tv,k⟩
 |ret=>exact⟨M,.ret,d,j,g,f,e,i,c,h,by unfold code;rw[s];rfl,l,a.real,a.tm,a.df,a.ps,tv,k⟩
 |panic R=>exact⟨M,.panic R,d,j,g,f,e,i,c,h,by unfold code;rw[s];rfl,l,a.real,a.tm,a.df,a.ps,Q,k⟩
theorem xC{c:Code}(o:vc C cF A c B w y σ q):cd C cF A c B w y σ q:=by
 refine⟨fun Φ ρ st g I n l r s=>?_⟩;obtain⟨D,M,p,i,f,h,e,x,j,b,k,d,m,t,a,v,rfl⟩:=rS c o (fr:=g) ⟨I,n,l,r⟩ s;exact⟨D,x,d,j,b,k,e,i,f,h,p,t,a.real,a.tm,a.df,a.ps,v,m⟩
theorem dH{ι:Type}{c:Code}(T:ι->Tm)(S:ι->VS)(I:ι->Prop) 
  (a:(∀i,I i->cd C cF A c (T i) w y (S i) q)->X) (b:∀i,I i->vc C cF A c (T i) w y (S i) q):X:=a fun i d=>xC (b i d)
theorem cd.mono{c:Code}{g:Bu->Tm->List fq->lJ->VS->Prop}(S:cd C cF A c B w y σ q)(n:∀i B w y σ,q i B w y σ->g i B w y σ):cd C cF A c B w y σ g:=by
 refine⟨fun Φ ρ st r v m j s t=>?_⟩;obtain⟨P,i,e,a,h,d,b,du,dk,f,D,p,I,M,k,o,l,x⟩:=S.go Φ ρ st r v m j s t;exact⟨P,i,e,a,h,d,b,du,dk,f,D,p,I,M,k,o,l,n _ _ _ _ _ x⟩
def mP:Tm->Tm->Prop
 |[],_=>True
 |(b,c)::d,a=>gm a b=some c/\mP d a
theorem pP:∀{d b:Tm},mP d b->∀c e,gm d c=some e->gm b c=some e:=by
 intro d;induction d with
 |nil=>intro b _ c e f;cases f
 |cons h d g=>
  intro b f c e a;obtain⟨k,j⟩:=h;rw[lM]at a;split at a
  ·rename_i i;cases a;rw[i];exact f.1
  ·exact g f.2 c e a
theorem cd.less{c:Code}{a dB:Tm}(i:mP dB a)(l:cd C cF A c dB w y σ q):cd C cF A c a w y σ q:=by
 refine⟨fun Φ ρ st j g h b d e=>l.go Φ ρ st j g (fun t k f=>h t k (pP i t k f)) b d e⟩
end
mutual
def gW(π:Nat->Nat):V->V
 |.d x=>.d x
 |.bp i f=>.bp (π i) f
 |.ptr i es k f=>.ptr (π i) es k f
 |.fp b off cs=>.fp b off cs
 |.ms i es k len cap=>.ms (π i) es k len cap
 |.map i=>.map (π i)
 |.fn f a c=>.fn f (hU π a) (hU π c)
 |.tR l=>.tR (π l)
 |.iface t v=>.iface t (gW π v)
 |.agg l=>.agg (hU π l)
 |.dS l=>.dS (hU π l)
def hU(π:Nat->Nat):List V->List V
 |[]=>[]
 |v::l=>gW π v::hU π l
end
mutual
def bd(k:Nat):V->Bool
 |.d _=>true
 |.bp i _=>agz i k
 |.ptr i _ _ _=>agz i k
 |.fp _ _ _=>true
 |.ms i _ _ _ _=>agz i k
 |.map i=>agz i k
 |.fn _ a c=>fu k a&&fu k c
 |.tR l=>agz l k
 |.iface _ v=>bd k v
 |.agg l=>fu k l
 |.dS l=>fu k l
def fu(k:Nat):List V->Bool
 |[]=>true
 |v::l=>bd k v&&fu k l
end
theorem nS(π:Nat->Nat):∀l:List V,hU π l=l.map (gW π):=by
 intro l;induction l with
 |nil=>simp[hU]
 |cons b l a=>simp[hU,a]
mutual
theorem jH(ρ π:Nat->Nat):∀v:V,erase ρ (gW π v)=erase (fun j=>ρ (π j)) v
 |.d _=>by simp only[gW,erase]
 |.bp _ _=>by simp only[gW,erase]
 |.ptr _ _ _ _=>by simp only[gW,erase]
 |.fp _ _ _=>by simp only[gW,erase]
 |.ms _ _ _ _ _=>by simp only[gW,erase]
 |.map _=>by simp only[gW,erase]
 |.fn _ a c=>by simp only[gW,erase,iE ρ π a,iE ρ π c]
 |.tR _=>by simp only[gW,erase]
 |.iface _ v=>by simp only[gW,erase,jH ρ π v]
 |.agg l=>by simp only[gW,erase,iE ρ π l]
 |.dS l=>by simp only[gW,erase,iE ρ π l]
theorem iE(ρ π:Nat->Nat):∀l:List V,cl ρ (hU π l)=cl (fun j=>ρ (π j)) l
 |[]=>by simp only[hU,cl]
 |v::l=>by simp only[hU,cl,jH ρ π v,iE ρ π l]
end
theorem gw{a b:Nat}(c:agz a b=true):a<b:=agu c
section
variable{Φ:Fz} {k M:Nat} {π:Nat->Nat}
mutual
theorem ml:∀v:V,e9 Φ M (gW π v)->bd k v=true->e9 Φ k v
 |.d _,h,_=>by simp only[gW]at h;cases h with|d h=>exact .d h
 |.bp _ _,_,hb=>.bp (gw (by simpa only[bd]using hb))
 |.ptr _ _ _ _,_,hb=>.ptr (gw (by simpa only[bd]using hb))
 |.fp _ _ _,h,_=>by simp only[gW]at h;cases h with|fp h1 h2 h3 h4 h5=>exact .fp h1 h2 h3 h4 h5
 |.ms _ _ _ _ _,_,hb=>.ms (gw (by simpa only[bd]using hb))
 |.map _,_,hb=>.map (gw (by simpa only[bd]using hb))
 |.fn _ a c,h,hb=>by
  simp only[gW]at h;simp only[bd,agk]at hb;cases h with
  |fn h1 h2=>exact .fn (kE a h1 hb.1) (kE c h2 hb.2)
 |.tR _,_,hb=>.tR (gw (by simpa only[bd]using hb))
 |.iface _ v,h,hb=>by
  simp only[gW]at h;simp only[bd]at hb;cases h with
  |iface h=>exact .iface (ml v h hb)
 |.agg l,h,hb=>by
  simp only[gW]at h;simp only[bd]at hb;cases h with
  |agg h=>exact .agg (kE l h hb)
 |.dS l,h,hb=>by
  simp only[gW]at h;simp only[bd]at hb;cases h with
  |dS h=>exact .dS (kE l h hb)
theorem kE:∀l:List V,eV Φ M (hU π l)->fu k l=true->eV Φ k l
 |[],_,_=>fun _ h=>by simp at h
 |v::l,h,hb=>by
  simp only[hU]at h;simp only[fu,agk]at hb;have h1:=ml v (h _ (agC ..)) hb.1;have h2:=kE l (fun y hy=>h y (agx _ hy)) hb.2;intro x hx;rcases ags.1 hx with e|hx
  ·rw[e];exact h1
  ·exact h2 x hx
end
theorem Af(a:∀r,r<k->π r<M):∀{h:V},e9 Φ k h->e9 Φ M (gW π h):=by
 intro h e;induction e with
 |d e=>simp only[gW];exact .d e
 |bp e=>simp only[gW];exact .bp (a _ e)
 |ptr e=>simp only[gW];exact .ptr (a _ e)
 |fp m j p l o=>simp only[gW];exact .fp m j p l o
 |ms e=>simp only[gW];exact .ms (a _ e)
 |map e=>simp only[gW];exact .map (a _ e)
 |fn _ _ i n=>
  simp only[gW,nS];exact .fn (fun h b=>by obtain⟨g,c,rfl⟩:=agl.1 b;exact i g c) (fun h b=>by obtain⟨g,c,rfl⟩:=agl.1 b;exact n g c)
 |tR e=>simp only[gW];exact .tR (a _ e)
 |iface _ f=>simp only[gW];exact .iface f
 |agg _ f=>simp only[gW,nS];exact .agg (fun h b=>by obtain⟨g,c,rfl⟩:=agl.1 b;exact f g c)
 |dS _ f=>simp only[gW,nS];exact .dS (fun h b=>by obtain⟨g,c,rfl⟩:=agl.1 b;exact f g c)
theorem N9(b:∀d,d<k->π d<M){l:List V}(f:eV Φ k l):eV Φ M (hU π l):=fun g a=>by
 rw[nS]at a;obtain⟨e,c,rfl⟩:=agl.1 a;exact Af b (f e c)
theorem sy(a:V):gE (gW π a)=gE a:=by cases a<;>simp only[gW,gE]
end
def rT(π:Nat->Nat):Tm->Tm
 |[]=>[]
 |(a,b)::c=>(a,gW π b)::rT π c
theorem xD(π:Nat->Nat):∀(a:Tm) (b:Nat),gm (rT π a) b=(gm a b).map (gW π):=by
 intro a;induction a with
 |nil=>intro b;rfl
 |cons d a c=>
  intro b;obtain⟨k,e⟩:=d;simp only[rT,lM,c];split<;>rfl
def Ag(k:Nat):Tm->Bool
 |[]=>true
 |(_,a)::b=>bd k a&&Ag k b
theorem Ah{k:Nat}:∀{a:Tm},Ag k a=true->∀{f:Nat} {d:V},gm a f=some d->bd k d=true:=by
 intro a;induction a with
 |nil=>intro _ f d c;cases c
 |cons g a e=>
  intro b f d c;obtain⟨h,i⟩:=g;simp only[Ag,agk]at b;rw[lM]at c;split at c
  ·cases c;exact b.1
  ·exact e b.2 c
def O8(π:Nat->Nat)(a:rL):rL:=⟨gW π a.key,gW π a.val,a.born⟩
def hV(π:Nat->Nat):cN->cN
 |.box c=>.box (hU π c)
 |.row a b=>.row a (b.map (hU π))
 |.map a f=>.map (a.map (O8 π)) f
 |.loop d=>.loop {d with tm:=rT π d.tm,defers:=π d.defers}
 |.eI e=>.eI e
 |.j2 g h s=>.j2 g h s
 |.gone=>.gone
def fW(k:Nat):cN->Bool
 |.box b=>fu k b
 |.row _ a=>a.all (fu k)
 |.map c _=>c.all fun e=>bd k e.key&&bd k e.val
 |.loop d=>Ag k d.tm&&agz d.defers k
 |.eI _=>true
 |.j2 _ _ _=>true
 |.gone=>true
theorem iW(π:Nat->Nat)(o:cN):live (hV π o)=live o:=by cases o<;>rfl
theorem Fy(π:Nat->Nat)(a:List (List V)):(a.map (hU π)).flatten=hU π a.flatten:=by
 induction a with
 |nil=>rfl
 |cons c a b=>simp only[agF,List.flatten_cons,b,nS,List.map_append]
theorem yK(π:Nat->Nat)(l:List V):(hU π l).length=l.length:=by rw[nS,agB]
theorem Ig.S7{Φ:Fz}{ρ π:Nat->Nat}{M k:Nat}{st:St}{o:cN}{b:Nat}(l:Ig Φ ρ M st (hV π o) b)(c:fW k o=true):Ig Φ (fun D=>ρ (π D)) k st o b:=by
 cases o with
 |box C=>
  obtain⟨⟨h1,a⟩,i,j⟩:=l;refine⟨⟨by rw[h1,iE,yK],a⟩,kE C i c,fun n g=>?_⟩;rw[<-sy (π:=π)];exact j _ (by rw[nS];exact agl.2 ⟨n,g,rfl⟩)
 |row m r=>
  obtain⟨⟨f,p,h1⟩,a,i,j⟩:=l;have c:r.all (fu k)=true:=c;rw[agH]at c;refine⟨⟨f,p,by rw[h1,Fy,iE]⟩,fun e d=>?_,fun e d=>?_,fun e d n g=>?_⟩
  ·rw[<-a (hU π e) (agl.2 ⟨e,d,rfl⟩),yK]
  ·exact kE e (i _ (agl.2 ⟨e,d,Z⟩)) (c e d)
  ·rw[<-sy (π:=π)];exact j _ (agl.2 ⟨e,d,Z⟩) _ (by rw[nS];exact agl.2 ⟨n,g,rfl⟩)
 |map m P=>
  obtain⟨h1,a⟩:=l;have c:(m.all fun e=>bd k e.key&&bd k e.val)=true:=c;rw[agH]at c;refine⟨?_,fun e d=>?_⟩
  ·exact ab3
  ·have:=a (O8 π e) (agl.2 ⟨e,d,rfl⟩);have h:=c e d;rw[agk]at h;exact⟨ml _ this.1 h.1,ml _ this.2 h.2⟩
 |loop t=>
  obtain⟨v,h1,a⟩:=l;have c:(Ag k t.tm&&agz t.defers k)=true:=c;rw[agk]at c;refine⟨v,h1,a.state,a.pending,a.fn,fun x n g=>?_,a.nt,a.params,a.assign,a.body,a.defers,gw c.2⟩;have:=a.tm x (gW π n) (by show gm (rT π t.tm) x=_;rw[xD,g];rfl);rw[jH]at this;exact⟨this.1,ml _ this.2 (Ah c.1 g)⟩
 |eI x=>exact l
 |j2 I e s=>exact l
 |gone=>trivial
theorem V7{Φ:Fz}{ρ π:Nat->Nat}{M k:Nat}{st:St}{o:cN}{b:Nat}(g:∀r,r<k->π r<M)(n:Ig Φ (fun r=>ρ (π r)) k st o b):Ig Φ ρ M st (hV π o) b:=by
 cases o with
 |box V=>
  obtain⟨⟨h1,a⟩,m,j⟩:=n;refine⟨⟨by rw[h1,iE,yK],a⟩,N9 g m,fun v c=>?_⟩;rw[nS]at c;obtain⟨i,d,rfl⟩:=agl.1 c;rw[sy];exact j i d
 |row D P=>
  obtain⟨⟨f,p,h1⟩,a,m,j⟩:=n;refine⟨⟨f,p,by rw[h1,Fy,iE]⟩,fun e h=>?_,fun e h=>?_,fun e h v c=>?_⟩
  ·obtain⟨i,d,rfl⟩:=agl.1 h;rw[yK];exact a i d
  ·obtain⟨i,d,rfl⟩:=agl.1 h;exact N9 g (m i d)
  ·obtain⟨i,d,rfl⟩:=agl.1 h;rw[nS]at c;obtain⟨q,x,rfl⟩:=agl.1 c;rw[sy];exact j i d q x
 |map D S=>
  obtain⟨h1,a⟩:=n;refine⟨?_,fun e h=>?_⟩
  ·exact ab3
  ·obtain⟨i,d,rfl⟩:=agl.1 h;exact⟨Af g (a i d).1,Af g (a i d).2⟩
 |loop I=>
  obtain⟨C,h1,a⟩:=n;refine⟨C,h1,a.state,a.pending,a.fn,fun t v c=>?_,a.nt,a.params,a.assign,a.body,a.defers,g _ a.ee⟩;have c:gm (rT π I.tm) t=some v:=c;rw[xD]at c;cases l:gm I.tm t with
  |none=>rw[l]at c;cases c
  |some u=>
   rw[l]at c;cases c;obtain⟨T,S⟩:=a.tm t u l;exact⟨by rw[jH];exact T,Af g S⟩
 |eI t=>exact n
 |j2 w e s=>exact n
 |gone=>trivial
def Fz.JA(Φ du:Fz):Prop:=∀b a,Φ b=some a->Φ.Eo b->du b=some a/\du.Eo b
theorem xw.th{Φ du:Fz}(j:Φ.JA du){i:D}(d:xw Φ i):xw du i:=by
 induction d with
 |bool b=>exact .bool b
 |int k l=>exact .int k l
 |str s=>exact .str s
 |GQ=>exact .GQ
 |ci=>exact .ci
 |En=>exact .En
 |GR=>exact .GR
 |yx=>exact .yx
 |ps c f h g _ a e=>exact .ps (j _ _ c a).1 f h g e (j _ _ c a).2
theorem e9.th{Φ du:Fz}{m:Nat}(f:Φ.JA du){n:V}(h:e9 Φ m n):e9 du m n:=by
 induction h with
 |d c=>exact .d (c.th f)
 |bp a=>exact .bp a
 |ptr a=>exact .ptr a
 |fp a i l j e=>exact .fp (f _ _ a e).1 i l (fun d c=>(j d c).th f) (f _ _ a e).2
 |ms a=>exact .ms a
 |map a=>exact .map a
 |fn _ _ g k=>exact .fn g k
 |tR a=>exact .tR a
 |iface _ b=>exact .iface b
 |agg _ b=>exact .agg b
 |dS _ b=>exact .dS b
theorem Ig.th{Φ du:Fz}{ρ:Nat->Nat}{m:Nat}{st:St}{o:cN}{b:Nat}(f:Φ.JA du)(k:Ig Φ ρ m st o b):Ig du ρ m st o b:=by
 cases o with
 |box r=>exact⟨k.1,fun e c=>(k.2.1 e c).th f,k.2.2⟩
 |row n p=>exact⟨k.1,k.2.1,fun g d e c=>(k.2.2.1 g d e c).th f,k.2.2.2⟩
 |map n h=>exact⟨k.1,fun g d=>⟨(k.2 g d).1.th f,(k.2 g d).2.th f⟩⟩
 |loop t=>
  obtain⟨l,i,a⟩:=k;exact⟨l,i,a.state,a.pending,a.fn,fun j e c=>⟨(a.tm j e c).1,(a.tm j e c).2.th f⟩,a.nt,a.params,a.assign,a.body,a.defers,a.ee⟩
 |eI j=>exact k
 |j2 v g s=>exact k
 |gone=>trivial
def jT(a:List Nat)(c b:Nat):Nat:=
 match nth a b with
 |some i=>i
 |none=>c+(b-a.length)
def merge:VS->List Nat->VS->VS
 |σ,[],l=>σ++l
 |σ,_::_,[]=>σ
 |σ,i::a,b::l=>merge (σ.set i b) a l
theorem PW:∀(a:List Nat) (σ l:VS),a.length<=l.length->(merge σ a l).length=σ.length+(l.length-a.length):=by
 intro a;induction a with
 |nil=>intro σ l _;simp[merge]
 |cons i a b=>
  intro σ l c;cases l with
  |nil=>simp at c
  |cons d l=>
   simp only[merge];rw[b _ _ (by simpa using c),agn];simp
theorem C2:∀(a:List Nat) (σ l:VS) (i:Nat),i ∉ a->i<σ.length->(merge σ a l)[i]?=σ[i]?:=by
 intro a;induction a with
 |nil=>intro σ l i _ d;simp only[merge];rw[agV d]
 |cons f a c=>
  intro σ l i b d;cases l with
  |nil=>rfl
  |cons g l=>
   simp only[merge];rw[c _ _ _ (fun e=>b (by simp[e])) (by rw[agn];exact d),agO (fun e=>b (by simp[e]))]
theorem yL:∀(a:List Nat) (σ l:VS) (d i:Nat),a.Nodup->(∀i∈a,i<σ.length)->a.length<=l.length->a[d]?=some i->(merge σ a l)[i]?=l[d]?:=by
 intro a;induction a with
 |nil=>intro σ l d i _ _ _ e;simp at e
 |cons k a h=>
  intro σ l d i g b f e;cases l with
  |nil=>simp at f
  |cons m l=>
   simp only[merge];have c:=List.nodup_cons.1 g;cases d with
   |zero=>
    simp at e;subst e;rw[C2 _ _ _ _ c.1 (by rw[agn];exact b _ sm),agX (b _ sm)];rfl
   |succ d=>
    rw[h _ _ d i c.2 (fun i j=>by rw[agn];exact b i (by simp[j])) (by simpa using f) (by simpa using e)];rfl
theorem PX:∀(a:List Nat) (σ l:VS) (b:Nat),a.length<=l.length->(merge σ a l)[σ.length+b]?=l[a.length+b]?:=by
 intro a;induction a with
 |nil=>intro σ l b _;simp only[merge,agM,agY];rw[List.getElem?_append_right om];congr 1;omega
 |cons i a c=>
  intro σ l b d;cases l with
  |nil=>simp at d
  |cons e l=>
   simp only[merge];have:=c (σ.set i e) l b (by simpa using d);rw[agn]at this;rw[this,agy,show a.length+1+b=(a.length+b)+1 from by omega];rfl
def nZ(π:Nat->Nat):cO->cO
 |.ret a=>.ret (gW π a)
 |.eH a=>.eH (gW π a)
section
variable{C:dR} {cF:ql} {Φ:Fz} {ρ:Nat->Nat} {σ:VS} {st:St}
def iq(σ:VS)(ρ:Nat->Nat)(a:List Nat)(c:Nat):Prop:=∃i b,σ[i]?=some b/\live b=true/\i ∉ a/\ρ i=c
open Classical in
noncomputable def sA(Φ:Fz)(σ:VS)(ρ:Nat->Nat)(a:List Nat)(st:St):Fz:=
 ⟨fun b=>if iq σ ρ a b then st.get b else Φ b,fun b=>Φ.Eo b/\¬iq σ ρ a b,fun f=>Φ.ss f∨∃i c,σ[i]?=some (.box c)/\i ∉ a/\ρ i=f⟩
open Classical in
noncomputable def C3(Φ a:Fz)(σ:VS)(ρ:Nat->Nat)(b:List Nat):Fz:=
 ⟨fun c=>if iq σ ρ b c then none else a c,a.Eo,Φ.ss⟩
open Classical in
theorem aeq{a:Fz}{b:List Nat}(d:¬iq σ ρ b 0)(c:a 0≠none):(C3 Φ a σ ρ b) 0≠none:=by
 show(if iq σ ρ b 0 then none else a 0)≠none;rw[if_neg d];exact c
open Classical in
theorem qJ{a:List Nat}{b:Nat}(c:iq σ ρ a b):(sA Φ σ ρ a st) b=st.get b:=by
 show(if iq σ ρ a b then st.get b else Φ b)=_;rw[if_pos c]
open Classical in
theorem nu{a:List Nat}{b:Nat}(c:¬iq σ ρ a b):(sA Φ σ ρ a st) b=Φ b:=by
 show(if iq σ ρ a b then st.get b else Φ b)=_;rw[if_neg c]
open Classical in
theorem nv{a:Fz}{b:List Nat}{c:Nat}(d:iq σ ρ b c):(C3 Φ a σ ρ b) c=none:=by
 show(if iq σ ρ b c then none else a c)=_;rw[if_pos d]
open Classical in
theorem l2{a:Fz}{b:List Nat}{c:Nat}(d:¬iq σ ρ b c):(C3 Φ a σ ρ b) c=a c:=by
 show(if iq σ ρ b c then none else a c)=_;rw[if_neg d]
def C4(ρ a:Nat->Nat)(b k:Nat):Nat->Nat:=fun i=>if i<b then ρ i else a (k+(i-b))
theorem rU(l:Real Φ ρ σ st){i:Nat}{o:cN}(g:σ[i]?=some o)(c:live o=true):∃j,st.get (ρ i)=some j/\((∃r b f p,j=.cells r b f p)->qD o=true):=by
 have a:=(l.obj i o g c).1;cases o with
 |box m=>exact⟨_,a.1.1,fun _=>rfl⟩
 |row e h=>obtain⟨⟨f,p,k⟩,_⟩:=a;exact⟨_,k,fun _=>rfl⟩
 |map e d=>exact⟨_,a.1,fun⟨_,_,_,_,b⟩=>by cases b⟩
 |loop v=>obtain⟨n,k,_⟩:=a;exact⟨_,k,fun⟨_,_,_,_,b⟩=>by cases b⟩
 |eI t=>exact⟨_,a,fun⟨_,_,_,_,b⟩=>by cases b⟩
 |j2 x b s=>exact⟨_,a,fun⟨_,_,_,_,b⟩=>by cases b⟩
 |gone=>cases c
theorem kM{a i:Nat}(b:H[a]?=some i)(c:Nat):jT H c a=i:=by
 unfold jT;rw[ck,b]
theorem Hl(b:H.length<=N)(a:Nat):jT H a N=a+(N-H.length):=by
 unfold jT;rw[ck,agZ b]
theorem b4.frame(a:List Nat){f:FuncId}{dM aN:List V}(bR:b4 C cF f dM R u)(bq:a.length=R.length)(bl:a.Nodup) 
  (aT:∀g i:Nat,a[g]?=some i->∃m,R[g]?=some m/\σ[i]?=some (hV (jT a σ.length) m)/\fW R.length m=true)
  (aQ:fu R.length dM=true) (aE:aN=hU (jT a σ.length) dM)
  (bU:∀aq ap,u aq ap->R.length<=ap.length->L (nZ (jT a σ.length) aq) (merge σ a (ap.map (hV (jT a σ.length))))):b4 C cF f aN σ L:=by
 refine⟨fun Φ ρ st A aV=>?_⟩;have ae:∀i∈a,i<σ.length:=fun i v=>by
  obtain⟨g,D⟩:=agP v;obtain⟨m,_,e,_⟩:=aT g i D;exact(agj.1 e).1
 have O:∀g m,R[g]?=some m->∃i,a[g]?=some i/\σ[i]?=some (hV (jT a σ.length) m)/\fW R.length m=true:=fun g m D=>by
  have ae:g<a.length:=by rw[bq];exact(agj.1 D).1
  refine⟨a[g],agv ae,?_⟩;obtain⟨ab,c,e,j⟩:=aT g _ (agv ae);rw[D]at c;cases c;exact⟨e,j⟩
 have bo:∀g k i,a[g]?=some i->a[k]?=some i->g=k:=fun g k i D s=>by
  have c:=(agj.1 D);have e:=(agj.1 s);obtain⟨aJ,aV⟩:=c;obtain⟨b,d⟩:=e;have bH:=agU.1 bl;rcases Nat.lt_trichotomy g k with al|al|al
  ·exact absurd (aV.trans d.symm) (bH g k aJ b al)
  ·exact al
  ·exact absurd (d.trans aV.symm) (bH k g b aJ al)
 have aB:∀G,iq σ ρ a G->Φ G=none:=fun G ⟨i,m,v,r,_,o⟩=>by rw[<-o];exact(A.obj i m v r).2
 have bu:∀{i:Nat} {m:cN},i∈a->σ[i]?=some m->live m=true->¬iq σ ρ a (ρ i):=fun{i m} v W r ⟨J,ab,c,e,j,o⟩=>j (by
  have:=A.inj J i ab m c W e r o;rw[this];exact v)
 have Y:Φ.le (sA Φ σ ρ a st):=by
  refine⟨fun b m d=>?_,fun b m d=>?_,fun _ A=>.inl A⟩
  ·have:¬iq σ ρ a b:=fun n=>by rw[aB b n]at d;cases d
   rw[nu this];exact d
  ·have:¬iq σ ρ a b:=fun n=>by rw[aB b n]at d;cases d
   exact⟨fun ao=>ao.1,fun ao=>⟨ao,this⟩⟩
 have aO:∀G aD o fm p,(sA Φ σ ρ a st) G=some (.cells aD o fm p)->st.get G=some (.cells aD o fm p)/\((Φ G=some (.cells aD o fm p))∨∃i m,σ[i]?=some m/\qD m=true/\i ∉ a/\ρ i=G):=by
  intro G aD o fm p P;by_cases n:iq σ ρ a G
  ·have bj:=n;rw[qJ n]at P;obtain⟨i,m,c,e,j,U⟩:=n;obtain⟨aJ,h,aa⟩:=rU A c e;rw[U,P]at h;cases h;exact⟨P,.inr ⟨i,m,c,aa ⟨_,_,_,_,Z⟩,j,U⟩⟩
  ·rw[nu n]at P;exact⟨A.fz _ _ P,.inl P⟩
 have bL:∀{m:cN},qD m=true->live m=true:=fun{m} W=>by cases m<;>first|rfl|cases W
 have bj:Real (sA Φ σ ρ a st) (fun g=>ρ (jT a σ.length g)) R st:=by
  refine⟨A.wf,A.wm,fun b m d=>?_,fun b d=>?_,fun fm am=>?_,fun G bt aD o fm p aj S ai P aG=>?_,fun g ah ag aD o fm p D w=>?_,fun g m D r=>?_,fun g k bY y D s bz l o=>?_,fun g ah ag aD o fm p av G D w Q P T=>?_,by rw[nu (fun n=>A.zr (aB 0 n))];exact A.zr⟩
  ·by_cases n:iq σ ρ a b
   ·rw[qJ n]at d;exact d
   ·rw[nu n]at d;exact A.fz b m d
  ·by_cases n:iq σ ρ a b
   ·rw[qJ n]at d;obtain⟨i,m,c,e,j,U⟩:=n;rw[<-U]at d;have s:=(A.obj i m c e).1;cases m with
    |box aH=>rw[s.1.1]at d;cases d
    |row ah ag=>obtain⟨⟨_,_,k⟩,_⟩:=s;rw[k]at d;cases d
    |map ah aC=>rw[s.1]at d;cases d
    |loop bV=>obtain⟨_,k,_⟩:=s;rw[k]at d;cases d
    |eI bK=>have k:st.get (ρ i)=some (.eI bK):=s;rw[k]at d;cases d
    |j2 aW S aX=>have k:st.get (ρ i)=some (.j2 aW S aX):=s;rw[k]at d;cases d
    |gone=>cases e
   ·rw[nu n]at d;exact A.PJ b d
  ·rcases am with am|⟨i,aH,c,_,j⟩
   ·exact A.ss fm am
   ·obtain⟨⟨⟨H,K⟩,_⟩,_⟩:=A.obj i _ c rfl;rw[<-j];exact⟨K,A.lt c Z⟩
  ·obtain⟨bv,bc⟩:=aO G aD o fm p P;obtain⟨bE,aI⟩:=aO bt aj S fm ai aG;by_cases aF:G=bt
   ·exact aF
   ·exfalso;rcases bc with bc|⟨i,m,c,e,j,U⟩
    ·rcases aI with aI|⟨i,m,c,e,j,U⟩
     ·exact aF (A.PK G bt _ _ _ _ _ _ _ bc aI)
     ·subst U;exact A.ox c e bE bv aF (.inl (by rw[bc];simp)) Z
    ·subst U;refine A.ox c e bv bE (fun o=>aF o.symm) ?_ Z;rcases aI with aI|⟨J,ab,H,K,bW,bQ⟩
     ·exact .inl (by rw[aI];simp)
     ·exact .inr ⟨J,ab,H,bL K,bQ⟩
  ·obtain⟨i,c,e,j⟩:=O g _ D;have w:st.get (ρ (jT a σ.length g))=some (.cells aD o fm p):=w;rw[kM c]at w;rintro(bb|⟨J,aH,h,aa,bs⟩)
   ·exact A.K2 i _ _ _ _ _ _ e w bb
   ·obtain⟨⟨⟨H,K⟩,_⟩,_⟩:=A.obj J _ h rfl;have T:ρ J≠ρ i:=fun o=>aa (by
     have:=A.inj J i _ _ h e rfl rfl o;rw[this];exact agN c)
    exact A.ox e Z w H T (.inr ⟨J,_,h,Z,Z⟩) bs
  ·obtain⟨i,c,e,j⟩:=O g _ D;have aR:live (hV (jT a σ.length) m)=true:=by rw[iW];exact r
   obtain⟨H,K⟩:=A.obj i _ e aR;show Ig _ _ _ _ _ (ρ (jT a σ.length g))/\(sA Φ σ ρ a st) (ρ (jT a σ.length g))=none;rw[kM c];refine⟨?_,by rw[nu (bu (agN c) e aR)];exact K⟩;have:=H.S7 j;exact(⟨Y,fun _ _=>Z,agp _⟩:iJ Φ (fun g=>ρ (jT a σ.length g)) R.length (sA Φ σ ρ a st) (fun g=>ρ (jT a σ.length g)) R.length).obj Z (fun _ _ _ _ _ bb=>bb) this
  ·obtain⟨i,c,e,_⟩:=O g _ D;obtain⟨J,E,af,_⟩:=O k _ s;have o:ρ (jT a σ.length g)=ρ (jT a σ.length k):=o;rw[kM c,kM E]at o;have:=A.inj i J _ _ e af (by rw[iW];exact bz) (by rw[iW];exact l) o;subst this;exact bo g k i c E
  ·obtain⟨i,c,e,j⟩:=O g _ D;have w:st.get (ρ (jT a σ.length g))=some (.cells aD o fm p):=w;have T:G≠ρ (jT a σ.length g):=T;rw[kM c]at w T;obtain⟨H,K⟩:=A.dP i _ _ _ _ _ _ av G e w Q P T;refine⟨?_,fun aw ab bI bJ=>?_⟩
   ·rw[nu]
    ·exact H
    ·rintro⟨J,ab,h,aa,_,bf⟩;exact K J ab h aa bf
   ·obtain⟨J,E,af,_⟩:=O aw _ bI;show ρ (jT a σ.length aw)≠G;rw[kM E];exact K J _ af (by rw[iW];exact bJ)
 have aS:eV (sA Φ σ ρ a st) R.length dM:=by
  rw[aE]at aV;exact(kE dM aV aQ).mono Y (agp _)
 obtain⟨bX,aq,bB,X,F,q,I,bO,ac,x,bC,bP⟩:=bR.go _ _ st bj aS;have aM:a.length<=(I.map (hV (jT a σ.length))).length:=by rw[agB,bq];exact ac.len
 have z:∀g,(C4 ρ q σ.length a.length) (jT a σ.length g)=q g:=by
  intro g;by_cases D:g<a.length
  ·have c:=agv D;rw[kM c];show(if a[g]<σ.length then _ else _)=_;rw[if_pos (ae _ (List.getElem_mem D))];have:=ac.vA g (by rw[<-bq];exact D);rw[this,kM c]
  ·rw[Hl om];show(if σ.length+(g-a.length)<σ.length then _ else _)=_;rw[if_neg om];congr 1;omega
 have ar:=PW a σ (I.map (hV (jT a σ.length))) aM;rw[agB]at ar;have aK:∀g,g<I.length->jT a σ.length g<(merge σ a (I.map (hV (jT a σ.length)))).length:=by
  intro g D;rw[ar];by_cases bm:g<a.length
  ·rw[kM (agv bm)];have:=ae _ (List.getElem_mem bm);omega
  ·rw[Hl om];omega
 have B:∀i m,(merge σ a (I.map (hV (jT a σ.length))))[i]?=some m->(∃g M,I[g]?=some M/\m=hV (jT a σ.length) M/\jT a σ.length g=i)∨(i<σ.length/\i ∉ a/\σ[i]?=some m):=by
  intro i m W;by_cases v:i<σ.length
  ·by_cases Q:i∈a
   ·obtain⟨g,D⟩:=agP Q;rw[yL a σ _ g i bl ae aM D,agS]at W;cases c:I[g]? with
    |none=>rw[c]at W;cases W
    |some M=>rw[c]at W;cases W;exact .inl ⟨g,M,c,rfl,kM D _⟩
   ·rw[C2 a σ _ i Q v]at W;exact .inr ⟨v,Q,W⟩
  ·have:=PX a σ (I.map (hV (jT a σ.length))) (i-σ.length) aM;rw[show σ.length+(i-σ.length)=i from om,W,agS]at this;cases c:I[a.length+(i-σ.length)]? with
   |none=>rw[c]at this;cases this
   |some M=>
    rw[c]at this;cases this;exact .inl ⟨_,M,c,Z,by rw[Hl om];omega⟩
 have t:∀{i:Nat} {m:cN},σ[i]?=some m->live m=true->i ∉ a->X.get (ρ i)=st.get (ρ i)/\F (ρ i)=st.get (ρ i)/\¬F.Eo (ρ i):=by
  intro i m v r Q;have n:iq σ ρ a (ρ i):=⟨i,m,v,r,Q,rfl⟩;obtain⟨aJ,h,_⟩:=rU A v r;have am:(sA Φ σ ρ a st) (ρ i)=some aJ:=by rw[qJ n];exact h
  have c:=ac.le.Rv _ _ am;exact⟨by rw[x.fz _ _ c,h],by rw[c,h],fun ao=>((ac.le.Eo _ _ am).1 ao).2 n⟩
 have az:F.JA (C3 Φ F σ ρ a):=by
  intro b m d ao;have:¬iq σ ρ a b:=fun⟨i,ab,c,e,j,U⟩=>(t c e j).2.2 (U▸ao);exact⟨by rw[l2 this];exact d,ao⟩
 have bn:Φ.le (C3 Φ F σ ρ a):=by
  refine⟨fun b m d=>?_,fun b m d=>?_,fun _ A=>A⟩
  ·have:¬iq σ ρ a b:=fun n=>by rw[aB b n]at d;cases d
   rw[l2 this];exact ac.le.Rv _ _ (Y.Rv _ _ d)
  ·have c:=Y.Rv _ _ d;exact(ac.le.Eo _ _ c).trans (Y.Eo _ _ d)
 have aY:iJ Φ ρ σ.length (C3 Φ F σ ρ a) (C4 ρ q σ.length a.length) (merge σ a (I.map (hV (jT a σ.length)))).length:=
  ⟨bn,fun i v=>if_pos v,by rw[ar];omega⟩
 have ax:(fun g=>(C4 ρ q σ.length a.length) (jT a σ.length g))=q:=funext z;have aA:∀{g:Nat} {m:cN},I[g]?=some m->live m=true->¬iq σ ρ a (q g):=by
  rintro g m D r ⟨i,ab,c,e,j,U⟩;have:=(t c e j).2.1;obtain⟨aJ,h,_⟩:=rU A c e;rw[U,(x.obj g m D r).2]at this;rw[U]at h;rw[h]at this;cases this
 have be:Real (C3 Φ F σ ρ a) (C4 ρ q σ.length a.length) (merge σ a (I.map (hV (jT a σ.length)))) X:=by
  have N:∀i,i<σ.length->(C4 ρ q σ.length a.length) i=ρ i:=fun i v=>if_pos v;refine⟨x.wf,x.wm,fun b m d=>?_,fun b d=>?_,fun fm am=>x.ss fm (ac.le.ss _ (Y.ss _ am)),fun G bt aD o fm p aj S ai P aG=>?_,fun i ah ag aD o fm p v w=>?_,fun i m v r=>?_,fun i k bN y v s an l o=>?_,fun i ah ag aD o fm p av G v w Q P T=>?_,aeq (fun⟨i,m,v,r,_,o⟩=>A.zr (by rw[<-o];exact(A.obj i m v r).2)) x.zr⟩
  ·by_cases n:iq σ ρ a b
   ·rw[nv n]at d;cases d
   ·rw[l2 n]at d;exact x.fz b m d
  ·by_cases n:iq σ ρ a b
   ·rw[nv n]at d;cases d
   ·rw[l2 n]at d;exact x.PJ b d
  ·by_cases bk:iq σ ρ a G
   ·rw[nv bk]at P;cases P
   ·by_cases bh:iq σ ρ a bt
    ·rw[nv bh]at aG;cases aG
    ·rw[l2 bk]at P;rw[l2 bh]at aG;exact x.PK G bt _ _ _ _ _ _ _ P aG
  ·rcases B i _ v with⟨g,M,c,e,rfl⟩|⟨c,e,j⟩
   ·cases M with
    |row bw bp=>
     rw[z]at w;intro bb;exact x.K2 g _ _ _ _ _ _ c w (ac.le.ss _ (Y.ss _ bb))
    |_=>cases e
   ·rw[N i c,(t j rfl e).1]at w;exact A.K2 i _ _ _ _ _ _ j w
  ·rcases B i _ v with⟨g,M,c,rfl,rfl⟩|⟨c,e,j⟩
   ·rw[iW]at r;obtain⟨H,K⟩:=x.obj g _ c r;rw[z];refine⟨?_,by rw[l2 (aA c r)];exact K⟩;refine V7 aK ?_;rw[ax];exact H.th az
   ·rw[N i c];obtain⟨H,K⟩:=A.obj i _ j r;refine⟨?_,nv ⟨i,m,j,r,e,Z⟩⟩;refine aY.acy (t j r e).1 (fun aH o=>?_) H;subst o;exact(x.ss _ (ac.le.ss _ (.inr ⟨i,aH,j,e,Z⟩))).1
  ·rcases B i _ v with⟨g,M,c,rfl,rfl⟩|⟨c,e,j⟩
   ·rw[iW]at an;rcases B k _ s with⟨aw,bx,E,rfl,rfl⟩|⟨E,af,aU⟩
    ·rw[iW]at l;rw[z,z]at o;rw[x.inj g aw _ _ c E an l o]
    ·rw[z,N k E]at o;exact absurd ⟨k,y,aU,l,af,o.symm⟩ (aA c an)
   ·rcases B k _ s with⟨aw,bx,E,rfl,rfl⟩|⟨E,af,aU⟩
    ·rw[iW]at l;rw[z,N i c]at o;exact absurd ⟨i,bN,j,an,e,o⟩ (aA E l)
    ·rw[N i c,N k E]at o;exact A.inj i k _ _ j aU an l o
  ·
   have bi:∀k y,(merge σ a (I.map (hV (jT a σ.length))))[k]?=some y->live y=true->(∃g M,I[g]?=some M/\live M=true/\(C4 ρ q σ.length a.length) k=q g)∨(iq σ ρ a ((C4 ρ q σ.length a.length) k)/\σ[k]?=some y/\k ∉ a/\k<σ.length):=by
    intro k y s l;rcases B k _ s with⟨g,M,c,rfl,rfl⟩|⟨c,e,j⟩
    ·rw[iW]at l;exact .inl ⟨g,M,c,l,z g⟩
    ·exact .inr ⟨by rw[N k c];exact⟨k,y,j,l,e,rfl⟩,j,e,c⟩
   rcases B i _ v with⟨g,M,c,e,rfl⟩|⟨c,e,j⟩
   ·cases M with
    |row bw bp=>
     rw[z]at w T;obtain⟨H,K⟩:=x.dP g _ _ _ _ _ _ av G c w Q P T;have ba:¬iq σ ρ a G:=by
      rintro⟨J,ab,h,aa,bs,bf⟩;have:=(t h aa bs).2.1;obtain⟨aJ,q1,_⟩:=rU A h aa;rw[bf,H]at this;rw[bf]at q1;rw[q1]at this;cases this
     refine⟨by rw[l2 ba];exact H,fun k y s l=>?_⟩;rcases bi k y s l with⟨aw,M,q1,q2,q3⟩|⟨q1,_⟩
     ·rw[q3];exact K aw M q1 q2
     ·intro o;rw[o]at q1;exact ba q1
    |_=>cases e
   ·rw[N i c]at w T;have aL:=w;rw[(t j rfl e).1]at aL;have bM:∀aj S bg ai,X.get G=some (.cells aj S bg ai)->bg=fm:=fun aj S bg ai bA=>x.wm.mem fm av G aj S bg ai Q P bA;have au:F (ρ i)=some (.cells aD o fm p):=by rw[(t j rfl e).2.1];exact aL
    have aP:∀{k:Nat} {y:cN},σ[k]?=some y->live y=true->st.get (ρ k)≠some .dead:=by
     intro k y s l o;have s:=(A.obj k y s l).1;cases y with
     |box aH=>rw[s.1.1]at o;cases o
     |row ah ag=>obtain⟨⟨_,_,ay⟩,_⟩:=s;rw[ay]at o;cases o
     |map ah aC=>rw[s.1]at o;cases o
     |loop bV=>obtain⟨_,ay,_⟩:=s;rw[ay]at o;cases o
     |eI bK=>have ay:st.get (ρ k)=some (.eI bK):=s;rw[ay]at o;cases o
     |j2 aW S aX=>have ay:st.get (ρ k)=some (.j2 aW S aX):=s;rw[ay]at o;cases o
     |gone=>cases l
    have bG:F G=none:=by
     cases br:F G with
     |none=>rfl
     |some m=>
      exfalso;rcases x.wm.row fm av G m Q P (x.fz _ _ br)with S|⟨aj,S,ai,ak⟩
      ·subst S;exact x.PJ G br
      ·subst ak;exact T (x.PK G (ρ i) _ _ _ _ _ _ _ br au)
    refine⟨?_,fun k y s l=>?_⟩
    ·by_cases n:iq σ ρ a G
     ·exact nv n
     ·rw[l2 n];exact bG
    ·rcases bi k y s l with⟨g,M,q1,q2,q3⟩|⟨q1,q2,q3,q4⟩
     ·rw[q3];intro o;subst o;obtain⟨aJ,h,aa⟩:=rU x q1 q2;rcases x.wm.row fm av _ aJ Q P h with S|⟨aj,S,ai,ak⟩
      ·subst S;have ad:=(x.obj g M q1 q2).1;cases M with
       |box aH=>rw[ad.1.1]at h;cases h
       |row ah ag=>obtain⟨⟨_,_,ay⟩,_⟩:=ad;rw[ay]at h;cases h
       |map ah aC=>rw[ad.1]at h;cases h
       |loop bV=>obtain⟨_,ay,_⟩:=ad;rw[ay]at h;cases h
       |eI bK=>have ay:X.get (q g)=some (.eI bK):=ad;rw[ay]at h;cases h
       |j2 aW S aX=>have ay:X.get (q g)=some (.j2 aW S aX):=ad;rw[ay]at h;cases h
       |gone=>cases q2
      ·subst ak;exact x.ox q1 (aa ⟨_,_,_,_,Z⟩) h (x.fz _ _ au) (fun o=>T o.symm) (.inl (by rw[au];simp)) Z
     ·rw[N k q4];intro o;subst o;obtain⟨aJ,h,aa⟩:=rU A q2 l;have bD:X.get (ρ k)=some aJ:=by rw[(t q2 l q3).1];exact h
      rcases x.wm.row fm av _ aJ Q P bD with S|⟨aj,S,ai,ak⟩
      ·subst S;exact aP q2 l h
      ·subst ak;exact A.ox j Z aL h T (.inr ⟨k,y,q2,l,Z⟩) Z
 refine⟨bX,nZ (jT a σ.length) aq,bB,X,C3 Φ F σ ρ a,_,_,?_,aY,be,?_,bU aq I bP ac.len⟩
 ·rw[aE,iE,bO];congr 2;cases aq with
  |ret bS=>simp only[nZ,eG,jH,ax]
  |eH bS=>simp only[nZ,eG,jH,ax]
 ·cases aq with
  |ret bS=>exact Af aK (e9.th az bC)
  |eH bS=>exact Af aK (e9.th az bC)
end
mutual
theorem C5:∀v:V,gW (fun i=>i) v=v
 |.d _=>by simp only[gW]
 |.bp _ _=>by simp only[gW]
 |.ptr _ _ _ _=>by simp only[gW]
 |.fp _ _ _=>by simp only[gW]
 |.ms _ _ _ _ _=>by simp only[gW]
 |.map _=>by simp only[gW]
 |.fn _ a c=>by simp only[gW,qK a,qK c]
 |.tR _=>by simp only[gW]
 |.iface _ v=>by simp only[gW,C5 v]
 |.agg l=>by simp only[gW,qK l]
 |.dS l=>by simp only[gW,qK l]
theorem qK:∀l:List V,hU (fun i=>i) l=l
 |[]=>by simp only[hU]
 |v::l=>by simp only[hU,C5 v,qK l]
end
section
variable{C:dR} {cF:ql} {Φ du:Fz} {ρ dk:Nat->Nat} {σ:VS} {st:St} {m m':Nat}
theorem JB{k M:Nat}{a:V}(c:e9 Φ M a)(b:bd k a=true):e9 Φ k a:=ml (π:=fun i=>i) (M:=M) a (by rw[C5];exact c) b
theorem Mf{k M:Nat}{l:List V}(b:eV Φ M l)(a:fu k l=true):eV Φ k l:=kE (π:=fun i=>i) (M:=M) l (by rw[qK];exact b) a
theorem V8(o:cN):hV (fun i=>i) o=o:=by
 cases o with
 |box j=>simp only[hV,qK]
 |row c e=>simp only[hV];congr 1;rw[agw (g:=id) (fun d _=>qK d),agQ]
 |map c l=>simp only[hV];congr 1;rw[agw (g:=id) (fun d _=>by simp only[O8,C5];rfl),agQ]
 |loop k=>
  simp only[hV];have:∀a:Tm,rT (fun i=>i) a=a:=by
   intro a;induction a with
   |nil=>rfl
   |cons f a b=>obtain⟨h,m⟩:=f;simp only[rT,C5,b]
  rw[this]
 |eI h=>rfl
 |j2 n d s=>rfl
 |gone=>rfl
def mJ(k:Nat):VS->Nat->Bool
 |_,0=>true
 |[],_+1=>true
 |o::σ,a+1=>fW k o&&mJ k σ a
theorem BZ:∀{σ:VS} {k n:Nat},mJ k σ n=true->∀{i:Nat} {c:cN},i<n->σ[i]?=some c->fW k c=true:=by
 intro σ;induction σ with
 |nil=>intro k n _ i c _ b;simp at b
 |cons f σ d=>
  intro k n a i c e b;cases n with
  |zero=>omega
  |succ n=>
   simp only[mJ,agk]at a;cases i with
   |zero=>simp at b;subst b;exact a.1
   |succ i=>exact d (n:=n) a.2 (agW e) (by simpa using b)
theorem Real.take(c:Real Φ ρ σ st){n:Nat}(u:n<=σ.length)(v:mJ n σ n=true):Real Φ ρ (σ.take n) st:=by
 have b:∀i h,(σ.take n)[i]?=some h->i<n/\σ[i]?=some h:=fun i h a=>by
  rw[List.getElem?_take]at a;split at a
  ·rename_i c;exact⟨c,a⟩
  ·cases a
 have j:(σ.take n).length=n:=by rw[agG];omega
 refine⟨c.wf,c.wm,c.fz,c.PJ,c.ss,c.PK,fun i l e S T f p a d=>c.K2 i l e S T f p (b _ _ a).2 d,fun i h a k=>?_,fun i x C V a o=>c.inj i x C V (b _ _ a).2 (b _ _ o).2,fun i l e S T f p t q a d P I r=>?_,c.zr⟩
 ·obtain⟨D,s⟩:=b _ _ a;obtain⟨g,m⟩:=c.obj i h s k;refine⟨?_,m⟩;rw[j];exact Ig.S7 (π:=fun i=>i) (M:=σ.length) (by rw[V8];exact g) (BZ v D s)
 ·obtain⟨g,m⟩:=c.dP i l e S T f p t q (b _ _ a).2 d P I r;exact⟨g,fun x h o k=>m x h (b _ _ o).2 k⟩
structure cU (m:Nat) (r:cO) (σ:VS) (K:cO->VS->Prop):Prop where
 go:∀Φ ρ st,Real Φ ρ σ st->CW Φ σ.length r->∃r' du dk oK,Φ.le du/\(∀i,i<m->dk i=ρ i)/\m<=oK.length/\Real du dk oK st/\CW du oK.length r'/\eG dk r'=eG ρ r/\K r' oK
theorem cU.now{c:cO}(a:agD m σ.length=true)(b:u c σ):cU m c σ u:=
 ⟨fun Φ ρ st e d=>⟨c,Φ,ρ,σ,Fz.le_refl _,fun _ _=>rfl,agu a,e,d,rfl,b⟩⟩
def PY(k:Nat):cO->Bool
 |.ret a=>bd k a
 |.eH a=>bd k a
theorem cU.drop(n:Nat){e:cO}(b:agD n σ.length=true)(g:mJ n σ n=true)(c:PY n e=true)(f:cU m e (σ.take n) u):cU m e σ u:=by
 refine⟨fun Φ ρ st h d=>?_⟩;have b:=agu b;have a:(σ.take n).length=n:=by rw[agG];omega
 refine f.go Φ ρ st (h.take b g) ?_;rw[a];cases e with
 |ret i=>exact JB (M:=σ.length) d c
 |eH i=>exact JB (M:=σ.length) d c
mutual
def o5(i b:Nat)(l:List cH):V->V
 |.ms j es k len cap=>match agL j i with
  |true=>.d (.ps b (k*es) es cap ((l.drop k).take len))
  |false=>.ms j es k len cap
 |.fn f a c=>.fn f (B0 i b l a) (B0 i b l c)
 |.iface t v=>.iface t (o5 i b l v)
 |.agg vs=>.agg (B0 i b l vs)
 |.dS vs=>.dS (B0 i b l vs)
 |v=>v
def B0(i b:Nat)(l:List cH):List V->List V
 |[]=>[]
 |v::vs=>o5 i b l v::B0 i b l vs
end
mutual
def uG(i Hm n:Nat):V->Prop
 |.ms j es k len _=>j=i->es=Hm/\k+len<=n
 |.fn _ a c=>yM i Hm n a/\yM i Hm n c
 |.iface _ v=>uG i Hm n v
 |.agg vs=>yM i Hm n vs
 |.dS vs=>yM i Hm n vs
 |_=>True
def yM(i Hm n:Nat):List V->Prop
 |[]=>True
 |v::vs=>uG i Hm n v/\yM i Hm n vs
end
section
variable{i b Hm:Nat} {l:List cH} {f p M:Nat}
mutual
theorem po(hb:b=ρ i)(V9:Φ b=some (.cells (l.flatten.map cz) Hm f p))(hd:Φ.Eo b)(hl:∀e∈l,e.length=Hm)(hs:∀e∈l,∀d∈e,xw Φ d):
  ∀v:V,e9 Φ M v->uG i Hm l.length v->e9 Φ M (o5 i b l v)/\erase ρ (o5 i b l v)=erase ρ v
 |.ms j es k len cap,hv,ho=>by
  simp only[uG]at ho;unfold o5;split
  ·rename_i hj;have:=agK hj;subst this;obtain⟨rfl,hlen⟩:=ho rfl;have hll:((l.drop k).take len).length=len:=by rw[agG,List.length_drop];omega
   refine⟨.d (.ps V9 (fun e he=>hl e (ag2 (ag1 he))) ?_ ?_ (fun e he=>hs e (ag2 (ag1 he))) hd),?_⟩
   ·rw[hll,agB,rM hl,<-Nat.add_mul];exact Nat.mul_le_mul_right _ hlen
   ·rw[hll,<-List.map_drop,<-List.map_take,Js hl]
   ·simp only[erase,cz,hll,hb]
  ·exact⟨hv,Z⟩
 |.fn f' a c,hv,ho=>by
  simp only[uG]at ho;simp only[o5];cases hv with
  |fn h1 h2=>
   obtain⟨x1,x2⟩:=rV hb V9 hd hl hs a h1 ho.1;obtain⟨y1,y2⟩:=rV hb V9 hd hl hs c h2 ho.2;exact⟨.fn x1 y1,by simp only[erase,x2,y2]⟩
 |.iface t v,hv,ho=>by
  simp only[uG]at ho;simp only[o5];cases hv with
  |iface h1=>
   obtain⟨x1,x2⟩:=po hb V9 hd hl hs v h1 ho;exact⟨.iface x1,by simp only[erase,x2]⟩
 |.agg vs,hv,ho=>by
  simp only[uG]at ho;simp only[o5];cases hv with
  |agg h1=>
   obtain⟨x1,x2⟩:=rV hb V9 hd hl hs vs h1 ho;exact⟨.agg x1,by simp only[erase,x2]⟩
 |.dS vs,hv,ho=>by
  simp only[uG]at ho;simp only[o5];cases hv with
  |dS h1=>
   obtain⟨x1,x2⟩:=rV hb V9 hd hl hs vs h1 ho;exact⟨.dS x1,by simp only[erase,x2]⟩
 |.d _,hv,_=>by simp only[o5];exact⟨hv,tv⟩
 |.bp _ _,hv,_=>by simp only[o5];exact⟨hv,tv⟩
 |.ptr _ _ _ _,hv,_=>by simp only[o5];exact⟨hv,tv⟩
 |.fp _ _ _,hv,_=>by simp only[o5];exact⟨hv,tv⟩
 |.map _,hv,_=>by simp only[o5];exact⟨hv,tv⟩
 |.tR _,hv,_=>by simp only[o5];exact⟨hv,tv⟩
theorem rV(hb:b=ρ i)(V9:Φ b=some (.cells (l.flatten.map cz) Hm f p))(hd:Φ.Eo b)(hl:∀e∈l,e.length=Hm)(hs:∀e∈l,∀d∈e,xw Φ d):
  ∀vs:List V,eV Φ M vs->yM i Hm l.length vs->eV Φ M (B0 i b l vs)/\cl ρ (B0 i b l vs)=cl ρ vs
 |[],_,_=>⟨fun _ h=>by simp[B0]at h,by simp only[B0]⟩
 |v::vs,hv,ho=>by
  simp only[yM]at ho;obtain⟨x1,x2⟩:=po hb V9 hd hl hs v (hv v (agC ..)) ho.1;obtain⟨y1,y2⟩:=rV hb V9 hd hl hs vs (fun x hx=>hv x (agx _ hx)) ho.2;simp only[B0];refine⟨fun x hx=>?_,by simp only[cl,x2,y2]⟩;rcases ags.1 hx with e|hx
  ·rw[e];exact x1
  ·exact y1 x hx
end
end
def wq(i b:Nat)(l:List cH):cO->cO
 |.ret a=>.ret (o5 i b l a)
 |.eH a=>.eH (o5 i b l a)
def aaK(i Hm n:Nat):cO->Prop
 |.ret a=>uG i Hm n a
 |.eH a=>uG i Hm n a
theorem cU.freeze(i:Nat){h:cO}{K:cO->VS->Prop}{es:Nat}{els:List (List V)}{l:List cH}(g:nth σ i=some (.row es els))(r:qC els=some l)(o:aaK i es l.length h) 
  (T:∀b,cU m (wq i b l h) (σ.set i .gone) K):cU m h σ K:=by
 refine⟨fun Φ ρ st F x=>?_⟩;rw[ck]at g;obtain⟨c,f,p,k⟩:=sf F g;have A:=(F.obj i _ g rfl).2;have s:cl ρ els.flatten=l.flatten.map cz:=by rw[fQ r,uD]
 rw[s]at k;have z:=F.freeze g k;have e:=vI (o:=fX.cells (l.flatten.map cz) es f p) A;rw[fQ r]at c;obtain⟨d1,d2⟩:=c.d;have n:∀J∈l,∀y∈J,xw (oz Φ (ρ i) (.cells (l.flatten.map cz) es f p)) y:=fun J G y C=>(d2 J G y C).mono e;have j:(σ.set i .gone).length=σ.length:=agn;have v:∀a,e9 Φ σ.length a->uG i es l.length a->e9 (oz Φ (ρ i) (.cells (l.flatten.map cz) es f p)) σ.length (o5 i (ρ i) l a)/\erase ρ (o5 i (ρ i) l a)=erase ρ a:=
  fun a u M=>po (Φ:=oz Φ (ρ i) (.cells (l.flatten.map cz) es f p)) (f:=f) (p:=p) rfl (by rw[lf];exact if_pos rfl) (Or.inl rfl) d1 n a (u.mono e (agp _)) M
 have d:CW (oz Φ (ρ i) (.cells (l.flatten.map cz) es f p)) (σ.set i .gone).length (wq i (ρ i) l h)/\eG ρ (wq i (ρ i) l h)=eG ρ h:=by
  rw[j];cases h with
  |ret a=>obtain⟨S,b⟩:=v a x o;exact⟨S,by simp only[wq,eG,b]⟩
  |eH a=>obtain⟨S,b⟩:=v a x o;exact⟨S,by simp only[wq,eG,b]⟩
 obtain⟨I,du,dk,t,B,w,E,H,D,q,P⟩:=(T (ρ i)).go _ ρ st z d.1;exact⟨I,du,dk,t,e.trans B,w,E,H,D,by rw[q];exact d.2,P⟩
theorem cv(o:Nat->Bool){f:FuncId}(a:∀l,cF f l=none)(p:CY C cF o f E false .none σ fun w _ c=>cU σ.length w c u)(v:∀y s,C.prm f y s=none:=by intro _ _;rfl):b4 C cF f E σ u:=by
 refine⟨fun Φ ρ st A S=>?_⟩;obtain⟨z,w,h,du,dk,c,b,M,g,P,T,_,m⟩:=uF p A S trivial;obtain⟨n,e,d,j,D,r,q,x,I,k,t⟩:=m.go du dk b P T;refine⟨z+1,n,c6 dk h,b,e,d,j,?_,⟨g.le.trans D,fun i a=>(r i a).trans (g.vA i a),q⟩,x,I,t⟩;simp only[jN,a,v];rw[k];exact M
def C6(k:Nat):List fq->Bool
 |[]=>true
 |⟨.GS c,a⟩::l=>agz c k&&fu k a&&C6 k l
 |⟨.fn _ b,a⟩::l=>fu k b&&fu k a&&C6 k l
theorem Oa{k M:Nat}:∀{l:List fq},C6 k l=true->(∀c∈l,Jh Φ M c)->∀c∈l,Jh Φ k c:=by
 intro l;induction l with
 |nil=>intro _ _ c e;simp at e
 |cons i l g=>
  intro b e c a;obtain⟨j,h⟩:=i;have d:=e _ (agC ..);cases j with
  |GS n=>
   simp only[C6,agk]at b;rcases ags.1 a with rfl|a
   ·exact⟨gw b.1.1,Mf d.2 b.1.2⟩
   ·exact g b.2 (fun c a=>e c (agx _ a)) c a
  |fn f m=>
   simp only[C6,agk]at b;rcases ags.1 a with rfl|a
   ·exact⟨Mf (show eV Φ M m from d.1) b.1.1,Mf d.2 b.1.2⟩
   ·exact g b.2 (fun c a=>e c (agx _ a)) c a
def PZ(k:Nat):lJ->Bool
 |.gg a=>bd k a
 |_=>true
theorem cd.drop(n:Nat){c:Code}{d:Tm}(v:mP d B)(e:agD n σ.length=true)(h:agD A.fl n=true)(o:mJ n σ n=true)(l:Ag n d=true)(g:C6 n w=true)(i:PZ n y=true) 
  (I:cd C cF A c d w y (σ.take n) q):cd C cF A c B w y σ q:=by
 refine⟨fun Φ ρ st p t k f r s=>?_⟩;have e:=agu e;have a:(σ.take n).length=n:=by rw[agG];omega
 refine I.go Φ ρ st p (t.take e o) (fun x m j=>?_) ⟨f.1,?_⟩ ?_ ⟨s.1,by rw[a];exact agu h⟩
 ·obtain⟨D,b⟩:=k x m (pP v x m j);rw[a];exact⟨D,JB b (Ah l j)⟩
 ·rw[a];exact Oa g f.2
 ·rw[a];cases y with
  |gg m=>exact JB (M:=σ.length) r i
  |none=>trivial
  |rD=>trivial
theorem Ai:∀(f:List Tmp) (a:List V) (d:Nat) {e:Tm} {j:Tr Value} {k:Tm->Prop},sw f a d e k->gK Φ ρ m e j->eV Φ m a->∃c g,k c/\nh f (cl ρ a) d j=some g/\gK Φ ρ m c g:=by
 intro f;induction f with
 |nil=>
  intro a d e j k b h i;cases a with
  |nil=>exact⟨e,j,b,rfl,h⟩
  |cons _ _=>exact b.elim
 |cons x f s=>
  intro a d e j k b h i;cases a with
  |nil=>exact b.elim
  |cons t a=>
   unfold sw at b;split at b
   ·rename_i n;obtain⟨c,g,o,l,r⟩:=s a d b (h.set (i t sm)) (fun v p=>i v (by simp[p]));exact⟨c,g,o,by simp only[nh,cl,n];exact l,r⟩
   ·exact b.elim
theorem s8{l:Nat}{b:Bool}{s:LoopState}{gg:Option Code}(c:rQ l b s gg w σ u)(j:Real Φ ρ σ st){f:List Deferred}(i:CN Φ ρ σ.length w f):
  ∃d e,st.get (ρ l)=some (.loop d)/\f=[]/\u (.ret (.d (.bool b))) e/\e.length=σ.length/\Real Φ ρ e (st.put (ρ l) (.loop {d with state:=s,pending:=gg})):=by
 unfold rQ at c;split at c
 ·rename_i m g;rw[ck]at g;obtain⟨⟨d,h,a⟩,_⟩:=j.obj l _ g rfl;obtain⟨_,c⟩:=kD _ _ _ _ c;refine⟨d,_,h,i.1,c,js _ _,j.put g Z Z Z (fun _ _ _ _ k=>by cases k) ⟨{d with state:=s,pending:=gg},by rw[c8,if_pos rfl],⟨Z,Z,a.fn,a.tm,a.nt,a.params,a.assign,a.body,a.defers,a.ee⟩⟩⟩
 ·exact c.elim
theorem iA.intro{l:Nat}{d:List V}{an:cO->VS->Prop}(g:S5 C cF l d σ an):iA C cF l d σ an:=by
 refine⟨fun Φ ρ st ad ai y=>?_⟩;unfold S5 N8 at g;split at g
 ·rename_i m N;rw[ck]at N;obtain⟨⟨c,X,e⟩,_⟩:=ad.obj l _ N rfl;split at g
  ·exact g.elim
  ·rename_i am ab;obtain⟨aw,ar,g,z,aa⟩:=Ai m.params d m.nt g e.tm ai;have T:xB σ.length ⟨m.fn,m.nt,some l,false,m.fz,σ.length⟩:=⟨fun ax ak=>by cases ak;exact y,agp _⟩;obtain⟨D,au,ag,R,o,Q,H,aj,U,F,aq,G,f,B,v,ay,rfl⟩:=rS m.assign g (fr:=⟨ar,[]⟩) ⟨ad,aa,⟨rfl,fun _ ad=>by simp at ad⟩,tv⟩ T;cases aj with
   |norm=>
    simp only at f;split at f
    ·rename_i W p;rw[ck]at p;obtain⟨⟨k,n,b⟩,_⟩:=v.real.obj l _ p rfl;split at f
     ·rename_i s;obtain⟨_,f⟩:=kD _ _ _ _ f;have S:o l=ρ l:=B.vA l y;have E:=v.real.put (o':=.loop {W with state:=.busy}) (a:=.loop {k with state:=.busy}) p rfl rfl rfl (fun _ _ _ _ ak=>by cases ak)
       ⟨{k with state:=.busy},by rw[c8,if_pos rfl],⟨rfl,b.pending,b.fn,b.tm,b.nt,b.params,b.assign,b.body,b.defers,b.ee⟩⟩
      have K:SR R o (Q.set l (.loop {W with state:=.busy})) (H.put (o l) (.loop {k with state:=.busy})) U F .none G:=⟨E,by rw[js];exact v.tm,by rw[js];exact v.df,tv⟩;have r:=(B.Mc T);obtain⟨x,av,O,Φ2,Vz,I,P,A,ao,L,ap,M,q1,q2,q3,q4,rfl⟩:=rS m.body f K (by rw[js];exact r.2);rw[r.1]at O;have acn:Vz l=ρ l:=(q2.vA l y).trans S;have xS:iJ Φ ρ σ.length Φ2 Vz I.length:=B.then q2 (agp _);have j:=gN (hG (C:=C) (cF:=cF) (agt D x)) _ ag;have h:=gN (hG (C:=C) (cF:=cF) (agr D x)) _ O;have u:dV ρ ⟨m.fn,m.nt,some l,false,m.fz,σ.length⟩=⟨c.fn,c.nt,some (ρ l),false⟩:=by rw[e.fn,e.nt];rfl
      rw[u]at j h;rw[S]at h n;have ah:m.assign=c.assign:=e.assign.symm;have af:m.body=c.body:=e.body.symm;rw[ah]at j;rw[af]at h;have t:nh c.params (cl ρ d) c.nt c.tm=some ar:=by rw[e.params,e.nt];exact z
      have q:C.ff.get c.fn=some am:=by rw[e.fn];exact ab
      have w:k.state=.ready:=by rw[b.state];exact s
      have red:∀ac,(match(generalizing:=false) ek Vz A,M,P with
        |.norm,i,st=>match st.get (ρ l),i.df with
         |some (.loop c),[]=>some (CR.ret (.bool true),st.put (ρ l) (.loop {c with state:=.ready,pending:=none}))
         |_,_=>none
        |.ret,i,st=>match st.get (ρ l),i.df with
         |some (.loop c),[]=>some (.ret (.bool false),st.put (ρ l) (.loop {c with state:=.done,pending:=some .ret}))
         |_,_=>none
        |.exit id,i,st=>match st.get (ρ l),i.df with
         |some (.loop c),[]=>some (.ret (.bool false),st.put (ρ l) (.loop {c with state:=.done,pending:=some (.exit id)}))
         |_,_=>none
        |.panic ae,i,st=>match i.df with
         |[]=>some (.eH ae,st)
         |_=>none)=some ac->(jN C cF (max D x+1)).round (ρ l) (cl ρ d) st=some ac:=by
       intro ac Y;show ug C (jN C cF (max D x)) (ρ l) (cl ρ d) st=some ac;unfold ug;simp only[c6,ek]at j;simp only[c6]at h;simp only[X,q,t,j,n,w,h];cases A<;>simp only[ek]at Y⊢ <;>exact Y
      cases A with
      |norm=>
       obtain⟨al2,σ3,g1,g2,g3,g4,g5⟩:=s8 q1 q3.real q3.df;rw[acn]at g1 g5;exact⟨_,.ret (.d (.bool true)),_,Φ2,Vz,σ3,red _ (by simp only[ek,g1,g2];rfl),by rw[g4];exact xS,g5,.d (.bool _),g3⟩
      |ret=>
       exact YG
      |exit id=>
       exact YG
      |panic ae=>
       simp only at q1;cases L with
       |nil=>
        have J:M.df=[]:=q3.df.1;exact⟨_,.eH ae,P,Φ2,Vz,I,red _ (by simp only[ek,J];rfl),xS,q3.real,q4,q1⟩
       |cons _ _=>exact q1.elim
     ·exact f.elim
    ·exact f.elim
   |_=>exact f.elim
 ·exact g.elim
theorem Real.start(c:List Value):Real ⟨fun b=>(rA c).get b,fun b=>b=0,fun _=>False⟩ (fun _=>0) [] (rA c):=by
 have d:∀g,(rA c).fm.get g=none:=fun g=>pF g;refine⟨⟨fun b j a=>?_,fun b c m f p a=>?_,fun f h a=>?_,ag3,fun j a=>?_⟩,⟨fun f h g a=>?_,fun f h g j a=>?_⟩,fun b j a=>a,fun b a=>?_,fun f a=>a.elim,fun g o C m f p t x s a e=>?_,fun i _ _ _ _ _ _ a=>(by simp at a),fun i j a=>(by simp at a),fun i D v r a=>(by simp at a),fun i _ _ _ _ _ _ _ _ a=>(by simp at a),?_⟩
 ·rw[j3]at a;split at a
  ·rename_i m;rw[m];exact ag3
  ·cases a
 ·rw[j3]at a;split at a
  ·rename_i k;cases a;exact⟨ag3,by unfold uh;rw[d];exact k⟩
  ·cases a
 ·rw[d]at a;cases a
 ·rw[j3,if_pos rfl]at a;cases a;rfl
 ·rw[d]at a;cases a
 ·rw[d]at a;cases a
 ·have a:(rA c).get b=some .dead:=a;rw[j3]at a;split at a<;>cases a
 ·have a:(rA c).get g=_:=a;have e:(rA c).get o=_:=e;rw[j3]at a e;split at a
  ·rename_i l;split at e
   ·rename_i n;rw[l,n]
   ·cases e
  ·cases a
 ·show(rA c).get 0≠none;rw[j3,if_pos rfl];simp
theorem b4.af5(c:List Value){f:FuncId}{args:cH}(o:b4 C cF f (args.map V.d) [] u)(l:∀i∈args,xw ⟨fun b=>(rA c).get b,fun b=>b=0,fun _=>False⟩ i):
  ∃k h d a dk e,(jN C cF k).call f (args.map cz) false .none (rA c)=some (eG dk h,d,a)/\u h e:=by
 obtain⟨k,h,d,a,du,dk,e,g,_,_,_,m⟩:=o.go _ _ _ (Real.start c) (fun p n=>by obtain⟨i,j,rfl⟩:=agl.1 n;exact .d (l i j));rw[nY]at g;exact⟨k,h,d,a,dk,e,g,m⟩
end
def Aj:Nat->Bool:=fun _=>false
theorem aZ{b:Bool}{p d:Prop}(a:b=true->p)(c:b=false->d):jR p d b:=by
 cases b
 ·exact c Z
 ·exact a Z
theorem cg{b:Bool}{p d:Prop}(c:b=true)(a:p):jR p d b:=by rw[c];exact a
theorem a7{b:Bool}{p c:Prop}(d:b=false)(a:c):jR p c b:=by rw[d];exact a
theorem a6{p k:Prop}(b:p)(a:k):jS p k:=⟨b,a⟩
theorem bZ{n:Int}{m:Nat}{k:Nat->Prop}(b:n=agq m)(a:k m):GU n k:=⟨m,b,a⟩
theorem ch{p k:Prop}(a:k)(b:p:=by repeat' (first|exact tv|exact rfl|refine bZ rfl ?_|refine And.intro ?_ ?_)):jS p k:=⟨b,a⟩
theorem cc{a:Type}{p:a->Prop}{d:a->Prop}(b:a)(e:p b)(c:d b):∃b,p b/\d b:=⟨b,e,c⟩
theorem ZI(a:X:=by simp only[List.length_map,List.length_take,List.length_drop,List.length_append,List.length_cons,List.length_nil,xo];omega):X:=a
theorem cf{p k:Prop}(a:k)(b:p:=by repeat' (first|exact tv|exact rfl|refine bZ rfl ?_|with_reducible assumption|exact Nat.zero_le _|exact Nat.le_refl _|exact Nat.le_of_ble_eq_true rfl|refine bZ (by with_reducible assumption) ?_|refine cc _ rfl ?_|refine cc _ (by with_reducible assumption) ?_|refine cg (by with_reducible assumption) ?_|refine a7 (by with_reducible assumption) ?_|refine a6 ?_ ?_|refine And.intro ?_ ?_|refine aeA ?_ (Nat.le_of_ble_eq_true rfl)|refine aeB ?_|refine cc _ (by assumption) ?_|refine bZ (by assumption) ?_|assumption|exact ZI|omega)):jS p k:=⟨b,a⟩
theorem de{b:Bool}{p d c:Prop}(a:c)(e:(b=true/\c=p)∨(b=false/\c=d):=by first|exact .inl ⟨by with_reducible assumption,rfl⟩|exact .inr ⟨by with_reducible assumption,rfl⟩):jR p d b:=by
 rcases e with⟨rfl,rfl⟩|⟨rfl,rfl⟩<;>exact a
theorem xE{b:Type}{p e f:b->Prop}(a:b)(g:p a)(d:e a)(c:f a):∃a,p a/\e a/\f a:=⟨a,g,d,c⟩
theorem jO{a b:V}{σ:VS}(d:a=b)(c:u (.ret b) σ):u (.ret a) σ:=d▸c
theorem eL{a:Bool}{σ:VS}(c:W=a)(b:u (.ret (b6 a)) σ):u (.ret (b6 W)) σ:=c▸b
theorem n9{k:IntKind}{a b:Int}{σ:VS}(d:a=b)(c:u (.ret (.d (.int k b))) σ):u (.ret (.d (.int k a))) σ:=d▸c
def b5(n:Nat):V:=.d (.int .i64 (agq n))
def cn(s:cq):V:=.d (.str s)
theorem int_eq{k:IntKind}{a b:Int}(c:a=b):some (V.d (.int k a))=some (V.d (.int k b)):=by rw[c]
theorem wrap64{n:Int}(b: -9223372036854775808<=n)(a:n<9223372036854775808):IntKind.i64.wrap n=n:=by
 exact aat
theorem c4{a b:Nat}(c:a+b<9223372036854775808):IntKind.i64.wrap (agq a+agq b)=agq (a+b):=by
 exact XU
theorem cp{a:Nat}(c:a<9223372036854775807):IntKind.i64.wrap (agq a+1)=agq (a+1):=c4 (b:=1) om
theorem JA{a b:Nat}(c:decide (agq a<=agq b)=true):a<=b:=by
 have:=of_decide_eq_true c;exact K8
theorem ee{a b:Nat}(c:decide (agq a<agq b)=true):a<b:=by
 have:=of_decide_eq_true c;exact K8
theorem AJ{a b:Nat}(c:decide (agq a=agq b)=true):a=b:=by
 have:=of_decide_eq_true c;exact K8
theorem Iv{a b:Nat}(c:decide (agq a<=agq b)=false):b<a:=by
 have:=of_decide_eq_false c;exact K8
theorem dq{a b:Nat}(c:decide (agq a<agq b)=false):b<=a:=by
 have:=of_decide_eq_false c;exact K8
theorem ED{a b:Nat}(c:decide (agq a=agq b)=false):a≠b:=by
 have:=of_decide_eq_false c;exact K8
section
variable{C:dR} {cF:ql}
theorem cj{f:FuncId}{σ:VS}(b:CY C cF Aj f E false .none σ fun d _ σ=>u d σ)(c:∀l,cF f l=none:=by exact fun _=>rfl)(a:∀e s,C.prm f e s=none:=by intro _ _;rfl):b4 C cF f E σ u:=b4.body Aj c b a
theorem cm{f:FuncId}{σ:VS}(c:CY C cF Aj f E false .none σ fun e _ a=>cU σ.length e a u)(d:∀l,cF f l=none:=by exact fun _=>rfl)(b:∀g s,C.prm f g s=none:=by intro _ _;rfl):b4 C cF f E σ u:=cv Aj d c b
def A4:Nat->List Nat->Nat->Bool
 |0,_,_=>true
 |_+1,[],_=>false
 |p+1,i::a,b=>agL i b&&A4 p a (b+1)
theorem rW:∀{p:Nat} {a:List Nat} {c k:Nat},A4 p a c=true->k<p->a[k]?=some (c+k):=by
 intro p;induction p with
 |zero=>intro a c k _ b;omega
 |succ p e=>
  intro a c k b d;cases a with
  |nil=>cases b
  |cons i a=>
   simp only[A4,agk]at b;cases k with
   |zero=>simp[agK b.1]
   |succ k=>
    have:=e b.2 (agW d);simp only[List.getElem?_cons_succ,this];congr 1;omega
def uH(π:Nat->Nat)(k:Nat)(σ:VS):List Nat->VS->Prop
 |[],[]=>True
 |i::b,c::a=>nth σ i=some (hV π c)/\fW k c=true/\uH π k σ b a
 |_,_=>False
theorem C7{π:Nat->Nat}{k:Nat}{σ:VS}:∀{c:List Nat} {a:VS},uH π k σ c a->c.length=a.length/\∀(e:Nat) (f:cN),a[e]?=some f->∃i,c[e]?=some i/\σ[i]?=some (hV π f)/\fW k f=true:=by
 intro c;induction c with
 |nil=>
  intro a g;cases a with
  |nil=>exact⟨rfl,fun e f d=>by simp at d⟩
  |cons _ _=>exact g.elim
 |cons i c j=>
  intro a g;cases a with
  |nil=>exact g.elim
  |cons f a=>
   obtain⟨m,l,p⟩:=g;obtain⟨h,n⟩:=j p;refine⟨by simp[h],fun e r d=>?_⟩;cases e with
   |zero=>simp at d;subst d;exact⟨i,rfl,by rw[<-ck];exact m,l⟩
   |succ e=>obtain⟨o,s,b,t⟩:=n e r (by simpa using d);exact⟨o,by simpa using s,b,t⟩
theorem Real.pick{Φ:Fz}{ρ:Nat->Nat}{σ fU:VS}{st:St}(j:Real Φ ρ σ st)(S:H.Nodup)(A:uH (jT H σ.length) fU.length σ H fU):Real Φ (fun g=>ρ (jT H σ.length g)) fU st:=by
 obtain⟨K,h⟩:=C7 A;have a:∀{g i:Nat},H[g]?=some i->ρ (jT H σ.length g)=ρ i:=fun{g i} c=>by rw[kM c]
 refine⟨j.wf,j.wm,j.fz,j.PJ,j.ss,j.PK,fun g B V F w f p c e=>?_,fun g O c u=>?_,fun g k N J c z q T w=>?_,fun g B V F w f p y D c e E m n=>?_,j.zr⟩
 ·obtain⟨i,o,b,_⟩:=h g _ c;rw[a o]at e;exact j.K2 i _ _ _ _ _ _ b e
 ·obtain⟨i,o,b,F⟩:=h g _ c;obtain⟨s,v⟩:=j.obj i _ b (by rw[iW];exact u);rw[a o];exact⟨s.S7 F,v⟩
 ·obtain⟨i,o,b,_⟩:=h g _ c;obtain⟨x,l,t,_⟩:=h k _ z;rw[a o,a l]at w;have:=j.inj i x _ _ b t (by rw[iW];exact q) (by rw[iW];exact T) w;subst this;obtain⟨D,m⟩:=agj.1 o;obtain⟨G,M⟩:=agj.1 l;have r:=agU.1 S;rcases Nat.lt_trichotomy g k with d|d|d
  ·exact absurd (m.trans M.symm) (r g k D G d)
  ·exact d
  ·exact absurd (M.trans m.symm) (r k g G D d)
 ·obtain⟨i,o,b,_⟩:=h g _ c;rw[a o]at e n;obtain⟨s,v⟩:=j.dP i _ _ _ _ _ _ y D b e E m n;refine⟨s,fun C L I P=>?_⟩;obtain⟨x,l,t,_⟩:=h C _ I;show ρ (jT H σ.length C)≠D;rw[a l];exact v x _ t (by rw[iW];exact P)
theorem cd.pick(p:Nat)(d:List Nat){h:uw}{c:Code}{w dB:Tm}{σ fU:VS}{l:List fq}{g:lJ}{Y:Bu->Tm->List fq->lJ->VS->Prop}(Q:mP (rT (jT d σ.length) dB) w)(v:Ag fU.length dB=true)(e:agD h.fl p=true)(hid:A4 p d 0=true) 
  (t:C6 p l=true) (u:PZ p g=true) (S:d.Nodup) (x:uH (jT d σ.length) fU.length σ d fU) (af:cd C cF h c dB l g fU Y):cd C cF h c w l g σ Y:=by
 refine⟨fun Φ ρ st K N B r E D=>?_⟩;obtain⟨L,_⟩:=C7 x;have e:=agu e;have o:∀j,j<p->jT d σ.length j=j:=fun j W=>by
  have:=rW hid W;rw[kM this];omega
 have k:p<=fU.length:=by
  rcases Nat.lt_or_ge fU.length p with h1|h1
  ·have:=rW hid h1;rw[<-L,agZ (agp _)]at this;cases this
  ·exact h1
 have a:iJ Φ ρ p Φ (fun j=>ρ (jT d σ.length j)) fU.length:=⟨Fz.le_refl _,fun i R=>by show ρ (jT d σ.length i)=_;rw[o i R],k⟩;have n:=Oa t r.2;have f:Bx Φ p g:=by
  cases g with
  |gg ab=>exact JB (M:=σ.length) E u
  |none=>trivial
  |rD=>trivial
 have T:dV (fun j=>ρ (jT d σ.length j)) h=dV ρ h:=((a.weaken e).Mc (m:=σ.length) D).1;obtain⟨ae,ad,V,s,z,P,I,du,dk,q,y,J,U,X,F,H,G,O⟩:=af.go Φ (fun j=>ρ (jT d σ.length j)) st K (N.pick S x) (fun ac ab A=>by
   obtain⟨aa,b⟩:=B ac (gW (jT d σ.length) ab) (pP Q ac _ (by rw[xD,A];rfl));rw[jH]at aa;exact⟨aa,ml _ b (Ah v A)⟩) (a.df ⟨r.1,n⟩) (a.ps f).2 ⟨D.1,agJ e k⟩
 refine⟨ae,ad,V,s,z,P,I,du,dk,q,?_,?_,U,X,F,H,G,O⟩
 ·rw[T,(a.ps f).1]at y;exact y
 ·exact(a.weaken e).then J (agp _)
inductive Gz (fl:Nat) (dB:Tm) (fU:VS) (df:List fq) (ps:lJ) (tm:Tm) (σ:VS):Prop
 |same (hs:mP dB tm) (h:σ=fU)
 |drop (n:Nat) (hs:mP dB tm) (hn:agD n σ.length=true) (K0:agD fl n=true) (hb:mJ n σ n=true) (ht:Ag n dB=true) (hdf:C6 n df=true) (DY:PZ n ps=true) (h:σ.take n=fU)
 |pick (p:Nat) (ix:List Nat) (hs:mP (rT (jT ix σ.length) dB) tm) (hbt:Ag fU.length dB=true) (K0:agD fl p=true) (hid:A4 p ix 0=true) (hdf:C6 p df=true) (DY:PZ p ps=true) (hnd:ix.Nodup) (hp:uH (jT ix σ.length) fU.length σ ix fU)
theorem cw{c:Code}{h dB:Tm}{σ fU:VS}(o:Gz A.fl dB fU w y h σ)(n:cd C cF A c dB w y fU q):cd C cF A c h w y σ q:=by
 cases o with
 |same d r=>subst r;exact n.less d
 |drop s d m b j i a e r=>subst r;exact cd.drop s d m b j i a e n
 |pick p l d f b hid a e g k=>exact cd.pick p l d f b hid a e g k n
theorem Gz.eS{fl:Nat}{a:Tm}{σ:VS}(c:σ=R:=by exact rfl)(b:mP B a:=by repeat' (first|exact tv|with_reducible exact rfl|exact int_eq (cp om)|exact rfl|refine And.intro ?_ ?_)):Gz fl B R w y a σ:=.same b c
theorem Gz.eP{fl:Nat}{c:Tm}{σ:VS}(p:Nat)(a:List Nat)(i:mP (rT (jT a σ.length) B) c:=by repeat' (first|exact tv|with_reducible exact rfl|exact int_eq (cp om)|exact rfl|refine And.intro ?_ ?_))(h:uH (jT a σ.length) R.length σ a R:=by repeat' (first|exact tv|exact rfl|refine And.intro ?_ ?_))(f:Ag R.length B=true:=by exact rfl)(e:Nat.ble fl p=true:=by exact rfl)(hid:A4 p a 0=true:=by exact rfl)(b:C6 p w=true:=by exact rfl)(d:PZ p y=true:=by exact rfl)(g:a.Nodup:=by decide):Gz fl B R w y c σ:=.pick p a i f e hid b d g h
theorem Gz.eD{fl:Nat}{c:Tm}{σ:VS}(n:Nat)(g:mP B c:=by repeat' (first|exact tv|with_reducible exact rfl|exact int_eq (cp om)|exact rfl|refine And.intro ?_ ?_))(h:Nat.ble n σ.length=true:=by exact rfl)(d:Nat.ble fl n=true:=by exact rfl)(f:mJ n σ n=true:=by exact rfl)(e:Ag n B=true:=by exact rfl)(a:C6 n w=true:=by exact rfl)(b:PZ n y=true:=by exact rfl)(i:σ.take n=R:=by exact rfl):Gz fl B R w y c σ:=.drop n g h d f e a b i
theorem cD{c:Code}{a dB:Tm}{σ:VS}(d:cd C cF A c dB w y σ q)(b:mP dB a:=by repeat' (first|exact tv|with_reducible exact rfl|exact int_eq (cp om)|exact rfl|refine And.intro ?_ ?_)):cd C cF A c a w y σ q:=d.less b
theorem iK{a i:Nat}(b:i<a:=by first|assumption|omega):a-(i+1)<a-i:=om
theorem cd.iter{t:Type}(d:t->Tm)(e:t->VS)(M:t->Nat)(I:t->Prop){b:Code} 
  (al:∀i,I i->vc C cF A b (d i) w y (e i) fun x H m h σ=>match x with
   |.norm=>∃j,I j/\M j<M i/\Gz A.fl (d j) (e j) w y H σ/\m=w/\h=y
   |x=>q x H m h σ) (i:t) (u:I i):cd C cF A (.loop b) (d i) w y (e i) q:=by
 have E:∀J i,M i=J->I i->cd C cF A (.loop b) (d i) w y (e i) q:=by
  intro J;induction J using Nat.strongRecOn with
  |_ J ag=>
   intro i ad u;refine⟨fun Φ ρ st B ab Q K X V=>?_⟩;obtain⟨p,am,P,k,c,s,g,x,v,r,l,f,n,o,a,aj,rfl⟩:=rS b (al i u) (fr:=B) ⟨ab,Q,K,X⟩ V;cases x with
   |norm=>
    obtain⟨j,ae,N,aa,rfl,rfl⟩:=n;have n:=cw aa (ag (M j) (ad▸N) j rfl ae);obtain⟨D,x,T,z,m,h,S,du,dk,G,af,U,ah,ai,L,R,O,ac⟩:=n.go k c g f a.real a.tm a.df a.ps (o.Mc V).2;refine⟨max p (D+1),x,T,z,m,h,S,du,dk,G,?_,o.then U (agp _),ah,ai,L,R,O,ac⟩;have W:=gN (hG (C:=C) (cF:=cF) (agt p (D+1))) _ P;have Y:(jN C cF (D+1)).code (dV c A) (.loop b) f (c6 c l) g=some (ek dk x,T,c6 dk h,S):=af;have F:=(hG (C:=C) (cF:=cF) (agr p (D+1))).code _ _ _ _ _ _ Y;unfold code;rw[W];simp only[ek];rw[(o.Mc V).1]at F;exact F
   |exit id=>exact⟨p,.exit id,f,v,r,l,g,k,c,s,by unfold code;rw[P];rfl,o,a.real,a.tm,a.df,a.ps,tv,n⟩
   |ret=>exact⟨p,.ret,f,v,r,l,g,k,c,s,by unfold code;rw[P];rfl,o,a.real,a.tm,a.df,a.ps,tv,n⟩
   |panic ak=>exact⟨p,.panic ak,f,v,r,l,g,k,c,s,by unfold code;rw[P];rfl,o,a.real,a.tm,a.df,a.ps,aj,n⟩
 exact E _ i Z u
mutual
theorem km(π:Nat->Nat):∀v:V,bd 0 v=true->gW π v=v
 |.d _,_=>by simp only[gW]
 |.bp _ _,h=>by simp only[bd]at h;exact absurd (gw h) (agA _)
 |.ptr _ _ _ _,h=>by simp only[bd]at h;exact absurd (gw h) (agA _)
 |.fp _ _ _,_=>by simp only[gW]
 |.ms _ _ _ _ _,h=>by simp only[bd]at h;exact absurd (gw h) (agA _)
 |.map _,h=>by simp only[bd]at h;exact absurd (gw h) (agA _)
 |.fn _ a c,h=>by simp only[bd,agk]at h;simp only[gW,fL π a h.1,fL π c h.2]
 |.tR _,h=>by simp only[bd]at h;exact absurd (gw h) (agA _)
 |.iface _ v,h=>by simp only[bd]at h;simp only[gW,km π v h]
 |.agg l,h=>by simp only[bd]at h;simp only[gW,fL π l h]
 |.dS l,h=>by simp only[bd]at h;simp only[gW,fL π l h]
theorem fL(π:Nat->Nat):∀l:List V,fu 0 l=true->hU π l=l
 |[],_=>by simp only[hU]
 |v::l,h=>by simp only[fu,agk]at h;simp only[hU,km π v h.1,fL π l h.2]
end
def cM:cO->Bool
 |.ret a=>bd 0 a
 |.eH a=>bd 0 a
theorem a8{m:Nat}{c:cO}{σ:VS}(n:Nat)(b:u c (σ.take n))(f:Nat.ble n σ.length=true:=by exact rfl)(e:mJ n σ n=true:=by exact rfl)(d:PY n c=true:=by exact rfl)(a:Nat.ble m (σ.take n).length=true:=by exact rfl):cU m c σ u:=
 cU.drop n f e d (cU.now a b)
theorem b4.closed{f:FuncId}{args:List V}{P:cO->Prop}(k:b4 C cF f args [] fun b e=>e=[]/\cM b=true/\P b)(c:fu 0 args=true){σ:VS}(g:∀b,P b->u b σ):b4 C cF f args σ u:=by
 refine k.frame [] Z List.nodup_nil (fun n i j=>by simp at j) c (fL _ args c).symm (fun a h j _=>?_);obtain⟨rfl,d,l⟩:=j;have:nZ (jT [] σ.length) a=a:=by
  cases a with
  |ret m=>simp only[nZ];rw[km _ m d]
  |eH m=>simp only[nZ];rw[km _ m d]
 rw[this];simp only[List.map_nil,merge,List.append_nil];exact g a l
theorem cC{f:FuncId}{v:V}(h:b4 C cF f E [] fun b a=>a=[]/\b=.ret v)(g:fu 0 E=true)(e:bd 0 v=true){σ:VS}(d:u (.ret v) σ):b4 C cF f E σ u:=
 b4.closed (P:=fun b=>b=.ret v) (h.mono fun b a c=>⟨c.1,by rw[c.2];exact e,c.2⟩) g fun b c=>by rw[c];exact d
end
mutual
theorem tK(π:Nat->Nat)(k:Nat)(h:∀i,i<k->π i=i):∀v:V,bd k v=true->gW π v=v
 |.d _,_=>by simp only[gW]
 |.bp _ _,hb=>by simp only[bd]at hb;simp only[gW,h _ (gw hb)]
 |.ptr _ _ _ _,hb=>by simp only[bd]at hb;simp only[gW,h _ (gw hb)]
 |.fp _ _ _,_=>by simp only[gW]
 |.ms _ _ _ _ _,hb=>by simp only[bd]at hb;simp only[gW,h _ (gw hb)]
 |.map _,hb=>by simp only[bd]at hb;simp only[gW,h _ (gw hb)]
 |.fn _ a c,hb=>by simp only[bd,agk]at hb;simp only[gW,n0 π k h a hb.1,n0 π k h c hb.2]
 |.tR _,hb=>by simp only[bd]at hb;simp only[gW,h _ (gw hb)]
 |.iface _ v,hb=>by simp only[bd]at hb;simp only[gW,tK π k h v hb]
 |.agg l,hb=>by simp only[bd]at hb;simp only[gW,n0 π k h l hb]
 |.dS l,hb=>by simp only[bd]at hb;simp only[gW,n0 π k h l hb]
theorem n0(π:Nat->Nat)(k:Nat)(h:∀i,i<k->π i=i):∀l:List V,fu k l=true->hU π l=l
 |[],_=>by simp only[hU]
 |v::l,hb=>by simp only[fu,agk]at hb;simp only[hU,tK π k h v hb.1,n0 π k h l hb.2]
end
theorem P0(π:Nat->Nat)(k:Nat)(d:∀i,i<k->π i=i):∀l:Tm,Ag k l=true->rT π l=l:=by
 intro l;induction l with
 |nil=>intro _;rfl
 |cons c l b=>
  obtain⟨f,e⟩:=c;intro a;simp only[Ag,agk]at a;simp only[rT,tK π k d e a.1,b a.2]
theorem S8(π:Nat->Nat)(k:Nat)(d:∀i,i<k->π i=i)(o:cN)(a:fW k o=true):hV π o=o:=by
 cases o with
 |box h=>simp only[hV];rw[n0 π k d h a]
 |row f e=>
  simp only[hV];congr 1;simp only[fW,agH]at a;conv=>rhs;rw[<-agQ e]
  exact agw fun g c=>n0 π k d g (a g c)
 |map f p=>
  simp only[hV];congr 1;simp only[fW,agH,agk]at a;conv=>rhs;rw[<-agQ f]
  exact agw fun g c=>by
   obtain⟨j,m,b⟩:=g;have:=a _ c;simp only[O8,tK π k d j this.1,tK π k d m this.2,id]
 |loop l=>
  simp only[fW,agk]at a;simp only[hV,P0 π k d l.tm a.1,d _ (gw a.2)]
 |eI n=>rfl
 |j2 r g s=>rfl
 |gone=>rfl
theorem Wa(a:VS)(o b:cN)(c:VS):(a++o::c).set a.length b=a++b::c:=by
 induction a with
 |nil=>rfl
 |cons e a d=>simp only[agT,agy,List.set_cons_succ,d]
theorem P1:∀(l a c ext:VS),l.length=a.length->merge (c++(a++ext)) (agE c.length a.length) l=c++(l++ext):=by
 intro l;induction l with
 |nil=>
  intro a c ext d;have:a=[]:=List.eq_nil_of_length_eq_zero d.symm;subst this;simp[merge]
 |cons b l e=>
  intro a c ext d;cases a with
  |nil=>simp at d
  |cons f a=>
   simp only[agy,List.range'_succ,merge];rw[agT,Wa];have:=e a (c++[b]) ext (by simpa using d);simp only[List.length_append,agy,agM,List.append_assoc,agT,List.nil_append]at this;exact this
section
variable{C:dR} {cF:ql}
theorem b4.pre{f:FuncId}(r:b4 C cF f E R u)(ext:VS)(k:mJ R.length R R.length=true)(n:fu R.length E=true) 
  (v:∀o c,u o c->c.length=R.length/\mJ R.length c c.length=true/\PY R.length o=true/\L o (c++ext)):b4 C cF f E (R++ext) L:=by
 have hid:∀P i,i<R.length->jT (agE 0 R.length) P i=i:=fun P i h=>by
  rw[kM (i:=i) (by rw[List.getElem?_range' h];simp)]
 have d:∀j,fW R.length j=true->hV (jT (agE 0 R.length) (R++ext).length) j=j:=fun j b=>S8 _ _ (hid _) j b;refine r.frame (agE 0 R.length) sm (List.nodup_range') (fun q i M=>?_) n (n0 _ _ (hid _) _ n).symm (fun g a M T=>?_)
 ·obtain⟨e,S⟩:=agj.1 M;simp only[List.length_range']at e;simp only[List.getElem_range',Nat.one_mul,agY]at S;subst S;have b:=agv (l:=R) e;refine⟨_,b,?_,BZ k e b⟩;rw[d _ (BZ k e b),agV e,b]
 ·obtain⟨x,p,m,t⟩:=v g a M;have I:nZ (jT (agE 0 R.length) (R++ext).length) g=g:=by
   cases g with
   |ret s=>simp only[nZ];rw[tK _ _ (hid _) s m]
   |eH s=>simp only[nZ];rw[tK _ _ (hid _) s m]
  have D:a.map (hV (jT (agE 0 R.length) (R++ext).length))=a:=by
   conv=>rhs;rw[<-agQ a]
   refine agw fun j b=>?_;obtain⟨i,h⟩:=agP b;exact d j (BZ p (agj.1 h).1 h)
  rw[I,D];have:=P1 a R [] ext x;simp only[List.nil_append,agM]at this;rw[this];exact t
end
section
variable{C:dR} {cF:ql} {Φ:Fz} {ρ:Nat->Nat} {σ:VS} {st:St}
theorem Real.gone(h:Real Φ ρ σ st):Real Φ ρ (σ++[.gone]) st:=by
 have n:iJ Φ ρ σ.length Φ ρ (σ++[cN.gone]).length:=⟨Fz.le_refl _,fun _ _=>rfl,by simp⟩;have BM:∀(j:Nat) (d:cN),(σ++[cN.gone]:VS)[j]?=some d->live d=true->σ[j]?=some d:=by
  intro j d hj g;rw[kj]at hj;by_cases e:j=σ.length
  ·rw[if_pos e]at hj;cases hj;cases g
  ·rw[if_neg e]at hj;exact hj
 refine⟨h.wf,h.wm,h.fz,h.PJ,h.ss,h.PK,fun j es els c e f p hj hg=>h.K2 j es els c e f p (BM j _ hj Z) hg,fun j d hj g=>?_,fun j k d ok hj hk i Ld e=>h.inj j k d ok (BM j _ hj i) (BM k _ hk Ld) i Ld e,fun j es els c e f p ms x hj hg hm hx hn=>?_,h.zr⟩
 ·obtain⟨l,m⟩:=h.obj j d (BM j d hj g) g;exact⟨n.obj (st:=st) (dC:=st) Z (fun _ _ _ _ _ hn=>hn) l,m⟩
 ·exact aan
theorem cd.gone{g:uw}{c:Code}{m:Tm}{d:List fq}{f:lJ}{V:Bu->Tm->List fq->lJ->VS->Prop}(z:cd C cF g c m d f (σ++[.gone]) V):cd C cF g c m d f σ V:=by
 refine⟨fun Φ ρ st D I a r p h=>?_⟩;have b:iJ Φ ρ σ.length Φ ρ (σ++[cN.gone]).length:=⟨Fz.le_refl _,fun _ _=>rfl,by simp⟩;obtain⟨y,w,k,e,n,j,i,du,dk,l,P,x,S,T,s,v,t,M⟩:=z.go Φ ρ st D I.gone (fun u q o=>⟨(a u q o).1,(a u q o).2.mono (Fz.le_refl _) ZI⟩) (b.df r) (b.ps p).2 ⟨h.1,agJ h.2 b.len⟩;exact⟨y,w,k,e,n,j,i,du,dk,l,P,x,S,T,s,v,t,M⟩
theorem b4.gone{f:FuncId}{a:List V}{o:cO->VS->Prop}(v:b4 C cF f a (σ++[.gone]) o):b4 C cF f a σ o:=by
 refine⟨fun Φ ρ st h l=>?_⟩;obtain⟨p,r,d,c,du,dk,e,j,b,k,n,g⟩:=v.go Φ ρ st h.gone (fun s m=>(l s m).mono (Fz.le_refl _) ZI);exact⟨p,r,d,c,du,dk,e,j,⟨b.le,fun i t=>b.vA i ZI,agJ ZI b.len⟩,k,n,g⟩
theorem cU.pick{m:Nat}(a:List Nat){C r0:cO}{fU:VS}{x:cO->VS->Prop}(r:C=nZ (jT a σ.length) r0)(c:PY fU.length r0=true)(hid:A4 m a 0=true)(d:a.Nodup)(p:uH (jT a σ.length) fU.length σ a fU)(l:cU m r0 fU x):cU m C σ x:=by
 subst r;refine⟨fun Φ ρ st I g=>?_⟩;obtain⟨j,du,dk,e,s,o,t,v,h,n,k⟩:=l.go Φ (fun D=>ρ (jT a σ.length D)) st (I.pick d p) (by
  cases r0 with
  |ret b=>exact ml b g c
  |eH b=>exact ml b g c)
 refine⟨j,du,dk,e,s,fun i f=>(o i f).trans ?_,t,v,h,n.trans ?_,k⟩
 ·have:=rW hid f;show ρ (jT a σ.length i)=ρ i;rw[kM this,agY]
 ·cases r0 with
  |ret b=>simp only[nZ,eG,jH]
  |eH b=>simp only[nZ,eG,jH]
theorem S9{a:D}(b:flat (cz a)=true):xw Φ a:=by
 cases a<;>first|(cases b;done)|constructor
theorem Ak{f:FuncId}{args xs:cH}(e:cF f (args.map cz)=some (.tuple ⟨xs.map cz⟩))(g:∀c∈xs,flat (cz c)=true)(b:u (.ret (.dS (xs.map V.d))) σ):b4 C cF f (args.map V.d) σ u:=by
 refine⟨fun Φ ρ st h i=>⟨1,.ret (.dS (xs.map V.d)),.none,st,Φ,ρ,σ,?_,.refl _ _ _,h,.dS ?_,b⟩⟩
 ·rw[nY];simp only[jN,e,eG,erase,nY];rfl
 ·intro j d;obtain⟨c,a,rfl⟩:=agl.1 d;exact .d (S9 (g c a))
end
section
variable{C:dR} {cF:ql} {σ:VS}
def Ta(i b:Nat)(l:List cH):Tm->Tm
 |[]=>[]
 |(a,c)::d=>(a,o5 i b l c)::Ta i b l d
def Hn(i es n:Nat):Tm->Prop
 |[]=>True
 |(_,a)::b=>uG i es n a/\Hn i es n b
theorem FA{i b:Nat}{l:List cH}:∀{a:Tm} {e:Nat} {f:V},gm (Ta i b l a) e=some f->∃d,gm a e=some d/\f=o5 i b l d:=by
 intro a;induction a with
 |nil=>intro e f c;cases c
 |cons h n g=>
  intro e f c;obtain⟨m,k⟩:=h;simp only[Ta,gm]at c⊢;split at c
  ·rename_i j;cases c;exact⟨k,Z,Z⟩
  ·exact g c
theorem A5{i es n:Nat}:∀{a:Tm},Hn i es n a->∀{f:Nat} {d:V},gm a f=some d->uG i es n d:=by
 intro a;induction a with
 |nil=>intro _ f d b;cases b
 |cons g j e=>
  intro c f d b;obtain⟨h,k⟩:=g;simp only[gm]at b;split at b
  ·cases b;exact c.1
  ·exact e c.2 b
theorem cd.freeze(i:Nat)(e:Tm){v:uw}{c:Code}{P:Tm}{m:List fq}{t:lJ}{Q:Bu->Tm->List fq->lJ->VS->Prop}{es:Nat}{els:List (List V)}{l:List cH}(h:nth σ i=some (.row es els))(I:qC els=some l)(H:mP e P)(F:Hn i es l.length e) 
  (u:∀b,cd C cF v c (Ta i b l e) m t (σ.set i .gone) Q):cd C cF v c P m t σ Q:=by
 refine⟨fun Φ ρ st z K T k B hf=>?_⟩;rw[ck]at h;obtain⟨d,f,p,o⟩:=sf K h;have J:=(K.obj i _ h rfl).2;have M:cl ρ els.flatten=l.flatten.map cz:=by rw[fQ I,uD]
 rw[M]at o;have G:=K.freeze h o;have g:=vI (o:=fX.cells (l.flatten.map cz) es f p) J;rw[fQ I]at d;obtain⟨d1,d2⟩:=d.d;have r:∀O∈l,∀A∈O,xw (oz Φ (ρ i) (.cells (l.flatten.map cz) es f p)) A:=fun O L A k=>(d2 O L A k).mono g;have a:(σ.set i .gone).length=σ.length:=agn;have N:∀j,e9 Φ σ.length j->uG i es l.length j->e9 (oz Φ (ρ i) (.cells (l.flatten.map cz) es f p)) σ.length (o5 i (ρ i) l j)/\erase ρ (o5 i (ρ i) l j)=erase ρ j:=
  fun j w q=>po (Φ:=oz Φ (ρ i) (.cells (l.flatten.map cz) es f p)) (f:=f) (p:=p) rfl (by rw[lf];exact if_pos rfl) (Or.inl rfl) d1 r j (w.mono g (agp _)) q
 have O5:iJ Φ ρ σ.length (oz Φ (ρ i) (.cells (l.flatten.map cz) es f p)) ρ (σ.set i .gone).length:=⟨g,fun _ _=>rfl,by rw[a];exact agp _⟩;obtain⟨n,x,fr',VC,Rw,ps',dC,du,dk,oK,e1,e2,e3,e4,e5,e6,e7,e8⟩:=(u (ρ i)).go _ ρ st z G (fun R j s=>by
  obtain⟨S,D,rfl⟩:=FA s;obtain⟨U,b⟩:=T R S (pP H R _ D);obtain⟨y,E⟩:=N S b (A5 F D);rw[a];exact⟨by rw[E];exact U,y⟩) (O5.df k) (O5.ps B).2 ⟨hf.1,by rw[a];exact hf.2⟩
 exact aaq
end
section
variable{C:dR} {cF:ql} {σ:VS}
theorem Tb(i b:Nat)(l:List cH)(c:V)(d:gE c=true):gE (o5 i b l c)=true:=by
 cases c with
 |ms h g k f e=>
  unfold o5;split<;>rfl
 |agg a=>cases d
 |dS a=>cases d
 |_=>rfl
theorem Mg{Φ:Fz}{ρ:Nat->Nat}{i b Hm n M:Nat}{l:List cH}(h:∀c,e9 Φ M c->uG i Hm n c->e9 Φ M (o5 i b l c)/\erase ρ (o5 i b l c)=erase ρ c):
  ∀a:List V,eV Φ M a->yM i Hm n a->eV Φ M (B0 i b l a)/\cl ρ (B0 i b l a)=cl ρ a/\(B0 i b l a).length=a.length:=by
 intro a;induction a with
 |nil=>intro _ _;exact⟨fun c e=>(by simp[B0]at e),rfl,rfl⟩
 |cons c r j=>
  intro e d;obtain⟨o,k⟩:=h c (e c sm) d.1;obtain⟨f,p,m⟩:=j (fun g hu=>e g (by simp[hu])) d.2;refine⟨fun g hu=>?_,?_,?_⟩
  ·simp only[B0,ags]at hu;rcases hu with rfl|hu
   ·exact o
   ·exact f g hu
  ·simp only[B0,cl,k,p]
  ·simp only[B0,agy,m]
theorem Tc{i b:Nat}{l:List cH}:∀c:List V,(∀d∈c,gE d=true)->∀d∈B0 i b l c,gE d=true:=by
 intro c;induction c with
 |nil=>intro _ d e;simp[B0]at e
 |cons h j g=>
  intro e d a;simp only[B0,ags]at a;rcases a with rfl|a
  ·exact Tb _ _ _ _ (e h sm)
  ·exact g (fun k f=>e k (by simp[f])) d a
theorem Real.acB{Φ:Fz}{ρ:Nat->Nat}{st:St}(h:Real Φ ρ σ st){j:Nat}{cs cs':List V}(C:σ[j]?=some (.box cs))(G:cl ρ cs'=cl ρ cs)(B:cs'.length=cs.length)(H:eV Φ σ.length cs')(N:∀O∈cs',gE O=true):
  Real Φ ρ (σ.set j (.box cs')) st:=by
 have P:j<σ.length:=(agj.1 C).1;have d:∀i g,(σ.set j (.box cs'))[i]?=some g->(i=j/\g=.box cs')∨(i≠j/\σ[i]?=some g):=fun i g a=>by
  by_cases n:i=j
  ·subst n;rw[agX P]at a;exact .inl ⟨Z,(Option.some.inj a).symm⟩
  ·rw[agO (fun w=>n w.symm)]at a;exact .inr ⟨n,a⟩
 have c:∀i g,(σ.set j (.box cs'))[i]?=some g->live g=true->∃S,σ[i]?=some S/\live S=true:=fun i g a e=>by
  rcases d i g a with⟨rfl,rfl⟩|⟨_,b⟩
  ·exact⟨_,C,Z⟩
  ·exact⟨_,b,e⟩
 refine⟨h.wf,h.wm,h.fz,h.PJ,h.ss,h.PK,fun i x m L n f p a o=>?_,fun i g a e=>?_,fun i k u A a r J K n=>?_,fun i x m L n f p q Q a o F E D=>?_,h.zr⟩
 ·rcases d i _ a with⟨_,b⟩|⟨_,b⟩
  ·cases b
  ·exact h.K2 i x m L n f p b o
 ·rw[agn];rcases d i g a with⟨rfl,rfl⟩|⟨_,b⟩
  ·obtain⟨⟨⟨v,I⟩,M,R⟩,z⟩:=h.obj i _ C rfl;exact⟨⟨⟨by rw[G,B];exact v,I⟩,H,N⟩,z⟩
  ·exact h.obj i g b e
 ·obtain⟨t,s,l⟩:=c i u a J;obtain⟨y,b,T⟩:=c k A r K;exact h.inj i k t y s b l T n
 ·rcases d i _ a with⟨_,b⟩|⟨_,b⟩
  ·cases b
  ·obtain⟨v,M⟩:=h.dP i x m L n f p q Q b o F E D;refine⟨v,fun k g r e=>?_⟩;obtain⟨t,s,l⟩:=c k g r e;exact M k t s l
theorem rk(i j:Nat)(o:Tm){c:Code}{es:Nat}{l:List cH}{cs:List V}(r:nth σ i=some (.row es O))(s:nth σ j=some (.box cs))(E:qC O=some l)(ae:mP o B)(ab:Hn i es l.length o)(N:yM i es l.length cs) 
  (R:∀b,cd C cF A c (Ta i b l o) w y ((σ.set i .gone).set j (.box (B0 i b l cs))) q):cd C cF A c B w y σ q:=by
 refine⟨fun Φ ρ st W K H v Y hf=>?_⟩;rw[ck]at r s;have u:i≠j:=fun J=>by subst J;rw[r]at s;cases s
 obtain⟨g,f,p,T⟩:=sf K r;have af:=(K.obj i _ r rfl).2;have F:cl ρ O.flatten=l.flatten.map cz:=by rw[fQ E,uD]
 rw[F]at T;have ac:=K.freeze r T;have e:=vI (o:=fX.cells (l.flatten.map cz) es f p) af;rw[fQ E]at g;obtain⟨d1,d2⟩:=g.d;have t:∀J∈l,∀X∈J,xw (oz Φ (ρ i) (.cells (l.flatten.map cz) es f p)) X:=fun J ag X v=>(d2 J ag X v).mono e;have m:(σ.set i .gone).length=σ.length:=agn;have M:∀d,e9 Φ σ.length d->uG i es l.length d->e9 (oz Φ (ρ i) (.cells (l.flatten.map cz) es f p)) σ.length (o5 i (ρ i) l d)/\erase ρ (o5 i (ρ i) l d)=erase ρ d:=
  fun d I D=>po (Φ:=oz Φ (ρ i) (.cells (l.flatten.map cz) es f p)) (f:=f) (p:=p) rfl (by rw[lf];exact if_pos rfl) (Or.inl rfl) d1 t d (I.mono e (agp _)) D
 have k:=(K.obj j _ s rfl).1;have S:eV (oz Φ (ρ i) (.cells (l.flatten.map cz) es f p)) σ.length cs:=fun d M=>(k.2.1 d M).mono e (agp _);have h:∀d,e9 (oz Φ (ρ i) (.cells (l.flatten.map cz) es f p)) σ.length d->uG i es l.length d->e9 (oz Φ (ρ i) (.cells (l.flatten.map cz) es f p)) σ.length (o5 i (ρ i) l d)/\erase ρ (o5 i (ρ i) l d)=erase ρ d:=
  fun d I D=>po (Φ:=oz Φ (ρ i) (.cells (l.flatten.map cz) es f p)) (f:=f) (p:=p) rfl (by rw[lf];exact if_pos rfl) (Or.inl rfl) d1 t d I D
 obtain⟨L,ad,Q⟩:=Mg h cs S N;have P:=ac.acB (j:=j) (cs:=cs) (cs':=B0 i (ρ i) l cs) (by rw[agO u];exact s) ad Q (by rw[m];exact L) (Tc cs k.2.2);have a:((σ.set i .gone).set j (.box (B0 i (ρ i) l cs))).length=σ.length:=by rw[agn,m]
 have O5:iJ Φ ρ σ.length (oz Φ (ρ i) (.cells (l.flatten.map cz) es f p)) ρ ((σ.set i .gone).set j (.box (B0 i (ρ i) l cs))).length:=⟨e,fun _ _=>rfl,by rw[a];exact agp _⟩;obtain⟨n,x,fr',VC,Rw,ps',dC,du,dk,oK,e1,e2,e3,e4,e5,e6,e7,e8⟩:=(R (ρ i)).go _ ρ st W P (fun ah d h=>by
  obtain⟨G,z,rfl⟩:=FA h;obtain⟨ai,b⟩:=H ah G (pP ae ah _ z);obtain⟨U,aa⟩:=M G b (A5 ab z);rw[a];exact⟨by rw[aa];exact ai,U⟩) (O5.df v) (O5.ps Y).2 ⟨hf.1,by rw[a];exact hf.2⟩
 exact aaq
end
section
variable{C:dR} {cF:ql} {σ:VS} {tb te fw fl fs i:Nat} {s:cq}
theorem Real.j2{Φ:Fz}{ρ:Nat->Nat}{st:St}(b:Real Φ ρ σ st)(a:nth σ i=some (.j2 tb te s)):σ[i]?=some (.j2 tb te s)/\i<σ.length/\st.get (ρ i)=some (.j2 tb te s):=by
 rw[ck]at a;exact⟨a,(agj.1 a).1,(b.obj i _ a Z).1⟩
theorem AI{t:cq}(d:C.prm=Qr tb te fw fl fs)(k:∀l,cF fw l=none)(m:nth σ i=some (.j2 tb te s))(f:s.length+t.length<=140737488355328) 
  (e:u (.ret (.dS [.d (.int .i64 (agq t.length)),.d .yx])) (σ.set i (.j2 tb te (s++t)))):b4 C cF fw [.bp i 0,.d (.str t)] σ u:=by
 refine⟨fun Φ ρ st n o=>?_⟩;obtain⟨h,p,j⟩:=n.j2 m;have g:=n.put (o':=.j2 tb te (s++t)) (a:=.j2 tb te (s++t)) h rfl rfl rfl (by intro _ _ _ _ r;cases r) (by show(st.put _ _).get _=_;rw[c8,if_pos rfl]);refine⟨1,_,.none,_,Φ,ρ,_,?_,by rw[agn];exact .refl _ _ _,g,?_,e⟩
 ·have c:agD (s.length+t.length) 140737488355328=true:=Nat.ble_eq_true_of_le f;simp only[jN,k,d,Qr,Rm,cl,erase,cz,agm,Bool.true_or,j,c,ago,eG]
 ·refine .dS fun v b=>?_;simp only[ags,List.not_mem_nil,or_false]at b;rcases b with rfl|rfl
  ·exact .d (.int _ _)
  ·exact .d .yx
theorem Xu(a:C.prm=Qr tb te fw fl fs)(d:∀l,cF fl l=none)(e:nth σ i=some (.j2 tb te s))(b:u (.ret (.d (.int .i64 (agq s.length)))) σ):b4 C cF fl [.bp i 0] σ u:=by
 refine⟨fun Φ ρ st f g=>?_⟩;obtain⟨j,h,c⟩:=f.j2 e;refine⟨1,_,.none,st,Φ,ρ,σ,?_,.refl _ _ _,f,?_,b⟩
 ·simp only[jN,d,a,Qr,Rm,cl,erase,cz,agm,Bool.true_or,ag0,c,ago,eG]
 ·exact e9.d (.int _ _)
theorem Xv{c:UInt8}(d:C.prm=Qr tb te fw fl fs)(j:∀l,cF fs l=none)(b:agL fs fl=false)(k:nth σ i=some (.j2 tb te (c::s)))(e:u (.ret (.d (.str (c::s)))) (σ.set i .gone)):b4 C cF fs [.bp i 0] σ u:=by
 refine⟨fun Φ ρ st m n=>?_⟩;obtain⟨g,o,h⟩:=m.j2 k;have f:=m.put (o':=.gone) (a:=.dead) g rfl rfl rfl (by intro _ _ _ _ p;cases p) trivial;refine⟨1,_,.none,_,Φ,ρ,_,?_,by rw[agn];exact .refl _ _ _,f,?_,e⟩
 ·simp only[jN,j,d,Qr,Rm,cl,erase,cz,agm,b,ag0,h,ago,eG]
 ·exact e9.d (.str _)
end
end Go.VM
