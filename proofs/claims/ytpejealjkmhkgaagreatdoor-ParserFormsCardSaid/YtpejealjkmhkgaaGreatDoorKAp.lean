/- Part of the proof. -/
import Derived.Test.YtpejealjkmhkgaaGreatDoorKAo
set_option linter.all false
set_option maxHeartbeats 16000000
set_option maxRecDepth 100000
open Nat renaming beq_refl->abK,lt_of_lt_of_le->aet,beq->aev
open Bool renaming and_self->abL
open Option renaming map_none->aeu
namespace Go.VM
open Go.AM
abbrev Tm:=List (Nat×V)
def eG(ρ:Nat->Nat):cO->CR
 |.ret b=>.ret (erase ρ b)
 |.eH b=>.eH (erase ρ b)
def CW(Φ:Fz)(m:Nat):cO->Prop
 |.ret b=>e9 Φ m b
 |.eH b=>e9 Φ m b
def c6(ρ:Nat->Nat):lJ->dW
 |.none=>.none
 |.gg b=>.gg (erase ρ b)
 |.rD=>.rD
def Bx(Φ:Fz)(m:Nat):lJ->Prop
 |.none=>True
 |.gg b=>e9 Φ m b
 |.rD=>True
def ek(ρ:Nat->Nat):Bu->Ex
 |.norm=>.norm
 |.exit id=>.exit id
 |.ret=>.ret
 |.panic b=>.panic (erase ρ b)
def PT(Φ:Fz)(m:Nat):Bu->Prop
 |.panic b=>e9 Φ m b
 |_=>True
def dV(ρ:Nat->Nat)(b:uw):FC:=⟨b.fn,b.nt,b.round.map ρ,b.DZ⟩
def xB(m:Nat)(b:uw):Prop:=(∀c,b.round=some c->c<b.fl)/\b.fl<=m
structure bV (C:dR) (cF:ql) (f:FuncId) (args:List V) (σ:VS) (K:cO->VS->Prop):Prop where
 go:∀Φ ρ st,Real Φ ρ σ st->eV Φ σ.length args->∃n r ps' dC du dk oK,(jN C cF n).call f (cl ρ args) false .none st=some (eG dk r,ps',dC)/\
  iJ Φ ρ σ.length du dk oK.length/\Real du dk oK dC/\CW du oK.length r/\K r oK
structure oA (C:dR) (cF:ql) (f:FuncId) (args:List V) (ps:lJ) (σ:VS) (K:cO->lJ->VS->Prop):Prop where
 go:∀Φ ρ st,Real Φ ρ σ st->eV Φ σ.length args->Bx Φ σ.length ps->∃n r ps' dC du dk oK,(jN C cF n).call f (cl ρ args) true (c6 ρ ps) st=some (eG dk r,c6 dk ps',dC)/\
  iJ Φ ρ σ.length du dk oK.length/\Real du dk oK dC/\CW du oK.length r/\Bx du oK.length ps'/\K r ps' oK
structure iA (C:dR) (cF:ql) (l:Nat) (args:List V) (σ:VS) (K:cO->VS->Prop):Prop where
 go:∀Φ ρ st,Real Φ ρ σ st->eV Φ σ.length args->l<σ.length->∃n r dC du dk oK,(jN C cF n).round (ρ l) (cl ρ args) st=some (eG dk r,dC)/\
  iJ Φ ρ σ.length du dk oK.length/\Real du dk oK dC/\CW du oK.length r/\K r oK
structure cd (C:dR) (cF:ql) (fc:uw) (c:Code) (tm:Tm) (df:List fq) (ps:lJ) (σ:VS) (Q:Bu->Tm->List fq->lJ->VS->Prop):Prop where
 go:∀Φ ρ st fr,Real Φ ρ σ st->gK Φ ρ σ.length tm fr.tm->CN Φ ρ σ.length df fr.df->Bx Φ σ.length ps->xB σ.length fc->
  ∃n x fr' VC Rw ps' dC du dk oK,code C (jN C cF n) (dV ρ fc) c fr (c6 ρ ps) st=some (ek dk x,fr',c6 dk ps',dC)/\
   iJ Φ ρ fc.fl du dk oK.length/\Real du dk oK dC/\gK du dk oK.length VC fr'.tm/\CN du dk oK.length Rw fr'.df/\Bx du oK.length ps'/\PT du oK.length x/\Q x VC Rw ps' oK
inductive VOR where
 |next (tm:Tm) (df:List fq) (ps:lJ) (σ:VS)
 |eH (v:V) (tm:Tm) (df:List fq) (ps:lJ) (σ:VS)
def N7(f:Nat)(c:Tm)(b:Option Tmp)(l:V)(i:Tm->Prop):Prop:=
 match b with
 |none=>i c
 |some h=>match Nat.blt h f with
  |true=>i ((h,l)::c)
  |false=>False
def adG(c:uw)(b:Option Tmp):Bool:=
 match b with
 |some f=>c.fz f
 |none=>false
def L7(C:dR)(cF:ql)(f:uw)(o:Oper)(b:Tm)(h:List fq)(i:lJ)(σ:VS)(K:VOR->Prop):Prop:=
 vop C (adG f o.dst) (Fq b) o.op σ fun n=>match n with
  |.val m c=>N7 f.nt b o.dst m fun b=>K (.next b h i c)
  |.eH m=>K (.eH m b h i σ)
  |.enter t l=>bV C cF t l σ fun n c=>match n with
   |.ret m=>N7 f.nt b o.dst m fun b=>K (.next b h i c)
   |.eH m=>K (.eH m b h i c)
  |.yield v l=>iA C cF v l σ fun n c=>match n with
   |.ret m=>N7 f.nt b o.dst m fun b=>K (.next b h i c)
   |.eH m=>K (.eH m b h i c)
  |.recover=>match f.round with
   |some _=>False
   |none=>match f.DZ,i with
    |true,.gg m=>N7 f.nt b o.dst m fun b=>K (.next b h .rD σ)
    |_,_=>N7 f.nt b o.dst (.d .yx) fun b=>K (.next b h i σ)
  |.defer r=>match f.round with
   |some _=>False
   |none=>N7 f.nt b o.dst (.dS []) fun b=>K (.next b (r::h) i σ)
def A0(h:List Oper)(i:Tm)(o:Oper)(f b:Prop):Prop:=
 match o.guard with
 |none=>f
 |some (r,c)=>match nth h r with
  |none=>False
  |some l=>match l.dst with
   |none=>False
   |some n=>match gm i n with
    |some (.d (.bool m))=>(match c with
     |true=>jR f b m
     |false=>jR b f m)
    |some (.dS _)=>b
    |_=>False
def BX(C:dR)(cF:ql)(i:uw)(h:List Oper)(o:Oper)(b:Tm)(c:List fq)(f:lJ)(σ:VS)(K:VOR->Prop):Prop:=
 A0 h b o (L7 C cF i o b c f σ K) (N7 i.nt b o.dst (.dS []) fun b=>K (.next b c f σ))
abbrev VQ:=Bu->Tm->List fq->lJ->VS->Prop
abbrev VK:=Tm->List fq->lJ->VS->VQ->Prop
def CX(C:dR)(cF:ql)(i:uw)(h:List Oper)(o:Oper)(n:VK):VK:=
 fun f b c σ l=>BX C cF i h o f b c σ fun m=>match m with
  |.next f b c σ=>n f b c σ l
  |.eH r f b c σ=>l (.panic r) f b c σ
noncomputable def BY(C:dR)(cF:ql)(n:uw)(b:List Oper)(l:List Oper):VK:=
 List.rec (motive:=fun _=>VK) (fun i f h σ o=>o .norm i f h σ) (fun r _ m=>CX C cF n b r m) l
theorem Hb(C:dR)(cF:ql)(c:uw)(b:List Oper)(o:Oper)(l:List Oper):BY C cF c b (o::l)=CX C cF c b o (BY C cF c b l):=rfl
inductive mi where
 |val (i:Nat) (v:V)
 |obj (i:Nat) (v:V) (ob:cN) (j:Option Nat)
 |skip (i:Nat)
 |fresh (i:Nat) (v:V) (ob:cN) (j:Nat)
 |never (i:Nat)
def mi.idx:mi->Nat
 |.val b _=>b
 |.obj b _ _ _=>b
 |.skip b=>b
 |.fresh b _ _ _=>b
 |.never b=>b
def Hc:mi->mi
 |.fresh b _ _ _=>.never b
 |c=>c
noncomputable def yF(l:List mi):List mi:=List.rec (motive:=fun _=>List mi) [] (fun f _ c=>Hc f::c) l
theorem Ev(c:mi)(l:List mi):yF (c::l)=Hc c::yF l:=rfl
def PU(c:Tm)(b:Option Tmp)(h:V):Prop:=
 match b with
 |none=>True
 |some f=>gm c f=some h
def vM(C:dR)(b:List Oper)(c:Tm)(σ:VS):mi->Prop
 |.val i l=>match nth b i with
  |some f=>A0 b c f (PU c f.dst l/\CM C (Fq c) f.op σ fun n=>n=l) False
  |none=>False
 |.obj i l h m=>match nth b i with
  |some f=>A0 b c f (PU c f.dst l/\Fs C (Fq c) f.op=some h/\(match m with|some m=>nth σ m=some h|none=>True)) False
  |none=>False
 |.skip i=>match nth b i with
  |some f=>A0 b c f False (PU c f.dst (.dS []))
  |none=>False
 |.fresh i l h m=>match nth b i with
  |some f=>A0 b c f (PU c f.dst l/\Fs C (Fq c) f.op=some h/\nth σ m=some h) False
  |none=>False
 |.never _=>False
def Jw:Nat->Nat->Bool
 |b,0=>aev (b%2) 1
 |b,c+1=>Jw (b/2) c
theorem Hd:∀(b c:Nat),Jw c b=Nat.testBit c b:=by
 intro b;induction b with
 |zero=>
  intro c;simp only[Jw,Nat.testBit_zero];rw[Bool.eq_iff_iff,Nat.beq_eq,decide_eq_true_eq]
 |succ b f=>intro c;rw[Jw,f,Nat.testBit_succ]
def rO(C:dR)(f:List Oper)(h:Tm)(σ:VS)(b:Nat):List mi->Prop
 |[]=>True
 |c::i=>match Jw b c.idx with
  |true=>rO C f h σ b i
  |false=>vM C f h σ c/\rO C f h σ b i
def rP(b:Nat):Tm->Tm
 |[]=>[]
 |(f,h)::c=>match aev f b with
  |true=>rP b c
  |false=>(f,h)::rP b c
def nq:List Oper->Tm->Tm
 |[],b=>b
 |o::c,b=>match o.dst with
  |some f=>match gb o.op with
   |true=>nq c b
   |false=>nq c (rP f b)
  |none=>nq c b
def yG:Op->Bool
 |.buildSlice _ 0 _=>true
 |_=>false
def adH(c:uw)(b:Option Tmp):Bool:=
 match b with
 |some f=>c.fz (2000000+f)
 |none=>false
def L8(C:dR)(v:Bool)(o:Operand->Option V)(c:Op)(t:Nat)(σ:VS)(r:V->mi->VS->Prop):Prop:=
 match Fs C o c with
 |some b=>match yG c||(v&&nk c)with
  |true=>CH σ b fun m f=>dn (aaE c b m) fun l=>r l (.fresh t l b m) f
  |false=>match nk c with
   |true=>match b with
    |.row i h=>match qC h with
     |some n=>∀x:Nat,r (.d (.ps x 0 i n.length n)) (.obj t (.d (.ps x 0 i n.length n)) (.row i h) none) σ
     |none=>False
    |_=>False
   |false=>CH σ b fun m f=>dn (aaE c b m) fun l=>r l (.obj t l b (some m)) f
 |none=>False
noncomputable def Ae(C:dR)(cF:ql)(l:uw)(i:List Oper)(G:List Nat)(r:Nat)(v:Nat->List mi->VK):Nat->List mi->VK:=
 fun x c b f h σ o=>
  match nth i r,nth G r with
  |some m,some F=>
   match gb m.op with
   |true=>jS (rO C i b σ x c) (BX C cF l i m b f h σ fun H=>match H with
     |.eH n b f h σ=>o (.panic n) (nq i b) f h σ
     |.next b f h σ=>v F (yF c) b f h σ o)
   |false=>A0 i b m
     (match gh m.op with
     |true=>L8 C (adH l m.dst) (Fq b) m.op r σ fun n I t=>N7 l.nt b m.dst n fun b=>v x (I::c) b f h t o
     |false=>CM C (Fq b) m.op σ fun n=>N7 l.nt b m.dst n fun b=>v x (.val r n::c) b f h σ o)
     (N7 l.nt b m.dst (.dS []) fun b=>v x (.skip r::c) b f h σ o)
  |_,_=>False
noncomputable def yH(C:dR)(cF:ql)(o:uw)(b:List Oper)(r:List Nat)(l:List Nat):Nat->List mi->VK:=
 List.rec (motive:=fun _=>Nat->List mi->VK) (fun v c f i m σ t=>jS (rO C b f σ v c) (t .norm f i m σ)) (fun x _ n=>Ae C cF o b r x n) l
theorem Ew(C:dR)(cF:ql)(f:uw)(b:List Oper)(c:List Nat)(h:Nat)(l:List Nat):yH C cF f b c (h::l)=Ae C cF f b c h (yH C cF f b c l):=rfl
def Fx:Op->Bool
 |.indexAddr _ _ _=>true
 |_=>false
def L9(C:dR)(M:Nat)(H o i:Oper)(c:Tm)(F:List fq)(J:lJ)(σ:VS)(Q:Bu->Tm->List fq->lJ->VS->Prop):Prop:=
 match H.dst,o.dst,i.dst,o.op,i.op,Fx H.op with
 |some K,none,none,.store t1 O I,.store t2 N P,true=>
  CM C (Fq c) H.op σ fun R=>N7 M c (some K) R fun b=>
   dn (Fq b O) fun L=>dn (Fq b I) fun m=>dn (Fq (rP K c) N) fun G=>dn (Fq (rP K c) P) fun l=>
   match L,G with
   |.ptr t v f f1,.bp h f2=>jS (mU C t2 (.bp h f2) l σ fun r=>mU C t1 (.ptr t v f f1) m r fun _=>True)
     (mU C t1 (.ptr t v f f1) m σ fun n=>mU C t2 (.bp h f2) l n fun x=>Q .norm b F J x)
   |_,_=>False
 |_,_,_,_,_,_=>False
def Ma(C:dR)(v:Nat)(L x f n:Oper)(b:Tm)(J:List fq)(O:lJ)(σ:VS)(T:Bu->Tm->List fq->lJ->VS->Prop):Prop:=
 match L.dst,x.dst,f.dst,n.dst with
 |some c,none,some h,none=>match x.op,f.op,n.op,Fx L.op with
  |.store t1 R N,.fieldAddr V U W,.store t2 Q S,true=>match aev c h,Nat.blt c v,Nat.blt h v with
   |false,true,true=>
    CM C (Fq (rP h b)) L.op σ fun M=>CM C (Fq (rP c b)) f.op σ fun i=>
     dn (Fq ((c,M)::rP h b) R) fun P=>dn (Fq ((c,M)::rP h b) N) fun r=>dn (Fq ((h,i)::rP c b) Q) fun K=>dn (Fq ((h,i)::rP c b) S) fun o=>
     match P,K with
     |.ptr G H l f1,.bp m f2=>jS (mU C t2 (.bp m f2) o σ fun F=>mU C t1 (.ptr G H l f1) r F fun _=>True)
       (mU C t1 (.ptr G H l f1) r σ fun t=>mU C t2 (.bp m f2) o t fun I=>T .norm ((h,i)::(c,M)::b) J O I)
     |_,_=>False
   |_,_,_=>False
  |_,_,_,_=>False
 |_,_,_,_=>False
noncomputable def He(C:dR)(cF:ql)(i:uw)(b:Array Oper)(v:Bool)(h:Tm)(c:List fq)(f:lJ)(σ:VS)(F:Bu->Tm->List fq->lJ->VS->Prop):Prop:=
 match v with
 |false=>BY C cF i b.toList b.toList h c f σ F
 |true=>match rH b.toList with
  |⟨t,m,l⟩=>yH C cF i b.toList t l 0 [] h c f σ fun x h c f σ=>match x with
   |.norm=>(match aev m b.toList.length with
    |true=>F .norm h c f σ
    |false=>match b.toList.drop m,nth t (m+1)with
     |[G,r,o],some n=>(match Jw n m with
      |true=>L9 C i.nt G r o h c f σ F
      |false=>False)
     |[G,r,I,o],some n=>(match Jw n m,nth t (m+3)with
      |true,some H=>(match Jw H (m+2)with
       |true=>Ma C i.nt G r I o h c f σ F
       |false=>False)
      |_,_=>False)
     |_,_=>False)
   |x=>F x h c f σ
def S2:Option Code->Option Bu
 |none=>some .norm
 |some .ret=>some .ret
 |some (.exit id)=>some (.exit id)
 |_=>none
def Hf(C:dR)(cF:ql)(r:FuncId)(first f:List V)(c:Nat)(l:Tm)(i:List fq)(m:lJ)(σ:VS)(o:Bu->Tm->List fq->lJ->VS->Prop):Prop:=
 match C.ff.get r with
 |none=>False
 |some _=>bV C cF r (first++[.tR c]++f) σ fun t b=>match t with
  |.ret _=>(match nth b c with
   |some (.loop n)=>(match n.state with
    |.busy=>False
    |_=>dn (S2 n.pending) fun v=>Bv b c (.loop {n with state:=.exhausted}) fun h=>o v l i m h)
   |_=>False)
  |.eH x=>o (.panic x) l i m b
def cutAt(b:uw):Code->Bool
 |.region id _ _=>b.fz (1000000+id)
 |.seq c _=>cutAt b c
 |_=>false
def S3(h:Bool)(i m n:VK):VK:=fun f b c σ l=>i f b c σ fun x f b c σ=>match x with
  |.norm=>(match h with
   |true=>n f b c σ l
   |false=>m f b c σ l)
  |x=>l x f b c σ
def Mb(c:Operand)(i l:VK):VK:=fun b f h σ m=>match Fq b c with
  |some (.d (.bool n))=>jR (i b f h σ m) (l b f h σ m) n
  |_=>False
def V4(id:Nat)(l:VK):VK:=fun f b c σ i=>l f b c σ fun x f b c σ=>match x with
  |.exit h=>(match aev h id with
   |true=>i .norm f b c σ
   |false=>i (.exit h) f b c σ)
  |x=>i x f b c σ
def Hg(C:dR)(cF:ql)(h:uw)(f:Operand)(c:Array Tmp)(b i:Code):VK:=fun l o v σ F=>match Fq l f with
  |some (.fn H first m)=>(match h.round with
   |some J=>(match nth σ J with
    |some (.loop I)=>CH σ (.loop ⟨.ready,none,h.fn,l,h.nt,c.toList,b,i,I.defers,h.fz⟩) fun n t=>Hf C cF H first m n l o v t F
    |_=>False)
   |none=>CH σ (.eI false) fun G r=>CH r (.loop ⟨.ready,none,h.fn,l,h.nt,c.toList,b,i,G,h.fz⟩) fun n x=>Hf C cF H first m n l (⟨.GS G,[]⟩::o) v x F)
  |_=>False
noncomputable def vc(C:dR)(cF:ql)(l:uw)(c:Code):VK:=
 Code.rec (motive:=fun _=>VK)
  (fun h b f σ n=>n .norm h b f σ)
  (fun _ x v h b f σ n=>He C cF l x v h b f σ n)
  (fun _ G o t=>S3 (cutAt l G) o t (cd C cF l G))
  (fun c _ _ o t=>Mb c o t)
  (fun id _ I=>V4 id I)
  (fun G _ h b f σ n=>cd C cF l (.loop G) h b f σ n)
  (fun H m i r _ _=>Hg C cF l H m i r)
  (fun id h b f σ n=>n (.exit id) h b f σ)
  (fun _ _ _ _ _ _ _=>False)
  (fun _ _ _ _ _ _=>False)
  (fun _ _ _ _ _ _=>False)
  (fun h b f σ n=>n .ret h b f σ)
  (fun _ _ _ _ _ _=>False)
  c
theorem aaJ(C:dR)(cF:ql)(c:uw)(f b:Code):vc C cF c (.seq f b)=S3 (cutAt c b) (vc C cF c f) (vc C cF c b) (cd C cF c b):=rfl
theorem V5(C:dR)(cF:ql)(f:uw)(c:Operand)(h b:Code):vc C cF f (.cond c h b)=Mb c (vc C cF f h) (vc C cF f b):=rfl
theorem S4(C:dR)(cF:ql)(i:uw)(f:Operand)(c:Array Tmp)(b h:Code):vc C cF i (.rangeFunc f c b h)=Hg C cF i f c b h:=rfl
inductive tc where
 |returning
 |panicking (v:V)
def PE:tc->lJ
 |.returning=>.none
 |.panicking b=>.gg b
def pn:tc->lJ->tc
 |.returning,_=>.returning
 |.panicking _,.rD=>.returning
 |.panicking b,_=>.panicking b
def su(C:dR)(cF:ql):List fq->tc->VS->(tc->VS->Prop)->Prop
 |[],m,σ,h=>h m σ
 |⟨.GS i,_⟩::f,m,σ,h=>match nth σ i with
  |some (.eI false)=>Bv σ i (.eI true) fun σ=>su C cF f m σ h
  |_=>False
 |⟨.fn n c,b⟩::f,m,σ,h=>match C.ff.get n with
  |some _=>oA C cF n (b++c) (PE m) σ fun i l σ=>match i with
   |.ret _=>su C cF f (pn m l) σ h
   |.eH _=>False
  |none=>False
def yI(C:dR)(b:Tm)(σ:VS):List ResultVar->(List V->Prop)->Prop
 |[],f=>f []
 |.tmp h::l,f=>dn (gm b h) fun i=>yI C b σ l fun c=>f (i::c)
 |.cell m h::l,f=>dn (gm b m) fun n=>NX C h n σ fun i=>yI C b σ l fun c=>f (i::c)
def pO:List V->V
 |[c]=>c
 |b=>.dS b
def vN(C:dR)(cF:ql)(b:List ResultVar)(m:tc)(f:Tm)(c:List fq)(σ:VS)(K:cO->VS->Prop):Prop:=
 su C cF c m σ fun m σ=>match m with
  |.panicking i=>K (.eH i) σ
  |.returning=>yI C f σ b fun h=>K (.ret (pO h)) σ
def sv:Nat->List V->Tm
 |_,[]=>[]
 |i,c::b=>(i,c)::sv (i+1) b
noncomputable def CY(C:dR)(cF:ql)(o:Nat->Bool)(f:FuncId)(h:List V)(n:Bool)(c:lJ)(σ:VS)(K:cO->lJ->VS->Prop):Prop:=
 match C.ff.get f with
 |none=>False
 |some b=>match Nat.ble h.length b.nt with
  |false=>False
  |true=>vc C cF ⟨f,b.nt,none,n,o,σ.length⟩ b.body (sv 0 h) [] c σ fun r i l c σ=>match r with
   |.norm=>vN C cF b.VE .returning i l σ fun m σ=>K m c σ
   |.ret=>vN C cF b.VE .returning i l σ fun m σ=>K m c σ
   |.panic t=>vN C cF b.VE (.panicking t) i l σ fun m σ=>K m c σ
   |.exit _=>False
def sw:List Tmp->List V->Nat->Tm->(Tm->Prop)->Prop
 |[],[],_,b,i=>i b
 |t::h,l::f,c,b,i=>match Nat.blt t c with
  |true=>sw h f c ((t,l)::b) i
  |false=>False
 |_,_,_,_,_=>False
def rQ(l:Nat)(b:Bool)(st:LoopState)(pending:Option Code)(c:List fq)(σ:VS)(K:cO->VS->Prop):Prop:=
 match c,nth σ l with
 |[],some (.loop f)=>Bv σ l (.loop {f with state:=st,pending:=pending}) fun σ=>K (.ret (.d (.bool b))) σ
 |_,_=>False
noncomputable def N8(C:dR)(cF:ql)(m l:Nat)(h:List V)(σ:VS)(K:cO->VS->Prop):Prop:=
 match nth σ l with
 |some (.loop c)=>match C.ff.get c.fn with
  |none=>False
  |some _=>sw c.params h c.nt c.tm fun f=>
   vc C cF ⟨c.fn,c.nt,some l,false,c.fz,m⟩ c.assign f [] .none σ fun n f b _ σ=>match n with
    |.norm=>(match nth σ l with
     |some (.loop i)=>(match i.state with
      |.ready=>Bv σ l (.loop {i with state:=.busy}) fun σ=>
        vc C cF ⟨c.fn,c.nt,some l,false,c.fz,m⟩ c.body f b .none σ fun n _ b _ σ=>match n with
         |.norm=>rQ l true .ready none b σ K
         |.ret=>rQ l false .done (some .ret) b σ K
         |.exit id=>rQ l false .done (some (.exit id)) b σ K
         |.panic o=>(match b with
          |[]=>K (.eH o) σ
          |_=>False)
      |_=>False)
     |_=>False)
    |_=>False
 |_=>False
noncomputable def S5(C:dR)(cF:ql)(l:Nat)(b:List V)(σ:VS)(K:cO->VS->Prop):Prop:=N8 C cF σ.length l b σ K
variable{d:Option Tmp} {B:V} {E e:Nat} {D:Fz} {q:Nat->Nat} {k:uw} {w:lJ} {j:Tm} {p:Fr} {g:List fq} {a:List Oper}
section
variable{C:dR} {cF:ql} {Φ du:Fz} {ρ dk:Nat->Nat} {σ:VS} {st:St} {m m':Nat}
theorem kl(c t:Nat)(h:V)(b:Tm):gm ((c,h)::b) t=if t=c then some h else gm b t:=by
 simp only[gm,N4];by_cases f:t=c
 ·subst f;simp
 ·rw[decide_eq_false (fun i=>f i.symm),if_neg f]
theorem gK.set{c:Tm}{t:Tr Value}(o:gK Φ ρ m c t){l:Nat}{h:V}(f:e9 Φ m h):gK Φ ρ m ((l,h)::c) (t.set l (erase ρ h)):=by
 intro r n b;rw[kl]at b;rw[cB];split at b
 ·rename_i i;cases b;rw[if_pos i];exact⟨Z,f⟩
 ·rename_i i;rw[if_neg i];exact o r n b
theorem rR{tm:Tm}{n:Tm->Prop}(b:N7 e tm d B n){fr:Fr}(h:gK Φ ρ m tm fr.tm)(i:e9 Φ m B):
  ∃f c,n f/\gV e fr d (erase ρ B)=some c/\gK Φ ρ m f c.tm/\c.df=fr.df:=by
 unfold N7 at b;split at b
 ·exact⟨tm,fr,b,Z,h,Z⟩
 ·rename_i o;split at b
  ·rename_i l;exact⟨_,{fr with tm:=fr.tm.set o (erase ρ B)},b,by simp only[gV,l],h.set i,Z⟩
  ·exact b.elim
theorem iJ.ps(f:iJ Φ ρ m du dk m'){b:lJ}(c:Bx Φ m b):c6 dk b=c6 ρ b/\Bx du m' b:=by
 cases b with
 |none=>exact⟨rfl,tv⟩
 |gg h=>exact⟨by simp only[c6,f.erase c],f.ok c⟩
 |rD=>exact⟨rfl,tv⟩
theorem iJ.weaken(c:iJ Φ ρ m du dk m')(b:e<=m):iJ Φ ρ e du dk m':=⟨c.le,fun h f=>c.vA h (aet f b),Nat.le_trans b c.len⟩
theorem iJ.then(h:iJ Φ ρ m du dk m')(f:iJ du dk e D q E)(b:m<=e):iJ Φ ρ m D q E:=
 ⟨h.le.trans f.le,fun i c=>(f.vA i (aet c b)).trans (h.vA i c),Nat.le_trans b f.len⟩
theorem iJ.Mc(f:iJ Φ ρ k.fl du dk m')(b:xB m k):dV dk k=dV ρ k/\xB m' k:=by
 refine⟨?_,b.1,f.len⟩;unfold dV;cases c:k.round with
 |none=>rfl
 |some h=>simp only[Option.map_some];rw[f.vA h (b.1 h c)]
theorem iJ.fc(f:iJ Φ ρ m du dk m'){b:uw}(c:xB m b):dV dk b=dV ρ b/\xB m' b:=(f.weaken c.2).Mc c
structure SR (Φ:Fz) (ρ:Nat->Nat) (σ:VS) (st:St) (tm:Tm) (df:List fq) (ps:lJ) (fr:Fr):Prop where
 real:Real Φ ρ σ st
 tm:gK Φ ρ σ.length tm fr.tm
 df:CN Φ ρ σ.length df fr.df
 ps:Bx Φ σ.length ps
inductive OR' (Φ:Fz) (ρ:Nat->Nat) (m:Nat) (K:VOR->Prop) (r:AK):Prop
 |next (du:Fz) (dk:Nat->Nat) (oK:VS) (dC:St) (tm:Tm) (df:List fq) (ps:lJ) (fr:Fr) (hk:K (.next tm df ps oK)) (hs:iJ Φ ρ m du dk oK.length) (h:SR du dk oK dC tm df ps fr)
   (hr:r=.next fr (c6 dk ps) dC)
 |eH (v:V) (du:Fz) (dk:Nat->Nat) (oK:VS) (dC:St) (tm:Tm) (df:List fq) (ps:lJ) (fr:Fr) (hk:K (.eH v tm df ps oK)) (hs:iJ Φ ρ m du dk oK.length) (h:SR du dk oK dC tm df ps fr) (hv:e9 du oK.length v)
   (hr:r=.eH (erase dk v) fr (c6 dk ps) dC)
theorem SR.move(h:SR Φ ρ σ st j g w p){b:VS}{c:St}(f:iJ Φ ρ σ.length du dk b.length)(i:Real du dk b c):SR du dk b c j g w p:=
 ⟨i,f.tm h.tm,f.df h.df,(f.ps h.ps).2⟩
theorem Cj{K:VOR->Prop}{m0:Nat}{Φ0:Fz}{ρ0:Nat->Nat}(l:iJ Φ0 ρ0 m0 Φ ρ σ.length) 
  (m:N7 k.nt j d B fun j=>K (.next j g w σ)) (f:SR Φ ρ σ st j g w p) (n:e9 Φ σ.length B):∃t,AK.go k.nt p d (erase ρ B) (c6 ρ w) st=some t/\OR' Φ0 ρ0 m0 K t:=by
 obtain⟨c,b,r,h,i,o⟩:=rR m f.tm n;refine⟨_,by simp only[AK.go,h],.next Φ ρ σ st c g w b r l ⟨f.real,i,?_,f.ps⟩ Z⟩;rw[o];exact f.df
theorem Hh{o:Oper}{tm:Tm}{df:List fq}{ps:lJ}{K:VOR->Prop}(H:L7 C cF k o tm df ps σ K){fr:Fr}(h:SR Φ ρ σ st tm df ps fr)(a:xB σ.length k):
  ∃n r,nT C (jN C cF n) (dV ρ k) o fr (c6 ρ ps) st=some r/\OR' Φ ρ σ.length K r:=by
 unfold L7 at H;have T:=PQ h.real (gF h.tm) H;cases T with
 |val t=>
  obtain⟨v,oK,du,dk,dC,b,c,k3,W,R⟩:=t;have h':=h.move c k3;obtain⟨r,e1,e2⟩:=Cj (Φ0:=Φ) (ρ0:=ρ) (m0:=σ.length) c b h' W;refine⟨0,r,?_,e2⟩;unfold nT;rw[R];simp only;rw[(c.ps h.ps).1]at e1;exact e1
 |eH v b c k3=>
  refine⟨0,.eH (erase ρ v) fr (c6 ρ ps) st,?_,.eH v Φ ρ σ st tm df ps fr b (.refl _ _ _) h c Z⟩;unfold nT;rw[k3]
 |enter d l b c k3=>
  obtain⟨n,r,X,dC,du,dk,oK,e1,e2,e3,e4,e5⟩:=b.go Φ ρ st h.real c;exact Yr
 |yield e l b U c k3=>
  obtain⟨n,r,dC,du,dk,oK,e1,e2,e3,e4,e5⟩:=b.go Φ ρ st h.real c U;exact Yr
 |recover b k3=>
  dsimp only at b;split at b
  ·exact b.elim
  ·rename_i i;split at b
   ·rename_i v N;have t:e9 Φ σ.length v:=h.ps;have h':SR Φ ρ σ st tm df .rD fr:=⟨h.real,h.tm,h.df,tv⟩;obtain⟨r,g1,g2⟩:=Cj (Φ0:=Φ) (ρ0:=ρ) (m0:=σ.length) (.refl _ _ _) b h' t;refine⟨0,r,?_,g2⟩;unfold nT;rw[k3];simp only[dV,i,aeu,N,c6];exact g1
   ·rename_i x;obtain⟨r,g1,g2⟩:=Cj (Φ0:=Φ) (ρ0:=ρ) (m0:=σ.length) (.refl _ _ _) b h (.d .yx);refine⟨0,r,?_,g2⟩;unfold nT;rw[k3];simp only[dV,i,aeu];split
    ·rename_i v e1 e2;exfalso;have:∀M:lJ,c6 ρ M=.gg v->∃J,M=.gg J:=fun M I=>by
      cases M with
      |gg J=>exact⟨J,rfl⟩
      |none=>cases I
      |rD=>cases I
     obtain⟨J,S⟩:=this _ e2;exact x J e1 S
    ·exact g1
 |defer L b c k3=>
  dsimp only at b;split at b
  ·exact b.elim
  ·rename_i i;obtain⟨F,f,Q,O,V,P⟩:=rR (fr:={fr with df:=jq ρ L::fr.df}) b h.tm (x9 (Φ:=Φ) (m:=σ.length));have G:CN Φ ρ σ.length (L::df) f.df:=by
    rw[P];refine⟨by simp only[List.map_cons];rw[h.df.1],fun Y hx=>?_⟩;rcases List.mem_cons.1 hx with rfl|hx
    ·exact c
    ·exact h.df.2 Y hx
   refine⟨0,_,?_,.next Φ ρ σ st F (L::df) ps f Q (.refl _ _ _) ⟨h.real,V,G,h.ps⟩ Z⟩;unfold nT;rw[k3];simp only[dV,i,aeu,AK.go];have:gV k.nt {fr with df:=jq ρ L::fr.df} o.dst lr=some f:=O;rw[this]
theorem nr{o:Oper}{t v:Prop}(b:A0 a j o t v)(r:gK Φ ρ m j p.tm):(gC a p o=some true/\t)∨(gC a p o=some false/\v):=by
 unfold A0 at b;split at b
 ·rename_i c;exact .inl ⟨by simp only[gC,c],b⟩
 ·rename_i G i c;split at b
  ·exact b.elim
  ·rename_i C h;split at b
   ·exact b.elim
   ·rename_i F f;split at b
    ·rename_i x l;have n:=(r _ _ l).1;cases i with
     |true=>
      cases x with
      |true=>exact .inl ⟨by simp only[gC,c,h,f,n,erase,cz],b⟩
      |false=>exact .inr ⟨by simp only[gC,c,h,f,n,erase,cz],b⟩
     |false=>
      cases x with
      |true=>exact .inr ⟨by simp only[gC,c,h,f,n,erase,cz],b⟩
      |false=>exact .inl ⟨by simp only[gC,c,h,f,n,erase,cz],b⟩
    ·rename_i H l;have n:=(r _ _ l).1;exact .inr ⟨by simp only[gC,c,h,f,n,erase],b⟩
    ·exact b.elim
theorem wM{o:Oper}{K:VOR->Prop}(b:BX C cF k a o j g w σ K)(r:SR Φ ρ σ st j g w p)(l:xB σ.length k):
  ∃m c,kg C (jN C cF m) (dV ρ k) a o p (c6 ρ w) st=some c/\OR' Φ ρ σ.length K c:=by
 unfold BX at b;rcases nr b r.tm with⟨t,b⟩|⟨t,b⟩
 ·obtain⟨m,c,i,f⟩:=Hh b r l;exact⟨m,c,by simp only[kg,t];exact i,f⟩
 ·obtain⟨c,n,h⟩:=Cj (Φ0:=Φ) (ρ0:=ρ) (m0:=σ.length) (.refl _ _ _) b r x9;exact⟨0,c,by simp only[kg,t];exact n,h⟩
def S6(Φ:Fz)(ρ:Nat->Nat)(m:Nat)(o:Bu->Tm->List fq->lJ->VS->Prop)(r:Ex×Fr×dW×St):Prop:=
 ∃du dk b c n i h f l,o n i h f b/\iJ Φ ρ m du dk b.length/\SR du dk b c i h f l/\PT du b.length n/\r=(ek dk n,l,c6 dk f,c)
theorem S6.after{x:Bu->Tm->List fq->lJ->VS->Prop}{C:Ex×Fr×dW×St}(t:iJ D q e Φ ρ E)(G:S6 Φ ρ e x C):S6 D q e x C:=by
 obtain⟨du,dk,c,b,F,v,f,i,o,m,h,r,l,n⟩:=G;exact⟨du,dk,c,b,F,v,f,i,o,m,t.then h (Nat.le_refl _),r,l,n⟩
theorem Ey:∀(M:List Oper) {Φ:Fz} {ρ:Nat->Nat} {σ:VS} {st:St} {r:Tm} {f:List fq} {c:lJ} {N:Bu->Tm->List fq->lJ->VS->Prop},
  BY C cF k a M r f c σ N->∀{i:Fr},SR Φ ρ σ st r f c i->xB σ.length k->
  ∃J O,pC C (jN C cF J) (dV ρ k) a M i (c6 ρ c) st=some O/\S6 Φ ρ k.fl N O:=by
 intro M;induction M with
 |nil=>
  intro Φ ρ σ st r f c N h i T b;exact⟨0,_,Z,Φ,ρ,σ,st,.norm,r,f,c,i,h,(iJ.refl _ _ _).weaken b.2,T,tv,Z⟩
 |cons W M U=>
  intro Φ ρ σ st r f c N h i T b;rw[Hb]at h;unfold CX at h;obtain⟨J,O,K,Q⟩:=wM h T b;cases Q with
  |next du dk v l t x m n F o H I=>
   subst I;obtain⟨G,P,L,R⟩:=U F H (o.fc b).2;refine⟨max J G,P,?_,R.after (o.weaken b.2)⟩;unfold pC;rw[qH (hG (Nat.le_max_left J G)) K];simp only;rw[(o.fc b).1]at L;exact AZ (hG (Nat.le_max_right J G)) _ L
  |eH V du dk v l t x m n F o H I S=>
   subst S;refine⟨J,(.panic (erase dk V),n,c6 dk m,l),?_,du,dk,v,l,.panic V,t,x,m,n,F,o.weaken b.2,H,I,Z⟩;unfold pC;rw[K]
end
theorem Jx(b:IntKind):tY b b=true:=by cases b<;>rfl
mutual
theorem mY(ρ:Nat->Nat):∀v:V,nV (erase ρ v) (erase ρ v)=true
 |.d x=>by
  cases x<;>simp only[erase,cz,nV,addrEq,abK,abL]
  ·simp
  ·rw[Jx,pk];simp
  ·rw[vL];simp
 |.bp i f=>by simp only[erase,nV,addrEq,abK,abL]
 |.ptr i es k f=>by simp only[erase,nV,addrEq,abK,abL]
 |.fp b off cs=>by simp only[erase,nV,addrEq,abK,abL]
 |.ms i es k len cap=>by simp only[erase,nV,addrEq,abK,abL]
 |.map i=>by simp only[erase,nV,abK]
 |.fn f a c=>by simp only[erase,nV,Sm,abK,mX ρ a,mX ρ c,abL]
 |.tR l=>by simp only[erase,nV,Sm,abK];rfl
 |.iface t v=>by simp only[erase,nV,abK,mY ρ v,abL]
 |.agg l=>by simp only[erase,nV,mX ρ l]
 |.dS l=>by simp only[erase,nV,mX ρ l]
theorem mX(ρ:Nat->Nat):∀l:List V,zO (cl ρ l) (cl ρ l)=true
 |[]=>by simp only[cl,zO]
 |v::l=>by simp only[cl,zO,mY ρ v,mX ρ l,abL]
end
variable{u:Op} {s:cN} {y:tJ} {A:fX} {z:Value}
section
variable{C:dR} {cF:ql} {Φ du:Fz} {ρ dk:Nat->Nat} {σ:VS} {st:St} {m m':Nat}
theorem jh.acA{es:Nat}{b:List (List V)}(f:jh Φ m es b)(c:iJ Φ ρ m du dk m'):jh du m' es b:=f.mono c.le c.len
theorem pN.mono(b:pN Φ m u s)(c:iJ Φ ρ m du dk m'):pN du m' u s:=by
 unfold pN at b⊢;split at b
 ·exact⟨c.N1 b.1,b.2⟩
 ·exact⟨c.N1 b.1,b.2⟩
 ·exact b
 ·exact⟨b.1.acA c,b.2⟩
 ·exact b.elim
theorem qn(c:pN Φ m u s)(b:iJ Φ ρ m du dk m')(n:Nat):iP u s dk n=iP u s ρ n:=by
 unfold pN at c;split at c
 ·simp only[iP,b.cl c.1]
 ·simp only[iP,b.cl c.1]
 ·rfl
 ·simp only[iP,b.cl (G3 c.1.ok)]
 ·exact c.elim
inductive lA (Φ:Fz) (ρ:Nat->Nat) (m:Nat) (ops:List Oper) (st:St):mi->tJ->Prop
 |val {i:Nat} {v:V} {o:Oper} (ho:nth ops i=some o) (hm:gh o.op=false) (hv:e9 Φ m v):lA Φ ρ m ops st (.val i v) (.val i (erase ρ v))
 |obj {i:Nat} {v:V} {ob:cN} {j:Option Nat} {o:Oper} {bl:Nat} {a:fX} (ho:nth ops i=some o) (hm:gh o.op=true) (hv:e9 Φ m v) (hk:pN Φ m o.op ob)
   (hmo:iP o.op ob ρ bl=some (erase ρ v,a)) (hj:match j with|some j=>j<m/\ρ j=bl/\nk o.op=false|none=>Φ bl=some a):lA Φ ρ m ops st (.obj i v ob j) (.obj i (erase ρ v) bl a)
 |skip {i:Nat}:lA Φ ρ m ops st (.skip i) (.skip i)
 |fresh {i:Nat} {v:V} {ob:cN} {j:Nat} {o:Oper} {bl:Nat} {a:fX} (ho:nth ops i=some o) (hm:gh o.op=true) (hv:e9 Φ m v) (hk:pN Φ m o.op ob)
   (hmo:iP o.op ob ρ bl=some (erase ρ v,a)) (hg:st.get bl=some a) (hl:bl<st.n):lA Φ ρ m ops st (.fresh i v ob j) (.obj i (erase ρ v) bl a)
 |never {i:Nat} {c:tJ} (h:c.idx=i):lA Φ ρ m ops st (.never i) c
theorem lA.mono{f:List Oper}{st b:St}{c:mi}{i:tJ}(l:lA Φ ρ m f st c i)(hs:iJ Φ ρ m du dk m')(r:∀n,n<st.n->b.get n=st.get n)(t:st.n<=b.n):lA du dk m' f b c i:=by
 cases l with
 |val ho hm hv=>rw[<-hs.erase hv];exact .val ho hm (hs.ok hv)
 |obj ho hm hv hk hmo hj=>
  exact Yy
 |skip=>exact .skip
 |fresh ho hm hv hk hmo o h=>
  rw[<-hs.erase hv];exact .fresh ho hm (hs.ok hv) (hk.mono hs) (by rw[qn hk hs,hmo,hs.erase hv]) (by rw[r _ h];exact o) (aet h t)
 |never l=>exact .never l
theorem lA.Md{st b:St}{c:mi}(f:lA Φ ρ m a st c y)(hs:iJ Φ ρ m du dk m'):lA du dk m' a b (Hc c) y:=by
 cases f with
 |val ho hm hv=>rw[<-hs.erase hv];exact .val ho hm (hs.ok hv)
 |obj ho hm hv hk hmo hj=>
  exact Yy
 |skip=>exact .skip
 |fresh ho hm hv hk hmo i h=>exact .never rfl
 |never f=>exact .never f
theorem sx(c:gK Φ ρ m j p.tm)(b:PU j d B):AL p d (erase ρ B)=true:=by
 unfold PU at b;split at b
 ·rfl
 ·simp only[AL,(c _ _ b).1,mY]
theorem A3(b:iP u s ρ e=some (z,A)):yd A A=true:=by
 unfold iP at b;split at b<;>first|cases b|skip
 ·exact X3
 ·exact X3
 ·rfl
 ·exact X3
theorem Me(h:Real Φ ρ σ st)(b:iP u s ρ (ρ e)=some (z,A))(f:pN Φ m u s)(i:nk u=false)(c:nth σ e=some s):st.get (ρ e)=some A:=by
 rw[ck]at c;unfold iP at b;split at b
 ·cases b;exact(h.obj e _ c rfl).1.1.1
 ·cases b;exact(h.obj e _ c rfl).1.1.1
 ·obtain⟨rfl,rfl⟩:=f;cases b;exact(h.obj e _ c Z).1.1
 ·cases i
 ·cases b
theorem Ez(O:Real Φ ρ σ st)(i:gK Φ ρ σ.length j p.tm){c:mi}(W:lA Φ ρ σ.length a st c y)(b:vM C a j σ c):pD C a p st y=true:=by
 cases W with
 |val h x M=>
  unfold vM at b;simp only[h]at b;rcases nr b i with⟨I,n,t⟩|⟨_,o⟩
  ·obtain⟨g,rfl,_,U⟩:=np O (gF i) t;simp only[pD,h,I,isSome,x,sx i n,U,mY,abK];rfl
  ·exact o.elim
 |obj h x M F l N=>
  rename_i V Y T Q X f J;unfold vM at b;simp only[h]at b;rcases nr b i with⟨I,n,t,L⟩|⟨_,o⟩
  ·obtain⟨_,r⟩:=qG (gF i) t;obtain⟨e,S,v,G⟩:=r ⟨.nil,f,.nil⟩;rw[show(⟨.nil,f,.nil⟩:St).n=f from rfl,l]at v;cases v;have H:st.get f=some J:=by
    cases Q with
    |some Q=>
     obtain⟨_,P,K⟩:=N;subst P;exact Me O l F K L
    |none=>exact O.fz _ _ N
   have m:((⟨.nil,f,.nil⟩:St).new J).get f=some J:=by rw[dm];exact if_pos rfl
   simp only[pD,h,I,isSome,x,sx i n,H,G,mY,A3 l,m,abL]
  ·exact o.elim
 |fresh h x M F l R d=>
  rename_i V Y T Q X f J;unfold vM at b;simp only[h]at b;rcases nr b i with⟨I,n,t,L⟩|⟨_,o⟩
  ·obtain⟨_,r⟩:=qG (gF i) t;obtain⟨e,S,v,G⟩:=r ⟨.nil,f,.nil⟩;rw[show(⟨.nil,f,.nil⟩:St).n=f from rfl,l]at v;cases v;have m:((⟨.nil,f,.nil⟩:St).new J).get f=some J:=by rw[dm];exact if_pos rfl
   simp only[pD,h,I,isSome,x,sx i n,R,G,mY,A3 l,m,abL]
  ·exact o.elim
 |never O=>exact b.elim
 |skip=>
  rename_i V;unfold vM at b;cases h:nth a V with
  |none=>simp only[h]at b
  |some X=>
   simp only[h]at b;rcases nr b i with⟨_,o⟩|⟨I,n⟩
   ·exact o.elim
   ·have:=sx (ρ:=ρ) i n;simp only[pD,h,I,isSome];exact this
inductive mj (Φ:Fz) (ρ:Nat->Nat) (m:Nat) (ops:List Oper) (st:St):List mi->List tJ->Prop
 |nil:mj Φ ρ m ops st [] []
 |cons {c:mi} {c':tJ} {l:List mi} {l':List tJ} (h:lA Φ ρ m ops st c c') (t:mj Φ ρ m ops st l l'):mj Φ ρ m ops st (c::l) (c'::l')
theorem mj.mono{c:List Oper}{st b:St}{l:List mi}{f:List tJ}(h:mj Φ ρ m c st l f)(o:iJ Φ ρ m du dk m')(r:∀n,n<st.n->b.get n=st.get n)(t:st.n<=b.n):mj du dk m' c b l f:=by
 induction h with
 |nil=>exact .nil
 |cons h _ i=>exact .cons (h.mono o r t) i
theorem mj.Md{b:List Oper}{st f:St}{l:List mi}{c:List tJ}(h:mj Φ ρ m b st l c)(n:iJ Φ ρ m du dk m'):mj du dk m' b f (yF l) c:=by
 induction h with
 |nil=>exact .nil
 |cons h _ i=>rw[Ev];exact .cons (h.Md n) i
theorem V6{st:St}{c:mi}(b:lA Φ ρ m a st c y):y.idx=c.idx:=by cases b<;>first|rfl|assumption
theorem uE(o:Real Φ ρ σ st)(m:gK Φ ρ σ.length j p.tm){b:Nat}{l:List mi}{i:List tJ}(f:mj Φ ρ σ.length a st l i)(c:rO C a j σ b l):o7 C a p st b i=true:=by
 induction f with
 |nil=>rfl
 |cons f _ h=>
  unfold rO at c;unfold o7;rw[V6 f];split at c
  ·rename_i n;rw[Hd]at n;rw[n,h c];rfl
  ·rename_i n;rw[Ez o m f c.1,h c.2,Bool.or_true];rfl
theorem PV(i t:Nat):∀b:Tm,gm (rP i b) t=if t=i then none else gm b t:=by
 intro b;induction b with
 |nil=>simp[rP,gm]
 |cons m b f=>
  obtain⟨l,n⟩:=m;unfold rP;split
  ·rename_i h;have:=Nat.eq_of_beq_eq_true h;subst this;rw[f,kl];by_cases c:t=l
   ·rw[if_pos c,if_pos c]
   ·rw[if_neg c,if_neg c,if_neg c]
  ·rename_i h;rw[kl,f,kl];by_cases c:t=l
   ·subst c;rw[if_pos rfl,if_pos rfl,if_neg];intro c;subst c;rw[abK]at h;cases h
   ·rw[if_neg c,if_neg c]
theorem gK.del{t:Tr Value}(h:gK Φ ρ m j t)(c:Nat):gK Φ ρ m (rP c j) (t.put c none):=by
 intro i f b;rw[PV]at b;rw[cY];split at b
 ·cases b
 ·rename_i l;rw[if_neg l];exact h i f b
theorem gK.erase(b:List Oper):∀{c:Tm} {i:Tr Value},gK Φ ρ m c i->gK Φ ρ m (nq b c) (pj b i):=by
 induction b with
 |nil=>intro c i h;exact h
 |cons l b f=>
  intro c i h;unfold nq;simp only[pj,List.foldl_cons];cases n:l.dst with
  |none=>exact f h
  |some o=>
   simp only;cases r:gb l.op with
   |true=>exact f h
   |false=>exact f (h.del o)
theorem Jy(h:Real Φ ρ σ st){X:Operand->Option V}{N:Operand->Option Value}(z:oL Φ ρ σ.length X N){y:Bool}{o:Oper}(S:nth a e=some o)(H:gh o.op=true) 
  {B:V->mi->VS->Prop} (c:L8 C y X o.op e σ B):
  ∃Q E l du dk K,B Q E l/\iJ Φ ρ σ.length du dk l.length/\Real du dk l (st.new K)/\e9 du l.length Q/\j8 C N o st=some (.val (erase dk Q) (st.new K))/\
   lA du dk l.length a (st.new K) E (.obj e (erase dk Q) st.n K):=by
 unfold L8 at c;split at c
 ·rename_i I d;obtain⟨hm,W⟩:=qG z d;obtain⟨Q,K,h1,O⟩:=W st;have t:=la Φ ρ σ.length st.n;have Gg:jM ρ σ.length st.n σ.length=st.n:=if_pos rfl;split at c
  ·rename_i M;have i:=jK c;clear c;obtain⟨q,h3,R⟩:=cA i;clear i;have b:(σ++[I]).length=σ.length+1:=by simp
   cases gT:o.op with
   |buildSlice aa r w=>
    cases I with
    |row F m=>
     rw[gT]at h1 h3 hm;cases h1;cases h3;refine⟨_,_,_,Φ,_,_,R,by rw[b];exact t,h.newRow hm.1,by rw[b];exact .ms om,by rw[O];simp only[erase,Gg,Nat.zero_mul],?_⟩;have n:pN Φ σ.length o.op (.row F m):=by rw[gT];exact hm
     have G:iP o.op (.row F m) ρ st.n=some (.slice (some ⟨st.n,0,none⟩) r r,.cells (cl ρ m.flatten) F st.n 0):=by rw[gT];rfl
     refine .fresh S H (by rw[b];exact .ms om) (by rw[b];exact n.mono t) ?_ (by rw[dm,if_pos rfl]) (Nat.lt_succ_self _);rw[qn n t,G];simp only[erase,Gg,Nat.zero_mul]
    |_=>rw[gT]at h1;cases h1
   |_=>rw[gT]at M;simp[yG,nk]at M
  split at c
  ·rename_i f;split at c
   ·rename_i F m;split at c
    ·rename_i A T;cases gT:o.op with
     |buildSlice aa r w=>
      have G:=h1;have n:=hm;rw[gT]at h1 hm;cases h1;obtain⟨v,x⟩:=hm;have D:=v;rw[fQ T]at v;obtain⟨u,j,U⟩:=h.N5 v;have J:A.length=r:=by rw[<-x,fQ T,List.length_map]
      have L:cl ρ m.flatten=A.flatten.map cz:=by rw[fQ T,uD]
      refine⟨_,_,σ,_,ρ,.cells (A.flatten.map cz) F st.n 0,c st.n,j,u,.d (U _),?_,.obj S H (.d (U _)) (n.mono j) ?_ (if_pos Z)⟩
      ·rw[O];simp only[erase,cz,J,L]
      ·rw[G];simp only[erase,cz,J,L]
     |_=>rw[gT]at f;cases f
    ·exact c.elim
   ·exact c.elim
  ·rename_i f;have i:=jK c;clear c;obtain⟨q,h3,R⟩:=cA i;clear i;have b:∀o:cN,(σ++[o]).length=σ.length+1:=fun o=>by simp
   have P:jM ρ σ.length st.n σ.length=st.n:=Gg;have p:iP o.op I (jM ρ σ.length st.n) st.n=some (Q,K):=by rw[qn hm t];exact h1
   have g:Real Φ (jM ρ σ.length st.n) (σ++[I]) (st.new K)/\e9 Φ (σ.length+1) q/\erase (jM ρ σ.length st.n) q=Q:=by
    unfold iP at h1;split at h1
    ·exact abV
    ·exact abV
    ·rename_i gT;rw[gT]at h3 hm;obtain⟨rfl,rfl⟩:=hm;cases h1;cases h3;exact⟨h.new trivial ⟨by rw[dm,if_pos rfl];rfl,fun _ h=>by simp at h⟩,.map om,by simp only[erase,Gg]⟩
    ·rename_i gT;rw[gT]at f;cases f
    ·cases h1
   obtain⟨s,k,Y⟩:=g;have x:=hm.mono t;refine⟨q,_,_,Φ,_,K,R,by rw[b];exact t,s,by rw[b];exact k,by rw[O,Y],?_⟩;rw[b];exact .obj S H k x (by rw[p,Y]) ⟨om,P,by simpa using f⟩
 ·exact c.elim
theorem CZ{q:List Nat}:∀(y:List Nat) {u:Nat} {v:List mi} {i:List tJ} {Φ:Fz} {ρ:Nat->Nat} {σ:VS} {st:St} {tm:Tm} {F:List fq} {r:lJ} {z:Bu->Tm->List fq->lJ->VS->Prop},
  yH C cF k a q y u v tm F r σ z->∀{x:Fr},SR Φ ρ σ st tm F r x->xB σ.length k->mj Φ ρ σ.length a st v i->
  ∃p B,eM C (jN C cF p) (dV ρ k) a q y u i x (c6 ρ r) st=some B/\S6 Φ ρ k.fl z B:=by
 intro y;induction y with
 |nil=>
  intro u v i Φ ρ σ st tm F r z c x o h P;refine⟨0,(.norm,x,c6 ρ r,st),?_,Φ,ρ,σ,st,.norm,tm,F,r,x,c.2,(iJ.refl _ _ _).weaken h.2,o,tv,Z⟩;unfold eM;rw[uE o.real o.tm P c.1]
 |cons ae y X=>
  intro u v i Φ ρ σ st tm F r z c x o h P;rw[Ew]at c;unfold Ae at c;split at c
  ·rename_i aa ad O H;split at c
   ·rename_i R;have Y:=uE o.real o.tm P c.1;obtain⟨p,B,s,D⟩:=wM c.2 o h;cases D with
    |next du dk Q T l d U b L f n V=>
     subst V;obtain⟨t,M,J,N⟩:=X L n (f.fc h).2 (P.Md f);refine⟨max p t,M,?_,N.after (f.weaken h.2)⟩;unfold eM;simp only[O,H,R,Y];rw[qH (hG (Nat.le_max_left p t)) s];simp only;rw[(f.fc h).1]at J;exact yD (hG (Nat.le_max_right p t)) _ J
    |eH j du dk Q T l d U b L f n V g=>
     subst g;refine⟨p,(.panic (erase dk j),{b with tm:=pj a b.tm},c6 dk U,T),?_,du,dk,Q,T,.panic j,_,d,U,{b with tm:=pj a b.tm},L,f.weaken h.2,⟨n.real,n.tm.erase a,n.df,n.ps⟩,V,Z⟩;unfold eM;simp only[O,H,R,Y,s]
   ·rename_i R;rcases nr c o.tm with⟨A,c⟩|⟨A,c⟩
    ·split at c
     ·rename_i K;obtain⟨j,af,Q,du,dk,E,L,f,n,V,g,ab⟩:=Jy o.real (gF o.tm) O K c;have e:=o.move f n;obtain⟨l,b,J,N,W,S⟩:=rR L e.tm V;have G:SR du dk Q (st.new E) l F r b:=⟨n,W,by rw[S];exact e.df,e.ps⟩;obtain⟨t,M,q1,q2⟩:=X J G (f.fc h).2 (.cons ab (P.mono f (fun u ac=>by rw[dm,if_neg om]) (Nat.le_succ _)));refine⟨t,M,?_,q2.after (f.weaken h.2)⟩;unfold eM;have w:(st.new E).get st.n=some E:=by rw[dm,if_pos rfl]
      rw[(f.fc h).1,(f.ps o.ps).1]at q1;simp only[O,H,R,A,g];have I:gV (dV ρ k).nt x aa.dst (erase dk j)=some b:=N;simp only[I,K,w];exact q1
     ·rename_i K;obtain⟨j,L,f,n⟩:=np o.real (gF o.tm) c;obtain⟨l,b,J,N,W,S⟩:=rR L o.tm f;have G:SR Φ ρ σ st l F r b:=⟨o.real,W,by rw[S];exact o.df,o.ps⟩;obtain⟨t,M,q1,q2⟩:=X J G h (.cons (.val O K f) P);refine⟨t,M,?_,q2⟩;unfold eM;have I:gV (dV ρ k).nt x aa.dst (erase ρ j)=some b:=N;simp only[O,H,R,A,n,I,K,abK];exact q1
    ·obtain⟨l,b,J,N,W,S⟩:=rR c o.tm (x9 (Φ:=Φ) (m:=σ.length));have G:SR Φ ρ σ st l F r b:=⟨o.real,W,by rw[S];exact o.df,o.ps⟩;obtain⟨t,M,q1,q2⟩:=X J G h (.cons .skip P);refine⟨t,M,?_,q2⟩;unfold eM;have I:gV (dV ρ k).nt x aa.dst lr=some b:=N;simp only[O,H,R,A,I];exact q1
  ·exact c.elim
end
end Go.VM
