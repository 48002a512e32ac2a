/- Part of the proof. -/
import Derived.Test.YtpejealjkmhkgaaGreatDoorKBd
set_option linter.all false
set_option maxHeartbeats 16000000
set_option maxRecDepth 100000
open Nat renaming le_refl->YL,beq->YO,le_of_ble_eq_true->YQ,zero_le->YU
open Int renaming ofNat->YM
open Bool renaming false_eq_true->YN
open List renaming getElem?_eq_getElem->YP,getElem?_map->YR,length_cons->YS,map_append->YT,mem_singleton->YV,map->YW
namespace Go.Proofs.YtpejealjkmhkgaaGreatDoor
open Go.AM Go.VM
def c1:Ty:=.mk 0 [] [] [] []
def gS{b:Type}(step:b->Nat->PR b)(o:Rd)(e:List UInt8):Nat->b->Nat->PR b
 |0,_,_=>.bad 0 3
 |f+1,t,x=>match step t x with
  |.bad p q=>.bad p q
  |.ok l n=>if c0 (o.tok n) e then .ok l (n+1)else match cu o [[44]] n with
   |.bad p q=>.bad p q
   |.ok _ s=>gS step o e f l s
def fA{b:Type}(step:b->Nat->PR b)(f:Rd)(e:List UInt8)(l:b)(p:Nat):PR b:=
 if c0 (f.tok p) e then .ok l (p+1)else gS step f e f.ts.length l p
def ef(e:Rd)(b:List et)(p:Nat):PR (List UInt8):=
 if(e.tok p).kind≠1 then .bad (e.tok p).off 3 else if(e.tok p).text∈b.map et.n then .bad (e.tok p).off 5 else .ok (e.tok p).text (p+1)
def eJ(b:Nat->PR Ex)(l:Rd)(f:List UInt8)(p:Nat):PR Ex:=match cu l [f] p with
 |.bad n o=>.bad n o
 |.ok _ e=>b e
def ja(e:Nat->PR Ex)(f:Rd)(b:List et)(p:Nat):PR (List et):=match ef f b p with
 |.bad q s=>.bad q s
 |.ok o l=>(eJ e f [58] l).map fun n=>b++[⟨o,[],c1,false,[n]⟩]
def c9(b:Rd)(p:Nat):PR (List UInt8):=if(b.tok p).kind≠1 then .bad (b.tok p).off 3 else .ok (b.tok p).text (p+1)
def ic(e:Nat->PR Ex)(l:Rd)(b:List et)(p:Nat):PR (List et):=match ef l b p with
 |.bad n o=>.bad n o
 |.ok t q=>match c9 l q with
  |.bad n o=>.bad n o
  |.ok x f=>(eJ e l [61,62] f).map fun s=>b++[⟨t,x,c1,false,[s]⟩]
def hR(s:Nat->PR Ty)(n:Nat->PR Ex)(q:Rd)(b:List et)(p:Nat):PR (List et):=match ef q b p with
 |.bad f l=>.bad f l
 |.ok t C=>match cu q [[58]] C with
  |.bad f l=>.bad f l
  |.ok _ o=>match s o with
   |.bad f l=>.bad f l
   |.ok x e=>if c0 (q.tok e) [61]then(n (e+1)).map fun D=>b++[⟨t,[],x,true,[D]⟩]else .ok (b++[⟨t,[],x,false,[]⟩]) e
def kc(e:Nat->PR Ex)(b:List Ex)(p:Nat):PR (List Ex):=(e p).map fun f=>b++[f]
def gV(f:Nat->PR Ex)(l:Rd)(e:List UInt8)(n:Nat)(b:List Ex)(p:Nat):PR Ex:=(fA (ja f l) l e [] p).map (jv n [] [] b)
def mF(b:Nat)(e:Rd)(p:Nat):PR Ex:=
 if(e.tok p).kind≠3 then .bad (e.tok p).off 3 else match Lib.parseUintB 64 (e.tok p).text with
  |.ok f=>if b<f then .bad (e.tok p).off 2 else .ok (.mk 0 [] [] [] (if b=9223372036854775808 then IntKind.i64.wrap (IntKind.u64.wrap (0-YM f))else IntKind.i64.wrap (YM f)) [] [] []) (p+1)
  |_=>.bad (e.tok p).off 2
def tS(t:Tok)(b:List (List UInt8)):Option (List UInt8):=b.find? (c0 t)
def rK(next:Nat->PR Ex)(b:List (List UInt8))(p:Rd):Nat->Ex->Nat->PR Ex
 |0,_,_=>.bad 0 3
 |f+1,o,e=>match tS (p.tok e) b with
  |none=>.ok o e
  |some l=>match next (e+1)with
   |.bad l s=>.bad l s
   |.ok q n=>rK next b p f (.mk 16 [] l [] 0 [] [] [o,q]) n
def la(next:Nat->PR Ex)(b:List (List UInt8))(e:Rd)(p:Nat):PR Ex:=match next p with
 |.bad n o=>.bad n o
 |.ok l f=>rK next b e e.ts.length l f
def gm(f:Nat->PR Ty)(b:Rd)(l:List UInt8)(p:Nat):PR Ex:=
 match(if c0 (b.tok p) [58,58]then(c9 b (p+1)).map fun s=>(4,l,s)else .ok (3,[],l) p:PR (Nat×List UInt8×List UInt8))with
 |.bad t x=>.bad t x
 |.ok (q,o,n) e=>if c0 (b.tok e) [91]then(hQ f b e).map fun C=>.mk 4 o n [] 0 C [] []else .ok (.mk q o n [] 0 [] [] []) e
def e7(q:Nat->PR Ty)(n:Nat->PR Ex)(b:Rd)(p:Nat):PR Ex:=
 if(b.tok p).kind=3 then mF 9223372036854775807 b p
 else if(b.tok p).kind=4 then .ok (.mk 1 [] [] (b.tok p).text 0 [] [] []) (p+1)
 else if(b.tok p).kind=1 then gm q b (b.tok p).text (p+1)
 else if c0 (b.tok p) [116,114,117,101]then .ok (.mk 2 [] [] [] 1 [] [] []) (p+1)
 else if c0 (b.tok p) [102,97,108,115,101]then .ok (.mk 2 [] [] [] 0 [] [] []) (p+1)
 else if c0 (b.tok p) [123]then gV n b [125] 5 [] (p+1)
 else if c0 (b.tok p) [60]then match c9 b (p+1)with
  |.bad f l=>.bad f l
  |.ok C o=>match eJ n b [58] o with
   |.bad f l=>.bad f l
   |.ok s e=>(cu b [[62]] e).map fun _=>.mk 7 [] C [] 0 [] [] [s]
 else if c0 (b.tok p) [91]then match q (p+1)with
  |.bad f l=>.bad f l
  |.ok t o=>match cu b [[124]] o with
   |.bad f l=>.bad f l
   |.ok _ e=>(fA (kc n) b [93] [] e).map fun D=>.mk 14 [] [] [] 0 [t] [] D
 else if c0 (b.tok p) [40]then match n (p+1)with
  |.bad f l=>.bad f l
  |.ok s o=>match(if c0 (b.tok o) [58]then(q (o+1)).map fun t=>.mk 11 [] [] [] 0 [t] [] [s]else .ok s o:PR Ex)with
   |.bad f l=>.bad f l
   |.ok x e=>(cu b [[41]] e).map fun _=>x
 else .bad (b.tok p).off 3
def lc(b:Nat->PR Ex)(l:Rd):Nat->Ex->Nat->PR Ex
 |0,_,_=>.bad 0 3
 |f+1,o,n=>
  if c0 (l.tok n) [46]then match c9 l (n+1)with
   |.bad p q=>.bad p q
   |.ok t e=>lc b l f (.mk 6 [] t [] 0 [] [] [o]) e
  else if c0 (l.tok n) [40]then match gV b l [41] 9 [o] (n+1)with
   |.bad p q=>.bad p q
   |.ok s e=>lc b l f s e
  else .ok o n
def jB(f:Nat->PR Ty)(b:Nat->PR Ex)(e:Rd)(p:Nat):PR Ex:=match e7 f b e p with
 |.bad o q=>.bad o q
 |.ok n l=>lc b e e.ts.length n l
def WN(e:List UInt8)(b:Ex):Ex:=.mk 16 [] e [] 0 [] [] [b]
def ov(l:Nat->PR Ty)(b:Nat->PR Ex)(e:Rd):Nat->Nat->PR Ex
 |0,_=>.bad 0 3
 |f+1,n=>
  if c0 (e.tok n) [108,101,110,103,116,104]then(ov l b e f (n+1)).map (WN [108,101,110,103,116,104])
  else if c0 (e.tok n) [45]then mF 9223372036854775808 e (n+1)
  else jB l b e n
def R2(f:Nat->PR Ty)(b:Nat->PR Ex)(e:Rd):Nat->PR Ex:=la (ov f b e e.ts.length) [[42]] e
def pd(e:Nat->PR Ty)(b:Nat->PR Ex)(f:Rd):Nat->PR Ex:=la (R2 e b f) [[43],[45],[43,43]] f
def mm(e:Nat->PR Ty)(b:Nat->PR Ex)(l:Rd):Nat->Nat->PR Ex
 |0,_=>.bad 0 3
 |f+1,o=>
  if c0 (l.tok o) [110,111,116]then(mm e b l f (o+1)).map (WN [110,111,116])
  else match pd e b l o with
   |.bad t x=>.bad t x
   |.ok p n=>match tS (l.tok n) [[61,61],[61,61,61],[60]]with
    |none=>.ok p n
    |some s=>(pd e b l (n+1)).map fun q=>.mk 16 [] s [] 0 [] [] [p,q]
def R3(f:Nat->PR Ty)(b:Nat->PR Ex)(e:Rd):Nat->PR Ex:=la (mm f b e e.ts.length) [[97,110,100]] e
def MB(e:Nat->PR Ty)(b:Nat->PR Ex)(f:Rd):Nat->PR Ex:=la (R3 e b f) [[111,114]] f
def qX(b:Nat->PR Ex)(f:Rd)(p:Nat):PR Ex:=match c9 f p with
 |.bad l n=>.bad l n
 |.ok t q=>match eJ b f [61] q with
  |.bad l n=>.bad l n
  |.ok s e=>(eJ b f [105,110] e).map fun o=>.mk 10 [] t [] 0 [] [] [s,o]
def kH(o:Nat->PR Ty)(b:Nat->PR Ex)(n:Rd)(p:Nat):PR Ex:=match dv o n p with
 |.bad e f=>.bad e f
 |.ok D t=>match b t with
  |.bad e f=>.bad e f
  |.ok x l=>match eJ b n [116,104,101,110] l with
   |.bad e f=>.bad e f
   |.ok s q=>(eJ b n [101,108,115,101] q).map fun C=>.mk 12 [] [] [] 0 [D] [] [x,s,C]
def iW(o:Nat->PR Ty)(b:Nat->PR Ex)(l:Rd)(p:Nat):PR Ex:=match dv o l p with
 |.bad e f=>.bad e f
 |.ok x s=>match b s with
  |.bad e f=>.bad e f
  |.ok t n=>match cu l [[123]] n with
   |.bad e f=>.bad e f
   |.ok _ q=>(fA (ic b l) l [125] [] q).map (jv 13 [] [x] [t])
def jb(s:Nat->PR Ty)(f:Nat->PR Ex)(l:Rd)(p:Nat):PR Ex:=match dv s l p with
 |.bad b e=>.bad b e
 |.ok H D=>match c9 l D with
  |.bad b e=>.bad b e
  |.ok F q=>match cu l [[44]] q with
   |.bad b e=>.bad b e
   |.ok _ x=>match c9 l x with
    |.bad b e=>.bad b e
    |.ok I n=>match eJ f l [105,110] n with
     |.bad b e=>.bad b e
     |.ok E o=>match eJ f l [102,114,111,109] o with
      |.bad b e=>.bad b e
      |.ok C t=>(eJ f l [61,62] t).map fun G=>.mk 15 [] F I 0 [H] [] [E,C,G]
def Ps:Ex->Ex->Ex
 |.mk p q o n f types b e,l=>.mk p q o n f types b (e++[l])
def funcF(o:Nat->PR Ty)(b:Nat->PR Ex)(e:Rd)(p:Nat):PR Ex:=match cu e [[40]] p with
 |.bad l n=>.bad l n
 |.ok _ q=>match fA (hR o b e) e [41] [] q with
  |.bad l n=>.bad l n
  |.ok s f=>(eJ b e [61,62] f).map (Ps (jv 8 [] [] [] s))
def y5(f:Nat->PR Ty)(e:Nat->PR Ex)(b:Rd)(p:Nat):PR Ex:=
 if(b.tok p).kind=5/\(b.tok p).text=[108,101,116]then qX e b (p+1)
 else if(b.tok p).kind=5/\(b.tok p).text=[105,102]then kH f e b (p+1)
 else if(b.tok p).kind=5/\(b.tok p).text=[109,97,116,99,104]then iW f e b (p+1)
 else if(b.tok p).kind=5/\(b.tok p).text=[102,111,108,100]then jb f e b (p+1)
 else if(b.tok p).kind=5/\(b.tok p).text=[102,110]then funcF f e b (p+1)
 else MB f e b p
def AW(b:Rd):Nat->Nat->PR Ex
 |0,_=>.bad 0 3
 |f+1,e=>y5 (de b b.ts.length) (AW b f) b e
structure ld (g:FuncId) (fn:Nat->PR Ex) (R:Rd) (lo:Nat):Prop where
 lt:∀p x q,lo<=p->p<R.ts.length->fn p=.ok x q->p<q/\q<R.ts.length
 call:∀p,lo<=p->p<R.ts.length->∀(i:Nat) (σ:VS) (K:dC->VS->Prop),nth σ i=some (dq R p)->(∀x d q,fn p=.ok x q->ly x d->K (.ret (.agg (d.map V.d))) (σ.set i (dq R q)))->
  (∀off e q,fn p=.bad off e->K (.eE (dt off e)) (σ.set i (dq R q)))->b1 C b7 g [.bp i 0] σ K
def MC(p:Rd)(l:PR Ex)(o:dC)(f:List V):Prop:=match l with
 |.ok l q=>f=ub p q/\∃n,ly l n/\o=.ret (.agg (n.map V.d))
 |.bad b e=>∃q,f=ub p q/\o=.eE (dt b e)
def H2(n:Rd)(l:PR Ex)(f:dC)(e:VS):Prop:=∃b,e=[.box b]/\cN f=true/\e5 0 b=true/\MC n l f b
variable{w:FuncId} {c:Rd}
theorem ld.of{fn:Nat->PR Ex}{lo:Nat}(l:∀b G e,lo<=b->b<c.ts.length->fn b=.ok G e->b<e/\e<c.ts.length)(f:∀b,lo<=b->b<c.ts.length->b1 C b7 w [.bp 0 0] [dq c b] (H2 c (fn b))):ld w fn c lo:=by
 refine⟨l,fun b x s K I L o p D=>?_⟩;refine b1.one (dN:=[.bp 0 0]) (P:=MC c (fn b)) (f b x s) K o Z Z Z (fun M F f=>?_);unfold MC at f;split at f
 ·rename_i J e E;obtain⟨rfl,H,q,rfl⟩:=f;exact p J H e E q
 ·rename_i n t E;obtain⟨e,rfl,rfl⟩:=f;exact D n t e E
theorem ld.up{fn:Nat->PR Ex}{lo b:Nat}(n:ld w fn c lo)(f:lo<=b):ld w fn c b:=
 ⟨fun l p o e=>n.lt l p o (Nat.le_trans f e),fun l e=>n.call l (Nat.le_trans f e)⟩
variable{g u z:Nat} {A:Ex} {m:PR Ex} {y:List D}
theorem dK(e:m=.ok A g)(b:ly A y):H2 c m (.ret (.agg (y.map V.d))) [dq c g]:=by
 subst e;exact⟨_,Z,pc 0 y,Z,Z,y,b,Z⟩
theorem cK(b:m=.bad g u):H2 c m (.eE (dt g u)) [dq c z]:=by
 subst b;exact⟨_,Z,Z,Z,z,Z,Z⟩
def X6(f n:Nat)(e b:D):List V:=[b3 f,cq [],cq [],cq [],b3 n,.d e,.d .cn,.d b]
structure Mj (f:FuncId) (R:Rd) (p q k n:Nat) (P:D->D->Prop):Prop where
 call:∀(i:Nat) (σ:VS) (K:dC->VS->Prop),nth σ i=some (dq R p)->(∀ty kids,P ty kids->K (.ret (.agg (X6 k n ty kids))) (σ.set i (dq R q)))->b1 C b7 f [.bp i 0] σ K
def Yx(p:Rd)(q o n:Nat)(s:D->D->Prop)(l:dC)(f:List V):Prop:=f=ub p q/\∃e b,s e b/\l=.ret (.agg (X6 o n e b))
theorem Mj.of{f:FuncId}{p F G n:Nat}{H:D->D->Prop}(x:b1 C b7 f [.bp 0 0] [dq c p] fun t o=>∃b,o=[.box b]/\cN t=true/\e5 0 b=true/\Yx c F G n H t b):Mj f c p F G n H:=
 ⟨fun I J K l s=>b1.one (dN:=[.bp 0 0]) x I l rfl rfl rfl fun t b x=>by
  obtain⟨rfl,E,e,q,rfl⟩:=x;exact s E e q⟩
def opsL:List (List UInt8):=[[46],[40],[42],[43],[45],[43,43],[61,61],[61,61,61],[60],[97,110,100],[111,114]]
def Xg(t:Tok):Bool:=opsL.all fun b=> !c0 t b
variable{j:List UInt8}
theorem WO{t:Tok}(e:Xg t=true)(b:j∈opsL):c0 t j=false:=by
 have:=List.all_eq_true.1 e j b;simpa using this
variable{a:dC->VS->Prop} {k:VS}
theorem Pt(G:c.Wf)(t:g<c.ts.length)(e:List (List UInt8))(D:e.length<4294967296)(o:∀E∈e,c0 (c.tok g) E=false)(q b n:Nat)(p:nth k q=some (dq c g))(s:a (.ret (.d (.int .i64 (-1)))) k):
  b1 C b7 jU [.d (.ps b 0 1 n (eQ e)),.fn jr [.bp q 0] []] k a:=by
 refine b9 ?_;refine cl.less (eW:=[(0,.d (.ps b 0 1 n (eQ e))),(1,.fn jr [.bp q 0] []),(7,b3 e.length),(8,b3 0)]) ⟨Z,Z,int_eq (by simp[eQ]),rfl,tv⟩ ?_;refine cl.iter (fun f:Nat=>[(0,.d (.ps b 0 1 n (eQ e))),(1,.fn jr [.bp q 0] []),(7,b3 e.length),(8,b3 f)]) (fun _=>k) (fun f=>e.length-f) (fun f=>f<=e.length) ?_ 0 (YU _);intro f F;apply aZ<;>intro x
 ·have l:f<e.length:=fF x;refine b0 Z ?_;refine b4 [.str e[f]] (by rw[cv,eQ,YR,YP l];rfl) ?_;refine pb c g (c.tok g) e[f] (bZ t) q p ?_;rw[o _ (List.getElem_mem l)];refine⟨f+1,l,by show e.length-(f+1)<e.length-f;omega,.same ⟨rfl,rfl,rfl,int_eq (cp om),tv⟩ rfl,rfl,rfl⟩
 ·exact s
def R4:Nat->Bool:=fun b=>YO b 6
variable{i:List (List UInt8)}
theorem MD{t:Tok}(f:tS t i=none):∀b∈i,c0 t b=false:=by
 intro b e;have:=List.find?_eq_none.1 f b e;simpa using this
theorem tw{t:Tok}:∀{b:List (List UInt8)} {o:List UInt8},tS t b=some o->∃p,∃n:p<b.length,b[p]=o/\c0 t o=true/\∀e (q:e<b.length),e<p->c0 t b[e]=false:=by
 intro b;induction b with
 |nil=>intro o f;cases f
 |cons F G s=>
  intro o f;rw[tS,List.find?_cons]at f;split at f
  ·rename_i l;cases f;exact⟨0,by simp,rfl,l,fun e _ f=>om⟩
  ·rename_i l;obtain⟨p,n,E,C,x⟩:=s f;refine⟨p+1,by simpa using n,by simpa using E,C,fun e q D=>?_⟩;cases e with
   |zero=>simpa using l
   |succ e=>exact x e (by simpa using q) om
theorem ME(t:g<c.ts.length)(e:List (List UInt8))(E:e.length<4294967296)(G:u<e.length)(x:c0 (c.tok g) e[u]=true)(p:∀n (F:n<e.length),n<u->c0 (c.tok g) e[n]=false)(n b l:Nat)(q:nth k n=some (dq c g))(s:a (.ret (b3 u)) k):
  b1 C b7 jU [.d (.ps b 0 1 l (eQ e)),.fn jr [.bp n 0] []] k a:=by
 refine b9 ?_;refine cl.less (eW:=[(0,.d (.ps b 0 1 l (eQ e))),(1,.fn jr [.bp n 0] []),(7,b3 e.length),(8,b3 0)]) ⟨Z,Z,int_eq (by simp[eQ]),rfl,tv⟩ ?_;refine cl.iter (fun f:Nat=>[(0,.d (.ps b 0 1 l (eQ e))),(1,.fn jr [.bp n 0] []),(7,b3 e.length),(8,b3 f)]) (fun _=>k) (fun f=>e.length-f) (fun f=>f<=u) ?_ 0 (YU _);intro f D;have o:f<e.length:=om;refine a8 (decide_eq_true (by simp only[Int.ofNat_eq_natCast];omega)) ?_;refine b0 Z ?_;refine b4 [.str e[f]] (by rw[cv,eQ,YR,YP o];rfl) ?_;refine pb c g (c.tok g) e[f] (bZ t) n q ?_;by_cases H:f=u
 ·subst H;rw[x];exact s
 ·rw[p f o om];refine⟨f+1,om,by show e.length-(f+1)<e.length-f;omega,.same ⟨rfl,rfl,rfl,int_eq (cp om),tv⟩ rfl,rfl,rfl⟩
theorem R5(K:c.Wf){fn:Nat->PR Ex}{lo:Nat}(l:∀b p e,lo<=b->b<c.ts.length->fn b=.ok p e->b<e/\e<c.ts.length):∀(s:Nat) (p:Ex) (b:Nat) (t:Ex) (e:Nat),lo<=b->b<c.ts.length->rK fn i c s p b=.ok t e->b<=e/\e<c.ts.length:=by
 intro s;induction s with
 |zero=>intro p b t e _ _ f;cases f
 |succ s E=>
  intro p b t e G o f;rw[rK]at f;split at f
  ·cases f;exact⟨YL _,o⟩
  ·rename_i M C;obtain⟨N,J,P,D,_⟩:=tw C;have n:=K.step o D;split at f
   ·cases f
   ·rename_i F q x;obtain⟨L,I⟩:=l (b+1) F q om n x;obtain⟨O,H⟩:=E _ q t e om I f;exact⟨om,H⟩
theorem zw(D:c.Wf){fn:Nat->PR Ex}{lo:Nat}(f:∀b n e,lo<=b->b<c.ts.length->fn b=.ok n e->b<e/\e<c.ts.length):∀(b:Nat) (p:Ex) (e:Nat),lo<=b->b<c.ts.length->la fn i c b=.ok p e->b<e/\e<c.ts.length:=by
 intro b p e s q o;rw[la]at o;split at o
 ·cases o
 ·rename_i n l t;obtain⟨F,C⟩:=f b n l s q t;obtain⟨E,x⟩:=R5 D f _ n l p e om C o;exact⟨om,x⟩
def z8:List V:=[b3 0,cq [],cq [],cq [],b3 0,.d .cn,.d .cn,.d .cn]
def VL:Nat->Bool:=fun b=>YO b 27
theorem Jn(F:(C.ff.get g).isSome=true)(e:List (List UInt8))(S:e.length<4294967296)(w:c.Wf){fn:Nat->PR Ex}{p:Nat}(H:ld g fn c p)(Q:p<c.ts.length)(b q:Nat):
  b1 C b7 rs [.bp 0 0,.fn g [.bp 0 0] [],.d (.ps b 0 1 q (eQ e))] [dq c p] (H2 c (la fn e c p)):=by
 have h:=w.len;refine cA VL (fun _=>Z) ?_;refine a8 F ?_;refine H.call p (YL _) Q 0 _ _ Z (fun M A l Y n=>?_) (fun T Y l u=>?_)
 ·obtain⟨s,o⟩:=H.lt p M l (YL _) Q Y;obtain⟨ad,af,ae,i,P,m,r,d,rfl⟩:=n.eight;refine cl.less (eW:=[(0,.bp 0 0),(1,.fn g [.bp 0 0] []),(2,.d (.ps b 0 1 q (eQ e))),(6,.bp 1 0),(7,.bp 2 0)]) ⟨Z,Z,Z,Z,Z,tv⟩ ?_;refine cl.iter (fun _:Nat×Ex×List D=>[(0,.bp 0 0),(1,.fn g [.bp 0 0] []),(2,.d (.ps b 0 1 q (eQ e))),(6,.bp 1 0),(7,.bp 2 0)]) (fun E=>[dq c E.1,.box z8,.box (E.2.2.map V.d)]) (fun E=>c.ts.length-E.1)
   (fun E=>p<E.1/\E.1<c.ts.length/\ly E.2.1 E.2.2/\∃G,c.ts.length-E.1<G/\la fn e c p=rK fn e c G E.2.1 E.1) ?_ (l,M,_) ⟨s,o,n,c.ts.length,by show c.ts.length-l<c.ts.length;omega,by rw[la,Y]⟩
  rintro⟨l,M,A⟩ ⟨s,o,n,G,R,f⟩;have s:p<l:=s;have o:l<c.ts.length:=o;have n:ly M A:=n;have R:c.ts.length-l<G:=R;have f:la fn e c p=rK fn e c G M l:=f;obtain⟨ad,af,ae,i,P,m,r,d,rfl⟩:=n.eight;obtain⟨G,rfl⟩:∃j,G=j+1:=⟨G-1,om⟩;rw[rK]at f;cases t:tS (c.tok l) e with
  |none=>
   rw[t]at f;refine Pt w o e S (MD t) 0 b q Z ?_;refine a7 1 (dK f n)
  |some aj=>
   rw[t]at f;obtain⟨a,X,rfl,L,N⟩:=tw t;have K:=w.step o L;refine ME o e S X L N 0 b q Z ?_;refine dr c l (c.tok l) (bZ o) om 0 Z ?_;have O:dW (c.tok l) l=l+1:=by rw[dW,if_neg (qN L)]
   rw[O];have U:nth (eQ e) a=some [.str e[a]]:=by rw[cv,eQ,YR,YP X];rfl
   repeat first|refine b0 rfl ?_|refine b4 _ U ?_|refine a8 F ?_
   repeat refine b8 ?_
   refine a8 F ?_;refine H.call (l+1) om K 0 _ _ ?_ (fun B d2 x I J=>?_) (fun T Y x I=>?_)
   ·exact Z
   ·obtain⟨v,W⟩:=H.lt (l+1) B x om K I;rw[I]at f;obtain⟨ah,ac,ai,z,k,ab,aa,y,rfl⟩:=J.eight;intro ag;repeat refine b8 ?_
    refine⟨(x,.mk 16 [] e[a] [] 0 [] [] [M,B],_),⟨by show p<x;omega,W,.mk .nil .nil (.ps (.cons n (.cons J .nil))),G,by show c.ts.length-x<G;omega,f⟩,by show c.ts.length-x<c.ts.length-l;omega,.drop 3 ⟨rfl,rfl,rfl,rfl,rfl,tv⟩ rfl rfl rfl rfl rfl rfl rfl,rfl,rfl⟩
   ·rw[I]at f;refine a7 1 (cK f)
 ·refine a7 1 (cK (by rw[la,u]))
def Rd.Ng(e:Rd):Prop:=∀b,(e.tok b).kind=3->(∃f,Lib.parseUintB 64 (e.tok b).text=.ok f)/\(e.tok b).text.length<281474976710656
theorem VN(f:j.length<281474976710656)(o:Lib.parseUintB 64 j=.ok g)(e:a (.ret (.dV [.d (.int .u64 (YM g)),.d .vO])) k):b1 C b7 ua [cq j,b3 10,b3 64] k a:=by
 refine xI (args:=[.str j,.int .i64 (YM 10),.int .i64 (YM 64)]) (xs:=[.int .u64 (YM g),.vO]) ?_ ?_ e
 ·have n:Nat.blt j.length 281474976710656=true:=by simpa [Nat.blt_eq]using f
  show(match Nat.blt j.length 281474976710656 with
   |true=>match Lib.parseUintB 64 j with
    |.ok g=>some (Value.tuple ⟨[.int .u64 (.ofNat g),.nilIface]⟩)
    |_=>none
   |false=>none)=_
  rw[n,o];rfl
 ·intro q b;simp only[List.mem_cons,List.not_mem_nil,or_false]at b;rcases b with rfl|rfl<;>rfl
theorem MF(F:c.Wf)(q:c.Ng)(b p:Nat)(o:p<c.ts.length)(t:b=9223372036854775807∨b=9223372036854775808):
  b1 C b7 rA [.bp 0 0,.d (.int .u64 (YM b))] [dq c p] (H2 c (mF b c p)):=by
 have D:=F.len;refine cz ?_;refine ei c p _ (bZ o) 0 Z ?_;refine n8 c p 3 _ (bZ o) om 0 Z (fun l=>?_) (fun l=>?_)
 ·have n:dW (c.tok p) p=p+1:=by rw[dW,if_neg om]
  rw[n];obtain⟨⟨E,e⟩,x⟩:=q p l;refine VN x e ?_;apply aZ<;>intro s
  ·repeat refine dX ?_
   refine eO _ (c.tok p).off 2 ?_;refine a7 1 (cK (by rw[mF,if_neg om,e];dsimp only;rw[if_pos (fF s)]))
  ·repeat refine dX ?_
   have f:¬b<E:=by have:=dR s;omega
   rcases t with rfl|rfl
   ·refine a7 1 (dK (by rw[mF,if_neg om,e];dsimp only;rw[if_neg f,if_neg om]) (.mk .nil .nil .nil))
   ·refine a7 1 (dK (by rw[mF,if_neg om,e];dsimp only;rw[if_neg f,if_pos rfl]) (.mk .nil .nil .nil))
 ·refine a7 1 (cK (by rw[mF,if_pos l]))
theorem gM(x:c.Wf)(s:List UInt8){p:Nat}(f:p<c.ts.length)(b e o:Nat)(l:nth k o=some (dq c p))(q:c0 (c.tok p) s=true->p+1<c.ts.length->a (.ret (.dV [])) (k.set o (dq c (p+1))))(t:c0 (c.tok p) s=false->∀D,a (.eE (dt (c.tok p).off 3)) (k.set o (dq c D))):
  b1 C b7 uq [.bp o 0,.d (.ps b 0 1 e (eQ [s]))] k a:=by
 refine ej c x [s] (by show 1<4294967296;decide) p f b e o l ?_;cases n:c0 (c.tok p) s with
 |true=>rw[cu,if_pos n];exact q n (x.step f n)
 |false=>rw[cu,if_neg (by rw[n];decide)];exact t n
theorem pf(s:(C.ff.get g).isSome=true)(e:List (List UInt8))(J:e.length<4294967296)(O:c.Wf){fn:Nat->PR Ex}{p:Nat}(H:ld g fn c p)(I:p<c.ts.length)(b l o:Nat)(t:nth k o=some (dq c p)) 
  (E:∀L x n,la fn e c p=.ok L n->ly L x->a (.ret (.agg (x.map V.d))) (k.set o (dq c n))) (K:∀f q n,la fn e c p=.bad f q->a (.eE (dt f q)) (k.set o (dq c n))):
  b1 C b7 rs [.bp o 0,.fn g [.bp o 0] [],.d (.ps b 0 1 l (eQ e))] k a:=by
 refine b1.one (dN:=[.bp 0 0,.fn g [.bp 0 0] [],.d (.ps b 0 1 l (eQ e))]) (P:=MC c (la fn e c p)) (Jn s e J O H I b l) o t Z Z Z (fun Q M D=>?_);unfold MC at D;split at D
 ·rename_i N n q;obtain⟨rfl,x,F,rfl⟩:=D;exact E N x n q F
 ·rename_i f G q;obtain⟨n,rfl,rfl⟩:=D;exact K f G n q
theorem VO(x:c.Wf){fn:Nat->PR Ex}{lo:Nat}(e:ld sw fn c lo):ld wx (la fn [[42]] c) c lo:=by
 refine ld.of (zw x (fun s p n I=>e.lt s p n I)) (fun s l f=>?_);refine cA R4 (fun _=>Z) ?_;intro E;refine pf Z [[42]] dc x (e.up l) f E _ 0 Z (fun p K n o b=>?_) (fun t C n o=>?_)
 ·obtain⟨J,M,L,F,q,G,H,D,rfl⟩:=b.eight;refine a7 1 (dK o b)
 ·refine a7 1 (cK o)
theorem VP(x:c.Wf){fn:Nat->PR Ex}{lo:Nat}(e:ld wx fn c lo):ld ww (la fn [[43],[45],[43,43]] c) c lo:=by
 refine ld.of (zw x (fun s p n I=>e.lt s p n I)) (fun s l f=>?_);refine cA R4 (fun _=>Z) ?_;intro E;refine pf Z [[43],[45],[43,43]] dc x (e.up l) f E _ 0 Z (fun p K n o b=>?_) (fun t C n o=>?_)
 ·obtain⟨J,M,L,F,q,G,H,D,rfl⟩:=b.eight;refine a7 1 (dK o b)
 ·refine a7 1 (cK o)
theorem VT(x:c.Wf){fn:Nat->PR Ex}{lo:Nat}(e:ld wv fn c lo):ld wj (la fn [[97,110,100]] c) c lo:=by
 refine ld.of (zw x (fun s p n I=>e.lt s p n I)) (fun s l f=>?_);refine cA R4 (fun _=>Z) ?_;intro E;refine pf Z [[97,110,100]] dc x (e.up l) f E _ 0 Z (fun p K n o b=>?_) (fun t C n o=>?_)
 ·obtain⟨J,M,L,F,q,G,H,D,rfl⟩:=b.eight;refine a7 1 (dK o b)
 ·refine a7 1 (cK o)
theorem Xh(x:c.Wf){fn:Nat->PR Ex}{lo:Nat}(e:ld wj fn c lo):ld oY (la fn [[111,114]] c) c lo:=by
 refine ld.of (zw x (fun s p n I=>e.lt s p n I)) (fun s l f=>?_);refine cA R4 (fun _=>Z) ?_;intro E;refine pf Z [[111,114]] dc x (e.up l) f E _ 0 Z (fun p K n o b=>?_) (fun t C n o=>?_)
 ·obtain⟨J,M,L,F,q,G,H,D,rfl⟩:=b.eight;refine a7 1 (dK o b)
 ·refine a7 1 (cK o)
def VU:Nat->Bool:=fun b=>YO b 8||YO b 18||YO b 14||YO b 24||YO b 25
variable{r:Nat->PR Ex}
theorem MG(J:c.Wf){p:Nat}(f:ld cR r c p)(E:p<c.ts.length):
  b1 C b7 qF [.bp 0 0] [dq c p] (H2 c (qX r c p)):=by
 have N:=J.len;refine cA VU (fun _=>Z) ?_;refine jR c p _ (bZ E) om 0 Z (fun b=>?_) (fun b=>?_)
 ·have x:p+1<c.ts.length:=J.go p _ (bZ E) om;intro W;refine gM J [61] x W _ 0 Z (fun e o=>?_) (fun e I=>?_)
  ·repeat refine b6 ?_
   refine f.call (p+1+1) om o 0 _ _ Z (fun d g I s t=>?_) (fun F K I s=>?_)
   ·obtain⟨T,H⟩:=f.lt _ _ _ om o s;obtain⟨U,X,V,O,D,P,Q,M,rfl⟩:=t.eight;intro Y;repeat refine b8 ?_
    intro L;refine gM J [105,110] H L _ 0 Z (fun l G=>?_) (fun l I=>?_)
    ·repeat refine b6 ?_
     refine f.call (I+1) om G 0 _ _ Z (fun h d2 R q n=>?_) (fun F K R q=>?_)
     ·obtain⟨U,X,V,O,D,P,Q,M,rfl⟩:=n.eight;intro a;repeat refine b8 ?_
      intro S;repeat refine b8 ?_
      refine a7 1 (dK (by simp only[qX,c9,b,eJ,cu,e,s,l,q,ne_eq,not_true,if_false,if_true,PR.map]) (.mk .nil .nil (.ps (.cons t (.cons n .nil)))))
     ·refine a7 1 (cK (by simp only[qX,c9,b,eJ,cu,e,s,l,q,ne_eq,not_true,if_false,if_true,PR.map]))
    ·refine a7 1 (cK (by simp only[qX,c9,b,eJ,cu,e,s,l,ne_eq,not_true,if_false,if_true,YN,PR.map]))
   ·refine a7 1 (cK (by simp only[qX,c9,b,eJ,cu,e,s,ne_eq,not_true,if_false,if_true]))
  ·refine a7 1 (cK (by simp only[qX,c9,b,eJ,cu,e,ne_eq,not_true,if_false,YN]))
 ·refine a7 1 (cK (by simp only[qX,c9,b,ne_eq,not_false_eq_true,if_true]))
variable{v:List Ex} {h:List (List D)}
theorem CY(l:Nat)(n:List UInt8)(e:D){types:List Ty}(q:ib types e)(b:iL v h):
  b1 C b7 iR [.agg (jx l n e (.d .cn) (.d .cn)),kV 0 8 h,.d .cn] [kO 8 h] fun x f=>∃E,f=[E]/\fG 0 E=true/\cN x=true/\∃t,ly (jv l n types v []) t/\x=.ret (.agg (t.map V.d)):=by
 have p:jv l n types v []=.mk l [] n [] 0 types [] v:=by simp[jv,cE]
 rw[p];refine cz ?_;refine b9 ?_;refine b9 ?_;refine cl.loop ?_;refine b9 ?_;refine cl.loop ?_;refine cl.loop ?_;rcases h with _|⟨s,o⟩;all_goals
  refine cl.loop ?_;first
   |refine cP.freeze 0 (es:=8) (l:=s::o) rfl (fZ _) (by repeat' (first|exact tv|exact fun _=>⟨rfl,by simp⟩|refine And.intro ?_ ?_)) (fun G=>?_)
   |skip
  refine cP.drop 1 Z Z Z (cP.now Z ⟨_,Z,Z,Z,_,.mk q .nil ?_,Z⟩);first|exact b.Pq|exact b.VJ sm
theorem AX{f:FuncId}{dN e:List V}{o:cL}{P:dC->cL->Prop}(E:b1 C b7 f dN [o] fun l p=>∃b,p=[b]/\fG 0 b=true/\cN l=true/\P l b)(s:Nat)(q:nth k s=some o)(t:fG 0 o=true)(n:e5 1 dN=true)(K:e=gU (jg [s] k.length) dN)(F:∀l b,P l b->a l (k.set s b)):
  b1 C b7 f e k a:=by
 refine E.frame [s] Z sm (fun M L x=>?_) n K (fun H G x _=>?_)
 ·cases M with
  |zero=>
   obtain rfl:s=L:=by simpa using x
   exact⟨o,Z,by rw[<-cv,q,en _ _ t],iA _ _ t⟩
  |succ M=>simp at x
 ·obtain⟨b,rfl,I,D,J⟩:=x;rw[k7 _ _ D];simp only[List.map_cons,List.map_nil,en _ _ I,merge,List.append_nil];exact F H b J
variable{d:Nat->Nat}
theorem KX(l:List et)(p:et):some (nj (l.map et.n++[p.n]))=some (dH d (nj ((l++[p]).map et.n))):=by
 rw[en d _ (fQ _),YT];rfl
theorem tx{xs:List FE}{l:List et}{x:FE}(o:(xs.map FE.n).Nodup)(n:xs.map FE.n=l.map et.n)(b:x.n ∉ l.map et.n):((xs++[x]).map FE.n).Nodup:=by
 rw[YT,List.nodup_append];refine⟨o,by simp,?_⟩;intro s f q e p;simp only[List.map_cons,List.map_nil,YV]at e;subst p;subst e;exact b (n▸f)
theorem wN(b:FE)(e:d g=u):some (cL.box [V.ms u 9 0 1 1])=some (dH d (.box [kV g 9 (([]++[b]:List FE).map pe)])):=by
 subst e;rfl
theorem tz(e:FE)(b:List FE)(f:FE)(l:d g=u):some (cL.box [V.ms u 9 0 ((b.map pe).length+1+1) ((b.map pe).length+1+1)])=some (dH d (.box [kV g 9 (((e::b)++[f]).map pe)])):=by
 subst l;simp[kV,dH,gU,gJ]
theorem wO(b:FE):some (cL.row 9 [(pe b).map V.d])=some (dH d (kO 9 (([]++[b]:List FE).map pe))):=jy d 9 (pe b)
theorem tA(e:FE)(b:List FE)(f:FE):some (cL.row 9 (List.take ((b.map pe).length+1) (List.drop 0 (YW (fun l=>YW V.d l) (pe e::b.map pe)))++[(pe f).map V.d]))=some (dH d (kO 9 (((e::b)++[f]).map pe))):=by
 rw[YT];exact iB d 9 (pe e) (b.map pe) (pe f)
theorem zx(l:List (List D))(b:Nat.blt u g=true):fG g (.box [kV u 9 l])=true:=by
 show(bd g (kV u 9 l)&&true)=true;rw[ka 9 l b];rfl
def Xi(o:Rd)(n:PR Ex)(f:dC)(e:VS):Prop:=∃b l,e=[.box b,l]/\cN f=true/\e5 0 b=true/\fG 0 l=true/\MC o n f b
theorem TK{o:cL}(f:m=.ok A g)(e:ly A y)(b:fG 0 o=true):cP 2 (.ret (.agg (y.map V.d))) (dq c g::o::k) (Xi c m):=by
 subst f;exact cP.drop 2 Z (wJ Z (iA 2 _ b)) (pc 2 y) (cP.now Z ⟨_,_,Z,pc 0 y,Z,b,Z,y,e,Z⟩)
theorem AY{o:cL}(e:m=.bad u z)(b:fG 0 o=true):cP 2 (.eE (dt u z)) (dq c g::o::k) (Xi c m):=by
 subst e;exact cP.drop 2 Z (wJ Z (iA 2 _ b)) Z (cP.now Z ⟨_,_,Z,Z,Z,b,g,Z,Z⟩)
variable{B:D}
theorem wP{n:List UInt8}{e:V}(f:Nat.blt z g=true)(b:bd g e=true):e5 g [.agg (jx u n B (.d .cn) (.d .cn)),kV z 8 h,e]=true:=by
 show(bd g (.agg (jx u n B (.d .cn) (.d .cn)))&&(bd g (kV z 8 h)&&(bd g e&&true)))=true;rw[ka 8 h f,b];rfl
theorem tB{o e i':Nat}{n:List UInt8}{f v':V}(l:d e=i')(b:v'=gJ d f): [V.agg (jx o n B (.d .cn) (.d .cn)),kV i' 8 h,v']=gU d [.agg (jx o n B (.d .cn) (.d .cn)),kV e 8 h,f]:=by
 subst l b;show _=[gJ d _,gJ d (kV e 8 h),gJ d f];rw[lW];rfl
theorem CZ(e:FE)(b:List FE)(f:FE):some (cL.row 9 (List.take ((b.map pe).length+1) (List.drop 0 (YW (fun l=>YW V.d l) (pe e::b.map pe)))++[(pe f).map V.d]))=some (.row 9 (dd true ((e::b)++[f]))):=by
 rw[List.drop_zero,List.take_of_length_le sm];simp[dd,wI,Function.comp_def]
theorem tC{p:Nat}(b:c0 (c.tok p) j=true):cu c [j] p=.ok () (p+1):=by
 rw[cu,if_pos b];rfl
abbrev Uq(f:List UInt8)(b:Nat)(e:List D):FE:=⟨f,0,[],[],.cn,.cn,false,[],.ps b 0 8 1 [e]⟩
def GU(xs:List FE):List (List D):=xs.map pe
def TL:Nat->Bool:=fun b=>YO b 18
def Xj:Nat->Bool:=fun b=>YO b 10||YO b 16||YO b 17||YO b 21
theorem GV(an:c.Wf)(b:List UInt8)(G:Nat){p:Nat}(z:ld cR r c p)(av:p<c.ts.length)(af:iL v h)(y:v.length<=1):
  b1 C b7 sx [.bp 0 0,.agg (jx G [] .cn (.d .cn) (.d .cn)),kV 1 8 h,cq b] [dq c p,kO 8 h] (Xi c (gV r c b G v p)):=by
 have aB:=an.len;refine cz ?_;refine b1.body TL (fun _=>Z) ?_;refine cG c p (c.tok p) b (bZ av) om 0 Z (fun L=>?_) (fun L=>?_)
 ·refine AX (P:=fun S K=>fG 0 K=true/\∃Q,ly (jv G [] [] v []) Q/\S=.ret (.agg (Q.map V.d))) (dN:=[.agg (jx G [] .cn (.d .cn) (.d .cn)),kV 0 8 h,.d .cn]) ((CY G [] .cn .nil af).mono fun S A L=>by obtain⟨K,J,T,N,U⟩:=L;exact⟨K,J,T,N,T,U⟩) 1 rfl (ga 8 h) (wP rfl rfl) (tB rfl rfl) (fun S K T=>?_);obtain⟨Q,o,rfl⟩:=T.2;obtain⟨i,az,aA,j,F,g,k,m,rfl⟩:=o.eight;exact TK (by rw[gV,fA,if_pos L];rfl) o T.1
 ·refine cl.less (eW:=[(0,.bp 0 0),(1,cq [44]),(2,cq b),(3,.fn p7 [] [.bp 2 0,.bp 7 0,.bp 5 0])]) ⟨Z,Z,Z,Z,tv⟩ ?_;refine cl.gone ?_;refine cl.iter (fun _:Nat×List et×List FE=>[(0,.bp 0 0),(1,cq [44]),(2,cq b),(3,.fn p7 [] [.bp 2 0,.bp 7 0,.bp 5 0])])
   (fun n=>[dq c n.1,kO 8 h,.box [.bp 0 0],.box (jx G [] .cn (.d .cn) (.d .cn)),.box jz,.box [kV 8 9 (GU n.2.2)],nj (n.2.1.map et.n),.box [.map 6],kO 9 (GU n.2.2)]) (fun n=>c.ts.length-n.1)
   (fun n=>p<=n.1/\n.1<c.ts.length/\n.2.2.length<=n.1/\jS n.2.1 n.2.2/\(n.2.2.map FE.n).Nodup/\(∀ad∈n.2.1,ad.val.length<=1)/\∃M,c.ts.length-n.1<=M/\gS (ja r c) c b c.ts.length [] p=gS (ja r c) c b M n.2.1 n.1) ?_ (p,[],[]) ⟨YL _,av,YU _,.nil,List.nodup_nil,by simp,_,by show c.ts.length-p<=c.ts.length;omega,rfl⟩
  rintro⟨f,a,R⟩ ⟨aw,ap,ay,am,al,aj,M,ah,au⟩;have aN:p<=f:=aw;have ar:f<c.ts.length:=ap;have O:R.length<=f:=ay;have ag:jS a R:=am;have ax:(R.map FE.n).Nodup:=al;have aJ:∀ad∈a,ad.val.length<=1:=aj;have aP:c.ts.length-f<=M:=ah;have x:gS (ja r c) c b c.ts.length [] p=gS (ja r c) c b M a f:=au;clear aw ap ay am al aj ah au;obtain⟨M,rfl⟩:∃aI,M=aI+1:=⟨M-1,om⟩;have aL:=ag.names;have e:gV r c b G v p=(gS (ja r c) c b (M+1) a f).map (jv G [] [] v):=by rw[gV,fA,if_neg (by rw[L];decide),x]
  rw[gS]at e x;refine b1.body Xj (fun _=>Z) ?_;refine n9 c an f ar (a.map et.n) 0 6 dc Z Z (fun t l=>?_) (fun t l=>?_) (fun t=>?_)
  ·have ao:f+1<c.ts.length:=an.go f _ (bZ ar) om;intro aE;refine gM an [58] ao aE _ 0 Z (fun J u=>?_) (fun J aD=>?_)
   ·repeat refine b6 ?_
    refine z.call (f+1+1) om u 0 _ _ ?_ (fun aq Q q d o=>?_) (fun aM aO q d=>?_)
    ·exact Z
    ·obtain⟨aK,w⟩:=z.lt _ _ _ om u d;obtain⟨i,az,aA,j,F,g,k,m,rfl⟩:=o.eight;intro aQ;repeat refine b8 ?_
     intro s;repeat refine b8 ?_
     intro aR;have X:jS (a++[⟨(c.tok f).text,[],c1,false,[aq]⟩]) (R++[Uq (c.tok f).text s [.int .i64 (YM i),.str az,.str aA,.str j,.int .i64 F,g,k,m]]):=ag.snoc rfl rfl rfl (.mk .nil .nil) (.ps (.cons o .nil));have E:=tx (x:=Uq (c.tok f).text s [.int .i64 (YM i),.str az,.str aA,.str j,.int .i64 F,g,k,m]) ax aL l;have W:∀ad∈a++[(⟨(c.tok f).text,[],c1,false,[aq]⟩:et)],ad.val.length<=1:=by
      intro ad H;rcases List.mem_append.1 H with H|H
      ·exact aJ ad H
      ·simp only[YV]at H;subst H;exact YL _
     have ak:ja r c a f=.ok (a++[⟨(c.tok f).text,[],c1,false,[aq]⟩]) q:=by simp only[ja,ef,t,ne_eq,not_true,if_false,l,eJ,cu,J,if_true,d,PR.map]
     rw[ak]at e x;dsimp only at e x;rcases R with _|⟨B,I⟩;all_goals
      first
       |refine a1 rfl (a1 ⟨YQ rfl,YQ rfl⟩ (a6 rfl ?_))
       |refine a1 rfl (a1 ⟨rfl,rfl,by simp,YL _,qS (by simp only[YS,List.length_map]at O⊢;omega) (YL _) (YQ rfl)⟩ (a6 rfl (a6 (jw _) ?_)))
      refine cG c q (c.tok q) b (bZ w) om 0 ?_ (fun N=>?_) (fun N=>?_)
      ·exact Z
      ·rw[if_pos N]at e;first
        |refine b1.two (dN:=[.agg (jx G [] .cn (.d .cn) (.d .cn)),kV 1 8 h,.ms 0 9 0 1 1]) (P:=fun S _ K=>fG 0 K=true/\∃Q,ly (jv G [] [] v _) Q/\S=.ret (.agg (Q.map V.d))) ((qT G [] .cn .nil af X E W y 1 rfl dc).mono (fun S A L=>by obtain⟨p,K,aa,ae,Y,ac,ab⟩:=L;exact⟨p,K,aa,ac,ae,Y,Y,ab⟩)) 10 1 dc rfl rfl (ju 0 9 _) (ga 8 h) (wP rfl rfl) (tB rfl rfl) (fun S aH aG L=>?_)
        |refine b1.two (dN:=[.agg (jx G [] .cn (.d .cn) (.d .cn)),kV 1 8 h,.ms 0 9 0 ((I.map pe).length+1+1) ((I.map pe).length+1+1)]) (P:=fun S _ K=>fG 0 K=true/\∃Q,ly (jv G [] [] v _) Q/\S=.ret (.agg (Q.map V.d))) ((qT G [] .cn .nil af X E W y ((I.map pe).length+1+1) sm (by simp only[YS,List.length_map]at O⊢;omega)).mono (fun S A L=>by obtain⟨p,K,aa,ae,Y,ac,ab⟩:=L;exact⟨p,K,aa,ac,ae,Y,Y,ab⟩)) 10 1 dc (CZ B I (Uq (c.tok f).text s _)) rfl (ju 0 9 _) (ga 8 h) (wP rfl rfl) (tB rfl rfl) (fun S aH aG L=>?_)
       obtain⟨aC,Q,o,rfl⟩:=L;obtain⟨i,az,aA,j,F,g,k,m,rfl⟩:=o.eight;exact TK (by rw[e];rfl) o aC
      ·rw[if_neg (by rw[N];decide)]at e x;intro aF;refine gM an [44] w aF _ 0 ?_ (fun U ai=>?_) (fun U aD=>?_)
       ·exact Z
       ·rw[tC U]at x;refine⟨(q+1,_,_),⟨by show p<=q+1;omega,ai,by simp only[List.length_append,YS,List.length_nil]at O⊢;omega,X,E,W,M,by show c.ts.length-(q+1)<=M;omega,x⟩,by show c.ts.length-(q+1)<c.ts.length-f;omega,.pick 8 [0,1,2,3,4,5,6,7,10] ⟨rfl,rfl,rfl,rfl,tv⟩ rfl rfl rfl rfl rfl dc ⟨rfl,rfl,EI _ _ _,fO _ _ _,rfl,rfl,rfl,rfl,rfl,rfl,by first|exact wN (Uq (c.tok f).text s _) rfl|exact tz B I (Uq (c.tok f).text s _) rfl,zx _ rfl,KX a ⟨(c.tok f).text,[],c1,false,[aq]⟩,iA _ _ (fQ _),rfl,rfl,by first|exact wO (Uq (c.tok f).text s _)|exact tA B I (Uq (c.tok f).text s _),fO _ _ _,tv⟩,rfl,rfl⟩
       ·exact AY (by rw[e];simp only[cu,U,if_false,YN,PR.map]) (ga 8 h)
    ·exact AY (by rw[e];simp only[ja,ef,t,ne_eq,not_true,if_false,l,eJ,cu,J,if_true,d,PR.map]) (ga 8 h)
   ·exact AY (by rw[e];simp only[ja,ef,t,ne_eq,not_true,if_false,l,eJ,cu,J,YN,PR.map]) (ga 8 h)
  ·exact AY (by rw[e];simp only[ja,ef,t,ne_eq,not_true,if_false,l,if_true,PR.map]) (ga 8 h)
  ·exact AY (by rw[e];simp only[ja,ef,t,ne_eq,not_false_eq_true,if_true,PR.map]) (ga 8 h)
end Go.Proofs.YtpejealjkmhkgaaGreatDoor
