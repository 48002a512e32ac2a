/- Part of the proof. -/
import Derived.Test.YtdocmpeionacbaaGreatDoorKAn
set_option linter.all false
set_option maxHeartbeats 16000000
set_option maxRecDepth 100000
open Int renaming ofNat->ais,ofNat_eq_natCast->aiu
open Nat renaming zero_le->ait,le_refl->aiw,le_of_ble_eq_true->aiy,beq->aiE,sub_le->aiI,not_lt_zero->aiJ,le_of_lt->aiO,lt_succ_iff_lt_or_eq->aiW,zero_add->aiY
open List renaming getElem?_eq_getElem->aiv,getElem_mem->aix,length_map->aiz,length_append->aiA,length_cons->aiB,take_of_length_le->aiC,length_nil->aiD,drop_eq_getElem_cons->aiF,getElem?_map->aiG,length_take->aiH,map_append->aiK,take_add_one->aiM,drop_of_length_le->aiN,mem_iff_getElem->aiP,drop_zero->aiQ,take->aiR,drop->aiS,length_drop->aiT,map->aiU,pairwise_iff_getElem->aiV,mem_cons->aiX,pairwise_cons->ai0,length->j'
open Bool renaming not_eq_false'->aiL,true->A',false->B'
open And renaming intro->aiZ
open Option renaming some->q'
namespace Go.Proofs.YtdocmpeionacbaaGreatDoor
open Go.AM Go.VM
variable{a:dt->VS->Prop} {A:VS}
def LG{f:FuncId}{c b:n_ V}(g:c=b)(d:b7 C cm f b A a):b7 C cm f c A a:=g▸d
def two(b:Nat)(c:V):n_ V:=[c,cl b]
def aha:Nat->Bool:=λ_=>B'
def bnT(c:Nat)(d:V)(b:Bool):Tm:=[(1,cl c),(2,.bp 0 0),(4,.bp 1 0),(5,.bp 2 0),(8,.bp 3 0),(9,d),(10,cj b)]
def aif(c:Nat)(d:V)(b:Bool)(f:Nat):Tm:=[(1,cl c),(2,.bp 0 0),(4,.bp 1 0),(5,.bp 2 0),(8,.bp 3 0),(9,d),(10,cj b),(11,cl f)]
def bnS(R:Rd)(z:RS)(b:C7×D):VS:=[.box (B0 R z),.box exZ,.box y0,pfB b.1 (.d b.2)]
structure BnI (R:Rd) (x:RS) (lo:Nat) (fn:Nat->PR Ex) (P:Nat->Ex->Prop) (z:RS) (c:C7×D):Prop where
 lt:z.p<j' R.ts
 ge:z.ge lo
 st:x.stay z
 bad:x.e=0->z.e≠0->eF (fn x.p) z (λ_=>False)
 XO:x.e=0->z.e=0->x.p<z.p/\∃xe,iz xe (pfC c.1 c.2)/\P z.p xe
variable{J:n_ cC} {U:Tok}
theorem adA(d:∀b (c:b<j' J),cG U J[b]=B'):o5 U J=none:=by
 grind [o5,aiP.1]
variable{E T:Nat}
theorem adB(g:E<j' J)(f:∀b (c:b<j' J),b<E->cG U J[b]=B')(d:cG U J[E]=A'):o5 U J=q' J[E]:=by
 rw[o5,List.find?_eq_some_iff_getElem]
 grind
theorem XP(b:E<j' J):nth (eY J) E=q' [.str J[E]]:=by
 grind [cx,eY]
theorem abn{R:Rd}(w:R.Wf){lv lo:Nat}(ar:lv=0∨lv=1∨lv=3∨lv=4∨lv=5){next fn:Nat->PR Ex}{Gf:Nat->Ex->Nat->PR Ex}(aL:mz dw (two (lv+1)) next R lo)(M:jP R lo next) 
  (ao:∀aR,fn aR=(next aR).bind λx i=>Gf (j' R.ts) x i)
  (aA:∀c x i,Gf (c+1) x i=match o5 (R.tok i) (lL lv)with|none=>.ok x i|some au=>(next (i+1)).bind λy aC=>if lv=3 then .ok (.mk 16 [] au [] 0 [] [] [x,y]) aC else Gf c (.mk 16 [] au [] 0 [] [] [x,y]) aC):
  mz dw (two lv) fn R lo:=by
 have aP:=w.len;refine mz.of (λx=>Z) (λx aK aB=>?_);have ai:∀W:V,[W,.d (.int .i64 (IntKind.i64.wrap (ais lv+1)))]=two (lv+1) W:=λW=>by rw[cF om];try rfl
 have aS:j' (lL lv)<4294967296:=by rcases ar with rfl|rfl|rfl|rfl|rfl<;>decide
 refine cB aha (λ_=>Z) ?_;refine aZ (λP=>Y' (Dw (b:=6) P) om) (λaU=>?_);refine cN ?_;refine aZ (λP=>Y' (Dw (b:=2) P) om) (λt=>?_);refine cN ?_;refine LG (ai _) (aL.call x aK aB _ _ (λaf aa X ac ae ah ad ag y ab G K b=>?_));refine XN ar (λaQ=>?_);obtain⟨aO,aI⟩:∃aO,aO=V.d (.ps aQ 0 1 (j' (lL lv)) (eY (lL lv))):=⟨_,rfl⟩;rw[<-aI];have ak:BnI R x lo fn (λi d=>∃c,j' R.ts-i<c/\fn x.p=Gf c d i) y ((af,aa,X,ac,ae,ah,ad),ag):=by
  refine⟨ab,G,K,λs e=>?_,λs p=>?_⟩
  ·have t:=b s;rw[ao];cases F:next x.p with
   |bad au aN=>rw[F]at t;exact t
   |ok l i=>rw[F]at t;exact Y' (by rw[t.1];try rfl) e
  have t:=b s;cases F:next x.p with
  |bad au aN=>rw[F]at t;exact Y' (t.2.2.symm.trans p) t.1
  |ok l i=>
   rw[F]at t;obtain⟨a,q⟩:=M _ _ _ (aB s).1 aK F;obtain⟨aH,E⟩:=t;subst aH;exact⟨a,l,E,j' R.ts,by show (j' R.ts)-i<j' R.ts;omega,by rw[ao,F];try rfl⟩
 refine ck.iter (λl:Bool×RS×(C7×D)=>bnT lv aO l.1) (λl=>bnS R l.2.1 l.2.2) (λl=>if l.1 then(if l.2.1.e=0 then (j' R.ts)-l.2.1.p+2 else 1)else 0)
  (λl=>BnI R x lo fn (λi d=>if l.1 then ∃c,j' R.ts-i<c/\fn x.p=Gf c d i else fn x.p=.ok d i) l.2.1 l.2.2) ?_ (A',y,((af,aa,X,ac,ae,ah,ad),ag)) ak
 clear ak b K G ab y;rintro⟨N,z,aM⟩ j;have j:BnI R x lo fn (λi d=>if N then ∃c,j' R.ts-i<c/\fn x.p=Gf c d i else fn x.p=.ok d i) z aM:=j;cases N with
 |false=>
  refine cy ?_;refine a8 0 ⟨Z,Z,_,_,_,_,_,_,_,_,z,j.lt,j.ge,j.st,λs=>?_,Z⟩;by_cases f:z.e=0
  ·obtain⟨_,d,E,r⟩:=j.XO s f;have aJ:=eH j.ge f;have r:fn x.p=.ok d z.p:=r;rw[r];exact⟨aJ,E⟩
  exact(j.bad s f).imp λ_ P=>P.elim
 |true=>
  refine ck.iter (λl:Nat×Bool×RS×(C7×D)=>aif lv aO l.2.1 l.1) (λl=>bnS R l.2.2.1 l.2.2.2) (λl=>j' (lL lv)-l.1)
   (λl=>l.1<=j' (lL lv)/\(l.2.1=B'->l.2.2.1=z/\l.2.2.2=aM/\∀u (A:u<j' (lL lv)),u<l.1->z.is R (lL lv)[u]=B')/\
    (l.2.1=A'->z.e=0/\(l.2.2.1.e=0->z.p<l.2.2.1.p)/\BnI R x lo fn (λi d=>∃c,j' R.ts-i<c/\fn x.p=if lv=3 then .ok d i else Gf c d i) l.2.2.1 l.2.2.2)) ?_ (0,B',z,aM) ⟨ait _,λ_=>⟨rfl,rfl,λu _ P=>Y' P (aiJ _)⟩,λP=>by cases P⟩
  rintro⟨B,U,h,C⟩ ⟨a,q,T⟩;have aT:B<=j' (lL lv):=a;have J:U=B'->h=z/\C=aM/\∀u (A:u<j' (lL lv)),u<B->z.is R (lL lv)[u]=B':=q;have v:U=A'->z.e=0/\(h.e=0->z.p<h.p)/\BnI R x lo fn (λi d=>∃c,j' R.ts-i<c/\fn x.p=if lv=3 then .ok d i else Gf c d i) h C:=T;clear a q T;have aj:j' (eY (lL lv))=j' (lL lv):=by simp[eY]
  rw[aI];apply aZ<;>intro aD
  ·have Q:B<j' (lL lv):=aj▸eK aD;have aF:=XP Q;cases U with
   |true=>
    refine cy ?_;exact⟨(B+1,A',h,C),⟨Q,(λP=>by cases P),v⟩,ik,.eS,Z,Z⟩
   |false=>
    obtain⟨av,ax,Y⟩:=J rfl;subst av ax;clear J v;refine cy ?_;refine bZ Z ?_;refine cp _ aF ?_;refine db ?_;refine cL R h (lL lv)[B] j.lt ?_;cases aq:h.is R (lL lv)[B]with
    |true=>
     obtain⟨f,t1⟩:=c9 aq;have al:=w.step j.lt t1;have aE:=j.lt;refine db ?_;refine cT R h om ?_;refine LG (ai _) (aL.call h.next al j.ge.next _ _ (λaf aa X ac ae ah ad ag y ab G K b=>?_));refine db ?_;refine bZ Z ?_;refine cp _ aF ?_;refine db ?_;intro L;refine db ?_;have s:x.e=0:=by
      by_cases P:x.e=0
      ·exact P
      rw[j.st P]at f;exact Y' f P
     obtain⟨ap,d,E,ay⟩:=j.XO s f;obtain⟨c,aG,r⟩:∃c,j' R.ts-h.p<c/\fn x.p=Gf c d h.p:=ay;obtain⟨c,rfl⟩:∃k,c=k+1:=⟨c-1,om⟩;rw[aA,adB Q (λu A an=>cJ (Y u A an) f) t1]at r;dsimp only at r;have b:eF (next (h.p+1)) y _:=b f;have H:y.e=0->h.p<y.p:=λp=>by
      cases n:next (h.p+1)with
      |bad au aN=>rw[n]at b;exact Y' (b.2.2.symm.trans p) b.1
      |ok W i=>
       rw[n]at b;obtain⟨q1,q2⟩:=M (h.p+1) W i (by have:=(j.ge f).1;omega) al n;rw[b.1];show h.p<i;omega
     refine⟨(B+1,A',y,((.int .i64 (ais 16),.str [],.str (lL lv)[B],.str [],.int .i64 (ais 0),.cu,.cu),.ps L 0 8 2 [pfC C.1 C.2,[af,aa,X,ac,ae,ah,ad,ag]])),⟨Q,(λP=>by cases P),λ_=>⟨f,H,ab,G,(λP=>Y' s P),λ_ e=>?_,λ_ p=>?_⟩⟩,ik,.eD 4,Z,Z⟩
     ·show eF (fn x.p) y (λ_=>False);have e:y.e≠0:=e;rw[r];cases n:next (h.p+1)with
      |bad au aN=>rw[n]at b;exact b
      |ok W i=>rw[n]at b;exact Y' (by rw[b.1];try rfl) e
     have p:y.e=0:=p;cases n:next (h.p+1)with
     |bad au aN=>rw[n]at b;exact Y' (b.2.2.symm.trans p) b.1
     |ok W i=>
      rw[n]at b r;have I:=H p;refine⟨by show x.p<y.p;omega,.mk 16 [] (lL lv)[B] [] 0 [] [] [d,W],.mk .nil .nil (.ps (.cons E (.cons b.2 .nil))),c,by show (j' R.ts)-y.p<c;omega,?_⟩;show fn x.p=if lv=3 then PR.ok (Ex.mk 16 [] (lL lv)[B] [] 0 [] [] [d,W]) y.p else Gf c (Ex.mk 16 [] (lL lv)[B] [] 0 [] [] [d,W]) y.p
      rw[r,b.1];try rfl
    |false=>
     refine db ?_;exact⟨(B+1,B',h,C),⟨Q,(λ_=>⟨Z,Z,λu A an=>by
      rcases Nat.lt_or_ge u B with g|g
      ·exact Y u A g
      obtain rfl:u=B:=om;exact aq⟩),λP=>by cases P⟩,ik,.eS,Z,Z⟩
  have Q:j' (lL lv)<=B:=aj▸dK aD;have S:U=B'->BnI R x lo fn (λi d=>fn x.p=.ok d i) h C:=λo=>by
   obtain⟨av,ax,Y⟩:=J o;rw[av,ax];refine⟨j.lt,j.ge,j.st,j.bad,λs f=>?_⟩;obtain⟨ap,d,E,ay⟩:=j.XO s f;obtain⟨c,aG,r⟩:∃c,j' R.ts-z.p<c/\fn x.p=Gf c d z.p:=ay;obtain⟨c,rfl⟩:∃k,c=k+1:=⟨c-1,om⟩;rw[aA,adA (λu A=>cJ (Y u A om) f)]at r;exact⟨ap,d,E,r⟩
  apply aZ<;>intro az
  ·have am:=Dw (b:=3) az;have aw:BnI R x lo fn (λi d=>fn x.p=.ok d i) h C:=by
    by_cases o:U=A'
    ·obtain⟨f,I,m⟩:=v o;refine⟨m.lt,m.ge,m.st,m.bad,λl L=>?_⟩;obtain⟨a,d,q,c,T,O⟩:=m.XO l L
     grind
    exact S (by simpa using o)
   refine cN ?_;refine⟨(B',h,C),aw,?_,.eS,Z,Z⟩;show 0<(if z.e=0 then (j' R.ts)-z.p+2 else 1);split<;>omega
  have am:lv≠3:=A7 (b:=3) az;refine cN ?_;refine⟨(U,h,C),?_,?_,.eS,Z,Z⟩
  ·show BnI R x lo fn (λi d=>if U then ∃c,j' R.ts-i<c/\fn x.p=Gf c d i else fn x.p=.ok d i) h C;by_cases o:U=A'
   ·obtain⟨f,I,m⟩:=v o;refine⟨m.lt,m.ge,m.st,m.bad,λl L=>?_⟩;obtain⟨a,d,q,c,T,O⟩:=m.XO l L;rw[W' am]at O;exact⟨a,d,q,by rw[X' o];exact⟨c,T,O⟩⟩
   have m:=S (by simpa using o);refine⟨m.lt,m.ge,m.st,m.bad,λl L=>?_⟩;obtain⟨a,d,q,O⟩:=m.XO l L;exact⟨a,d,q,by rw[W' o];exact O⟩
  show(if U then(if h.e=0 then (j' R.ts)-h.p+2 else 1)else 0)<(if z.e=0 then (j' R.ts)-z.p+2 else 1);by_cases o:U=A'
  ·obtain⟨f,I,m⟩:=v o;have aE:=m.lt;rw[X' o,X' f];split
   ·have:=I (by assumption);omega
   omega
  rw[W' o];split<;>omega
def abo:Nat->Bool:=λ_=>B'
def adC{R:Rd}{fn:Nat->PR Ex}{lo:Nat}(j:mz jy one fn R lo):mz dw (two 6) fn R lo:=by
 refine mz.of (λx=>Z) (λx f h=>?_);refine cB abo (λ_=>Z) ?_;refine j.call x f h _ _ (λp r i k o m n l y g d c b=>?_);exact a8 0 ⟨Z,Z,_,_,_,_,_,_,_,_,y,g,d,c,b,Z⟩
def IC(c:Nat->PR Ty)(b:Nat->PR Ex)(R:Rd)(h:Nat):PR Ex:=match mv c b R h with
 |.bad g i=>.bad g i
 |.ok x d=>match o5 (R.tok d) [[61,61],[61,61,61],[60]]with
  |none=>.ok x d
  |some f=>(mv c b R (d+1)).map λy=>.mk 16 [] f [] 0 [] [] [x,y]
def abp(c:Nat->PR Ty)(b:Nat->PR Ex)(R:Rd)(f d:Nat):oh c b R (f+1) d=if cG (R.tok d) [110,111,116]then(oh c b R f (d+1)).map (op1 [110,111,116])else IC c b R d:=by rw[oh];try rfl
variable{q:Nat->PR Ex} {e:Nat->PR Ty}
def XQ{R:Rd}(w:R.Wf){lo f:Nat}(P:mz dw (two 3) (IC e q R) R lo)(v:mz dw (two 2) (oh e q R f) R (lo+1)):mz dw (two 2) (oh e q R (f+1)) R lo:=by
 have n:=w.len;refine mz.of (λx=>Z) (λx i l=>?_);refine cB abo (λ_=>Z) ?_;refine cL R x [110,111,116] i ?_;cases g:x.is R [110,111,116]with
 |true=>
  obtain⟨c,t1⟩:=c9 g;have t:=w.step i t1;refine cT R x om ?_;refine v.call x.next t l.sV _ _ λF o p r D s C m y j d h b=>?_
  intro Y;refine cy ?_;refine a8 0 ⟨Z,Z,_,_,_,_,_,_,_,_,y,j,d.low,(λQ=>Y' c Q),λ_=>?_,Z⟩;rw[abp,X' t1];exact eF.map (b c) λV z=>.mk .nil .nil (.ps (.cons z .nil))
 |false=>
  refine P.call x i l _ _ (λF o p r D s C m y j d h b=>?_);refine a8 0 ⟨Z,Z,_,_,_,_,_,_,_,_,y,j,d,h,λc=>?_,Z⟩;rw[abp,cJ g c,W' dc];exact b c
def afJ{R:Rd}(w:R.Wf){lo:Nat}(k:mz dw (two 3) (IC e q R) R lo)(c:jP R lo (IC e q R)):∀f b,lo<=b->j' R.ts-b<=f->mz dw (two 2) (oh e q R f) R b:=by
 intro f;induction f with
 |zero=>
  intro b d l;have g:=k.up c d;refine mz.of (λx=>Z) (λx i j=>?_);have h0:x.e≠0:=λh=>by have:=(j h).1;omega
  refine cB abo (λ_=>Z) ?_;refine cL R x [110,111,116] i ?_;rw[ea h0];refine g.call x i j _ _ (λC p r s z t v o y hy EK Fj m=>?_);exact Cm
 |succ f n=>exact λb d l=>XQ w (k.up c d) (n (b+1) om om)
def afK(next:Nat->PR Ex)(b:n_ cC)(R:Rd)(c:Nat):og next b R c=(next c).bind λx d=>vg next b R (j' R.ts) x d:=by
 rw[og];cases next c<;>rfl
def afL(g:E≠3)(next:Nat->PR Ex)(R:Rd)(d:Nat)(x:Ex)(c:Nat):vg next (lL E) R (d+1) x c=match o5 (R.tok c) (lL E)with
  |none=>.ok x c
  |some f=>(next (c+1)).bind λy b=>if E=3 then .ok (.mk 16 [] f [] 0 [] [] [x,y]) b else vg next (lL E) R d (.mk 16 [] f [] 0 [] [] [x,y]) b:=by
 rw[vg];cases o5 (R.tok c) (lL E)with
 |none=>rfl
 |some f=>
  dsimp only;cases next (c+1)with
  |bad f h=>rfl
  |ok y b=>simp only[PR.bind,W' g]
def afM(c:Nat->PR Ty)(b:Nat->PR Ex)(R:Rd)(f:Nat):IC c b R f=(mv c b R f).bind λx d=>match o5 (R.tok d) (lL 3)with
  |none=>.ok x d
  |some s=>(mv c b R (d+1)).map λy=>.mk 16 [] s [] 0 [] [] [x,y]:=by
 rw[IC];cases mv c b R f<;>rfl
def adD{R:Rd}(w:R.Wf){lo:Nat}(m:jP R lo (mv e q R)):jP R lo (IC e q R):=by
 intro p x r k h b;rw[IC]at b;cases c:mv e q R p with
 |bad n s=>rw[c]at b;cases b
 |ok y q1=>
  rw[c]at b;dsimp only at b;obtain⟨g,f⟩:=m _ _ _ k h c;cases d:o5 (R.tok q1) [[61,61],[61,61,61],[60]]with
  |none=>rw[d]at b;cases b;exact⟨g,f⟩
  |some n=>
   rw[d]at b;dsimp only at b;obtain⟨_,_,_,j,_⟩:=ui d;obtain⟨z,l,rfl⟩:=fR b;obtain⟨o,i⟩:=m _ _ _ om (w.step f j) l;exact⟨om,i⟩
def Ff{R:Rd}(w:R.Wf){lv lo:Nat}(g:lv=0∨lv=1∨lv=4∨lv=5){next:Nat->PR Ex}(d:mz dw (two (lv+1)) next R lo)(b:jP R lo next):mz dw (two lv) (og next (lL lv) R) R lo/\jP R lo (og next (lL lv) R):=
 ⟨abn w om d b (Gf:=λc x f=>vg next (lL lv) R c x f) (λi=>afK _ _ _ _) (λc x f=>afL om _ _ _ _ _),Bz w b⟩
def UZ{R:Rd}(w:R.Wf)(h:∀z,Ql (R.tok z)){lo:Nat}(Ad:j' R.ts-lo<=j' R.ts)(i:mz fL one (gK e q R) R lo)(b:jP R lo (gK e q R)):mz dw (two 0) (Wx e q R) R lo/\jP R lo (Wx e q R):=by
 have p:=afI w h i b (j' R.ts) lo (aiw _) Ad;have f:jP R lo (ql e q R (j' R.ts)):=Uw w b (j' R.ts);obtain⟨n,k⟩:=Ff w (lv:=5) om (adC p) f;obtain⟨l,g⟩:=Ff w (lv:=4) om n k;have r:mz dw (two 3) (IC e q R) R lo:=abn w (lv:=3) om l g (Gf:=λ_ x d=>match o5 (R.tok d) (lL 3)with
  |none=>.ok x d
  |some s=>(mv e q R (d+1)).map λy=>.mk 16 [] s [] 0 [] [] [x,y]) (λz=>afM _ _ _ _) (λC x d=>by
   cases o5 (R.tok d) (lL 3)with
   |none=>rfl
   |some F=>
    show(mv e q R (d+1)).map _=(mv e q R (d+1)).bind _;cases mv e q R (d+1)<;>rfl)
 have o:jP R lo (IC e q R):=adD w g;have j:=afJ w r o (j' R.ts) lo (aiw _) Ad;have v:jP R lo (oh e q R (j' R.ts)):=Uu w g (j' R.ts);obtain⟨m,t⟩:=Ff w (lv:=1) om j v;exact Ff w (lv:=0) om m t
theorem afN(b:Nat->PR Ex)(R:Rd)(c:Nat):vW b R c=(dp R c).bind λf d=>(eV b R [61] d).bind λx q1=>(eV b R [105,110] q1).map λy=>.mk 10 [] f [] 0 [] [] [x,y]:=by
 unfold vW PR.bind
 grind
theorem adE(c:Nat->PR Ty)(b:Nat->PR Ex)(R:Rd)(d:Nat):ol c b R d=(dE c R d).bind λg f=>(b f).bind λx q1=>(eV b R [116,104,101,110] q1).bind λy q2=>(eV b R [101,108,115,101] q2).map λz=>.mk 12 [] [] [] 0 [g] [] [x,y,z]:=by
 unfold ol PR.bind
 grind
theorem abq(c:Nat->PR Ty)(b:Nat->PR Ex)(R:Rd)(d:Nat):lD c b R d=(dE c R d).bind λg f=>(b f).bind λx q1=>(cw R [[123]] q1).bind λ_ q2=>(ec (fX b R) R [125] [] q2).map (j9 13 [] [g] [x]):=by
 unfold lD PR.bind
 grind
theorem adF(c:Nat->PR Ty)(b:Nat->PR Ex)(R:Rd)(f:Nat):lE c b R f=(dE c R f).bind λh d=>(dp R d).bind λs q1=>(cw R [[44]] q1).bind λ_ q2=>(dp R q2).bind λi q3=>(eV b R [105,110] q3).bind λx q4=>(eV b R [102,114,111,109] q4).bind λy g=>(eV b R [61,62] g).map λz=>.mk 15 [] s i 0 [h] [] [x,y,z]:=by
 unfold lE PR.bind;cases dE c R f with
 |bad j k=>rfl
 |ok h d=>
  dsimp only;cases dp R d with
  |bad j k=>rfl
  |ok s q1=>
   grind
theorem U0(c:Nat->PR Ty)(b:Nat->PR Ex)(R:Rd)(d:Nat):funcF c b R d=(cw R [[40]] d).bind λ_ f=>(ec (eA c b R) R [41] [] f).bind λg q1=>(eV b R [61,62] q1).map (M8 (j9 8 [] [] [] g)):=by
 unfold funcF PR.bind
 grind
theorem ahb{R:Rd}(f:R.Kd)(c:Nat->PR Ty)(b:Nat->PR Ex)(h:E<j' R.ts):DY c b R E=
  if cG (R.tok E) [108,101,116]then vW b R (E+1)
  else if cG (R.tok E) [105,102]then ol c b R (E+1)
  else if cG (R.tok E) [109,97,116,99,104]then lD c b R (E+1)
  else if cG (R.tok E) [102,111,108,100]then lE c b R (E+1)
  else if cG (R.tok E) [102,110]then funcF c b R (E+1)
  else Wx c b R E:=by
 have d:∀g,g ∉ iu->(cG (R.tok E) g=A')=((R.tok E).kind=5/\(R.tok E).text=g):=λg i=>by
  rw[G2 (f E h) i,Bool.and_eq_true,j_,j_]
  grind
 rw[DY];simp only[d [108,101,116] dc,d [105,102] dc,d [109,97,116,99,104] dc,d [102,111,108,100] dc,d [102,110] dc]
def QV(d:Nat)(types:n_ Ty)(b:n_ Ex)(c:n_ dg)(y:Ex):M8 (j9 d [] types b c) y=.mk d [] [] [] 0 types ((cz dg.n c).map dg.rO) (b++(cz dg.n c).flatMap dg.val++[y]):=rfl
def afO(b:n_ cP)(c:cP):q' (cX.row 8 (aiR (j' b) (aiS 0 (aiU (λc=>aiU V.d c) b))++[c.map V.d]))=q' (.row 8 ((b++[c]).map λc=>c.map V.d)):=by
 exact Cw
def aej:Nat->Bool:=λb=>aiE b 2000116
theorem TC{R:Rd}(w:R.Wf)(ba:R.Kd){lo:Nat}(aR:XI dh e R (lo+1))(bf:∀bi aQ az,lo+1<=bi->bi<j' R.ts->e bi=.ok aQ az->bi<az/\az<j' R.ts)(F:mz dR one q R (lo+1))(aG:jP R (lo+1) q)(aX:mz dw (two 0) (Wx e q R) R lo):mz dR one (DY e q R) R lo:=by
 have bl:=w.len;have ar:=ag4 w aR;refine mz.of (λx=>Z) (λx G X=>?_);have ac:=ahb ba e q G;have ao:x.e=0->x.next=cq (x.p+1):=λM=>by rw[eH X M];try rfl
 refine cB aej (λ_=>Z) ?_;refine cL R x [108,101,116] G ?_;cases N:x.is R [108,101,116]with
 |true=>
  obtain⟨c,t1⟩:=c9 N;have K:=w.step G t1;refine cT R x om ?_;refine dv R w x.next 1 K ?_
  have ai:=fB w (x:=x.next) (k:=1) dc K;refine cH R w _ [61] ai ?_;refine F.call _ (cW w ai) X.sV.word.expect _ _ (λB Y Q a A H u E y aB ag ah af=>?_);refine cH R w y [105,110] aB ?_;refine F.call _ (cW w aB) ag.expect _ _ (λd0 d1 d2 d3 d4 d5 d6 d7 z bm aW b d=>?_);intro U;refine cy ?_;refine a8 0 ⟨Z,Z,_,_,_,_,_,_,_,_,z,bm,aW.low,(λM=>Y' c M),λ_=>?_,Z⟩;rw[ac,X' t1,afN];have aF:=eF.name R (x.p+1);rw[<-ao c]at aF;refine eF.bind aF ((RS.stay.expect.trans ah).trans (RS.stay.expect.trans b)) (λs az J bu=>?_);refine eF.bind (eF.val J X.sV.word ah af) (RS.stay.expect.trans b) (λax q1 v p=>?_);exact eF.map (eF.val v ag b d) λbc ab=>by rw[<-bu];exact .mk .nil .nil (.ps (.cons p (.cons ab .nil)))
 |false=>
  refine cL R x [105,102] G ?_;cases W:x.is R [105,102]with
  |true=>
   obtain⟨c,t2⟩:=c9 W;have t1:=cJ N c;have K:=w.step G t2;refine cT R x om ?_;refine ar x.next K X.sV _ _ λk bz bC bk f V m i D g=>?_
   refine F.call V m i _ _ (λB Y Q a A H u E L n h b d=>?_);refine cH R w L [116,104,101,110] n ?_;refine F.call _ (cW w n) h.expect _ _ (λd0 d1 d2 d3 d4 d5 d6 d7 S C l j o=>?_);refine cH R w S [101,108,115,101] C ?_;refine F.call _ (cW w C) l.expect _ _ (λbj bn bx bE bB bv br bq ay am ad r T=>?_);intro aA bD;refine cy ?_;refine a8 0 ⟨Z,Z,_,_,_,_,_,_,_,_,ay,am,ad.low,(λM=>Y' c M),λ_=>?_,Z⟩;rw[ac,t1,W' dc,X' t2,adE];refine eF.bind (g c) ((b.trans (RS.stay.expect.trans j)).trans (RS.stay.expect.trans r)) (λaQ az J aw=>?_);rw[J]at d;refine eF.bind (d Z) ((RS.stay.expect.trans j).trans (RS.stay.expect.trans r)) (λax q1 v p=>?_);refine eF.bind (eF.val v h j o) (RS.stay.expect.trans r) (λbc q2 aa ab=>?_);exact eF.map (eF.val aa l r T) λbp au=>.mk (.ps (.cons aw .nil) sm) .nil (.ps (.cons p (.cons ab (.cons au .nil))))
  |false=>
   refine cL R x [109,97,116,99,104] G ?_;cases aj:x.is R [109,97,116,99,104]with
   |true=>
    obtain⟨c,t3⟩:=c9 aj;have t1:=cJ N c;have t2:=cJ W c;have K:=w.step G t3;refine cT R x om ?_;refine ar x.next K X.sV _ _ λk bz bC bk f V m i D g=>?_
    refine F.call V m i _ _ (λB Y Q a A H u E L n h b d=>?_);refine cH R w L [123] n ?_;refine NO (adt w F aG _ (cW w n) h.expect) Z (λaP bt S C l j an ap aC o=>?_);have ae:∀(aA U aN:Nat) (ak:n_ cP),(∀ax,iz ax [B,Y,Q,a,A,H,u,E]->∀aJ,gn aJ bt->gn ([ax]++aJ) (.ps U 0 8 aN ak))->x.e=0->eF (DY e q R x.p) S (λaQ=>iz aQ [.int .i64 (ais 13),.str [],.str [],.str [],.int .i64 (ais 0),.ps aA 0 5 1 [[k,bz,bC,bk,f]],aP,.ps U 0 8 aN ak]):=λaA U aN ak bg _=>by
     rw[ac,t1,W' dc,t2,W' dc,X' t3,abq];refine eF.bind (g c) (b.trans (RS.stay.expect.trans j)) (λaQ az J aw=>?_);rw[J]at d;refine eF.bind (d Z) (RS.stay.expect.trans j) (λax q1 v p=>?_);have t:=kL R q1 [123];rw[<-v]at t;refine eF.bind t j (λbA q2 aa _=>?_);rw[aa]at o;exact eF.map (o Z) λaJ I=>.mk (.ps (.cons aw .nil) sm) I.1 (bg ax p _ I.2)
    obtain⟨bI,be⟩:=ap;rcases be.inv with⟨rfl,rfl⟩|⟨U,bN,bJ,O,rfl,bK⟩
    ·repeat first
      |refine bZ rfl ?_
      |intro U
      |refine Fl ?_
      |refine kf ?_
     refine r1 (els:=[[B,Y,Q,a,A,H,u,E]]) Z Z (λU=>?_);exact⟨_,_,_,_,_,_,_,_,S,C,l.low,(λM=>Y' c M),ae _ U _ _ (λax p aJ I=>by cases I;exact .ps (.cons p .nil)),Z⟩
    rcases O with _|⟨bo,bH⟩
    ·repeat first
      |refine bZ rfl ?_
      |intro U
      |refine Fl ?_
      |refine kf ?_
     refine r1 (els:=[[B,Y,Q,a,A,H,u,E]]) Z Z (λU=>?_);exact⟨_,_,_,_,_,_,_,_,S,C,l.low,(λM=>Y' c M),ae _ U _ _ (λax p aJ I=>by cases I with|ps M=>cases M;exact .ps (.cons p .nil)),Z⟩
    have bG:j' bH+1<=j' R.ts:=aC;repeat first
     |refine bZ rfl ?_
     |intro U
     |refine Fl ?_
     |refine kf ?_
    refine r1 (els:=[B,Y,Q,a,A,H,u,E]::bo::bH) Z Ag (λU=>?_);exact⟨_,_,_,_,_,_,_,_,S,C,l.low,(λM=>Y' c M),ae _ U _ _ (λax p aJ I=>by cases I with|ps M=>exact .ps (.cons p M)),Z⟩
   |false=>
    refine cL R x [102,111,108,100] G ?_;cases aq:x.is R [102,111,108,100]with
    |true=>
     obtain⟨c,t4⟩:=c9 aq;have t1:=cJ N c;have t2:=cJ W c;have t3:=cJ aj c;have K:=w.step G t4;refine cT R x om ?_;refine ar x.next K X.sV _ _ λk bz bC bk f V m i D g=>?_
     refine dv R w V 1 m ?_;have aI:=fB w (x:=V) (k:=1) dc m;refine cH R w _ [44] aI ?_;have aD:=cW w (s:=[44]) aI;refine dv R w _ 1 aD ?_;have aE:=fB w (k:=1) dc aD;refine cH R w _ [105,110] aE ?_;refine F.call _ (cW w aE) i.word.expect.word.expect _ _ (λB Y Q a A H u E L n h b d=>?_);refine cH R w L [102,114,111,109] n ?_;refine F.call _ (cW w n) h.expect _ _ (λd0 d1 d2 d3 d4 d5 d6 d7 S C l j o=>?_);refine cH R w S [61,62] C ?_;refine F.call _ (cW w C) l.expect _ _ (λbj bn bx bE bB bv br bq ay am ad r T=>?_);intro aA bD;refine cy ?_;refine a8 0 ⟨Z,Z,_,_,_,_,_,_,_,_,ay,am,ad.low,(λM=>Y' c M),λ_=>?_,Z⟩;rw[ac,t1,W' dc,t2,W' dc,t3,W' dc,X' t4,adF];have aY:S.stay ay:=RS.stay.expect.trans r;have av:L.stay ay:=(RS.stay.expect.trans j).trans aY;refine eF.bind (g c) ((((RS.stay.word.trans .expect).trans .word).trans (RS.stay.expect.trans b)).trans av) (λaQ az J aw=>?_);have t:=eF.name R az;rw[<-J]at t;refine eF.bind t (((RS.stay.expect.trans .word).trans (RS.stay.expect.trans b)).trans av) (λs q1 v bb=>?_);have aM:=kL R q1 [44];rw[<-v]at aM;refine eF.bind aM ((RS.stay.word.trans (RS.stay.expect.trans b)).trans av) (λbA q2 aa _=>?_);have aH:=eF.name R q2;rw[<-aa]at aH;refine eF.bind aH ((RS.stay.expect.trans b).trans av) (λbM q3 aT aS=>?_);refine eF.bind (eF.val aT i.word.expect.word b d) av (λax q4 aU p=>?_);refine eF.bind (eF.val aU h j o) aY (λbc bL bh ab=>?_);exact eF.map (eF.val bh l r T) λbp au=>by rw[<-bb,<-aS];exact .mk (.ps (.cons aw .nil) sm) .nil (.ps (.cons p (.cons ab (.cons au .nil))))
    |false=>
     refine cL R x [102,110] G ?_;cases aK:x.is R [102,110]with
     |true=>
      obtain⟨c,t5⟩:=c9 aK;have t1:=cJ N c;have t2:=cJ W c;have t3:=cJ aj c;have t4:=cJ aq c;have K:=w.step G t5;have aL:DY e q R x.p=funcF e q R (x.p+1):=by
       grind
      refine cT R x om ?_;refine cH R w x.next [40] K ?_
      have ai:=cW w (x:=x.next) (s:=[40]) K;have t:=kL R (x.p+1) [40];rw[<-ao c]at t;refine b7.fresh (TA w aR F bf aG _ ai X.sV.expect) Z (λaP V m i D al an g=>?_) (λaP ak V aC m i D an ap g=>?_)
      ·refine cH R w V [61,62] m ?_;refine F.call _ (cW w m) i.expect _ _ (λB Y Q a A H u E L n h b d=>?_);have aV:(V.expect R [61,62]).e≠0:=by rw[gB al];exact al
       have aO:L=V:=by rw[b aV,gB al]
       repeat first
        |refine bZ rfl ?_
        |intro U
        |refine Fl ?_
        |refine kf ?_
       refine r1 (els:=[[B,Y,Q,a,A,H,u,E]]) Z Z (λU=>?_);refine⟨_,_,_,_,_,_,_,_,L,n,h.low,(λM=>Y' c M),λ_=>?_,Z⟩;rw[aL,U0,aO];refine eF.bind t D (λbA az J _=>?_);rw[J]at g;have bw:=g rfl;exact eF.bind (P:=λ_=>False) bw (λ_=>Z) λaJ q1 _ bs=>bs.elim
      refine cH R w V [61,62] m ?_;refine F.call _ (cW w m) i.expect _ _ (λB Y Q a A H u E L n h b d=>?_);repeat first
       |refine bZ rfl ?_
       |intro U
       |refine Fl ?_
       |refine kf ?_
      refine r1 (els:=ak++[[B,Y,Q,a,A,H,u,E]]) (by exact afO ak _) sm (λU=>?_);refine⟨_,_,_,_,_,_,_,_,L,n,h.low,(λM=>Y' c M),λ_=>?_,Z⟩;rw[aL,U0];refine eF.bind t (D.trans (RS.stay.expect.trans b)) (λbA az J _=>?_);rw[J]at g;refine eF.bind (g Z) (RS.stay.expect.trans b) (λaJ q1 v I=>?_);refine eF.map (eF.val v i b d) (λax p=>?_);rw[QV,List.nil_append];exact .mk .nil I.1 (.ps (I.2.snoc p))
     |false=>
      refine aX.call x G X _ _ (λB Y Q a A H u E y aB ag ah af=>?_);refine a8 0 ⟨Z,Z,_,_,_,_,_,_,_,_,y,aB,ag,ah,λc=>?_,Z⟩;rw[ac,cJ N c,W' dc,cJ W c,W' dc,cJ aj c,W' dc,cJ aq c,W' dc,cJ aK c,W' dc];exact af c
def Hn{R:Rd}(w:R.Wf)(m:R.Kd):∀(f lo:Nat),j' R.ts-lo<=f->yZ (iM R f) R lo:=by
 intro f;induction f with
 |zero=>intro lo j;exact⟨λd p i l b=>om,λd l b=>om,λx h g o F c=>QK R w x h g c⟩
 |succ f C=>
  intro lo j;refine⟨λd p i _ b y=>Ut w _ d p i b y,λd l b o F r z=>?_,λx h g o F c=>QK R w x h g c⟩;refine b7.closed (P:=aba R (iM R (f+1) d)) (Tu R w m (iM R f) d b (C (d+1) om) _ Z) Z (λq j=>?_);unfold aba at j;split at j
  ·rename_i p i D;obtain⟨Y,s,rfl⟩:=j;exact r p Y i D s
  rename_i n v D;obtain⟨k,V,e,a,Q,f,i,t,rfl⟩:=j;exact z n v i V e a Q f D k t
section
variable{R:Rd} (w:R.Wf) {fn:Nat->PR Ex} {lo:Nat} (Ad:j' R.ts<=lo)
include Ad
theorem Fg{x:RS}(c:x.p<j' R.ts)(b:x.ge lo):x.e≠0:=λd=>by have:=(b d).1;omega
theorem XR:mz ky one fn R lo:=by
 refine mz.of (λx=>Z) (λx b d=>?_);have c:=Fg Ad b d;refine cB aeg (λ_=>Z) ?_;refine gh R x 3 b ?_;rw[iF c];refine gh R x 4 b ?_;rw[iF c];refine cL R x [116,114,117,101] b ?_;rw[ea c];refine cL R x [102,97,108,115,101] b ?_;rw[ea c];refine gh R x 1 b ?_;rw[iF c];refine cL R x [123] b ?_;rw[ea c];refine cL R x [60] b ?_;rw[ea c];refine cL R x [91] b ?_;rw[ea c];refine cL R x [40] b ?_;rw[ea c];refine p8 R x b ?_;rw[qW c];exact a8 0 ⟨Z,Z,_,_,_,_,_,_,_,_,x,b,d,λ_=>Z,λf=>Y' f c,Z⟩
theorem XS:mz fL one fn R lo:=by
 refine mz.of (λx=>Z) (λx b d=>?_);have c:=Fg Ad b d;refine cB aeh (λ_=>Z) ?_;refine(XR (fn:=fn) Ad).call x b d _ _ (λt v j n s p r o y m i f h=>?_);have g:=f c;subst g;refine ck.loop ?_;refine cL R y [46] b ?_;rw[ea c];refine cL R y [40] b ?_;rw[ea c];refine cy ?_;exact a8 0 ⟨Z,Z,_,_,_,_,_,_,_,_,y,b,d,λ_=>Z,λl=>Y' l c,Z⟩
theorem XT(c:mz dw (two 0) fn R lo):mz dR one fn R lo:=by
 refine mz.of (λx=>Z) (λx b d=>?_);have h0:=Fg Ad b d;refine cB aej (λ_=>Z) ?_;refine cL R x [108,101,116] b ?_;rw[ea h0];refine cL R x [105,102] b ?_;rw[ea h0];refine cL R x [109,97,116,99,104] b ?_;rw[ea h0];refine cL R x [102,111,108,100] b ?_;rw[ea h0];refine cL R x [102,110] b ?_;rw[ea h0];refine c.call x b d _ _ (λn o g i m k l j y hy EK Fj f=>?_);exact Cm
end
def mz.any{g:FuncId}{m:V->n_ V}{fn d:Nat->PR Ex}{R:Rd}{lo:Nat}(Ad:j' R.ts<=lo)(w:mz g m fn R lo):mz g m d R lo:=
 ⟨λx b c l n i=>w.call x b c l n (λD r s t C v z p y j f k o=>i _ _ _ _ _ _ _ _ y j f k (λh=>Y' h (Fg Ad b c)))⟩
def abr{R:Rd}(w:R.Wf)(i:R.Ng){lo:Nat}(g:iW e R lo)(b:oo dz q R (lo+1)):jP R lo (gK e q R):=by
 have k:oo lY (fG e q R) R lo:=oo.of (λh x c l d j=>GJ w (λh x c j=>g.lt h x c om) (λh x c j=>b.lt h x c om) h x c l d j) (λh l d=>GI w i ⟨λf m c j=>g.lt f m c om,λf j=>g.call f om⟩ (b.up om) d);exact(ZK w k b).lt
def afP{R:Rd}(w:R.Wf)(j:R.Ng)(h:R.Kd)(g:∀n,Ql (R.tok n)):∀(f lo:Nat),j' R.ts-lo<=f->mz dR one (By R f) R lo:=by
 intro f;induction f with
 |zero=>
  intro lo s;have Ad:j' R.ts<=lo:=om;have i:mz fL one (gK (iM R (j' R.ts)) (By R 0) R) R lo:=XS Ad;have d:=(UZ w g om i (λn x r y v=>om)).1;exact(XT Ad d).any Ad
 |succ f t=>
  intro lo s;have m:=t (lo+1) om;have p:=Hn w h (j' R.ts) lo om;have c:=Hn w h (j' R.ts) (lo+1) om;have k:=GG w (j' R.ts) lo om;have b:=ZP w j f (lo+1) om;have o:=ady w g (adq w p) c.g m b.lt;have l:jP R lo (fG (iM R (j' R.ts)) (By R f) R):=GJ w (λn x r s=>k.lt n x r om) (λn x r s=>b.lt n x r om);have i:=adz w o l m b.lt;have d:=(UZ w g om i (abr w j k b)).1;exact TC w h c.g c.lt m b.lt d
structure Out {α:Type} (fn:Nat->PR α) (R:Rd) (lo:Nat) (x y:RS) (P:α->Prop):Prop where
 lt:y.p<j' R.ts
 ge:y.ge lo
 st:x.stay y
 B1:x.e=0->eF (fn x.p) y P
def PR.and{α β:Type}(f:Nat->PR α)(g:Nat->PR β)(d:Nat):PR (α×β):=(f d).bind λc b=>(g b).map λh=>(c,h)
section
variable{α β:Type} {f:Nat->PR α} {g:Nat->PR β} {R:Rd} {lo:Nat} {x y z:RS} {P:α->Prop} {Q:β->Prop}
def Out.and(j:Out f R lo x y P)(b:Out g R lo y z Q):Out (PR.and f g) R lo x z (λk=>P k.1/\Q k.2):=
 ⟨b.lt,b.ge,j.st.trans b.st,λl=>(j.B1 l).bind b.st λo m c h=>by
  have d:=b.B1 (by rw[c];try rfl);rw[c]at d;exact d.map λn i=>⟨h,i⟩⟩
def Out.to(b:Out f R lo x y P)(h:α->β)(j:g x.p=(f x.p).map h)(c:∀i,P i->Q (h i)):Out g R lo x y Q:=
 ⟨b.lt,b.ge,b.st,λd=>by rw[j];exact(b.B1 d).map c⟩
def Out.imp{b:α->Prop}(c:Out f R lo x y P)(d:∀h,P h->b h):Out f R lo x y b:=⟨c.lt,c.ge,c.st,λg=>(c.B1 g).imp d⟩
def Out.aet(d:x.p<j' R.ts)(c:x.ge lo)(h:α)(i:x.e=0->f x.p=.ok h x.p)(g:P h):Out f R lo x x P:=
 ⟨d,c,λ_=>rfl,λb=>by rw[i b];exact⟨eH c b,g⟩⟩
def eF.left{c:PR α}(b:eF c y P):(y.e≠0/\c=.bad y.off y.e)∨(y=cq y.p/\∃d,c=.ok d y.p/\P d):=by
 cases c with
 |bad g h=>exact .inl ⟨by rw[b.2.2];exact b.1,by rw[b.2.1,b.2.2]⟩
 |ok d f=>exact .inr ⟨by rw[b.1];try rfl,d,by rw[b.1];try rfl,b.2⟩
end
def Out.kind{R:Rd}(w:R.Wf){lo k:Nat}(f:k≠0){x:RS}(d:x.p<j' R.ts)(b:x.ge lo):Out (fH k R) R lo x (x.word R k) (λi=>i=x.dq R k):=by
 refine⟨fB w f d,b.word,.word,λg=>?_⟩;obtain⟨c,rfl⟩:∃c,x=cq c:=⟨_,eH b g⟩;show eF (fH k R c) _ _;rw[fH];by_cases h:(R.tok c).kind=k
 ·exact KA
 rw[X' h,nb h];exact .bad dc
def Ho{R:Rd}(w:R.Wf){lo:Nat}(f:cC){x:RS}(c:x.p<j' R.ts)(b:x.ge lo):Out (cw R [f]) R lo x (x.expect R f) (λ_=>True):=
 ⟨cW w c,b.expect,.expect,λd=>by rw[eH b d];exact kL R x.p f⟩
def Out.next{R:Rd}(w:R.Wf){lo:Nat}{f:cC}{x:RS}(c:x.p<j' R.ts)(b:x.ge lo)(d:x.is R f=A'):x.next.p<j' R.ts/\x.next.ge lo/\x.next=cq (x.p+1):=
 ⟨w.step c (c9 d).2,b.next,by rw[eH b (c9 d).1];try rfl⟩
def abt{α:Type}(b:Nat->PR α)(R:Rd)(s:cC)(d:Nat):dC b R s d=(PR.and (cw R [s]) b d).map (·.2):=by
 unfold dC PR.and PR.bind;cases cw R [s] d with
 |bad g h=>rfl
 |ok f c=>show b c=((b c).map _).map _;cases b c<;>rfl
variable{K:cC}
def Out.after{α:Type}{f:Nat->PR α}{R:Rd}(w:R.Wf){lo:Nat}{x y:RS}{P:α->Prop}(b:x.p<j' R.ts)(d:x.ge lo)(c:Out f R lo (x.expect R K) y P):Out (dC f R K) R lo x y P:=
 ((Ho w K b d).and c).to (·.2) (abt f R K _) λ_ c=>c.2
def StG(g:FuncId)(fn:Nat->PR cC)(R:Rd)(lo:Nat):Prop:=∀x:RS,x.p<j' R.ts->x.ge lo->∀{b:VS} {d:dt->VS->Prop},(∀c y,Out fn R lo x y (λf=>f=c)->d (.ret (.dP [cv c,y.v R])) b)->b7 C cm g [x.v R] b d
def StG.of{g:FuncId}{fn:Nat->PR cC}{R:Rd}{lo:Nat}(h:∀x:RS,x.p<j' R.ts->x.ge lo->b7 C cm g [x.v R] [] λj b=>b=[]/\da j=A'/\∃c y,Out fn R lo x y (λl=>l=c)/\j=.ret (.dP [cv c,y.v R])):StG g fn R lo:=
 λx d i _ _ f=>b7.closed (h x d i) rfl λ_ ⟨c,y,h,k⟩=>k▸f c y h
def LH{R:Rd}(w:R.Wf)(lo:Nat):StG vR (gF R) R lo:=by
 refine .of λx b d=>?_;refine cD ?_;refine gh R x 2 b ?_;apply aZ<;>intro f
 ·refine dv R w x 2 b ?_;refine cy ?_;refine a8 0 ⟨Z,Z,_,_,(Out.kind w dc b d).to id ?_ (λ_ f=>f),Z⟩;rw[gF,X' (ke f).2];cases fH 2 R x.p<;>rfl
 refine dv R w x 1 b ?_;refine cy ?_;have g:=Out.kind (k:=1) w dc b d;refine a8 0 ⟨Z,Z,_,_,⟨g.lt,g.ge,g.st,λc=>?_⟩,Z⟩;rw[gF,W' (gL f c)];exact g.B1 c
def RS.stay.zero{x y:RS}(d:x.stay y)(c:y.e=0):x.e=0:=Decidable.of_not_not λb=>b (d b▸c)
def QW(b:Nat)(c:cC)(d:Nat):PR cC:=if fQ c then .ok c d else .bad b 4
def adG(R:Rd)(b:Nat):gj R b=(fH 1 R b).bind λs c=>(l9 R (j' R.ts) s c).bind (QW (R.tok b).off):=by
 unfold gj PR.bind;rw[show dp R b=fH 1 R b from rfl];cases fH 1 R b with
 |bad d f=>rfl
 |ok s c=>dsimp only;cases l9 R (j' R.ts) s c<;>rfl
def aih(b:Nat)(c:cC):Tm:=[(3,.bp 1 0),(4,cv c),(5,cl b),(6,.bp 2 0)]
def aii(R:Rd)(x y:RS):VS:=[.box (B0 R x),.box [.d .cu,cl 0,cl 0,cl 0],.box (B0 R y)]
def U1{R:Rd}(w:R.Wf)(V:R.Nm)(G:j' R.ts<=65537)(lo:Nat):StG yI (gj R) R lo:=by
 have a:=w.len;have P:∀y:RS,y.p<j' R.ts->j' (y.dq R 1)<=32/\y.p<=(y.word R 1).p:=λy i=>by
  rw[RS.dq,RS.word];split
  ·rename_i s;have:=(V _ i).1 (ke s).2;simp only[c8,Bool.and_eq_true,j_]at this;exact⟨this.1.1.1.2,Nat.le_succ _⟩
  exact⟨ait _,Nat.le_of_eq (nF _ _ _).symm⟩
 refine .of λx v q=>?_;refine cD ?_;refine dv R w x 1 v ?_;have Y:=Out.kind (k:=1) w dc v q;obtain⟨H,_⟩:=P x v;have Q:=adG R x.p;refine ck.iter (λb:cC×RS=>aih (R.tok x.p).off b.1) (λb=>aii R x b.2) (λb=>if b.2.e=0 then (j' R.ts)-b.2.p+1 else 0)
  (λb=>b.2.p<j' R.ts/\b.2.ge lo/\x.stay b.2/\j' b.1<=33*(b.2.p+1)/\(x.e=0->(b.2.e≠0/\gj R x.p=.bad b.2.off b.2.e)∨(b.2.e=0/\∃f,j' R.ts-b.2.p<=f/\gj R x.p=(l9 R f b.1 b.2.p).bind (QW (R.tok x.p).off)))) ?_ (x.dq R 1,x.word R 1) ⟨Y.lt,Y.ge,Y.st,by show(x.dq R 1).length<=_;omega,λc=>?_⟩
 ·rintro⟨n,y⟩ ⟨i,g,h,p,z⟩;have i:y.p<j' R.ts:=i;have g:y.ge lo:=g;have h:x.stay y:=h;have p:j' n<=33*(y.p+1):=p;refine cL R y [47] i ?_;apply aZ<;>intro s
  ·obtain⟨F,E,J⟩:=Out.next w i g s
   have l:=(c9 s).1;have c:=h.zero l;refine cT R y om ?_;refine dv R w y.next 1 F ?_
   have D:=Out.kind (k:=1) w dc F E;obtain⟨I,d⟩:=P y.next F
   have A:j' n+j' [(47:UInt8)]<=1099511627776:=by show (j' n)+1<=_;omega
   have B:j' (n++[47])+j' (y.next.dq R 1)<=1099511627776:=by rw[aiA];show (j' n)+1+_<=_;omega
   refine a6 A (a6 B ?_);refine db ?_;refine⟨((n++[47])++y.next.dq R 1,y.next.word R 1),⟨D.lt,D.ge,λu=>Y' c u,?_,λ_=>?_⟩,?_,.eD 3,Z,Z⟩
   ·have d:y.p+1<=(y.next.word R 1).p:=d;simp only[aiA,aiB,aiD];omega
   ·rcases z c with⟨b,_⟩|⟨_,f,j,o⟩
    ·exact Y' l b
    have j:j' R.ts-y.p<=f:=j;obtain⟨f,rfl⟩:∃C,f=C+1:=⟨f-1,om⟩;have o:gj R x.p=(l9 R (f+1) n y.p).bind _:=o;rw[l9,X' (c9 s).2]at o;have e:=(D.B1 l).left;rcases e with⟨b,t⟩|⟨b,K,t,rfl⟩
    ·have t:dp R (y.p+1)=_:=t;rw[t]at o;exact .inl ⟨b,o⟩
    have t:dp R (y.p+1)=_:=t;rw[t]at o;have d:y.p+1<=(y.next.word R 1).p:=d;exact .inr ⟨by rw[b];try rfl,f,by show (j' R.ts)-(y.next.word R 1).p<=f;omega,by rw[o,List.append_assoc];try rfl⟩
   show(if(y.next.word R 1).e=0 then (j' R.ts)-(y.next.word R 1).p+1 else 0)<(if y.e=0 then (j' R.ts)-y.p+1 else 0);have d:y.p+1<=(y.next.word R 1).p:=d;rw[X' l];split<;>omega
  refine z7 n ?_;have r:x.e=0->(y.e≠0/\gj R x.p=.bad y.off y.e)∨(y.e=0/\gj R x.p=QW (R.tok x.p).off n y.p):=λc=>(z c).imp id λ⟨b,f,j,o⟩=>⟨b,by
   obtain⟨f,rfl⟩:∃C,f=C+1:=⟨f-1,om⟩;rw[o,l9,cJ s b];try rfl⟩
  clear z;apply aZ<;>intro m
  ·have m:fQ n=B':=by rwa[Bool.not_eq_true']at m
   refine kD R y _ 4 ?_;refine cy ?_;refine a8 0 ⟨Z,Z,n,y.fail (R.tok x.p).off 4,⟨by rw[nF];exact i,.fail _ _ dc g,h.trans λs=>nD s _ _,λc=>?_⟩,Z⟩;rcases r c with⟨b,j⟩|⟨b,j⟩
   ·rw[j,nD b];exact .bad b
   rw[j,QW,m,W' dc,RS.fail,X' b];exact .bad dc
  have m:fQ n=A':=by rwa[aiL]at m
  refine cy ?_;refine a8 0 ⟨Z,Z,n,y,⟨i,g,h,λc=>?_⟩,Z⟩;rcases r c with⟨b,j⟩|⟨b,j⟩
  ·rw[j];exact .bad b
  rw[j,QW,m,X' rfl];exact⟨eH g b,rfl⟩
 rcases(Y.B1 c).left with⟨b,j⟩|⟨b,K,j,rfl⟩
 ·exact .inl ⟨b,by rw[Q,j];try rfl⟩
 exact .inr ⟨by rw[b];try rfl,_,aiI _ _,by rw[Q,j];try rfl⟩
def U2(g:FuncId)(fn:Nat->PR (n_ ny))(R:Rd)(lo:Nat):Prop:=∀x:RS,x.p<j' R.ts->x.ge lo->∀{b:VS} {d:dt->VS->Prop},(∀c y,Out fn R lo x y (λf=>nB f c)->d (.ret (.dP [.d c,y.v R])) b)->b7 C cm g [x.v R] b d
def U2.of{g:FuncId}{fn:Nat->PR (n_ ny)}{R:Rd}{lo:Nat}(f:∀x:RS,x.p<j' R.ts->x.ge lo->b7 C cm g [x.v R] [] λj b=>b=[]/\da j=A'/\∃i y,Out fn R lo x y (λm=>nB m i)/\j=.ret (.dP [.d i,y.v R])):U2 g fn R lo:=
 λx c h _ _ d=>b7.closed (f x c h) rfl λ_ ⟨l,y,f,k⟩=>k▸d l y f
def ppS(R:Rd)(x:RS)(b:n_ cP):VS:=[.box (B0 R x),.box [.d .cu,cl 0,cl 0,cl 0],.row 7 (b.map λc=>c.map V.d)]
def ppT(b:Nat):Tm:=[(1,.bp 0 0),(2,.d .cu),(3,.bp 1 0),(4,.ms 2 7 0 b b)]
def abu(b:E<=4294967296):(E+1)*112<=en/\E+1<=en:=by
 unfold en;omega
def abv(d:Nat)(b:n_ cP)(c:cP):q' (V.ms d 7 0 (j' b+1) (j' b+1))=q' (V.ms d 7 0 (j' (b++[c])) (j' (b++[c]))):=by simp
variable{I:Nat->Nat}
def U3(b:n_ cP)(c:cP):q' (cX.row 7 (aiR (j' b) (aiS 0 (b.map λc=>c.map V.d))++[c.map V.d]))=q' (eb I (.row 7 ((b++[c]).map λc=>c.map V.d))):=by
 rw[k9,aiQ,aiC sm,aiK];try rfl
variable{L X:cP}
def NP{i:Nat}{els:n_ cP}{R:Rd}{x:RS}(d:nth A i=q' (.row 7 (aiR (j' els) (aiS 0 (els.map λL=>L.map V.d))++[L.map V.d]))){P:dt->Prop}(c:∀g,P (.ret (.dP [.d (.ps g 0 7 (j' els+1) (els++[L])),x.v R]))):
  cV 0 (.ret (.dP [.ms i 7 0 (j' els+1) (j' els+1),x.v R])) A λf b=>b=[]/\da f=A'/\P f:=
 yC (els:=els++[L]) (by rw[d,aiQ,aiC sm,aiK];try rfl) sm c
def XU(R:Rd)(b:Nat):(((cq b).is R [45]=A'/\oq (R.tok b)=q' 1)∨((cq b).is R [45]=B'/\(cq b).is R [61]=A'/\oq (R.tok b)=q' 2)∨((cq b).is R [45]=B'/\(cq b).is R [61]=B'/\(!(cq b).is R [43])=B'/\oq (R.tok b)=q' 0))∨((cq b).is R [45]=B'/\(cq b).is R [61]=B'/\(!(cq b).is R [43])=A'/\oq (R.tok b)=none):=by
 have f:∀s c:cC,s≠c->cG (R.tok b) s=A'->cG (R.tok b) c=B':=λs c h i=>by
  cases d:cG (R.tok b) c with
  |false=>rfl
  |true=>exact Y' ((jG i).symm.trans (jG d)) h
 simp only[ga,oq];cases g:cG (R.tok b) [45]with
 |true=>simp[f [45] [43] dc g]
 |false=>cases d:cG (R.tok b) [61]with
  |true=>simp[f [61] [43] dc d]
  |false=>cases cG (R.tok b) [43]<;>simp
def XV{R:Rd}(w:R.Wf)(b:E<j' R.ts)(c:oq (R.tok E)=q' T):E+1<j' R.ts:=by
 unfold oq at c;split at c
 ·exact w.step b (by assumption)
 split at c
 ·exact w.step b (by assumption)
 split at c
 ·exact w.step b (by assumption)
 cases c
def aij:Nat->Bool:=λb=>aiE b 39
def ahc{R:Rd}(w:R.Wf)(lo:Nat):U2 r5 (gi (fM R) R []) R lo:=by
 have Y:=w.len;refine .of λx hp hx=>?_;refine cB aij (λ_=>Z) ?_;refine cL R x [91] hp ?_;apply aZ<;>intro h
 ·exact JE
 have h:x.is R [91]=A':=by rwa[aiL]at h
 have h0:=(c9 h).1;obtain⟨p,rfl⟩:∃p,x=cq p:=⟨_,eH hx h0⟩;have a:=w.step hp (c9 h).2;have D:=(hx h0).1;refine ck.iter (λd:Nat×n_ ny×n_ cP=>ppT (j' d.2.2)) (λd=>ppS R (cq d.1) d.2.2) (λd=>j' R.ts-d.1)
  (λd=>p<=d.1/\d.1+1<j' R.ts/\j' d.2.2<=d.1/\rS d.2.1 d.2.2/\∃f,j' R.ts-(d.1+1)<=f/\gi (fM R) R [] p=nA (fM R) R f d.2.1 (d.1+1)) ?_ (p,[],[]) ⟨aiw _,a,ait _,.nil,_,aiI _ _,by rw[gi,X' (show cG (R.tok p) [91]=A' from(c9 h).2)]⟩
 rintro⟨i,q,b⟩ ⟨t,l,v,C,f,Q,c⟩;have t:p<=i:=t;have l:i+1<j' R.ts:=l;have v:j' b<=i:=v;have C:rS q b:=C;have Q:j' R.ts-(i+1)<=f:=Q;have c:gi (fM R) R [] p=nA (fM R) R f q (i+1):=c;obtain⟨f,rfl⟩:∃k,f=k+1:=⟨f-1,om⟩;rw[nA,fM]at c;refine cT R (cq i) (by show i<4294967296;omega) ?_;rcases XU R (i+1)with(⟨d,g⟩|⟨d,V,g⟩|⟨d,V,G,g⟩)|⟨d,V,G,g⟩
 rotate_right
 ·repeat first|refine cL R (cq (i+1)) _ l ?_|refine Ae ?_
  rw[g]at c;refine p8 R _ l ?_;refine cy ?_;refine a8 0 ⟨Z,Z,.cu,(cq (i+1)).oM R,⟨by rw[RS.oM,nF];exact l,.err (show(3:Nat)≠0 by decide),λh=>Y' Z h,λ_=>?_⟩,Z⟩;show eF (gi (fM R) R [] p) _ _;rw[c];exact .bad dc
 all_goals
  repeat first|refine cL R (cq (i+1)) _ l ?_|refine Ae ?_
  have m:=XV w l g;rw[g]at c;refine cT R (cq (i+1)) (by show i+1<4294967296;omega) ?_;refine dv R w (cq (i+2)) 2 m ?_;have r:=Out.kind (k:=2) w (lo:=0) dc m (.xC (ait _));intro V;refine a6 Z (a6 ⟨Z,Z,by simp,aiw _,abu (show (j' b)<=4294967296 by omega)⟩ ?_);refine a7 Z (a7 (ej (j' b)) ?_);generalize B:(cq (i+2)).word R 2=y at*;generalize u:(cq (i+2)).dq R 2=s at*;have P:=λA=>C.snoc (p:=⟨s,A,cY⟩) ⟨_,uq,rfl⟩;dsimp only at c;refine cL R y [44] r.lt ?_;rcases(r.B1 rfl).left with⟨n,j⟩|⟨o,H,j,rfl⟩
  ·have j:fH 2 R (i+1+1)=_:=j;rw[j]at c;rw[ea n];repeat refine kf ?_
   refine cH R w y [93] r.lt ?_;rw[gB n];refine NP (i:=5) (els:=b) Z (λV=>?_);refine⟨_,y,⟨r.lt,.err n,λh=>Y' Z h,λ_=>?_⟩,Z⟩;show eF (gi (fM R) R [] p) _ _;rw[c];exact .bad n
  have j:fH 2 R (i+1+1)=_:=j;rw[j]at c;dsimp only[PR.map]at c;rw[show y.is R [44]=cG (R.tok y.p) [44]by rw[o];try rfl];have e:i+2<y.p:=by
   have:=(kK w dc m j).1;omega
  cases z:cG (R.tok y.p) [44]with
  |true=>
   rw[z,X' rfl]at c;repeat refine kf ?_
   exact⟨(y.p,_,b++[_]),⟨by show p<=y.p;omega,w.step r.lt z,by show(b++[_]).length<=y.p;simp;omega,P _,f,by show (j' R.ts)-(y.p+1)<=f;omega,c⟩,by show (j' R.ts)-y.p<j' R.ts-i;omega,.pick 2 [0,1,5] ⟨Z,Z,Z,abv 5 b _,tv⟩ Z Z Z Z Z dc ⟨by rw[o];try rfl,Z,Z,Z,U3 b _,fU _ _ _,tv⟩,Z,Z⟩
  |false=>
   rw[z,W' dc]at c;repeat refine kf ?_
   refine cH R w y [93] r.lt ?_;have F:=Ho w [93] r.lt r.ge;refine NP (i:=5) (els:=b) Z (λV=>?_);refine⟨_,_,⟨F.lt,?_,λh=>Y' Z h,λ_=>?_⟩,Z⟩
   ·exact RS.ge.expect (o▸ .xC (by have:lo<=p:=D;omega))
   show eF (gi (fM R) R [] p) _ _;rw[c];exact(F.B1 (by rw[o];try rfl)).map λ_ _=>.ps (P _)
def xD{R:Rd}{lo:Nat}{t0:Ty}{x y:RS}{P:Ty->Prop}(h:x.is R K=A')(d:Out e R lo x.next y P):Out (ka e R K t0) R lo x y (λg=>g.1=A'/\P g.2):=
 ⟨d.lt,d.ge,λf=>Y' (c9 h).1 f,λc=>by rw[ka,X' (c9 h).2];exact(d.B1 c).map λ_ b=>⟨rfl,b⟩⟩
def Ac{R:Rd}{lo:Nat}{t0:Ty}{x:RS}(b:x.p<j' R.ts)(d:x.ge lo)(g:x.is R K=B'):Out (ka e R K t0) R lo x x (λf=>f.1=B'/\f.2=t0):=
 .aet b d (B',t0) (λc=>by rw[ka,W' (by rw[cJ g c];decide)]) ⟨rfl,rfl⟩
def abw(c:Nat->PR Ty)(R:Rd)(b:n_ ny)(d:Nat):eX c R b d=(PR.and (fH 2 R) (ka c R [60,58] cY) d).map λf=>b++[⟨f.1,0,f.2.2⟩]:=by
 unfold eX PR.and PR.bind;cases fH 2 R d with
 |bad h i=>rfl
 |ok s g=>
  dsimp only;rw[ka];split
  ·cases c (g+1)<;>rfl
  rfl
variable{u:n_ ny}
def XW{R:Rd}(w:R.Wf){lo b d:Nat}{i:n_ ny}(f:∀b x d,lo<=b->b<j' R.ts->e b=.ok x d->b<d)(m:lo<=b)(g:b<j' R.ts)(c:eX e R u b=.ok i d):b<d:=by
 rw[eX]at c;split at c
 ·cases c
 rename_i s q1 h;obtain⟨l,k⟩:=kK w dc g h;split at c
 ·rename_i j;obtain⟨o,n,_⟩:=dY c;have:=f _ _ _ om (w.step k j) n;omega
 cases c;exact l
structure T5 where
 k:D
 m:D
 n:D
 a:D
 f:D
def T5.l(b:T5):cP:=[b.k,b.m,b.n,b.a,b.f]
def T5.v(b:T5):n_ V:=[.d b.k,.d b.m,.d b.n,.d b.a,.d b.f]
def uw:T5:=⟨.int .i64 0,.str [],.str [],.cu,.cu⟩
def vt:fF cY uw.l:=uq
def aik:Nat->Bool:=λb=>aiE b 38||aiE b 1000008
def vpT(b:Nat):Tm:=[(1,.bp 0 0),(3,.bp 1 0),(4,.ms 2 7 0 b b)]
def afQ(b:Nat):Tm:=[(1,.bp 0 0),(3,.bp 1 0),(4,.ms 2 7 0 b b),(7,.bp 3 0),(8,.bp 4 0)]
def vpS(R:Rd)(x:RS)(b:n_ cP)(d:cC)(c:T5×RS):VS:=ppS R x b++[.box (B0 R c.2),.box (cv d::cl 0::c.1.v)]
def ahd{R:Rd}(w:R.Wf){lo:Nat}(H:XI dh e R lo)(u:∀p x j,lo<=p->p<j' R.ts->e p=.ok x j->p<j):U2 rD (gi (eX e R) R []) R lo:=by
 have N:=w.len;refine .of λx hp hx=>?_;refine cB aik (λ_=>Z) ?_;refine cL R x [91] hp ?_;apply aZ<;>intro h
 ·exact JE
 have h:x.is R [91]=A':=by rwa[aiL]at h
 have h0:=(c9 h).1;obtain⟨p,rfl⟩:∃p,x=cq p:=⟨_,eH hx h0⟩;have O:=w.step hp (c9 h).2;have X:lo<=p:=(hx h0).1;refine ck.iter (λd:Nat×n_ ny×n_ cP=>vpT (j' d.2.2)) (λd=>ppS R (cq d.1) d.2.2) (λd=>j' R.ts-d.1)
  (λd=>p<=d.1/\d.1+1<j' R.ts/\j' d.2.2<=d.1/\rS d.2.1 d.2.2/\∃f,j' R.ts-(d.1+1)<=f/\gi (eX e R) R [] p=nA (eX e R) R f d.2.1 (d.1+1)) ?_ (p,[],[]) ⟨aiw _,O,ait _,.nil,_,aiI _ _,by rw[gi,X' (show cG (R.tok p) [91]=A' from(c9 h).2)]⟩
 rintro⟨j,a,b⟩ ⟨z,r,C,P,f,E,c⟩;have z:p<=j:=z;have r:j+1<j' R.ts:=r;have C:j' b<=j:=C;have P:rS a b:=P;have E:j' R.ts-(j+1)<=f:=E;have c:gi (eX e R) R [] p=nA (eX e R) R f a (j+1):=c;obtain⟨f,rfl⟩:∃k,f=k+1:=⟨f-1,om⟩;rw[nA]at c;refine cT R (cq j) (by show j<4294967296;omega) ?_;refine dv R w (cq (j+1)) 2 r ?_;have F:=Out.kind (k:=2) (lo:=lo) w dc r (.xC om);generalize (cq (j+1)).word R 2=o at*;generalize (cq (j+1)).dq R 2=s at*;refine cL R o [60,58] F.lt ?_;apply de (ι:=T5×RS) (T:=λ_=>afQ (j' b)) (S:=vpS R (cq j) b s) (I:=λab=>Out (ka e R [60,58] cY) R lo o ab.2 (λK=>fF K.2 ab.1.l))
 ·intro A;cases V:o.is R [60,58]with
  |true=>
   obtain⟨T,W,_⟩:=Out.next w F.lt F.ge V
   refine cT R o (by have:=F.lt;omega) ?_;refine H _ T W _ _ (λk J I d v y l n S M=>?_);refine cy ?_;exact ck.arr (fx:=afQ (j' b)) (gA:=vpS R (cq j) b s (⟨k,J,I,d,v⟩,y)) .eS (A _ ((xD V ⟨l,n,S,M⟩).imp λ_ h=>h.2))
  |false=>
   exact ck.arr (fx:=afQ (j' b)) (gA:=vpS R (cq j) b s (uw,o)) .eS (A _ ((Ac F.lt F.ge V).imp λ_ h=>by rw[h.2];exact vt))
 rintro⟨⟨k,J,I,d,v⟩,y⟩ i;have i:Out (ka e R [60,58] cY) R lo o y (λK=>fF K.2 [k,J,I,d,v]):=i;have t:=(F.and i).to (g:=eX e R a) (Q:=λU=>∃q,U=a++[⟨s,0,q⟩]/\fF q [k,J,I,d,v]) _ (abw e R a _) λq ⟨l,n⟩=>⟨q.2.2,by rw[l],n⟩;rcases(t.B1 rfl).left with⟨G,m⟩|⟨Y,_,m,q,rfl,L⟩
 ·refine aZ (λl=>?_) (λl=>Y' (jq l) G);have m:eX e R a (j+1)=_:=m;rw[m]at c;refine db ?_;refine a8 0 ⟨Z,Z,.cu,y,⟨i.lt,i.ge,λh=>Y' Z h,λ_=>?_⟩,Z⟩;show eF (gi (eX e R) R [] p) _ _;rw[c];exact .bad G
 have m:eX e R a (j+1)=_:=m;rw[m]at c;dsimp only at c;have D:y.e=0:=by rw[Y];try rfl
 refine aZ (λl=>Y' D (λae=>by rw[ae]at l;cases l)) (λ_=>?_);intro ad;refine a6 Z (a6 ⟨Z,Z,by simp,aiw _,abu (show (j' b)<=4294967296 by omega)⟩ ?_);refine a7 Z (a7 (ej (j' b)) ?_);have B:=P.snoc (p:=⟨s,0,q⟩) ⟨_,L,rfl⟩;have aa:j+1<y.p:=XW w u om r m;refine cL R y [44] i.lt ?_;rw[show y.is R [44]=cG (R.tok y.p) [44]by rw[Y];try rfl];cases n:cG (R.tok y.p) [44]with
 |true=>
  rw[n,X' rfl]at c;repeat refine kf ?_
  exact⟨(y.p,_,b++[_]),⟨by show p<=y.p;omega,w.step i.lt n,by show(b++[_]).length<=y.p;simp;omega,B,f,by show (j' R.ts)-(y.p+1)<=f;omega,c⟩,by show (j' R.ts)-y.p<j' R.ts-j;omega,.pick 2 [0,1,5] ⟨Z,Z,abv 5 b _,tv⟩ Z Z Z Z Z dc ⟨by rw[Y];try rfl,Z,Z,Z,U3 b _,fU _ _ _,tv⟩,Z,Z⟩
 |false=>
  rw[n,W' dc]at c;repeat refine kf ?_
  refine cH R w y [93] i.lt ?_;have t:=Ho w [93] i.lt i.ge;refine NP (i:=5) (els:=b) Z (λad=>?_);refine⟨_,_,⟨t.lt,t.ge,λh=>Y' Z h,λ_=>?_⟩,Z⟩;show eF (gi (eX e R) R [] p) _ _;rw[c];exact(t.B1 D).map λ_ _=>.ps B
structure X8 where
 k:D
 m:D
 n:D
 x:D
 u:D
 t:D
 b:D
 d:D
def X8.l(b:X8):cP:=[b.k,b.m,b.n,b.x,b.u,b.t,b.b,b.d]
def QX:X8:=⟨.int .i64 0,.str [],.str [],.str [],.int .i64 0,.cu,.cu,.cu⟩
def NQ:iz mw QX.l:=.mk .nil .nil .nil
def XX(k:Nat)(j:cC)(m i:Bool)(b:cC)(d:D)(lo h g:T5)(c:X8)(l f:cC):cP:=qT k j m i b d lo.l h.l g.l c.l l f
def zD(d c:Bool)(b:cC):n_ V:=(XX 0 [] d c b .cu uw uw uw QX [] []).map V.d
def nz:T5:=⟨.int .i64 1,.str [],.str [],.cu,.cu⟩
def QY(b:Nat->PR Ty)(R:Rd)(f i:Bool)(c:cC)(h:Nat):jk b R f i c h=(PR.and (fH 2 R) (PR.and (gi (fM R) R []) (PR.and (ka b R [62,58] uk) (PR.and (ka b R [60,58] cY) (dC b R [61])))) h).map λt=>⟨0,t.1,f,i,c,t.2.1,if t.2.2.1.1||t.2.2.2.1.1 then t.2.2.1.2 else t.2.2.2.2,if t.2.2.1.1||t.2.2.2.1.1 then t.2.2.2.1.2 else t.2.2.2.2,t.2.2.2.2,mw,[],[]⟩:=by
 unfold jk PR.and PR.bind;cases fH 2 R h with
 |bad g f=>rfl
 |ok s d=>
  dsimp only;cases gi (fM R) R [] d with
  |bad g f=>rfl
  |ok j d=>
   dsimp only;cases ka b R [62,58] uk d with
   |bad g f=>rfl
   |ok lo d=>
    dsimp only;cases ka b R [60,58] cY d with
    |bad g f=>rfl
    |ok k d=>dsimp only;cases dC b R [61] d<;>rfl
def ahe:Nat->Bool:=λb=>aiE b 1000008||aiE b 1000011
def XY(c b:Bool):Tm:=[(2,.bp 0 0),(3,.bp 1 0),(4,.bp 2 0),(5,.bp 3 0),(6,cj c),(7,cj b)]
def tdS(R:Rd)(g:cC)(i f:Bool)(b:cC)(c:D)(lw d h:T5)(y:RS):VS:=[.box ((XX 0 g i f b c lw d h QX [] []).map V.d),.box (B0 R y),.box (zD B' B' []),.box [.d .cu,cl 0,cl 0,cl 0]]
def XZ{R:Rd}(w:R.Wf){lo:Nat}(a:XI dh e R lo)(v t:Bool)(b:cC)(x:RS)(H:x.p<j' R.ts)(W:x.ge lo):b7 C cm nq [.agg (zD v t b),x.v R] [] λp I=>I=[]/\da p=A'/\∃Q c lw q aa y,Out (jk e R v t b) R lo x y (λx=>ot x (XX 0 Q v t b c lw q aa QX [] []))/\p=.ret (.dP [.agg ((XX 0 Q v t b c lw q aa QX [] []).map V.d),y.v R]):=by
 have T:=w.len;refine cB ahe (λ_=>Z) ?_;refine dv R w x 2 H ?_;have B:=Out.kind (k:=2) w dc H W;generalize x.word R 2=O at*;generalize x.dq R 2=Q at*;refine ahc w lo O B.lt B.ge (λc r n=>?_);refine cL R r [62,58] n.lt ?_;apply de (ι:=T5×RS×Bool) (T:=λl=>XY l.2.2 B') (S:=λl=>tdS R Q v t b c l.1 uw uw l.2.1) (I:=λl=>Out (ka e R [62,58] uk) R lo r l.2.1 (λp=>p.1=l.2.2/\fF p.2 l.1.l))
 ·intro z;cases o:r.is R [62,58]with
  |true=>
   obtain⟨E,G,_⟩:=Out.next w n.lt n.ge o
   refine cT R r (by have:=n.lt;omega) ?_;refine a _ E G _ _ (λk A g u i y F d Y h=>?_);refine cy ?_;exact ck.arr (fx:=XY A' B') (gA:=tdS R Q v t b c ⟨k,A,g,u,i⟩ uw uw y) .eS (z (_,_,A') (xD o ⟨F,d,Y,h⟩))
  |false=>
   exact ck.arr (fx:=XY B' B') (gA:=tdS R Q v t b c nz uw uw r) .eS (z (_,_,B') ((Ac n.lt n.ge o).imp λ_ M=>⟨M.1,by rw[M.2];exact .mk .nil .nil⟩))
 rintro⟨lw,m,D⟩ f;have f:Out (ka e R [62,58] uk) R lo r m (λp=>p.1=D/\fF p.2 lw.l):=f;refine cL R m [60,58] f.lt ?_;apply de (ι:=T5×RS×Bool) (T:=λl=>XY D l.2.2) (S:=λl=>tdS R Q v t b c lw l.1 uw l.2.1) (I:=λl=>Out (ka e R [60,58] cY) R lo m l.2.1 (λp=>p.1=l.2.2/\fF p.2 l.1.l))
 ·intro z;cases o:m.is R [60,58]with
  |true=>
   obtain⟨E,G,_⟩:=Out.next w f.lt f.ge o
   refine cT R m (by have:=f.lt;omega) ?_;refine a _ E G _ _ (λk A g u i y F d Y h=>?_);refine cy ?_;exact ck.arr (fx:=XY D A') (gA:=tdS R Q v t b c lw ⟨k,A,g,u,i⟩ uw y) .eS (z (_,_,A') (xD o ⟨F,d,Y,h⟩))
  |false=>
   exact ck.arr (fx:=XY D B') (gA:=tdS R Q v t b c lw uw uw m) .eS (z (_,_,B') ((Ac f.lt f.ge o).imp λ_ M=>⟨M.1,by rw[M.2];exact vt⟩))
 rintro⟨q,J,K⟩ j;have j:Out (ka e R [60,58] cY) R lo m J (λp=>p.1=K/\fF p.2 q.l):=j;refine cH R w J [61] j.lt ?_;have N:=cW w (s:=[61]) j.lt;refine a _ N j.ge.expect _ _ (λk A g u i y F d Y h=>?_);have S:=Out.after w j.lt j.ge ⟨F,d,Y,h⟩;have X:=B.and (n.and (f.and (j.and S)));refine cy ?_;cases D<;>cases K
 ·repeat refine kf ?_
  refine cy ?_;refine a8 0 ⟨Z,Z,Q,c,⟨k,A,g,u,i⟩,⟨k,A,g,u,i⟩,⟨k,A,g,u,i⟩,y,X.to _ (QY e R v t b _) ?_,Z⟩;rintro⟨_,_,⟨_,_⟩,⟨_,_⟩,_⟩ ⟨rfl,d,⟨rfl,h⟩,⟨rfl,L⟩,P⟩;exact⟨_,_,_,_,_,d,P,P,P,NQ,Z⟩
 all_goals
  repeat refine kf ?_
  refine cy ?_;refine a8 0 ⟨Z,Z,Q,c,lw,q,⟨k,A,g,u,i⟩,y,X.to _ (QY e R v t b _) ?_,Z⟩;rintro⟨_,_,⟨_,_⟩,⟨_,_⟩,_⟩ ⟨rfl,d,⟨rfl,h⟩,⟨rfl,L⟩,P⟩;exact⟨_,_,_,_,_,d,h,L,P,NQ,Z⟩
def abx{R:Rd}(w:R.Wf){lo:Nat}(g:XI dh e R lo)(h f:Bool)(b:cC)(x:RS)(k:x.p<j' R.ts)(m:x.ge lo)(l:∀i c lw d j y,Out (jk e R h f b) R lo x y (λx=>ot x (XX 0 i h f b c lw d j QX [] []))->a (.ret (.dP [.agg ((XX 0 i h f b c lw d j QX [] []).map V.d),y.v R])) A):b7 C cm nq [.agg (zD h f b),x.v R] A a:=
 b7.closed (XZ w g h f b x k m) rfl λ_ ⟨i,c,lw,d,j,y,o,n⟩=>n▸l i c lw d j y o
def aby(c:Nat->PR Ty)(d:Nat->PR Ex)(R:Rd)(i j:Bool)(b:cC)(h:Nat):lF c d R i j b h=(PR.and (fH 1 R) (PR.and (gi (eX c R) R []) (PR.and (dC c R [58]) (dC d R [61]))) h).map λg=>⟨1,g.1,i,j,b,g.2.1,cY,cY,g.2.2.1,g.2.2.2,[],[]⟩:=by
 unfold lF PR.and PR.bind;rw[show dp R h=fH 1 R h from rfl];cases fH 1 R h with
 |bad k i=>rfl
 |ok s f=>
  dsimp only;cases gi (eX c R) R [] f with
  |bad k i=>rfl
  |ok l f=>
   dsimp only;cases dC c R [58] f with
   |bad k i=>rfl
   |ok g f=>dsimp only;cases dC d R [61] f<;>rfl
def afR(R:Rd)(f d:Bool)(b:cC)(c:Nat):PR jj:=if cG (R.tok c) [117,115,101]then kA R f d b (c+1)else .bad (R.tok c).off 3
def abz(R:Rd)(f h:Bool)(b:cC)(c:Nat):afR R f h b c=(PR.and (dC (fH 1 R) R [117,115,101]) (PR.and (dC (gF R) R [58,58]) (dC (gF R) R [97,115])) c).map λd=>⟨2,d.2.2,f,h,b,[],cY,cY,cY,mw,d.1,d.2.1⟩:=by
 unfold afR PR.and PR.bind;cases i:cG (R.tok c) [117,115,101]with
 |false=>rw[dC,cw,i];try rfl
 |true=>
  rw[dC,cw,i,X' rfl,X' rfl,cw,kA];dsimp only;rw[show dp R (c+1)=fH 1 R (c+1)from rfl];cases fH 1 R (c+1)with
  |bad j f=>rfl
  |ok s g=>
   dsimp only;cases dC (gF R) R [58,58] g with
   |bad j f=>rfl
   |ok d g=>dsimp only;cases dC (gF R) R [97,115] g<;>rfl
def DcG(fn:Nat->PR jj)(R:Rd)(lo:Nat)(x:RS)(n:dt):Prop:=∃k i m h b d lw g j c l f y,Out fn R lo x y (λo=>ot o (XX k i m h b d lw g j c l f))/\n=.ret (.dP [.agg ((XX k i m h b d lw g j c l f).map V.d),y.v R])
def ahf:Nat->Bool:=λb=>aiE b 1000008
def rdT:Tm:=[(1,.bp 0 0),(2,.bp 1 0),(3,.bp 2 0),(4,.bp 3 0)]
def rdS(R:Rd)(b:(Bool×Bool×cC)×RS):VS:=[.box (B0 R b.2),.box (zD B' B' []),.box [.d .cu,cl 0,cl 0,cl 0],.box (zD b.1.1 b.1.2.1 b.1.2.2)]
def Out.decl{R:Rd}{lo d:Nat}{b:Bool×Bool×cC}{y z:RS}{Q:jj->Prop}(o:Out (kl R) R lo (cq d) y (λn=>n=b)){g:Nat->PR jj}{h:RS}(c:Out g R lo h z Q)(l:y.stay z) 
  (m:y.e=0->h.e=0/\(if cG (R.tok y.p) [116,121,112,101]then jk e R b.1 b.2.1 b.2.2 (y.p+1)else if cG (R.tok y.p) [108,101,116]then lF e q R b.1 b.2.1 b.2.2 (y.p+1)else if cG (R.tok y.p) [117,115,101]then kA R b.1 b.2.1 b.2.2 (y.p+1)else .bad (R.tok y.p).off 3)=g h.p):Out (km e q R) R lo (cq d) z Q:=by
 refine⟨c.lt,c.ge,λb=>Y' Z b,λ_=>?_⟩;show eF (km e q R d) _ _;rw[km];rcases(o.B1 rfl).left with⟨f,j⟩|⟨f,n,j,rfl⟩
 ·rw[show kl R d=_ from j,l f];exact .bad f
 rw[show kl R d=_ from j];obtain⟨k,i⟩:=m (by rw[f];try rfl);dsimp only;rw[i];exact c.B1 k
def TD{R:Rd}(w:R.Wf){lo:Nat}(r:XI dh e R lo)(K:mz dR one q R lo)(G:∀c x aq,lo<=c->c<j' R.ts->e c=.ok x aq->c<aq)(c:Nat)(Y:c<j' R.ts)(Ad:lo<=c):b7 C cm yL [(cq c).v R] [] λao L=>L=[]/\da ao=A'/\DcG (km e q R) R lo (cq c) ao:=by
 have U:=w.len;have M:(cq c).ge lo:=.xC Ad;refine cB ahf (λ_=>Z) ?_;refine cL R (cq c) [101,120,112,111,114,116] Y ?_;apply de (ι:=(Bool×Bool×cC)×RS) (T:=λ_=>rdT) (S:=rdS R) (I:=λau=>Out (kl R) R lo (cq c) au.2 (λl=>l=au.1))
 ·intro F;cases v:(cq c).is R [101,120,112,111,114,116]with
  |true=>
   obtain⟨f,n,_⟩:=Out.next w Y M v
   refine cT R (cq c) (by show c<4294967296;omega) ?_;refine cL R (cq (c+1)) [100,101,112,114,101,99,97,116,101,100] f ?_;cases o:(cq (c+1)).is R [100,101,112,114,101,99,97,116,101,100]with
   |true=>
    obtain⟨J,O,_⟩:=Out.next w f n o
    refine cT R (cq (c+1)) (by have:c+1<j' R.ts:=f;show c+1<4294967296;omega) ?_;refine dv R w (cq (c+2)) 4 J ?_;have h:=Out.kind (k:=4) w dc J O;exact ck.arr (fx:=rdT) (gA:=rdS R ((A',A',(cq (c+2)).dq R 4),(cq (c+2)).word R 4)) .eS (F (_,_) ⟨h.lt,h.ge,λl=>Y' Z l,λ_=>by
     show eF (kl R c) _ _;rw[kl,X' (show cG (R.tok c) _=A' from(c9 v).2),X' (show cG (R.tok (c+1)) _=A' from(c9 o).2)];exact(h.B1 Z).map λ_ l=>l▸Z⟩)
   |false=>
    exact ck.arr (fx:=rdT) (gA:=rdS R ((A',B',[]),cq (c+1))) .eS (F (_,_) ⟨f,n,λl=>Y' Z l,λ_=>by
     show eF (kl R c) _ _;rw[kl,X' (show cG (R.tok c) _=A' from(c9 v).2),W' (by rw[show cG (R.tok (c+1)) _=B' from o];decide)];exact .ok Z⟩)
  |false=>
   exact ck.arr (fx:=rdT) (gA:=rdS R ((B',B',[]),cq c)) .eS (F (_,_) (.aet Y M _ (λ_=>by
    show kl R c=_;rw[kl,W' (by rw[show cG (R.tok c) _=B' from v];decide)];rfl) rfl))
 rintro⟨⟨B,V,d⟩,y⟩ h;have h:Out (kl R) R lo (cq c) y (λl=>l=(B,V,d)):=h;refine cL R y [116,121,112,101] h.lt ?_;apply aZ<;>intro p
 ·obtain⟨f,n,_⟩:=Out.next w h.lt h.ge p
  have j:=(c9 p).1;refine cy ?_;refine cT R y (by have:=h.lt;omega) ?_;refine cy ?_;refine abx w r B V d y.next f n λap I lw ay ar z b=>?_
  refine cy ?_;refine a8 0 ⟨Z,Z,_,_,_,_,_,_,_,_,_,_,_,_,z,h.decl b (λl=>Y' j l) (λ_=>⟨j,?_⟩),Z⟩;rw[X' (c9 p).2];try rfl
 refine cL R y [108,101,116] h.lt ?_;apply aZ<;>intro t
 ·obtain⟨f,n,_⟩:=Out.next w h.lt h.ge t
  have j:=(c9 t).1;refine cT R y (by have:=h.lt;omega) ?_;refine dv R w y.next 1 f ?_
  have i:=Out.kind (k:=1) w dc f n;refine ahd w r G _ i.lt i.ge (λI E b=>?_);refine cH R w E [58] b.lt ?_;refine r _ (cW w (s:=[58]) b.lt) b.ge.expect _ _ (λk ax N av ah P a H an aa=>?_);have m:=Out.after w b.lt b.ge ⟨a,H,an,aa⟩;refine cH R w P [61] a ?_;refine K.call _ (cW w (s:=[61]) a) H.expect _ _ (λT W ab af ac ag am S ai aj X ak al=>?_);have D:=Out.after w m.lt m.ge ⟨aj,X,ak,al⟩;refine cy ?_;refine a8 0 ⟨Z,Z,1,y.next.dq R 1,B,V,d,I,uw,uw,⟨k,ax,N,av,ah⟩,⟨T,W,ab,af,ac,ag,am,S⟩,[],[],ai,h.decl ((i.and (b.and (m.and D))).to _ (aby e q R B V d _) λar ⟨u,A,Q,ad⟩=>⟨_,_,_,_,_,A,vt,vt,Q,ad,by rw[u];try rfl⟩) (λl=>Y' j l) (λ_=>⟨j,?_⟩),Z⟩;rw[W' (by rw[cJ p j];decide),X' (c9 t).2];rfl
 refine cH R w y [117,115,101] h.lt ?_;have f:=cW w (s:=[117,115,101]) h.lt;refine dv R w _ 1 f ?_;have i:=Out.after w h.lt h.ge (Out.kind (k:=1) w dc f h.ge.expect);refine cH R w _ [58,58] i.lt ?_;refine LH w lo _ (cW w (s:=[58,58]) i.lt) i.ge.expect (λae E b=>?_);have b:=Out.after w i.lt i.ge b;refine cH R w E [97,115] b.lt ?_;refine LH w lo _ (cW w (s:=[97,115]) b.lt) b.ge.expect (λap P m=>?_);have m:=Out.after w b.lt b.ge m;refine cy ?_;have D:=i.and (b.and m);refine a8 0 ⟨Z,Z,2,ap,B,V,d,.cu,uw,uw,uw,QX,(y.expect R [117,115,101]).dq R 1,ae,P,h.decl (g:=afR R B V d) (D.to _ (abz R B V d _) λar ⟨u,A,Q⟩=>⟨_,_,_,_,_,.nil,vt,vt,vt,NQ,by rw[u,A,Q];try rfl⟩) D.st (λl=>⟨l,?_⟩),Z⟩;rw[W' (by rw[cJ p l];decide),W' (by rw[cJ t l];decide)];rfl
def adH:iz mw [.int .i64 (ais 0),.str [],.str [],.str [],.int .i64 0,.cu,.cu,.cu]:=.mk .nil .nil .nil
def X0:fN mw:=.leaf .int
def Vk(c:iz mw L)(b:a (.ret (cj A')) A):b7 C cm gN [.agg (L.map V.d),.agg ([D.int .i64 (ais 0),.str [],.str [],.str [],.int .i64 0,.cu,.cu,.cu].map V.d)] A a:=
 QC 1 mw L _ dc dc X0 c adH b
def Du{ps:D}(c:nB u ps):ps=.cu∨∃d g f b,ps=.ps d g 7 f b/\rS u b:=by
 cases c with
 |nil=>exact .inl rfl
 |ps c=>exact .inr ⟨_,_,_,_,rfl,c⟩
theorem afS{b:Bool}(c:b=A'):(!b)=B':=by rw[c];try rfl
theorem Hp{x:jj}(T:ot x L)(o:vp x):b7 C cm n8 [.agg (L.map V.d)] [] λai n=>n=[]/\ai=.ret (cj A'):=by
 obtain⟨ps,y,E,M,J,f1,H,z,a,K,f2,Y,F,Q,q,f3,O,N,R,P,u,t4,A,d4,e,D,G,am,h5,rfl⟩:=ez T;have ay:=o.flags;have aa:=o.kind;have ax:=o.pl;clear T o;have ab:b7 C cm n8 [.agg ((qT x.k x.n x.exp x.B3 x.note ps (fY y E M J f1) (fY H z a K f2) (fY Y F Q q f3) [.int .i64 (ais O),.str N,.str R,.str P,.int .i64 u,t4,A,d4] x.m x.tg).map V.d)] [] λai n=>n=[]/\ai=.ret (cj A'):=by
  refine cD ?_;have ap:(x.B3=A'/\(!x.exp)=B'/\(!x.B3)=B')∨(x.B3=B'/\(!x.B3)=A'/\(!decide (x.note=[]))=B'):=by
   grind [afS]
  have s:ps=.cu∨∃t r w ae,ps=.ps t r 7 w ae/\rS x.ps ae:=Du e;rcases ap with⟨ar,al,aw⟩|⟨ar,al,aw⟩;all_goals
   rcases aa with⟨d,v,hex,p,i,f⟩|⟨d,v,Ad,h,p,i,f⟩|⟨d,f,Ad,h,af,hex,p,v,i⟩
   ·have q2:decide (ais x.k=2)=B':=by rw[d];try rfl
    have aj:decide (ais x.k=0)=A':=by rw[d];try rfl
    have av:(!decide (x.m=[]))=B':=by rw[p];try rfl
    have aq:(!decide (x.tg=[]))=B':=by rw[i];try rfl
    rcases s with rfl|⟨t,r,w,g,rfl,I⟩
    ·refine cN ?_;refine ck.loop ?_;exact Cv
    have m:=I.len;refine cN ?_;refine ck.iter (λc:Nat=>[(1,.bp 0 0),(3,cl c)]) (λ_=>[.box ((qT x.k x.n x.exp x.B3 x.note (.ps t r 7 w g) (fY y E M J f1) (fY H z a K f2) (fY Y F Q q f3) [.int .i64 (ais O),.str N,.str R,.str P,.int .i64 u,t4,A,d4] x.m x.tg).map V.d)]) (λc=>j' x.ps-c) (λc=>c<=j' x.ps) ?_ 0 (ait _);intro c au;apply aZ<;>intro S
    ·have b:c<j' x.ps:=m▸eK S;obtain⟨an,B,ak,j,rfl⟩:=I.get b;obtain⟨ao,ah⟩:=f _ (aix b);obtain⟨W,ac,ad,U,f7,rfl⟩:=j.dL;have l:=(cx g c).trans B;have X:decide (2<ais x.ps[c].vr)=B':=Z' (by simp only[aiu];omega);repeat first|refine bZ rfl ?_|refine cp _ l ?_|refine Ae ?_
     refine nC (d:=fY W ac ad U f7) (ao▸j) ?_;refine cN ?_;exact⟨c+1,b,ik,.eP 0 [0],Z,Z⟩
    exact Cv
   ·have q2:decide (ais x.k=2)=B':=by rw[d];try rfl
    have aj:decide (ais x.k=0)=B':=by rw[d];try rfl
    have q1:decide (ais x.k=1)=A':=by rw[d];try rfl
    have av:(!decide (x.m=[]))=B':=by rw[p];try rfl
    have aq:(!decide (x.tg=[]))=B':=by rw[i];try rfl
    rcases s with rfl|⟨t,r,w,g,rfl,I⟩
    ·refine cN ?_;refine ck.loop ?_;refine cN ?_;refine nC (Ad▸D) ?_;refine cN ?_;refine nC (h▸G) ?_;exact tz
    have m:=I.len;refine cN ?_;refine ck.iter (λc:Nat=>[(1,.bp 0 0),(4,cl c)]) (λ_=>[.box ((qT x.k x.n x.exp x.B3 x.note (.ps t r 7 w g) (fY y E M J f1) (fY H z a K f2) (fY Y F Q q f3) [.int .i64 (ais O),.str N,.str R,.str P,.int .i64 u,t4,A,d4] x.m x.tg).map V.d)]) (λc=>j' x.ps-c) (λc=>c<=j' x.ps) ?_ 0 (ait _);intro c au;apply aZ<;>intro S
    ·have b:c<j' x.ps:=m▸eK S;obtain⟨an,B,ak,j,rfl⟩:=I.get b;have ah:=f _ (aix b);obtain⟨W,ac,ad,U,f7,rfl⟩:=j.dL;have l:=(cx g c).trans B;have X:(!decide (ais x.ps[c].vr=0))=B':=by rw[ah];try rfl
     repeat first|refine bZ rfl ?_|refine cp _ l ?_|refine Ae ?_
     exact⟨c+1,b,ik,.eP 0 [0],Z,Z⟩
    refine cN ?_;refine nC (Ad▸D) ?_;refine cN ?_;refine nC (h▸G) ?_;exact tz
   have q2:decide (ais x.k=2)=A':=by rw[d];try rfl
   have ag:ps=.cu∨∃t r w,ps=.ps t r 7 w []:=by
    rw[f]at e;cases e with
    |nil=>exact .inl rfl
    |ps I=>cases I;exact .inr ⟨_,_,_,rfl⟩
   rcases ag with rfl|⟨t,r,w,rfl⟩;all_goals
    refine cN ?_;refine nC (Ad▸D) ?_;refine cN ?_;refine nC (h▸G) ?_;refine cN ?_;refine nC (af▸am) ?_;refine cN ?_;exact Cv
 exact ab
def ahg:Nat->Bool:=λb=>aiE b 1000006
theorem NR{x:jj}(q:ot x L)(i:vp x):b7 C cm pW [.agg (L.map V.d)] [] λN f=>f=[]/\N=.ret (cj (iv x)):=by
 obtain⟨B,m,F,Y,Q,f1,P,n,w,R,f2,v,o,r,y,f3,e,a,t,p,z,t4,D,d4,W,T,ac,U,X,rfl⟩:=ez q;have H:=i.kind;have M:=i.ps;have af:=i.pl;clear q i T ac U X;have I:b7 C cm pW [.agg ((qT x.k x.n x.exp x.B3 x.note B (fY m F Y Q f1) (fY P n w R f2) (fY v o r y f3) [.int .i64 (ais e),.str a,.str t,.str p,.int .i64 z,t4,D,d4] x.m x.tg).map V.d)] [] λN f=>f=[]/\N=.ret (cj (iv x)):=by
  refine cB ahg (λ_=>Z) ?_;apply de (ι:=Unit) (T:=λ_=>[(1,.bp 0 0)]) (S:=λ_=>[.box ((qT x.k x.n x.exp x.B3 x.note B (fY m F Y Q f1) (fY P n w R f2) (fY v o r y f3) [.int .i64 (ais e),.str a,.str t,.str p,.int .i64 z,t4,D,d4] x.m x.tg).map V.d)]) (I:=λ_=>True)
  ·intro u;rcases Du W with rfl|⟨aq,ak,av,j,rfl,ad⟩
   ·refine ck.loop ?_;exact ck.arr .eS (u () trivial)
   have G:=ad.len;refine ck.iter (λh:Nat=>[(1,.bp 0 0),(3,cl h)]) (λ_=>[.box ((qT x.k x.n x.exp x.B3 x.note (.ps aq ak 7 av j) (fY m F Y Q f1) (fY P n w R f2) (fY v o r y f3) [.int .i64 (ais e),.str a,.str t,.str p,.int .i64 z,t4,D,d4] x.m x.tg).map V.d)]) (λh=>j' x.ps-h) (λh=>h<=j' x.ps) ?_ 0 (ait _);intro h ar;apply aZ<;>intro ae
   ·have c:h<j' x.ps:=G▸eK ae;obtain⟨am,aa,aj,J,rfl⟩:=ad.get c;have l:=(M _ (aix c)).2;obtain⟨al,ao,ap,ai,f7,rfl⟩:=J.dL;have A:=(cx j h).trans aa;have ag:(!eC x.ps[h].n)=B':=by rw[l];try rfl
    refine bZ Z ?_;refine cp _ A ?_;refine kP x.ps[h].n (by have:=rb l;omega) ?_;refine cN ?_;exact⟨h+1,c,ik,.eP 0 [0],Z,Z⟩
   exact ck.arr .eS (u () trivial)
  rintro⟨⟩-;rcases H with⟨b,lj,K,g,htg,d⟩|⟨b,lj,Ad,E,g,htg,d⟩|⟨b,d,Ad,E,ah,K,g,lj,htg⟩
  ·have q2:decide (ais x.k=2)=B':=by rw[b];try rfl
   have O:decide (ais x.k=0)=A':=by rw[b];try rfl
   refine cN ?_;refine kP x.n (by have:=rb lj;omega) ?_;exact a8 0 ⟨Z,by rw[lj,iv,W' om];try rfl⟩
  ·have q2:decide (ais x.k=2)=B':=by rw[b];try rfl
   have O:decide (ais x.k=0)=B':=by rw[b];try rfl
   refine cN ?_;refine fC x.n (by have:=re lj;omega) ?_;exact a8 0 ⟨Z,by rw[lj,iv,W' om];try rfl⟩
  have q2:decide (ais x.k=2)=A':=by rw[b];try rfl
  have au:(!decide (x.m=[]))=A':=by
   have:x.m≠[]:=λaw=>by rw[aw]at g;cases g
   rw[Z' this];try rfl
  have hl:∀s,c8 s=A'∨eC s=A'->j' s<4294967296:=λs ad=>by
   all_goals grind [re,rb]
  rw[iv,X' b];refine cN ?_;refine qV x.m (.inr g) ?_;refine cN ?_;refine fC x.n (hl _ lj) ?_;generalize c8 x.n=S;cases S with
  |true=>
   repeat first|refine Ae ?_|refine kf ?_
   refine fC x.tg (hl _ htg) ?_;generalize c8 x.tg=ab;cases ab with
   |true=>
    repeat first|refine Ae ?_|refine kf ?_
    exact a8 0 ⟨Z,Z⟩
   |false=>
    exact I1
  |false=>
   exact I1
 exact I
def U4:Prop:=∀(c:Ex) (d:cP),iz c d->fN c->dm c<4294967295->∀(b:VS) (f:dt->VS->Prop),f (.ret (cl (qC c))) b->b7 C cm nu [.agg (d.map V.d)] b f
theorem X1:∀(h:Nat) (c:Ex) (f:Nat),dm c<=h->ma kC c ()=.inr f->f≠0:=by
 intro h;induction h with
 |zero=>intro c f k;have:=jn c;omega
 |succ h o=>
  intro c f k b;have n:=gT c;rw[p4,kC]at b;by_cases d:qC c=0
  ·rw[X' d]at b;have g:∀j:n_ Ex,dn j<=h->gI kC j ()=.inr f->f≠0:=by
    intro j;induction j with
    |nil=>intro _ k;cases k
    |cons p j m=>
     intro l i;rw[dn]at l;rw[gI]at i
     grind
   exact g c.kids om b
  rw[W' d]at b;cases b;exact d
def NS(R:U4)(u:Nat)(L:∀(d:Ex) (z:cP),dm d<=u->fN d->iz d z->∀{a:VS} {N:dt->VS->Prop},N (.ret (cl (ckN (ma kC d ())))) a->b7 C cm j6 [.agg (z.map V.d)] a N) 
  (d:Ex) (z:cP) (H:dm d<=u+1) (ah:u<4294967294) (s:fN d) (j:iz d z):b7 C cm j6 [.agg (z.map V.d)] [] λab Y=>Y=[]/\ab=.ret (cl (ckN (ma kC d ()))):=by
 have D:=gT d;have m:=s.kids;have r:=j;obtain⟨k,af,E,x,F,G,I,A,rfl⟩:=j.eight;refine cD ?_;refine R d _ r s om _ _ ?_;rw[p4,kC];have o:gn d.kids A:=by cases j;assumption
 have y:dn d.kids<=u:=om;apply aZ<;>intro t
 ·have h:qC d≠0:=λK=>by rw[K]at t;cases t
  rw[W' h];exact tz
 have h:qC d=0:=jq t;rw[X' h];refine cN ?_;generalize d.kids=b at o y m;clear j s D H r;have S:=lH b;cases o with
 |nil=>
  exact iH
 |ps W=>
  rename_i ae ad P e;have n:=W.len;refine ck.iter (λf:Nat=>[(1,.bp 0 0),(4,cl f)]) (λ_=>[.box (qm k af E x F G I (.ps ae ad 8 P e))]) (λf=>j' b-f) (λf=>f<=j' b/\gI kC (b.take f) ()=.inl ()) ?_ 0 ⟨ait _,Z⟩;rintro f ⟨ag,v⟩;apply aZ<;>intro q
  ·have c:f<j' b:=n▸eK q;obtain⟨z,J,p⟩:=W.get c;refine bZ Z ?_;obtain⟨aj,ac,ak,ai,B,X,U,O,rfl⟩:=p.eight;refine cp _ (by rw[cx];exact J) ?_;have i:b[f]∈b:=aix c;have aa:=mJ i;refine L b[f] _ om (m _ i) p ?_;have l:=xu kC c v;cases g:ma kC b[f] ()with
   |inl al=>
    rw[g]at l;exact⟨f+1,⟨c,l⟩,ik,.eD 1,Z,Z⟩
   |inr T=>
    rw[g]at l;have M:T≠0:=X1 _ _ _ (aiw _) g;have w:gI kC b ()=.inr T:=xv kC l;refine aZ (λQ=>?_) (λQ=>Y' (jq Q) M);refine cN ?_;refine a8 0 ⟨Z,?_⟩;show _=dt.ret (cl (ckN (gI kC b ())));rw[w];try rfl
  have c:j' b<=f:=n▸dK q;rw[aiC c]at v;refine a8 0 ⟨Z,?_⟩;show _=dt.ret (cl (ckN (gI kC b ())));rw[v];try rfl
def QZ(h:U4):∀(f:Nat) (b:Ex) (d:cP),f<4294967295->dm b<=f->fN b->iz b d->∀{c:VS} {i:dt->VS->Prop},i (.ret (cl (ckN (ma kC b ())))) c->b7 C cm j6 [.agg (d.map V.d)] c i:=by
 intro f;induction f with
 |zero=>intro b d _ t;have:=jn b;omega
 |succ f p=>
  intro b d y t k g c i l;obtain⟨z,w,D,x,n,v,s,r,rfl⟩:=g.eight;exact cI (NS h f (λb d m j o=>p b d om m j o) b _ t om k g) Z Z l
def adI(l:U4):ah7:=by
 intro g y d i f t w n;obtain⟨k,C,z,x,o,r,s,p,rfl⟩:=d.eight;refine cI ?_ Z Z n;refine cD ?_;refine xB _ g _ f (aiw _) i d ?_;rw[Dm];apply aZ<;>intro j
 ·have c:4096<dm g:=eK (a:=4096) j;rw[X' (.inl c)];exact tz
 have c:¬4096<dm g:=Nat.not_lt.2 (dK (a:=4096) j);refine cN ?_;refine ND _ g _ f (aiw _) d ?_;refine cN ?_;apply aZ<;>intro h
 ·have b:32<ow g:=eK (a:=32) h;rw[X' (.inr b)];exact tz
 have b:¬32<ow g:=Nat.not_lt.2 (dK (a:=32) h);rw[W' (λv=>v.elim c b)];refine cN ?_;refine QZ l _ g _ f (aiw _) i d ?_;exact a8 0 ⟨Z,Z⟩
variable{B:n_ ij} {G O W:D}
def X2(m:e9 B G)(w:j' B<4294967296)(l:a (.ret (cl (Dd B))) A):b7 C cm s7 [.d G] A a:=by
 refine cI ?_ Z Z l;refine cD ?_;cases m with
 |nil=>
  exact iH
 |ps p=>
  rename_i t s h i;have f:=p.len;refine ck.iter (λc:Nat=>[(0,.d (.ps t s 8 h i)),(3,cl (Dd (B.take c))),(4,cl c)]) (λ_=>[]) (λc=>j' B-c) (λc=>c<=j' B) ?_ 0 (ait _);intro c v;apply aZ<;>intro k
  ·have b:c<j' B:=f▸eK k;obtain⟨z,n,j⟩:=p.get b;obtain⟨x,r,o,y,f2,rfl⟩:=j.dL;have g:=Nq (B.take c);rw[aiH]at g;refine bZ Z ?_;refine cp _ (by rw[cx];exact n) ?_;apply aZ<;>intro d
   ·have d:B[c].lM=A':=d;refine⟨c+1,b,ik,.same ⟨Z,int_eq ?_,int_eq (cF om),tv⟩ Z,Z,Z⟩;rw[Dl b,d,X' rfl];exact cF om
   have d:B[c].lM=B':=d;refine⟨c+1,b,ik,.same ⟨Z,int_eq ?_,int_eq (cF om),tv⟩ Z,Z,Z⟩;rw[Dl b,d,W' dc];try rfl
  have b:j' B<=c:=f▸dK k;rw[aiC b];exact a8 0 ⟨Z,Z⟩
def ahh:Nat->Bool:=λb=>aiE b 9
def ahi:n_ cC:=[[43],[45],[42],[60],[61,61],[61,61,61],[43,43],[97,110,100],[111,114]]
def Hq(b:K∈Ri)(c:a (.ret (cl 1)) A):b7 C cm nv [cv K] A a:=by
 refine cI ?_ Z Z c;simp only[Ri,aiX,List.not_mem_nil,or_false]at b;rcases b with rfl|rfl;all_goals
  refine cB ahh (λ_=>Z) ?_;exact a8 0 ⟨Z,Z⟩
def Hr(b:K∈EB)(d:a (.ret (cl 2)) A):b7 C cm nv [cv K] A a:=by
 refine cI ?_ Z Z d;have c:K∈ahi:=b;have i:decide (K=[110,111,116])=B':=Z' λf=>by subst f;revert b;decide
 have g:decide (K=[108,101,110,103,116,104])=B':=Z' λf=>by subst f;revert b;decide
 refine cB ahh (λ_=>Z) ?_;refine cN ?_;intro h;refine z1 ahi dc K h 9 ?_;rw[a_ c];exact a8 0 ⟨Z,Z⟩
def BZ(c:Nat)(b:Int):n_ V:=match c with
 |0=>[cj B',cj B',cj A',cj B',cj B',cj B',cj B',.d (.int .i64 b),cj B']
 |1=>[cj B',cj A',cj B',cj B',cj B',cj B',cj B',.d (.int .i64 b),cj B']
 |2=>[cj B',cj B',cj A',cj B',cj B',cj B',cj B',.d (.int .i64 b),cj B']
 |4=>[cj A',cj B',cj B',cj A',cj B',cj B',cj A',.d (.int .i64 b),cj B']
 |5=>[cj B',cj B',cj B',cj B',cj A',cj B',cj B',.d (.int .i64 b),cj B']
 |8=>[cj B',cj B',cj B',cj B',cj A',cj B',cj B',.d (.int .i64 b),cj B']
 |9=>[cj B',cj B',cj B',cj B',cj A',cj B',cj B',.d (.int .i64 b),cj B']
 |11=>[cj B',cj B',cj B',cj B',cj B',cj B',cj A',.d (.int .i64 b),cj A']
 |12=>[cj B',cj B',cj B',cj B',cj B',cj B',cj A',.d (.int .i64 b),cj A']
 |13=>[cj B',cj B',cj B',cj B',cj A',cj A',cj A',.d (.int .i64 b),cj A']
 |14=>[cj B',cj B',cj B',cj B',cj B',cj B',cj A',.d (.int .i64 (-1)),cj A']
 |15=>[cj A',cj A',cj B',cj B',cj B',cj B',cj A',.d (.int .i64 b),cj A']
 |_=>[cj A',cj B',cj B',cj B',cj B',cj B',cj B',.d (.int .i64 b),cj B']
variable{H:n_ Ex} {M:Int}
def ID{k:Nat}{t s x:cC}{types:n_ Ty}(z:gH (.mk k t s x M types B H))(hl:e9 B O)(j:j' B<4294967296):
  b7 C cm oJ [Yi k t s x M G O W] [] λv n=>n=[]/\v=.ret (.dP [.agg (BZ k (ais (j' H))),cj A']):=by
 have f:(O=.cu/\j' B=0)∨∃b o c els,O=.ps b o 8 c els/\j' els=j' B:=by
  exact J3
 have y:∀p:Nat,p<4294967296->dt.ret (.dP [.agg (BZ 5 (ais p)),cj A'])=dt.ret (.dP [.agg (BZ 5 (ais p)),cj A']):=λ_ _=>rfl;cases z with
 |int|text|bool|loc|val|acE|inj|acF|asc|cond|lst|fold=>
  rcases f with⟨rfl,_⟩|⟨b,o,c,els,rfl,d⟩;all_goals
   refine cD ?_;exact a8 0 ⟨Z,Z⟩
 |ZU h g=>
  rw[g];rcases f with⟨rfl,d⟩|⟨b,o,c,els,rfl,d⟩;all_goals
   first|rw[d]|rw[<-d]
   exact lP
 |call h g=>
  rw[g];rcases f with⟨rfl,d⟩|⟨b,o,c,els,rfl,d⟩
  ·rw[d];exact lP
  rw[<-d];refine cD ?_;exact a8 0 ⟨Z,d_ (λl=>dt.ret (.dP [.agg (BZ 9 l),cj A'])) (cF om)⟩
 |mat w h g=>
  rw[g];rcases f with⟨rfl,d⟩|⟨b,o,c,els,rfl,d⟩
  ·rw[d];exact lP
  rw[<-d];refine cD ?_;exact a8 0 ⟨Z,d_ (λl=>dt.ret (.dP [.agg (BZ 13 l),cj A'])) (cF om)⟩
 |func h g=>
  have r:=Nq B;rw[g];have m:=hl;rcases f with⟨rfl,d⟩|⟨b,o,c,els,rfl,d⟩;all_goals
   refine cD ?_;refine X2 m j ?_;exact a8 0 ⟨Z,d_ (λl=>dt.ret (.dP [.agg (BZ 8 l),cj A'])) (cF om)⟩
 |one i=>
  rcases f with⟨rfl,_⟩|⟨b,o,c,els,rfl,d⟩;all_goals
   refine cD ?_;refine cy ?_;refine Hq i ?_;refine cy ?_;refine Hq i ?_;exact xV
 |two i=>
  rcases f with⟨rfl,_⟩|⟨b,o,c,els,rfl,d⟩;all_goals
   refine cD ?_;refine cy ?_;refine Hr i ?_;refine cy ?_;refine Hr i ?_;exact xV
def e9.Dv(h:e9 [] G):G=.cu∨∃d c b,G=.ps d c 8 b []:=by
 exact tw
def gn.Dv(h:gn [] G):G=.cu∨∃d c b,G=.ps d c 8 b []:=by
 exact tw
def gn.TE{x:Ex}(c:gn [x] G):∃d g f b,G=.ps d g 8 f [b]:=c.one
def gn.ail{x y:Ex}(h:gn [x,y] G):∃c f d b g,G=.ps c f 8 d [b,g]:=by
 exact Ku
def gn.afT{x y z:Ex}(h:gn [x,y,z] G):∃c g d b i f,G=.ps c g 8 d [b,i,f]:=by
 exact J1
def ft.TE{d:Ty}(b:ft [d] G):∃f h g c,G=.ps f h 5 g [c]:=by
 cases b with|ps b _=>cases b with|cons _ b=>cases b;exact⟨_,_,_,_,rfl⟩
def Hs{k:Nat}{E A x:cC}{types:n_ Ty}(ad:gH (.mk k E A x M types B H))(c:ft types G)(d:e9 B O)(b:gn H W)(a:j' B<4294967296):
  b7 C cm kz [Yi k E A x M G O W,.agg (BZ k (ais (j' H)))] [] λJ Q=>Q=[]/\J=.ret (cj B'):=by
 cases ad with
 |int|text|loc=>
  obtain rfl:=c.dB;rcases d.Dv with rfl|⟨w,s,z,rfl⟩<;>rcases b.Dv with rfl|⟨h,f,g,rfl⟩;all_goals exact lO
 |bool=>
  rename_i R;obtain rfl:=c.dB;rcases d.Dv with rfl|⟨w,s,z,rfl⟩<;>rcases b.Dv with rfl|⟨h,f,g,rfl⟩<;>cases R;all_goals exact lO
 |val aa X i ae=>
  rcases c.inv with⟨_,rfl⟩|⟨t,v,y,V,rfl,_⟩<;>rcases d.Dv with rfl|⟨w,s,z,rfl⟩<;>rcases b.Dv with rfl|⟨h,f,g,rfl⟩;all_goals exact lO
 |acE|inj|one=>
  obtain rfl:=c.dB;obtain⟨h,f,g,d2,rfl⟩:=b.TE;rcases d.Dv with rfl|⟨w,s,z,rfl⟩;all_goals exact lO
 |acF|two=>
  obtain rfl:=c.dB;obtain⟨h,f,g,d2,e,rfl⟩:=b.ail;rcases d.Dv with rfl|⟨w,s,z,rfl⟩;all_goals exact lO
 |asc=>
  obtain⟨t,v,y,d3,rfl⟩:=c.TE;obtain⟨h,f,g,d2,rfl⟩:=b.TE;rcases d.Dv with rfl|⟨w,s,z,rfl⟩;all_goals exact lO
 |cond|fold=>
  obtain⟨t,v,y,d3,rfl⟩:=c.TE;obtain⟨h,f,g,d2,e,f2,rfl⟩:=b.afT;rcases d.Dv with rfl|⟨w,s,z,rfl⟩;all_goals exact lO
 |lst=>
  obtain⟨t,v,y,d3,rfl⟩:=c.TE;rcases d.Dv with rfl|⟨w,s,z,rfl⟩<;>rcases b.inv with⟨_,rfl⟩|⟨h,f,g,m,rfl,_⟩;all_goals exact lO
 |ZU i j|func i j|call i j|mat _ i j=>
  first
   |obtain rfl:=c.dB
   |obtain⟨t,v,y,d3,rfl⟩:=c.TE
  rcases b.inv with⟨rfl,rfl⟩|⟨h,f,g,m,rfl,Y⟩
  ·first
    |obtain rfl:=List.eq_nil_of_length_eq_zero (j.symm.trans rfl)
     rcases d.Dv with rfl|⟨w,s,z,rfl⟩;all_goals exact lO
    |exact Y' j (by simp)
  have L:(!decide (ais (j' m)=ais (j' H)))=B':=by rw[Y.len];exact ni _
  rcases d.inv with⟨rfl,rfl⟩|⟨w,s,z,I,rfl,P⟩<;>refine cD ?_<;>refine cN ?_
  ·exact ck.loop (a8 0 ⟨Z,Z⟩)
  have F:=P.len;refine yB (λr:Nat=>[(2,.bp 0 0),(3,.bp 1 0),(5,cl r)]) (λr=>j' B-r) (λr=>r<=j' B) (λr U=>?_) 0 (ait _);apply aZ<;>intro u;rotate_left
  ·exact a8 0 ⟨Z,Z⟩
  have l:r<j' B:=F▸eK u;obtain⟨af,q,o⟩:=P.get l;obtain⟨K,ab,tn,N,T,rfl⟩:=o.dL;have p:B[r]∈B:=aix l;refine bZ Z ?_;refine cp _ (by rw[cx];exact q) ?_;try have S:(!decide (B[r].v=[]))=B':=by have:=i.var _ p;rw[W' dc]at this;rw[this];try rfl
  have n:=i.ty _ p;try
   rw[W' dc]at n;rw[n.1]at o
  try have ac:B[r].lM=B':=n.2
  refine cN ?_;try
   refine p6 100 cY _ _ dc dc o (.mk .nil .nil) ?_;refine cN ?_
  exact⟨r+1,l,ik,.eD 2,Z,Z⟩
def NT{h f x:cC}{types:n_ Ty}(g:gH (.mk E h f x M types B H))(d:e9 B O)(b:j' B<4294967296)(c:a (.ret (.dP [.agg (BZ E (ais (j' H))),cj A'])) A):b7 C cm oJ [Yi E h f x M G O W] A a:=
 cI (ID g d b) rfl (by cases g<;>rfl) c
def IE{i h x:cC}{types:n_ Ty}(j:gH (.mk E i h x M types B H))(f:ft types G)(d:e9 B O)(c:gn H W)(b:j' B<4294967296)(g:a (.ret (cj B')) A):b7 C cm kz [Yi E i h x M G O W,.agg (BZ E (ais (j' H)))] A a:=
 cI (Hs j f d c b) (by cases j<;>rfl) rfl g
def ahj:Nat->Bool:=λb=>aiE b 1000006||aiE b 1000008||aiE b 1000019||aiE b 1000021
def HA:Tm:=[(1,.bp 0 0),(3,.bp 1 0)]
def aim(l:Nat)(b:Int):∃f c i k j d h g m,BZ l b=[cj f,cj c,cj i,cj k,cj j,cj d,cj h,.d (.int .i64 m),cj g]:=by
 unfold BZ;split<;>exact⟨_,_,_,_,_,_,_,_,_,rfl⟩
def NU{k:Nat}{m n x:cC}{num:Int}{types:n_ Ty}{ty lb kd:D}(w:gH (.mk k m n x num types B H))(y:ft types ty)(hl:e9 B lb)(v:gn H kd)(u:j' types+j' B<4294967296)(z:cQ (ov (.mk k m n x num types B H))<4294967295):
  b7 C cm nu [Yi k m n x num ty lb kd] [] λaI af=>af=[]/\aI=.ret (cl (qC (.mk k m n x num types B H))):=by
 have R:=w.aaf;have l:=w.all;refine cB ahj (λ_=>Z) ?_;refine NT w hl om ?_;obtain⟨b0,b1,b2,b3,b4,b5,b6,b8,j,d⟩:=aim k (ais (j' H));have t:∀{X:VS} {aA:dt->VS->Prop},aA (.ret (cj B')) X->b7 C cm kz [Yi k m n x num ty lb kd,.agg (BZ k (ais (j' H)))] X aA:=λf=>IE w y hl v om f;rw[d]at t⊢;refine t ?_;have aB:k≠4->j' types<=1:=λf=>by cases w<;>first|exact Y' rfl f|(simp;done)|simp
 have ab:(lb=.cu/\j' B=0)∨∃b o c els,lb=.ps b o 8 c els/\j' els=j' B:=by
  exact J3
 have O:(ty=.cu/\j' types=0)∨∃b o c els,ty=.ps b o 5 c els/\j' els=j' types:=by
  rcases y.inv with⟨h1,h2⟩|⟨b,o,c,els,h1,h2⟩
  ·exact .inl ⟨h2,by rw[h1];try rfl⟩
  exact .inr ⟨b,o,c,els,h1,h2.len⟩
 apply de (ι:=Unit) (T:=λ_=>HA) (S:=λ_=>[.box (qm k m n x num ty lb kd),.box [cj b0,cj b1,cj b2,cj b3,cj b4,cj b5,cj b6,.d (.int .i64 j),cj b8]]) (I:=λ_=>¬(32<j' B∨8<j' types∨65536<j' x))
 ·intro hC;rcases ab with⟨Y,L⟩|⟨b,o,c,els,Y,L⟩<;>rcases O with⟨F,aa⟩|⟨aH,aM,aN,al,F,aa⟩;all_goals
   rw[Y,F];repeat' first|(change kE _ _ _;first|refine b9 (by with_reducible assumption) ?_|refine a7 (by with_reducible assumption) ?_|refine aZ (λ_=>?_) (λ_=>?_))
   all_goals first
    |exact a8 0 ⟨rfl,d_ (λav=>dt.ret (cl av)) (IH (by clear hC l z R w hl y v t d;simp only[j_,decide_eq_false_iff_not,aiu]at*;omega)).symm⟩
    |exact ck.arr (fx:=HA) (gA:=[.box (qm k m n x num ty lb kd),.box [cj b0,cj b1,cj b2,cj b3,cj b4,cj b5,cj b6,.d (.int .i64 j),cj b8]]) (.same ⟨rfl,rfl,tv⟩ (by rw[Y,F];try rfl)) (hC () (by clear hC l z R w hl y v t d;simp only[j_,decide_eq_false_iff_not,aiu]at*;omega))
 intro _ V;have ac:m=[]∨c8 m=A':=by cases w<;>first|exact .inl rfl|assumption
 have ah:b0=A'->k≠16->c8 n=A':=λhb f=>by
  cases w<;>first|assumption|exact Y' rfl f|(simp[BZ,cj]at d;simp[d]at hb)
 have hxx:k=15->c8 x=A':=λf=>by cases w<;>first|assumption|cases f
 have ai:b5=A'->k=13:=λhb=>by
  cases w<;>first|rfl|(simp[BZ,cj]at d;simp[d]at hb)
 refine qV m ac ?_;apply de (ι:=Unit) (T:=λ_=>HA) (S:=λ_=>[.box (qm k m n x num ty lb kd),.box [cj b0,cj b1,cj b2,cj b3,cj b4,cj b5,cj b6,.d (.int .i64 j),cj b8]]) (I:=λ_=>True)
 ·intro hC;apply aZ<;>intro hb
  ·have W:b0=A':=hb;refine cN ?_;apply aZ<;>intro f
   ·have M:k≠16:=λS=>by rw[S]at f;exact Y' f dc
    have ag:=ah W M;refine cN ?_;refine fC n (nL ag) ?_;rw[ag];exact B6
   exact B6
  exact B6
 intro _ _;apply de (ι:=Unit) (T:=λ_=>HA) (S:=λ_=>[.box (qm k m n x num ty lb kd),.box [cj b0,cj b1,cj b2,cj b3,cj b4,cj b5,cj b6,.d (.int .i64 j),cj b8]]) (I:=λ_=>True)
 ·intro hC;rcases hl.inv with⟨h1,h2⟩|⟨b,o,c,els,h2,s⟩
  ·rw[h2];refine ck.loop ?_;refine ck.loop ?_;exact Jm
  rw[h2];have p:=s.len;refine ck.iter (λi:Nat=>[(1,.bp 0 0),(3,.bp 1 0),(5,cl i)]) (λ_=>[.box (qm k m n x num ty (.ps b o 8 c els) kd),.box [cj b0,cj b1,cj b2,cj b3,cj b4,cj b5,cj b6,.d (.int .i64 j),cj b8]]) (λi=>j' B-i) (λi=>i<=j' B) ?_ 0 (ait _);intro i I;apply aZ<;>intro r
  ·have hi':i<j' B:=p▸eK r;obtain⟨ar,hx,h⟩:=s.get hi';obtain⟨ak,an,tn,ap,au,P⟩:=h.dL;rw[P]at hx;have Q:B[i]∈B:=aix hi';have e:=R.name _ Q;refine bZ Z ?_;refine cp _ (by rw[cx];exact hx) ?_;refine fC B[i].n (nL e) ?_;rw[e];apply aZ<;>intro aq
   ·have K:=ai aq;have J:=R.var _ Q;rw[X' K]at J;refine cN ?_;refine bZ Z ?_;refine cp _ (by rw[cx];exact hx) ?_;refine cN ?_;refine fC B[i].v (nL J) ?_;rw[J];refine cN ?_;exact lQ
   refine cN ?_;exact lQ
  clear r I;refine ck.iter (λi:Nat=>[(1,.bp 0 0),(3,.bp 1 0),(6,cl i)]) (λ_=>[.box (qm k m n x num ty (.ps b o 8 c els) kd),.box [cj b0,cj b1,cj b2,cj b3,cj b4,cj b5,cj b6,.d (.int .i64 j),cj b8]]) (λi=>j' B-i) (λi=>1<=i) ?_ 1 (aiw _);intro i I;apply aZ<;>intro r
  ·have hi':i<j' B:=p▸eK r;have q:i-1<j' B:=om;obtain⟨ar,hx,h⟩:=s.get q;obtain⟨S,E,N⟩:=s.get hi';obtain⟨ak,an,tn,ap,au,P⟩:=h.dL;obtain⟨aD,aK,aJ,aE,aF,ad⟩:=N.dL;rw[P]at hx;rw[ad]at E;have T:=R.srt.rN (aiv q) (aiv hi') om;rw[<-cx]at hx E;have aj:=yu (a:=i) om om;repeat first|refine bZ aj ?_|refine bZ rfl ?_|refine cp _ hx ?_|refine cp _ E ?_
   refine db ?_;refine vL B[i-1].n B[i].n T ?_;refine db ?_;refine⟨i+1,by show 1<=i+1;omega,ik,.eS,Z,Z⟩
  exact Jm
 intro _ _;apply de (ι:=Unit) (T:=λ_=>HA) (S:=λ_=>[.box (qm k m n x num ty lb kd),.box [cj b0,cj b1,cj b2,cj b3,cj b4,cj b5,cj b6,.d (.int .i64 j),cj b8]]) (I:=λ_=>¬(k=15/\n=x))
 ·intro hC;apply aZ<;>intro h1
  ·refine cN ?_;apply aZ<;>intro h2
   ·refine cN ?_;exact a8 0 ⟨Z,d_ (λav=>dt.ret (cl av)) (G6 V (Dw (b:=15) h1) (f_ h2)).symm⟩
   refine cN ?_;exact ck.arr (fx:=HA) (gA:=[.box (qm k m n x num ty lb kd),.box [cj b0,cj b1,cj b2,cj b3,cj b4,cj b5,cj b6,.d (.int .i64 j),cj b8]]) .eS (hC () (λG=>e_ h2 G.2))
  refine cN ?_;exact ck.arr (fx:=HA) (gA:=[.box (qm k m n x num ty lb kd),.box [cj b0,cj b1,cj b2,cj b3,cj b4,cj b5,cj b6,.d (.int .i64 j),cj b8]]) .eS (hC () (λG=>A7 (b:=15) h1 G.1))
 intro _ a;rw[Lu V a];refine Ea (e:=.mk k m n x num types B H) (.mk y hl v) (λ_ _ _ _ _ _ _ _ S=>by cases S;exact u) (λar U=>?_);generalize ov (.mk k m n x num types B H)=own at U l z;have ax:=ey own;cases U with
 |nil=>
  exact iH
 |ps s=>
  rename_i b o ae els;have p:=s.len;refine ck.iter (λi:Nat=>[(8,.d (.ps b o 5 ae els)),(9,cl i)]) (λ_=>[.box (qm k m n x num ty lb kd),.box [cj b0,cj b1,cj b2,cj b3,cj b4,cj b5,cj b6,.d (.int .i64 j),cj b8]]) (λi=>j' own-i) (λi=>i<=j' own/\∀j (hj:j<j' own),j<i->p3 own[j]=B') ?_ 0 ⟨ait _,λj _ w=>Y' w (aiJ _)⟩;rintro i ⟨I,hno⟩;apply aZ<;>intro r
  ·have hi':i<j' own:=p▸eK r;obtain⟨ar,hx,h⟩:=s.get hi';obtain⟨aG,aO,aC,aL,f2,rfl⟩:=h.dL;refine bZ Z ?_;refine cp _ (by rw[cx];exact hx) ?_;have ay:=eU (aix hi');refine D9 own[i] _ h (l _ (aix hi')) om ?_;cases hb:p3 own[i]with
   |true=>exact a8 0 ⟨rfl,by rw[Qi hi' hb];try rfl⟩
   |false=>
    refine⟨i+1,⟨hi',λj hj az=>?_⟩,ik,.eD 2,Z,Z⟩;exact KM
  have hi':j' own<=i:=p▸dK r;exact a8 0 ⟨Z,by rw[any_none λj hj=>hno j hj om];try rfl⟩
def X3:U4:=by
 intro p z i f v w y k;have o:=gT p;have m:=f.node;have c:=λr t s x g types b d (n:p=.mk r t s x g types b d)=>BP f n om;cases i with
 |mk j l h=>exact cI (NU m j l h (c _ _ _ _ _ _ _ _ rfl) om) rfl rfl k
theorem U5(c:cC)(b:n_ cC):j' (Dq b c)<=j' b+1/\(c∈b->j' (Dq b c)=j' b):=by
 all_goals grind [Dq]
theorem adJ:∀(c b:n_ cC),j' (c.foldl Dq b)<=j' b+j' c:=by
 intro c;induction c with
 |nil=>intro b;exact aiw _
 |cons f c d=>
  grind [aiB,U5]
theorem adK:∀(c b:n_ cC),j' b+j' c<=j' (c.foldl Dq b)->(∀d∈c,d ∉ b)/\c.Pairwise (· ≠ ·):=by
 intro c;induction c with
 |nil=>intro b _;exact⟨by simp,.nil⟩
 |cons d c f=>
  intro b g;rw[List.foldl_cons]at g;all_goals grind [aiB,Dq,aiA,aiD,adJ,U5,ai0.2,aiX.1]
structure aiq (L:List jj) (x:jj):Prop where
 ps:j' x.ps<=8
 note:j' x.note<=65536
 tit:iv x=A'
 new:∀y∈L,y.n≠x.n
 Yb:(x.ps.map ny.n).Pairwise (· ≠ ·)
 tys:∀t∈oE x,p3 t=B'
 ex:Dm x.ex=0
def LI(b:nB u .cu):u=[]:=by cases b;rfl
abbrev dcW(x:jj)(c:D)(lo f d b:cP):List V:=(qT x.k x.n x.exp x.B3 x.note c lo f d b x.m x.tg).map V.d
def ain:Nat->Bool:=λb=>aiE b 104||aiE b 1000026
theorem fold_eq:∀(c b:n_ cC),(∀d∈c,d ∉ b)->c.Pairwise (· ≠ ·)->j' (c.foldl Dq b)=j' b+j' c:=by
 intro c;induction c with
 |nil=>intro b _ _;rfl
 |cons d c f=>
  all_goals grind [ai0,Dq,aiA,aiB,aiD,List.mem_singleton]
theorem abA{z b:Nat}(d:z<b)(c:b<j' u)(g:u[z].n=u[b].n):j' (D8 u)<j' u:=by
 refine Nat.lt_of_not_le λf=>?_;have:=(adK (u.map ny.n) [] (by rw[aiz];show 0+j' u<=j' (D8 u);omega)).2
 grind [aiz,aiV.1]
theorem Q0(h:∀z b (d:b<j' u) (c:z<b),u[z].n≠u[b].n):¬j' (D8 u)<j' u:=by
 rw[D8,fold_eq _ _ sm (aiV.2 λz b g f c=>?_),aiz]
 ·show ¬0+_<_;omega
 grind
variable{N:n_ jj}
theorem Q1{H:n_ cP}(aT:oD N H)(aU aG aO:Nat)(bn:E<j' N)(bu:j' N<=64)(l:vp N[E]) 
  (a:cM N[E].lo<1073741824/\cM N[E].up<1073741824/\cM N[E].ty<1073741824/\(∀bi∈N[E].ps,cM bi.b<1073741824)/\dm N[E].ex<1073741824):
  b7 C cm rE [.agg [cv K,.d G,.d (.ps aU aG 31 aO H)],cl E] [] λbS bh=>bh=[]/\bS=.ret (cl (yX (N.take E) N[E])):=by
 obtain⟨M,bk,B⟩:=aT.get bn;obtain⟨x,aP⟩:∃x,x=N[E]:=⟨_,rfl⟩;rw[<-aP]at B l a⊢;have aX:=Hp B l;have bp:=NR B l;obtain⟨aB,F,v,o,n,f1,m,P,p,w,f2,t,r,s,Q,f3,ad,U,ae,X,aa,t4,T,d4,aD,aY,aL,bc,bm,rfl⟩:=ez B;have ay:=(cx H E).trans bk;have bq:decide (2<ais x.k)=B':=by
  rcases l.kind with h|h|h<;>rw[h.1]<;>rfl
 have hC:=yX.eq_1 (N.take E) x;refine cB ain (λ_=>Z) ?_;refine bZ Z ?_;refine cp _ ay ?_;refine cN ?_;apply de (T:=λb:n_ cP=>[(5,.bp 0 0),(9,.ms 1 5 0 (j' b) (j' b))]) (S:=λb:n_ cP=>[.box (dcW x aB (fY F v o n f1) (fY m P p w f2) (fY t r s Q f3) [.int .i64 (ais ad),.str U,.str ae,.str X,.int .i64 aa,t4,T,d4]),.row 5 (b.map λM=>M.map V.d)]) (I:=λb:n_ cP=>(dZ (oE x) b/\j' x.ps<=8)/\yX (N.take E) x=if qD (oE x)≠0 then qD (oE x)else Dm x.ex)
 ·intro aJ;obtain⟨c,ar,ax⟩:∃c,rS x.ps c/\((aB=.cu/\c=[])∨∃aU aG aO,aB=.ps aU aG 7 aO c):=by
   rcases Du aD with bl|⟨aU,aG,aO,c,bl,h⟩
   ·subst bl;exact⟨[],by rw[LI aD];exact .nil,.inl ⟨Z,Z⟩⟩
   exact⟨c,h,.inr ⟨aU,aG,aO,bl⟩⟩
  have aA:=ar.len;have q:∀u (h:u<j' x.ps),∃j g i f f7,fF x.ps[u].b (fY j g i f f7)/\nth c u=q' ([.str x.ps[u].n,.int .i64 (ais x.ps[u].vr)]++fY j g i f f7):=λu h=>by
   obtain⟨bX,e,ce,hbb,rfl⟩:=ar.get h;obtain⟨j,g,i,f,f7,rfl⟩:=hbb.dL;exact⟨j,g,i,f,f7,hbb,(cx c u).trans e⟩
  by_cases bf:8<j' x.ps
  ·have O:decide (8<ais (j' c))=A':=a_ (by simp only[aiu];omega);rw[X' (.inl bf)]at hC;rcases ax with⟨rfl,rfl⟩|⟨af,aj,S,rfl⟩
   ·exact Y' O dc
   refine cI aX Z Z ?_;refine cN ?_;exact oR
  have O:decide (8<ais (j' c))=B':=Z' (by simp only[aiu];omega);rcases ax with⟨rfl,rfl⟩|⟨af,aj,S,rfl⟩;all_goals
   refine cI aX Z Z ?_;refine cN ?_;apply aZ<;>intro bV
   ·have ac:65536<j' x.note:=by
     grind [aiu]
    rw[X' (.inr ac)]at hC;refine cN ?_;exact oR
   have ac:¬65536<j' x.note:=by
    grind [aiu]
   rw[W' (λh=>h.elim bf ac)]at hC;refine cN ?_;refine cI bp Z Z ?_;apply aZ<;>intro ak
   ·rw[Bool.not_eq_true']at ak;rw[X' ak]at hC;exact oR
   rw[aiL]at ak;rw[W' (by rw[ak];decide)]at hC;refine ck.iter (λk:Nat=>[(1,cl E),(5,.bp 1 0),(2,.bp 0 0),(6,cl k)]) (λ_=>_) (λk=>E-k) (λk=>k<=E/\(N.take k).any (sT x)=B') ?_ 0 ⟨ait _,Z⟩;rintro k ⟨aS,aV⟩;apply aZ<;>intro ao
   ·have d:k<E:=eK ao;have aw:k<j' N:=om;obtain⟨ca,e,ba⟩:=aT.get aw;obtain⟨bs,bx,cf,q1,bI,bN,bQ,bz,q2,af,S,bA,bw,q3,bB,bO,bC,bH,q4,bR,bP,bU,cg,cc,_,_,_,_,_,rfl⟩:=ez ba;have R:=(cx H k).trans e;repeat first|refine bZ rfl ?_|refine cp _ ay ?_|refine cp _ R ?_|refine cO ?_
    apply aZ<;>intro ag
    ·have ah:decide (N[k].n=x.n)=A':=ag;rw[X' (List.any_eq_true.2 ⟨_,aiP.2 ⟨k,by rw[aiH];omega,by rw[List.getElem_take]⟩,show sT x N[k]=A' from ah⟩)]at hC;exact oR
    have ah:decide (N[k].n=x.n)=B':=ag;refine⟨k+1,⟨d,?_⟩,ik,.eP 0 [0,1],Z,Z⟩;rw[aiM,aiv aw,List.any_append,aV];simp[sT,e_ ah]
   have d:E=k:=Nat.le_antisymm (dK ao) aS;subst d;rw[W' (by rw[aV];decide)]at hC;first
    |(refine ck.loop ?_
      refine ck.loop ?_;rw[W' (Q0 λz ai L _=>Y' L (by rw[<-aA];exact aiJ _))]at hC;exact ck.arr (gA:=[.box (dcW x .cu (fY F v o n f1) (fY m P p w f2) (fY t r s Q f3) [.int .i64 (ais ad),.str U,.str ae,.str X,.int .i64 aa,t4,T,d4]),.row 5 ([fY F v o n f1,fY m P p w f2,fY t r s Q f3].map λM=>M.map V.d)]) (fx:=[(5,.bp 0 0),(9,.ms 1 5 0 3 3)]) (.eP 0 [1,2]) (aJ [fY F v o n f1,fY m P p w f2,fY t r s Q f3] ⟨⟨by rw[oE,LI aD];exact .cons aY (.cons aL (.cons bc .nil)),om⟩,hC⟩))
    |(refine iV (fx:=[(5,.bp 1 0),(7,cl 0)]) ?_
      refine ck.iter (λY:Nat=>[(5,.bp 1 0),(7,cl Y)]) (λ_=>_) (λY=>j' x.ps-Y) (λY=>Y<=j' x.ps/\∀z ai (L:ai<j' x.ps) (J:z<ai),ai<Y->x.ps[z].n≠x.ps[ai].n) ?_ 0 ⟨ait _,λz ai _ _ h=>Y' h (aiJ _)⟩;rintro Y ⟨cb,au⟩;apply aZ<;>intro aq
      ·have I:Y<j' x.ps:=aA▸eK aq;obtain⟨bG,bW,bJ,bL,bK,bv,aE⟩:=q Y I;refine ck.iter (λz:Nat=>[(5,.bp 1 0),(7,cl Y),(8,cl z)]) (λ_=>_) (λz=>Y-z) (λz=>z<=Y/\∀y (e:y<z) (J:z<=Y),x.ps[y].n≠x.ps[Y].n) ?_ 0 ⟨ait _,λy h _=>Y' h (aiJ _)⟩;rintro z ⟨J,az⟩;apply aZ<;>intro an
       ·have ap:z<Y:=eK an;obtain⟨ch,bM,bE,ci,cd,bj,aR⟩:=q z om;repeat first|refine bZ rfl ?_|refine cp _ aE ?_|refine cp _ aR ?_|refine cO ?_
        apply aZ<;>intro ag
        ·rw[X' (abA ap I (f_ ag))]at hC;exact oR
        exact⟨z+1,⟨ap,λy e _=>(aiW.1 e).elim (λh=>az y h J) (λh=>by subst h;exact e_ ag)⟩,ik,.eP 0 [0,1],Z,Z⟩
       exact⟨Y+1,⟨I,λaQ ai L am h=>(aiW.1 h).elim (λh=>au aQ ai L am h) (λh=>by subst h;exact az aQ (Nat.lt_of_lt_of_le am (dK an)) J)⟩,ik,.eP 0 [0,1],Z,Z⟩
      have I:j' x.ps<=Y:=by have:=dK aq;omega
      rw[W' (Q0 λz ai L J=>au z ai L J om)]at hC;refine ck.arr (gA:=[.box (dcW x (.ps af aj 7 S c) (fY F v o n f1) (fY m P p w f2) (fY t r s Q f3) [.int .i64 (ais ad),.str U,.str ae,.str X,.int .i64 aa,t4,T,d4]),.row 5 ([fY F v o n f1,fY m P p w f2,fY t r s Q f3].map λM=>M.map V.d)]) (fx:=[(5,.bp 0 0),(9,.ms 1 5 0 3 3),(10,cl 0)]) (.eP 0 [1,2]) ?_;refine ck.iter (λy:Nat×n_ cP=>[(5,.bp 0 0),(9,.ms 1 5 0 (j' y.2) (j' y.2)),(10,cl y.1)]) (λy=>[.box (dcW x (.ps af aj 7 S c) (fY F v o n f1) (fY m P p w f2) (fY t r s Q f3) [.int .i64 (ais ad),.str U,.str ae,.str X,.int .i64 aa,t4,T,d4]),.row 5 (y.2.map λM=>M.map V.d)]) (λy=>j' x.ps-y.1) (λy=>y.1<=j' x.ps/\dZ ([x.lo,x.up,x.ty]++(x.ps.take y.1).map ny.b) y.2) ?_ (0,[fY F v o n f1,fY m P p w f2,fY t r s Q f3]) ⟨ait _,.cons aY (.cons aL (.cons bc .nil))⟩;rintro⟨u,b⟩ ⟨aM,hA⟩;have aM:u<=j' x.ps:=aM;have hA:dZ ([x.lo,x.up,x.ty]++(x.ps.take u).map ny.b) b:=hA;apply aZ<;>intro W
      ·have nH:u<j' x.ps:=by have:=eK W;omega
       obtain⟨j,g,i,f,f7,hbb,R⟩:=q u nH;refine bZ Z ?_;refine cp _ R ?_;have aC:=hA.len;simp only[aiA,aiB,aiD,aiz,aiH]at aC;have aI:dZ ([x.lo,x.up,x.ty]++(x.ps.take (u+1)).map ny.b) (b++[fY j g i f f7]):=by
        exact KC
       have be:V.ms 2 5 0 (j' b+1) (j' b+1)=V.ms 2 5 0 (j' (b++[fY j g i f f7])) (j' (b++[fY j g i f f7])):=by rw[aiA];try rfl
       intro bD;refine a6 Z (a6 ⟨Z,Z,by simp,aiw _,ug (by show (j' b)<=_;omega) (aiw _) (aiy Z)⟩ (a7 Z (a7 (ej _) ?_)));exact⟨(u+1,b++[fY j g i f f7]),⟨nH,aI⟩,ik,.pick 0 [0,2] ⟨Z,d_ q' be,int_eq (cF om),tv⟩ Z Z Z Z Z dc ⟨Z,Z,Ds _ 5 b _,Dr _ _ _,tv⟩,Z,Z⟩
      have nH:j' x.ps<=u:=by have:=dK W;omega
      rw[aiC nH]at hA;exact ck.arr (gA:=[.box (dcW x (.ps af aj 7 S c) (fY F v o n f1) (fY m P p w f2) (fY t r s Q f3) [.int .i64 (ais ad),.str U,.str ae,.str X,.int .i64 aa,t4,T,d4]),.row 5 (b.map λM=>M.map V.d)]) (fx:=[(5,.bp 0 0),(9,.ms 1 5 0 (j' b) (j' b))]) (.pick 0 [0,1] ⟨Z,Z,tv⟩ Z Z Z Z Z dc ⟨Z,Z,d_ q' (Nw _ _ _).symm,Dr _ _ _,tv⟩) (aJ b ⟨⟨hA,om⟩,hC⟩))
 rintro b ⟨⟨hA,bt⟩,hC⟩;have aH:=hA.len;have aW:j' (oE x)<=11:=by simp only[oE,aiA,aiB,aiD,aiz];omega
 have ab:∀bo∈oE x,hO bo/\cM bo<1073741824:=by
  intro bo aF;simp only[oE,List.cons_append,List.nil_append,aiX,List.mem_map]at aF;rcases aF with rfl|rfl|rfl|⟨bi,bg,rfl⟩
  ·exact⟨l.lo,a.1⟩
  ·exact⟨l.up,a.2.1⟩
  ·exact⟨l.ty,a.2.2.1⟩
  exact⟨(l.ps bi bg).1,a.2.2.2.1 bi bg⟩
 generalize oE x=ts at hA aH ab aW hC;refine ck.iter (λk:Nat=>[(5,.bp 0 0),(9,.ms 1 5 0 (j' b) (j' b)),(11,cl k)]) (λ_=>_) (λk=>j' ts-k) (λk=>k<=j' ts/\qD ts=qD (ts.drop k)) ?_ 0 ⟨ait _,Z⟩;rintro k ⟨aS,A⟩;apply aZ<;>intro W
 ·have d:k<j' ts:=by have:=eK W;omega
  obtain⟨bY,e,al⟩:=hA.get d;obtain⟨aK,br⟩:=ab _ (aix d);obtain⟨j,g,i,f,f7,rfl⟩:=al.dL;have R:nth (b.map λM=>M.map V.d) (0+k)=q' ((fY j g i f f7).map V.d):=by rw[aiY,cx,aiG,e];try rfl
  refine bZ Z (a6 (by show k<j' b;omega) ?_);refine cp _ R ?_;refine D9 ts[k] (fY j g i f f7) al aK om ?_;rw[aiF d,qD]at A;cases O:p3 ts[k]with
  |true=>
   rw[O,X' rfl]at A;rw[A]at hC;exact oR
  |false=>
   rw[O,W' dc]at A;exact⟨k+1,⟨d,A⟩,ik,.eS,Z,Z⟩
 rw[aiN (by have:=dK W;omega),qD]at A;rw[A,W' dc]at hC;apply aZ<;>intro av
 ·refine adI X3 x.ex _ bm l.ex om _ _ ?_;exact oR
 have aN:x.ex=mw:=by
  rcases l.kind with h|h|h
  ·exact h.2.2.1
  ·rw[h.1]at av;cases av
  exact h.2.2.2.2.2.1
 exact a8 0 ⟨Z,by rw[hC,aN];try rfl⟩
def IF(y:Da)(K:cP)(u:xj y K)(w:∀x∈y.is,fQ x.p=A'/\c8 x.a=A')(Q:j' y.is<=16):b7 C cm n6 [.agg (K.map V.d)] [] λA n=>n=[]/\A=.ret (cl (jC y.p [] y.is)):=by
 obtain⟨P,s,p,F,rfl⟩:=u;obtain⟨h,b,J⟩:=y;have w:∀x∈b,fQ x.p=A'/\c8 x.a=A':=w;have Q:j' b<=16:=Q;have p:sN b P:=p;clear F;show b7 _ _ _ _ _ λA n=>n=[]/\A=.ret (cl (jC h [] b));refine cD ?_;cases p with
 |nil=>
  exact iH
 |ps=>
  rename_i L I M E;have v:j' (b.map fT)=j' b:=aiz _;have r:∀c (q:c<j' b),nth (b.map fT) c=q' (fT b[c]):=λc q=>by rw[cx,aiG,aiv q];try rfl
  refine ck.iter (λc:Nat=>[(1,.bp 0 0),(3,cl c)]) (λ_=>[.box [cv h,.d (.ps L I 2 M (b.map fT)),.d s]]) (λc=>j' b-c) (λc=>c<=j' b/\jC h [] b=jC h (b.take c) (b.drop c)) ?_ 0 ⟨ait _,Z⟩;rintro c ⟨p,d⟩;apply aZ<;>intro e
  ·have g:c<j' b:=v▸eK e;obtain⟨G,a⟩:=w _ (aix g);have H:(!c8 b[c].a)=B':=by rw[a];try rfl
   rw[aiF g,jC]at d;refine bZ Z ?_;refine cp _ (r c g) ?_;refine z7 b[c].p ?_;rw[G];refine fC b[c].a (by have:=re a;omega) ?_;repeat first|refine Ae ?_|refine kf ?_
   apply aZ<;>intro i
   ·have i:decide (b[c].p=h)=A':=i;rw[X' (f_ i)]at d;exact a8 0 ⟨Z,by rw[d];try rfl⟩
   have i:decide (b[c].p=h)=B':=i;rw[W' (e_ i)]at d;refine ck.iter (λf:Nat=>[(1,.bp 0 0),(3,cl c),(4,.bp 1 0),(5,cl f)]) (λ_=>[.box [cv h,.d (.ps L I 2 M (b.map fT)),.d s],.box [cv b[c].p,cv b[c].a]]) (λf=>c-f) (λf=>f<=c/\(b.take f).any (pK b[c])=B') ?_ 0 ⟨ait _,Z⟩;rintro f ⟨B,Y⟩;apply aZ<;>intro t
   ·have k:f<c:=eK t;have j:=r f om;have D:f<j' b:=om;have o:pK b[c] b[f]=A'->jC h [] b=5:=λq=>by
     rw[d,X' (List.any_eq_true.2 ⟨_,aiP.2 ⟨f,by rw[aiH];omega,by rw[List.getElem_take]⟩,q⟩)]
    refine bZ Z ?_;refine cp _ j ?_;apply aZ<;>intro z
    ·have l:decide (b[f].p=b[c].p)=A':=z;repeat first|refine bZ rfl ?_|refine cp _ j ?_|refine Ae ?_|refine cO ?_
     exact a8 0 ⟨Z,by rw[o (by rw[pK,l,Bool.true_or])];rfl⟩
    have l:decide (b[f].p=b[c].p)=B':=z;repeat first|refine bZ rfl ?_|refine cp _ j ?_|refine Ae ?_|refine cO ?_
    apply aZ<;>intro R
    ·have m:decide (b[f].a=b[c].a)=A':=R;exact a8 0 ⟨Z,by rw[o (by rw[pK,m,Bool.or_true])];rfl⟩
    have m:decide (b[f].a=b[c].a)=B':=R;refine⟨f+1,⟨k,?_⟩,ik,.eS,Z,Z⟩;rw[aiM,aiv D,List.any_append,Y];simp[pK,e_ l,e_ m]
   have k:c=f:=Nat.le_antisymm (dK t) B;subst k;rw[W' (by rw[Y];decide)]at d;exact⟨c+1,⟨g,by rw[d,aiM,aiv g];try rfl⟩,ik,.eP 0 [0],Z,Z⟩
  rw[aiN (v▸dK e),jC]at d;exact a8 0 ⟨Z,by rw[d];try rfl⟩
def IG(N:Da)(ad:cP)(H:xj N ad)(R:Xs N):b7 C cm rA [.agg (ad.map V.d)] [] λe j=>j=[]/\e=.ret (.dP [.d (.int .i64 (Hd N).1),cl (Hd N).2]):=by
 have X:=R.size;have l:=R.ds;have u:=R.path;have S:=NG N ad H om (λx ah _=>(l x ah).ex);have A:=IF N ad H R.is;clear R;obtain⟨h,i,v,p,rfl⟩:=H;obtain⟨d,c,b⟩:=N;have U:jg b<=4096:=by have:1+j' c+jg b<=4096:=X;omega
 have ak:=xy b;have l:∀x∈b,vp x:=l;have S:b7 C cm ji [.agg [cv d,.d h,.d i]] [] λe j=>j=[]/\∃g,g<=D7 ⟨d,c,b⟩/\e=.ret (cl g):=S;have A:j' c<=16->b7 C cm n6 [.agg [cv d,.d h,.d i]] [] λe j=>j=[]/\e=.ret (cl (jC d [] c)):=A;have a:(h=.cu/\c=[])∨∃M I T,h=.ps M I 2 T (c.map fT):=by
  have v:sN c h:=v;cases v with
  |nil=>exact .inl ⟨rfl,rfl⟩
  |ps=>exact .inr ⟨_,_,_,rfl⟩
 have D:(i=.cu/\b=[])∨∃M I T f,i=.ps M I 31 T f/\oD b f:=by
  have p:ul b i:=p;cases p with
  |nil=>exact .inl ⟨rfl,rfl⟩
  |ps w _=>exact .inr ⟨_,_,_,_,rfl,w⟩
 clear v p;have hM:Hd ⟨d,c,b⟩=if(if 16<j' c∨64<j' b then 7 else jC d [] c)≠0 then(-1,if 16<j' c∨64<j' b then 7 else jC d [] c)else(ais (kc [] b).1,(kc [] b).2):=rfl
 generalize Hd ⟨d,c,b⟩=z at hM⊢;refine cD ?_;refine z7 d ?_;rw[show fQ d=A' from u];have q:∀{O:VS} {ae:dt->VS->Prop},(∀g:Nat,g<=4096->ae (.ret (cl g)) O)->b7 C cm ji [.agg [cv d,.d h,.d i]] O ae:=fun{O ae} af=>
  b7.closed (P:=λe=>∃g,g<=D7 ⟨d,c,b⟩/\e=.ret (cl g)) (S.mono λe j w=>⟨w.1,by obtain⟨g,_,J⟩:=w.2;rw[J];try rfl,w.2⟩) rfl (λe ⟨g,ai,J⟩=>by rw[J];exact af g om)
 have E:∀g L:Nat,L<g->decide (ais L<ais g)=A':=λg L w=>a_ (by simp only[aiu];omega);have r:∀g L:Nat,¬L<g->decide (ais L<ais g)=B':=λg L w=>Z' (by simp only[aiu];omega);by_cases t:16<j' c
 ·rw[X' (Or.inl t),X' dc]at hM;rcases a with⟨rfl,rfl⟩|⟨ab,W,ac,rfl⟩
  ·exact Y' t dc
  have F:decide (16<ais (j' (c.map fT)))=A':=E (j' (c.map fT)) 16 (by rw[aiz];exact t);rcases D with⟨rfl,rfl⟩|⟨M,I,T,f,rfl,s⟩;all_goals
   repeat first|refine Ae ?_|refine kf ?_
   exact xX
 by_cases Q:64<j' b
 ·rw[X' (Or.inr Q),X' dc]at hM;rcases D with⟨rfl,rfl⟩|⟨M,I,T,f,rfl,s⟩
  ·exact Y' Q dc
  have K:decide (64<ais (j' f))=A':=E (j' f) 64 (by rw[s.len];exact Q);rcases a with⟨rfl,rfl⟩|⟨ab,W,ac,rfl⟩;all_goals
   try have F:decide (16<ais (j' (c.map fT)))=B':=r (j' (c.map fT)) 16 (by rw[aiz];exact t)
   repeat first|refine Ae ?_|refine kf ?_
   exact xX
 have aa:(if 16<j' c∨64<j' b then 7 else jC d [] c)=jC d [] c:=W' λw=>w.elim t Q;rw[aa]at hM;have B:=A om;clear A aa;generalize jC d [] c=ag at hM B;rcases a with⟨rfl,rfl⟩|⟨ab,W,ac,rfl⟩<;>rcases D with⟨rfl,rfl⟩|⟨M,I,T,f,rfl,s⟩;all_goals
  try have aj:=s.len
  try have F:decide (16<ais (j' (c.map fT)))=B':=r (j' (c.map fT)) 16 (by rw[aiz];exact t)
  try have K:decide (64<ais (j' f))=B':=r (j' f) 64 (by rw[s.len];exact Q)
  repeat first|refine Ae ?_|refine kf ?_
  refine q (λg ai=>?_);have al:decide (4096<ais g)=B':=r g 4096 om;repeat first|refine Ae ?_|refine kf ?_
  refine cI B Z Z ?_;apply aZ<;>intro o
  ·have Y:ag≠0:=λJ=>by rw[J]at o;cases o
   rw[X' Y]at hM;exact xX
  rw[W' (λw=>w (jq o))]at hM;first
   |refine ck.loop ?_
    exact a8 0 ⟨Z,by rw[hM];try rfl⟩
   |refine iV (fx:=[(1,.bp 0 0),(5,cl 0)]) ?_
    refine ck.iter (λy:Nat=>[(1,.bp 0 0),(5,cl y)]) (λ_=>_) (λy=>j' b-y) (λy=>y<=j' b/\kc [] b=kc (b.take y) (b.drop y)) ?_ 0 ⟨ait _,Z⟩;rintro y ⟨v,m⟩;apply aZ<;>intro G
    ·have k:y<j' b:=by have:=eK G;omega
     have n:b[y]∈b:=aix k;refine cI (Q1 s M I T k om (l _ n) (Te (l _ n) (Nat.le_trans (He n) U))) Z Z ?_;rw[aiF k,kc]at m;apply aZ<;>intro o
     ·have Y:yX (b.take y) b[y]≠0:=λJ=>by rw[J]at o;cases o
      rw[X' Y,aiH,Nat.min_eq_left v]at m;exact a8 0 ⟨Z,by rw[hM,m];try rfl⟩
     rw[W' (λw=>w (jq o))]at m;exact⟨y+1,⟨k,by rw[m,aiM,aiv k];try rfl⟩,ik,.eS,Z,Z⟩
    rw[aiN (by have:=dK G;omega),kc]at m;exact a8 0 ⟨Z,by rw[hM,m];try rfl⟩
def NV(s:cC)(g:UInt8)(f:cC)(c:s=g::f)(d:j' s<4294967296)(b:a (.ret (ad9 (j7 s))) A):b7 C cm pV [cv s] A a:=by
 refine cI (Iv s g f c d) Z ?_ b;cases j7 s<;>rfl
def aio:Nat->Bool:=λb=>aiE b 36||aiE b 50
def rlT(b:cC)(x:Nat×n_ Tok):Tm:=[(0,cv b),(5,.ms 0 3 0 (j' x.2) (j' x.2)),(6,cl x.1)]
def rlS(b:n_ Tok):VS:=[lB b]
def abB{b:Nat}(f:E<=T)(c:T<4294967296)(d:b=1:=by rfl):(E+b)*32<=en/\E+b<=en:=by
 unfold en;omega
def adL(b:n_ Tok)(c:Tok):q' (cX.row 3 (aiR (j' b) (aiS 0 (b.map λc=>(pn c).map V.d))++[(pn c).map V.d]))=q' (eb I (lB (b++[c]))):=by
 rw[Lh,lB,aiK,aiQ,aiC sm];try rfl
def afU(d:Nat)(b:n_ Tok)(c:Tok):q' (V.ms d 3 0 (j' b+1) (j' b+1))=q' (V.ms d 3 0 (j' (b++[c])) (j' (b++[c]))):=by simp
def X4(c:cC)(b:Nat)(g:b<=j' c)(h:j' c<4294967296){i:V}(f:i=cl b)(d:a (.ret (cl (dO B' (c.drop b)))) A):b7 C cm qt [cv c,i] A a:=by
 subst f;exact D3 c b g h d
def TF(s:cC)(y:∀Y,Sn (k5 s) Y->a Y A):b7 C cm zK [cv s] A a:=by
 refine b7.closed (P:=Sn (k5 s)) ?_ Z y;refine cB aio (λ_=>Z) ?_;apply aZ<;>intro e
 ·have k:65536<j' s:=eK (a:=65536) e;refine cV.now Z ⟨Z,Z,?_⟩;rw[k5,X' k];try rfl
 have k:j' s<=65536:=dK (a:=65536) e;have r:j' s<4294967296:=om;refine D3 s 0 (ait _) r ?_;refine ck.iter (rlT s) (λx=>rlS x.2) (λx=>j' s-x.1) (So s) ?_ (dO B' s,[]) ⟨uf B' s,ait _,j' s+1,by show (j' s)-dO B' s<j' s+1;omega,by rw[Bq]⟩;rintro⟨c,b⟩ ⟨n,d,f,l,h⟩;have n:c<=j' s:=n;have d:j' b<=c:=d;have l:j' s-c<f:=l;have h:jA s (j' s+1) (dO B' s)=(jA s f c).Wm b:=h;obtain⟨f,rfl⟩:∃g,f=g+1:=⟨f-1,om⟩;apply aZ<;>intro v
 ·have i:c<j' s:=eK v;have w:s.drop c=s[c]::s.drop (c+1):=aiF i;refine bZ Z (a6 ⟨n,aiw _⟩ ?_);rw[List.take_length];refine NV (s.drop c) _ _ w (by rw[aiT];omega) ?_;cases j:j7 (s.drop c)with
  |err B=>
   have Q:=Fo j;refine aZ (λt=>?_) (λt=>Y' (jq t) Q);refine cV.drop 0 ?_ ?_ ?_ ?_
   ·exact Z
   ·exact Z
   ·exact Z
   refine cV.now Z ⟨Z,Z,?_⟩;rw[TR k i j h];try rfl
  |ok z R m=>
   have F:=xd j;rw[aiT]at F;have p:c+m<=j' s:=om;have o:=uf B' (s.drop (c+m));rw[aiT]at o;intro u;refine a6 Z (a6 ⟨Z,Z,by simp[lB],aiw _,abB d om⟩ ?_);refine a7 Z (a7 (ej (j' b)) ?_);refine X4 s (c+m) p r (d_ V.d (d_ (D.int .i64) (dk om))) ?_;refine⟨(c+m+dO B' (s.drop (c+m)),b++[⟨z,R,c⟩]),Gv i l d j h,by show (j' s)-(c+m+dO B' (s.drop (c+m)))<j' s-c;omega,?_,Z,Z⟩;refine .pick 0 [2] ⟨Z,afU 2 b ⟨z,R,c⟩,int_eq ?_,tv⟩ Z Z Z Z Z dc ⟨adL b ⟨z,R,c⟩,Ul _ _,tv⟩;rw[dk om];exact dk om
 have i:j' s<=c:=dK v;intro u;refine a6 Z (a6 ⟨Z,Z,by simp[lB],aiw _,abB d om⟩ ?_);refine a7 Z (a7 (ej (j' b)) ?_);rw[Sp k i h];refine MU 1 (b++[⟨0,[],j' s⟩]) (j' b+1) sm ?_;exact zP b (j' b) Z ⟨0,[],j' s⟩
def Ht(f:cC)(d:dt):Prop:=match k5 f with
 |.ok ts=>∃g c,d=.ret ((cq 0).v ⟨g,c,ts⟩)
 |.err b h=>d=.ret (.agg [.d .cu,cl 0,cl b,cl h])
def NW(s:cC)(h:∀g,Ht s g->a g A):b7 C cm wO [cv s] A a:=by
 refine b7.closed (P:=Ht s) ?_ Z h;refine cD ?_;refine TF s (λg b=>?_);cases c:k5 s with
 |err d j=>
  rw[c]at b;have b:g=.ret (.dP [.d .cu,cl d,cl j]):=b;subst b;refine a8 0 ⟨Z,Z,by rw[Ht,c];try rfl⟩
 |ok ts=>
  rw[c]at b;obtain⟨i,f,rfl⟩:=b;refine a8 0 ⟨Z,Z,by rw[Ht,c];exact⟨i,f,rfl⟩⟩
def X5(R:Rd)(b:Nat):gG R b=(PR.and (gj R) (dC (fH 1 R) R [97,115]) b).map λc=>⟨c.1,c.2⟩:=by
 unfold gG PR.and PR.bind;rw[show dp R=fH 1 R from rfl];cases gj R b with
 |bad f g=>rfl
 |ok s d=>dsimp only;cases dC (fH 1 R) R [97,115] d<;>rfl
def TG{R:Rd}(w:R.Wf){j:ux}(f:E<j' R.ts)(d:gG R E=.ok j T):E<T:=by
 rw[gG]at d;split at d
 ·cases d
 rename_i s q2 g;obtain⟨n,i⟩:=PT w f g;obtain⟨x,b,_⟩:=dY d;rw[dC]at b;split at b
 ·cases b
 rename_i l q3 c;have h:=dI _ _ _ c;obtain⟨m,k⟩:=gy w (eo w _ _ _ i c) b;omega
def ahk:Nat->Bool:=λb=>aiE b 53||aiE b 72||aiE b 82||aiE b 1000017
def Fi(b:Nat):Tm:=[(2,.bp 0 0),(5,.bp 1 0),(6,.bp 2 0),(7,.ms 3 1 0 b b)]
def ofR(b:n_ Nat):cX:=.row 1 ((b.map λd=>[D.int .i64 (ais d)]).map λc=>c.map V.d)
def aip(R:Rd)(c:cC)(b:RS×n_ ux):VS:=[.box [cv [],.d .cu,.d .cu],.box (B0 R b.1),.box [cv c,kV 4 2 (b.2.map fT),.d .cu],ofR [],kO 2 (b.2.map fT)]
def U6(R:Rd)(f:cC)(c:D)(y:RS)(b:n_ cP)(d:n_ Nat):VS:=[.box [cv [],.d .cu,.d .cu],.box (B0 R y),.box [cv f,.d c,kV 4 31 b],ofR d,kO 31 b]
def abC(d:Nat)(b:n_ Nat)(c:Nat):q' (V.ms d 1 0 (j' b+1) (j' b+1))=q' (V.ms d 1 0 (j' (b++[c])) (j' (b++[c]))):=by simp
def U7(b:n_ Nat)(c:Nat):q' (cX.row 1 (aiR (j' b) (aiS 0 ((b.map λf=>[D.int .i64 (ais f)]).map λd=>d.map V.d))++[[V.d (.int .i64 (ais c))]]))=q' (eb I (ofR (b++[c]))):=by
 rw[ofR,k9,aiQ,aiC sm,aiK,aiK];try rfl
def abD{α:Type}(b:PR α)(R:Rd)(y:RS)(F:Nat->Nat->PR α):Prop:=(y.e≠0/\b=.bad y.off y.e)∨(y.e=0/\∃f,j' R.ts-y.p<=f/\b=F f y.p)
def abD.step{α β:Type}{b:PR α}{R:Rd}{y:RS}{g:PR β}{l:β->Nat->PR α}{P:β->Prop}(n:eF g y P)(m:b=g.bind l){F:Nat->Nat->PR α}(k:∀c,P c->∃f,j' R.ts-y.p<=f/\l c y.p=F f y.p):abD b R y F:=by
 rcases n.left with⟨i,c⟩|⟨i,o,c,j⟩
 ·exact .inl ⟨i,by rw[m,c];try rfl⟩
 obtain⟨f,h,d⟩:=k o j;exact .inr ⟨by rw[i];try rfl,f,h,by rw[m,c];exact d⟩
def adM(c:Nat->PR Ty)(b:Nat->PR Ex)(R:Rd)(g:cC)(d:n_ ux)(f:Nat):PR (Da×n_ Nat):=(ja c b R (j' R.ts) [] [] f).map λx=>(⟨g,d,x.1⟩,x.2)
def afV(c:Nat->PR Ty)(b:Nat->PR Ex)(R:Rd)(f:Nat):rR c b R f=(dC (gj R) R [109,111,100,117,108,101] f).bind λs d=>(eI R (j' R.ts) [] d).bind (adM c b R s):=by
 unfold rR PR.bind;cases dC (gj R) R [109,111,100,117,108,101] f with
 |bad g h=>rfl
 |ok s d=>dsimp only;cases eI R (j' R.ts) [] d<;>rfl
def ahl(R:Rd)(f:PR (Da×n_ Nat)):Da×Nat×Nat:=match f with
 |.bad c g=>(oL,c,g)
 |.ok b d=>if(R.tok d).kind≠0 then(oL,(R.tok d).off,3)else if oF b.1≠0 then(oL,0,oF b.1)else if(kc [] b.1.ds).2≠0 then(oL,b.2.getD (kc [] b.1.ds).1 0,(kc [] b.1.ds).2)else(b.1,0,0)
theorem Rf(s:cC)(bi:∀ts,k5 s=.ok ts->j' ts<=4097):b7 C cm vN [cv s] [] λaN aW=>aW=[]/\da aN=A'/\Tk s aN:=by
 refine cB ahk (λ_=>Z) ?_;refine NW s (λaN o=>?_);unfold Ht at o;cases P:k5 s with
 |err au O=>
  rw[P]at o;have o:aN=.ret (.agg [.d .cu,cl 0,cl au,cl O]):=o;subst o;have aG:=GL P;have hp:yY s=(oL,au,O):=by rw[yY,P]
  refine aZ (λaX=>?_) (λaX=>Y' (jq aX) aG);refine cy ?_;refine a8 0 ⟨Z,Z,Cj hp⟩
 |ok ts=>
  rw[P]at o;obtain⟨b,d,rfl⟩:=o;obtain⟨w,E⟩:=BG (R:=⟨b,d,ts⟩) P;have H:=BJ (R:=⟨b,d,ts⟩) P;have aw:=aao (R:=⟨b,d,ts⟩) P;have ap:=Qm (R:=⟨b,d,ts⟩) P;have aK:=Lv (R:=⟨b,d,ts⟩) P;have aI:j' ts<=4097:=bi ts P;have ab:=Hn w aw (j' ts) 0 (aiI _ _);have aV:=afP w ap aw aK (j' ts) 0 (aiI _ _);have hp:yY s=ahl ⟨b,d,ts⟩ (rR (iM ⟨b,d,ts⟩ (j' ts)) (By ⟨b,d,ts⟩ (j' ts)) ⟨b,d,ts⟩ 0):=by
   have:=UM b d ts 0;rw[show rR (iM ⟨b,d,ts⟩ (j' ts)) (By ⟨b,d,ts⟩ (j' ts)) ⟨b,d,ts⟩ 0=_ from this,yY,P];try rfl
  have aO:=afV (iM ⟨b,d,ts⟩ (j' ts)) (By ⟨b,d,ts⟩ (j' ts)) ⟨b,d,ts⟩ 0;have aT:ts=(⟨b,d,ts⟩:Rd).ts:=rfl;generalize (⟨b,d,ts⟩:Rd)=R at*;subst aT;have bc:=w.len;generalize bf:rR (iM R (j' R.ts)) (By R (j' R.ts)) R 0=g at aO hp;have aq:(cq 0).ge 0:=.xC (aiw _);refine cH R w (cq 0) [109,111,100,117,108,101] E ?_;refine U1 w H om 0 _ (cW w (s:=[109,111,100,117,108,101]) E) aq.expect (λs1 bl aH=>?_);have aH:=Out.after w E aq aH;refine iV (fx:=Fi 0) ?_;refine ck.gone ?_;refine ck.iter (λ_:RS×n_ ux=>Fi 0) (aip R s1) (λc=>if c.1.e=0 then (j' R.ts)-c.1.p+1 else 0)
   (λc=>c.1.p<j' R.ts/\c.1.ge 0/\(c.1.e=0->j' c.2<=c.1.p)/\abD g R c.1 (λf p=>(eI R f c.2 p).bind (adM (iM R (j' R.ts)) (By R (j' R.ts)) R s1))) ?_ (bl,[]) ⟨aH.lt,aH.ge,λ_=>ait _,.step (aH.B1 rfl) aO λbe ad=>⟨_,aiI _ _,by rw[ad]⟩⟩
  rintro⟨y,j⟩ ⟨W,G,q,m⟩;have W:y.p<j' R.ts:=W;have G:y.ge 0:=G;have q:y.e=0->j' j<=y.p:=q;have m:abD g R y (λf p=>(eI R f j p).bind (adM (iM R (j' R.ts)) (By R (j' R.ts)) R s1)):=m;refine cL R y [105,109,112,111,114,116] W ?_;apply aZ<;>intro r
  ·obtain⟨aM,bj,bt⟩:=Out.next w W G r
   have ah:=(c9 r).1;refine cT R y om ?_;refine U1 w H om 0 _ aM bj (λK i e=>?_);refine cH R w i [97,115] e.lt ?_;have aU:=cW w (s:=[97,115]) e.lt;refine dv R w _ 1 aU ?_;have az:=(e.and (Out.after w e.lt e.ge (Out.kind (k:=1) w dc aU e.ge.expect))).to _ (X5 R _) (Q:=λbs=>bs=⟨K,(i.expect R [97,115]).dq R 1⟩) λaF ⟨c,b⟩=>by rw[c,b]
   have q:=q ah;generalize (i.expect R [97,115]).dq R 1=M at*;generalize (i.expect R [97,115]).word R 1=v at*;have o:=az.B1 ah;have J:v.e=0->y.p+1<v.p:=λh=>by
    rcases o.left with⟨c,_⟩|⟨_,_,b,_⟩
    ·exact Y' h c
    exact TG w aM b
   have am:v.p<j' R.ts/\v.ge 0/\(v.e=0->j' (j++[(⟨K,M⟩:ux)])<=v.p)/\abD g R v (λf p=>(eI R f (j++[⟨K,M⟩]) p).bind (adM (iM R (j' R.ts)) (By R (j' R.ts)) R s1)):=by
    refine⟨az.lt,az.ge,λh=>by have:=J h;simp only[aiA,aiB,aiD];omega,?_⟩;rcases m with⟨c,_⟩|⟨_,f,bh,m⟩
    ·exact Y' ah c
    obtain⟨f,rfl⟩:∃k,f=k+1:=⟨f-1,om⟩;have m:g=(eI R (f+1) j y.p).bind _:=m;rw[eI,X' (c9 r).2]at m;rcases o.left with⟨c,b⟩|⟨c,be,b,ad⟩
    ·have b:gG R (y.p+1)=_:=b;rw[b]at m;exact .inl ⟨c,m⟩
    have b:gG R (y.p+1)=_:=b;rw[b,ad]at m;have ay:v.e=0:=by rw[c];try rfl
    have:=J ay;exact .inr ⟨ay,f,om,m⟩
   have L:(if v.e=0 then (j' R.ts)-v.p+1 else 0)<(if y.e=0 then (j' R.ts)-y.p+1 else 0):=by
    all_goals grind
   intro bn;rcases j with _|⟨U,u⟩
   ·refine a6 Z (a6 ⟨aiy Z,aiy Z⟩ (a7 Z ?_));exact⟨(v,[⟨K,M⟩]),am,L,.pick 4 [0,1,2,3,6] ⟨Z,Z,Z,Z,tv⟩ Z Z Z Z Z dc ⟨Z,Z,Z,Z,Z,Z,Z,Z,mZ _ 2 [.str K,.str M],iE _ _ _,tv⟩,Z,Z⟩
   have aj:j' (u.map fT)+1<=4294967296:=by simp only[aiB,aiz]at q⊢;omega
   refine a6 Z (a6 ⟨Z,Z,by simp,aiw _,ug aj (aiw _) (aiy Z)⟩ (a7 Z (a7 (mY _) ?_)));exact⟨(v,(U::u)++[(⟨K,M⟩:ux)]),am,L,.pick 4 [0,1,2,3,6] ⟨Z,Z,Z,Z,tv⟩ Z Z Z Z Z dc ⟨Z,Z,Z,Z,Z8 s1 U u ⟨K,M⟩ Z,ad7 _ _ Z,Z,Z,Z9 U u ⟨K,M⟩,iE _ _ _,tv⟩,Z,Z⟩
  have av:(y.e≠0/\g=.bad y.off y.e)∨(y.e=0/\g=(ja (iM R (j' R.ts)) (By R (j' R.ts)) R (j' R.ts) [] [] y.p).map λx=>(⟨s1,j,x.1⟩,x.2)):=m.imp id λ⟨c,f,bh,O⟩=>⟨c,by
   obtain⟨f,rfl⟩:∃k,f=k+1:=⟨f-1,om⟩;have O:g=(eI R (f+1) j y.p).bind _:=O;rw[O,eI,W' (by rw[cJ r c];decide)];rfl⟩
  clear m q;apply de (ι:=D) (T:=λ_=>Fi 0) (S:=λYb=>U6 R s1 Yb y [] []) (I:=λYb=>sN j Yb)
  ·intro hC;rcases j with _|⟨U,u⟩
   ·exact ck.arr (fx:=Fi 0) (gA:=U6 R s1 .cu y [] []) .eS (hC .cu .nil)
   refine kN 4 2 (Fi 0) (es:=2) (l:=(U::u).map fT) Z Z (dF _) ⟨Z,Z,Z,Z,tv⟩ (by repeat' (first|exact tv|exact λh=>Y' (show(3:Nat)=4 from h) dc|refine aiZ ?_ ?_)) ⟨tv,λ_=>⟨Z,by simp⟩,tv,tv⟩ (λb=>?_);exact ck.arr (fx:=Fi 0) (gA:=U6 R s1 (.ps b (0*2) 2 (j' (u.map fT)+1) (aiR (j' (u.map fT)+1) (aiS 0 ((U::u).map fT)))) y [] []) .eS (hC _ (by rw[eG _ _ sm];exact .ps sm))
  rintro Yb aC;refine ck.iter (λc:RS×n_ cP×n_ Nat=>Fi (j' c.2.2)) (λc=>U6 R s1 Yb c.1 c.2.1 c.2.2) (λc=>if c.1.e=0 then (j' R.ts)-c.1.p+1 else 0)
   (λc=>c.1.p<j' R.ts/\c.1.ge 0/\(c.1.e=0->j' c.2.1<=c.1.p/\j' c.2.2<=c.1.p)/\((c.1.e≠0/\g=.bad c.1.off c.1.e)∨(c.1.e=0/\∃ds f,oD ds c.2.1/\j' R.ts-c.1.p<=f/\g=(ja (iM R (j' R.ts)) (By R (j' R.ts)) R f ds c.2.2 c.1.p).map λx=>(⟨s1,j,x.1⟩,x.2)))) ?_ (y,[],[]) ⟨W,G,λ_=>⟨ait _,ait _⟩,av.imp id λ⟨c,O⟩=>⟨c,[],_,.nil,aiI _ _,O⟩⟩
  clear av r G W;rintro⟨z,els,os⟩ ⟨A,ae,t,m⟩;have A:z.p<j' R.ts:=A;have ae:z.ge 0:=ae;have t:z.e=0->j' els<=z.p/\j' os<=z.p:=t;have hE:¬(z.e=0/\(R.tok z.p).kind≠0)->∀n,(∀ds,oD ds els->ul ds n)->((z.e≠0/\g=.bad z.off z.e)∨(z.e=0/\(R.tok z.p).kind=0/\∃ds,g=.ok (⟨s1,j,ds⟩,os) z.p/\ul ds n)):=λI n ao=>by
   rcases m with h|⟨h,ds,f,an,ak,F⟩
   ·exact .inl h
   have h:z.e=0:=h;have T:(R.tok z.p).kind=0:=Decidable.of_not_not λN=>I ⟨h,N⟩;have ak:j' R.ts-z.p<=f:=ak;obtain⟨f,rfl⟩:∃k,f=k+1:=⟨f-1,om⟩;have F:g=(ja (iM R (j' R.ts)) (By R (j' R.ts)) R (f+1) ds os z.p).map λx=>(⟨s1,j,x.1⟩,x.2):=F;rw[ja,W' (λN=>N T)]at F;exact .inr ⟨h,T,ds,F,ao ds an⟩
  apply de (ι:=D) (T:=λ_=>Fi (j' os)) (S:=λn=>[.box [cv [],.d .cu,.d .cu],.box (B0 R z),.box [cv s1,.d Yb,.d n],ofR os,.gone]) (I:=λn=>(z.e≠0/\g=.bad z.off z.e)∨(z.e=0/\(R.tok z.p).kind=0/\∃ds,g=.ok (⟨s1,j,ds⟩,os) z.p/\ul ds n))
  ·intro hC;by_cases I:z.e=0/\(R.tok z.p).kind≠0
   ·obtain⟨Y,B⟩:=I;clear hC;obtain⟨p,rfl⟩:∃p,z=cq p:=⟨_,eH ae Y⟩;have B:(R.tok p).kind≠0:=B;have A:p<j' R.ts:=A;obtain⟨t,S⟩:=t rfl;have t:j' els<=p:=t;have S:j' os<=p:=S;rcases m with⟨c,_⟩|⟨_,ds,f,an,ak,F⟩
    ·exact Y' Y c
    have ak:j' R.ts-p<=f:=ak;have an:oD ds els:=an;obtain⟨f,rfl⟩:∃k,f=k+1:=⟨f-1,om⟩;have F:g=(ja (iM R (j' R.ts)) (By R (j' R.ts)) R (f+1) ds os p).map _:=F;rw[ja,X' B]at F;refine gh R (cq p) 0 A ?_;have T:(!(cq p).isKind R 0)=A':=by
     show(!decide ((R.tok p).kind=0))=A';rw[Z' B];try rfl
    repeat first|refine Ae ?_|refine kf ?_
    have ba:=s8 (cn A);refine bZ Z (cp _ ba ?_);intro bu;refine a6 Z (a6 ⟨Z,Z,by simp,aiw _,ug (show (j' os)<=4294967296 by omega) (aiw _) (aiy Z)⟩ ?_);refine a7 Z (a7 (ej (j' os)) ?_);refine b7.closed (TD w ab.g aV (λbo x p _ r X=>(ab.lt bo x p (ait _) r X).1) p A (ait _)) Z (λaN o=>?_);obtain⟨k,aE,O,aB,a,aa,lw,ac,aF,ai,aS,af,i,e,rfl⟩:=o;have o:=(e.B1 rfl).left;have J:i.e=0->p<i.p:=λh=>by
     rcases o with⟨c,_⟩|⟨_,_,b,_⟩
     ·exact Y' h c
     exact(GU w ab.lt (ZP w ap (j' R.ts) 0 (aiI _ _)).lt (ait _) A b).1
    generalize aL:XX k aE O aB a aa lw ac aF ai aS af=aQ at*;have am:i.p<j' R.ts/\i.ge 0/\(i.e=0->j' (els++[aQ])<=i.p/\j' (os++[(R.tok p).off])<=i.p)/\((i.e≠0/\g=.bad i.off i.e)∨(i.e=0/\∃ds f,oD ds (els++[aQ])/\j' R.ts-i.p<=f/\g=(ja (iM R (j' R.ts)) (By R (j' R.ts)) R f ds (os++[(R.tok p).off]) i.p).map λx=>(⟨s1,j,x.1⟩,x.2))):=by
     refine⟨e.lt,e.ge,λh=>by have:=J h;simp only[aiA,aiB,aiD];omega,?_⟩;rcases o with⟨c,b⟩|⟨c,be,b,ad⟩
     ·have b:km (iM R (j' R.ts)) (By R (j' R.ts)) R p=_:=b;rw[b]at F;exact .inl ⟨c,F⟩
     have b:km (iM R (j' R.ts)) (By R (j' R.ts)) R p=_:=b;rw[b]at F;have ar:i.e=0:=by rw[c];try rfl
     have:=J ar;exact .inr ⟨ar,ds++[be],f,an.snoc ad,om,F⟩
    have L:(if i.e=0 then (j' R.ts)-i.p+1 else 0)<(if(cq p).e=0 then (j' R.ts)-(cq p).p+1 else 0):=by
     show _<j' R.ts-p+1;all_goals grind
    subst aL;intro br;rcases els with _|⟨d0,dr⟩
    ·refine a6 Z (a6 ⟨aiy Z,aiy Z⟩ (a7 Z ?_));exact⟨(i,[XX k aE O aB a aa lw ac aF ai aS af],os++[(R.tok p).off]),am,L,.pick 3 [0,1,2,5,8] ⟨Z,Z,Z,abC 5 os _,tv⟩ Z Z Z Z Z dc ⟨Z,Z,Z,Z,Z,Z,U7 os _,fU _ _ _,mZ _ 31 (XX k aE O aB a aa lw ac aF ai aS af),iE _ _ _,tv⟩,Z,Z⟩
    have aj:j' dr+1<=65537:=by simp only[aiB]at t;omega
    refine a6 Z (a6 ⟨Z,Z,by simp,aiw _,agA aj (aiw _) (aiy Z)⟩ (a7 Z (a7 (mY _) ?_)));exact⟨(i,(d0::dr)++[XX k aE O aB a aa lw ac aF ai aS af],os++[(R.tok p).off]),am,L,.pick 3 [0,1,2,5,8] ⟨Z,Z,Z,abC 5 os _,tv⟩ Z Z Z Z Z dc ⟨Z,Z,Z,Z,Z7 s1 Yb d0 dr _ Z,ad6 _ _ _ Z,U7 os _,fU _ _ _,l2 _ 31 d0 dr (XX k aE O aB a aa lw ac aF ai aS af),iE _ _ _,tv⟩,Z,Z⟩
   have hE:=hE I;by_cases Y:z.e=0
   ·have aD:decide (ais z.e=0)=A':=by rw[Y];try rfl
    have T:(!z.isKind R 0)=B':=by rw[RS.isKind,a_ Y,a_ (Decidable.of_not_not λN=>I ⟨Y,N⟩)];try rfl
    refine cN ?_;refine gh R z 0 A ?_;exact IL
   have aD:decide (ais z.e=0)=B':=Lx Y;exact IL
  clear hE m t;rintro n bb;rcases bb with⟨c,b⟩|⟨c,T,ds,ax,aP⟩
  ·have aD:(!decide (ais z.e=0))=A':=by rw[Lx c];try rfl
   refine cN ?_;refine cy ?_;rw[b]at hp;refine a8 0 ⟨Z,Z,Cj hp⟩
  have aD:(!decide (ais z.e=0))=B':=by rw[c];try rfl
  refine cN ?_;rw[ax,ahl,W' (λN=>N T)]at hp;obtain⟨bk,S,_⟩:=To w H (um w H _) (GY w H _ 0) aI E (bf.trans ax);have ao:xj ⟨s1,j,ds⟩ [.str s1,Yb,n]:=⟨Yb,n,aC,aP,rfl⟩;refine cI (IG _ _ ao bk) Z Z ?_;rw[Hd];by_cases r:oF ⟨s1,j,ds⟩≠0
  ·rw[X' r];rw[X' r]at hp;have aY:(!decide (ais (oF ⟨s1,j,ds⟩)=0))=A':=by rw[Lx r];try rfl
   repeat first|refine Ae ?_|refine kf ?_
   exact oQ
  rw[W' r];rw[W' r]at hp;by_cases X:(kc [] ds).2≠0
  ·rw[X' X]at hp;have aY:(!decide (ais (kc [] ds).2=0))=A':=by rw[Lx X];try rfl
   have bm:decide (0<=ais (kc [] ds).1)=A':=a_ (by simp only[aiu];omega);have aJ:=UP ds [] X;simp only[aiD,aiY]at aJ;have ag:(kc [] ds).1<j' os:=by have:j' os=j' ds:=S;omega
   have aA:nth ((os.map λaE=>[D.int .i64 (ais aE)]).map λaB=>aB.map V.d) (0+(kc [] ds).1)=q' [V.d (.int .i64 (ais (os.getD (kc [] ds).1 0)))]:=by
    rw[aiY,cx,aiG,aiG,aiv ag,List.getD_eq_getElem?_getD,aiv ag];try rfl
   repeat first|refine Ae ?_|refine kf ?_
   refine bZ Z (a6 ag ?_);refine cp _ aA ?_;repeat (refine cO ?_)
   exact oQ
  rw[W' X]at hp;have aR:(kc [] ds).2=0:=om;rw[aR];repeat first|refine Ae ?_|refine kf ?_
  refine a8 0 ⟨Z,Z,?_⟩;rw[Tk,hp];exact⟨_,ao,Z⟩
def nB.inv2(h:nB u G):∃b,rS u b/\((b=[]/\G=.cu)∨∃c f d,G=.ps c f 7 d b):=by
 exact xK
def sE(b:Nat):decide (ais b=ais b)=A':=by simp
def sS(b:cC):decide (b=b)=A':=by simp
def sB(b:Bool):decide (b=b)=A':=by simp
def Q2(U:j' u<4294967296)(A:∀J∈u,cM J.b<1073741824)(W:nB u G)(a:nB u O):b7 C cm lx [.d G,.d O] [] λN v=>v=[]/\N=.ret (cj A'):=by
 obtain⟨c,l,V⟩:=W.inv2;obtain⟨b,k,F⟩:=a.inv2;have E:=l.len;have d:j' c=j' b:=by rw[l.len,k.len]
 refine cD ?_;rcases V with⟨rfl,rfl⟩|⟨L,I,M,rfl⟩<;>rcases F with⟨rfl,rfl⟩|⟨o,w,n,rfl⟩
 ·exact iH
 ·refine a7 (mK d) ?_;exact iH
 ·refine a7 (mK d) ?_;refine ck.loop ?_;refine a7 (Z' λm=>Y' (d▸(show ais 0<ais (j' c) from m)) sm) ?_;exact a8 0 ⟨Z,Z⟩
 refine a7 (mK d) ?_;refine iV (fx:=[(0,.d (.ps L I 7 M c)),(1,.d (.ps o w 7 n b)),(5,cl 0)]) ?_;refine yB (λi:Nat=>[(0,.d (.ps L I 7 M c)),(1,.d (.ps o w 7 n b)),(5,cl i)]) (λi=>j' u-i) (λi=>i<=j' u) ?_ 0 (ait _);intro i T;apply aZ<;>intro m
 ·have hi':i<j' u:=E▸eK m;obtain⟨X,x,J,j,rfl⟩:=l.get hi';obtain⟨S,t,aa,h,rfl⟩:=k.get hi';have s:=A _ (aix hi');generalize u[i]=z at x t j h s;obtain⟨B,Q,r,H,f2,rfl⟩:=j.dL;obtain⟨e,R,p,q,f3,rfl⟩:=h.dL;obtain⟨P,y,Y⟩:=z;have g:nth c i=q' [.str P,.int .i64 (ais y),.int .i64 (ais B),.str Q,.str r,H,f2]:=by rw[cx];exact x
  have f:nth b i=q' [.str P,.int .i64 (ais y),.int .i64 (ais e),.str R,.str p,q,f3]:=by rw[cx];exact t
  repeat first|refine bZ rfl ?_|refine cp _ g ?_|refine cp _ f ?_|refine a7 (jE _) ?_|refine a7 (ni _) ?_
  repeat refine a6 (by repeat' (first|exact tv|exact rfl|refine bZ rfl ?_|refine cp _ g ?_|refine cp _ f ?_|refine a7 (jE _) ?_|refine a7 (ni _) ?_|refine aiZ ?_ ?_)) ?_
  repeat first|refine a7 (jE _) ?_|refine a7 (ni _) ?_
  refine p6 1073741824 Y _ _ om (aiO s) j h ?_;repeat first|refine a6 (by repeat' (first|exact tv|exact rfl|refine bZ rfl ?_|refine cp _ g ?_|refine cp _ f ?_|refine a7 (jE _) ?_|refine a7 (ni _) ?_|refine aiZ ?_ ?_)) ?_|refine a7 (jE _) ?_|refine a7 (ni _) ?_
  exact lQ
 exact a8 0 ⟨Z,Z⟩
def TH(f:j' u<4294967296)(d:∀h∈u,cM h.b<1073741824)(g:nB u G)(c:nB u O)(b:a (.ret (cj A')) A):b7 C cm lx [.d G,.d O] A a:=
 cI (Q2 f d g c) rfl rfl b
def Q3{x:jj}(b:vp x)(w:jf x<=4096)(aq:ot x L)(D:ot x X):b7 C cm l5 [.agg (L.map V.d),.agg (X.map V.d)] [] λaw n=>n=[]/\aw=.ret (cj A'):=by
 obtain⟨P,Q,y,r,t⟩:=Te b w;have f:=b.pl;have m:=b.ex;obtain⟨aI,ag,ao,ay,p,J,c,i,d,o,ai,W⟩:=x;obtain⟨ah,aE,aB,au,ar,f1,ak,aF,av,aC,f2,aA,ax,az,aH,f3,aD,al,aG,am,an,t4,aj,d4,R,z,s,F,v,rfl⟩:=ez aq;obtain⟨H,aa,N,a,S,ac,O,q,e,Y,u,B,U,T,E,ad,ab,A,M,ae,G,K,I,af,l,h,j,k,g,rfl⟩:=ez D;refine cD ?_;repeat first|refine b9 (sE _) ?_|refine b9 (sS _) ?_|refine b9 (sB _) ?_
 refine TH f r R l ?_;repeat first|refine b9 (sE _) ?_|refine b9 (sS _) ?_|refine b9 (sB _) ?_
 refine p6 1073741824 c _ _ om (aiO P) z h ?_;repeat first|refine b9 (sE _) ?_|refine b9 (sS _) ?_|refine b9 (sB _) ?_
 refine p6 1073741824 i _ _ om (aiO Q) s j ?_;repeat first|refine b9 (sE _) ?_|refine b9 (sS _) ?_|refine b9 (sB _) ?_
 refine p6 1073741824 d _ _ om (aiO y) F k ?_;repeat first|refine b9 (sE _) ?_|refine b9 (sS _) ?_|refine b9 (sB _) ?_
 refine QC 1073741824 o _ _ om (aiO t) m v g ?_;repeat first|refine b9 (sE _) ?_|refine b9 (sS _) ?_|refine b9 (sB _) ?_
 exact a8 0 ⟨Z,d_ (λap=>dt.ret (cj ap)) (a_ Z)⟩
def TJ{x:jj}{w c:cP}(f:vp x)(g:jf x<=4096)(e:ot x w)(b:ot x c){d:VS}{h:dt->VS->Prop}(hk:h (.ret (cj A')) d):b7 C cm l5 [.agg (w.map V.d),.agg (c.map V.d)] d h:=by
 have h0:=Q3 f g e b;obtain⟨T,J,af,ak,ai,f1,ah,K,am,aj,f2,U,M,O,ac,f3,X,al,S,N,ad,t4,ae,d4,aa,L,ag,W,ab,rfl⟩:=ez e;obtain⟨F,v,k,E,n,Y,l,P,i,z,a,m,s,r,o,q,D,I,H,u,t,G,A,B,Q,y,R,j,p,rfl⟩:=ez b;exact nk
def ul.inv2(h:ul N G):∃b,oD N b/\((b=[]/\G=.cu)∨∃c f d,G=.ps c f 31 d b):=by
 exact xK
def sN.inv2{b:n_ ux}(c:sN b G):(b=[]/\G=.cu)∨∃d g f,G=.ps d g 2 f (b.map fT):=by
 cases c with
 |nil=>exact .inl ⟨rfl,rfl⟩
 |ps c=>exact .inr ⟨_,_,_,rfl⟩
structure TK (m:Da):Prop where
 il:j' m.is<4294967296
 dl:j' m.ds<4294967296
 ds:∀x∈m.ds,vp x/\jf x<=4096
variable{S:Da}
def TK.of(d:Xs S):TK S:=by
 have c:=d.size;have f:1+j' S.is+jg S.ds<=4096:=c;have g:=xy S.ds;exact⟨om,om,λx b=>⟨d.ds x b,by have:=He b;omega⟩⟩
def TK.zero:TK oL:=⟨dc,dc,λ_ b=>by cases b⟩
def aek(d:cC):lR .string (cK (.str d)) (cK (.str d))=q' A':=by
 show q' (pO _ _)=_;have:∀b:cC,mA b b=A':=by
  intro b;induction b with
  |nil=>rfl
  |cons f b c=>simp[mA,c]
 simp[pO,this]
def abE(x y:Operand)(c b:cC):Ro C adV x y (.agg ⟨aiU cK [D.str c,D.str b]⟩) (.agg ⟨aiU cK [D.str c,D.str b]⟩)=q' A':=by
 have d:Ro C adV x y (.agg ⟨aiU cK [D.str c,D.str b]⟩) (.agg ⟨aiU cK [D.str c,D.str b]⟩)=
  match lR .string (cK (.str c)) (cK (.str c))with
   |some A'=>match lR .string (cK (.str b)) (cK (.str b))with
    |some A'=>q' A'
    |some B'=>q' B'
    |none=>none
   |some B'=>q' B'
   |none=>none:=by kernel_rfl
 rw[d,aek,aek]
def afZ {P:Prop} (b:P:=by
 first
  |(refine ck.loop ?_
    exact a8 0 ⟨Z,Z⟩)
  |(refine iV (fx:=[(2,.bp 0 0),(3,.bp 1 0),(6,cl 0)]) ?_
    refine yB (λi:Nat=>[(2,.bp 0 0),(3,.bp 1 0),(6,cl i)]) (λi=>j' nK-i) (λi=>i<=j' nK) ?_ 0 (Nat.zero_le _);intro i hi;apply aZ<;>intro hc
    ·try exact Y' (hDD▸eK hc) (Nat.not_lt_zero _)
     all_goals
      have hi':i<j' nK:=e1▸eK hc;obtain⟨hw1,hw2⟩:=hdw _ (List.getElem_mem hi');obtain⟨d,hx,EI⟩:=hl.get hi';obtain⟨d',hy,hyt⟩:=hl'.get hi';have hQ:=@TJ _ _ _ hw1 hw2 EI hyt;obtain⟨ps,k1,m1,n1,a1,f1,k2,m2,n2,a2,f2,k3,m3,n3,a3,f3,k4,m4,n4,x4,u4,t4,l4,d4,h1,h2,h3,h4,h5,rfl⟩:=ez EI;obtain⟨ps',k1',m1',n1',a1',f1',k2',m2',n2',a2',f2',k3',m3',n3',a3',f3',k4',m4',n4',x4',u4',t4',l4',d4',Hu,LJ,Yc,Vd,h5',rfl⟩:=ez hyt;have Yj:=(cx els i).trans hx;have hy1:=(cx zk i).trans hy;repeat first|refine bZ rfl ?_|refine cp _ Yj ?_|refine cp _ hy1 ?_
      refine db ?_;refine hQ ?_;refine db ?_;exact lQ
    exact a8 0 ⟨Z,Z⟩)):P:=b
def Q4{d d':cP}(t:TK S)(P:xj S d)(r:xj S d'):b7 C cm ld [.agg (d.map V.d),.agg (d'.map V.d)] [] λy n=>n=[]/\y=.ret (cj A'):=by
 obtain⟨v,x,hi,l,rfl⟩:=P;obtain⟨p,s,hi',g,rfl⟩:=r;obtain⟨c,f,hdw⟩:=t;obtain⟨Q,b,nK⟩:=S;have c:j' b<4294967296:=c;have f:j' nK<4294967296:=f;obtain⟨els,hl,hb⟩:=l.inv2;obtain⟨zk,hl',hb'⟩:=g.inv2;have e1:=hl.len;have hDD:j' els=j' zk:=by rw[hl.len,hl'.len]
 have m:=hi.inv2;have h:=hi'.inv2;have w:j' (b.map fT)=j' (b.map fT):=rfl;refine cD ?_;rcases m with⟨o,rfl⟩|⟨Y,R,a,rfl⟩<;>rcases h with⟨j,rfl⟩|⟨D,F,z,rfl⟩
 ·subst o;exact B7
 ·subst o;exact B7
 ·subst j;exact B7
 rcases hb with⟨rfl,rfl⟩|⟨b2,o2,c2,rfl⟩<;>rcases hb' with⟨rfl,rfl⟩|⟨b2',o2',c2',rfl⟩;all_goals
  repeat first|refine a7 (jE _) ?_|refine a7 (ni _) ?_|refine a7 (mK hDD) ?_
  refine iV (fx:=[(2,.bp 0 0),(3,.bp 1 0),(5,cl 0)]) ?_;refine yB (λi:Nat=>[(2,.bp 0 0),(3,.bp 1 0),(5,cl i)]) (λi=>j' b-i) (λi=>i<=j' b) ?_ 0 (ait _);intro i hi;apply aZ<;>intro hc
  ·have hi':i<j' b:=(by have:=eK hc;rwa[aiz]at this);have Yj:nth (b.map fT) i=q' [.str b[i].p,.str b[i].a]:=by rw[cx,aiG,aiv hi'];try rfl
   repeat first|refine bZ rfl ?_|refine cp _ Yj ?_
   refine cp A' (abE _ _ _ _) ?_;repeat refine a6 (by repeat' (first|exact tv|exact rfl|refine bZ rfl ?_|refine cp _ Yj ?_|refine cp A' (abE _ _ _ _) ?_|refine aiZ ?_ ?_)) ?_
   exact lQ
  exact afZ
def Rg(c:TK S)(i:xj S L)(b:xj S X)(hk:a (.ret (cj A')) A):b7 C cm ld [.agg (L.map V.d),.agg (X.map V.d)] A a:=by
 have h0:=Q4 c i b;obtain⟨l,h,m,k,rfl⟩:=i;obtain⟨g,d,j,f,rfl⟩:=b;exact nk
def Fk{s:cC}(c:j' s<=1500∨65536<j' s)(ts:n_ Tok)(b:k5 s=.ok ts):j' ts<=4097:=by
 unfold k5 at b;split at b
 ·cases b
 have:=(PN s _ _ ts om b).2.2.1;omega
def aen{s:cC}(h:∀ts,k5 s=.ok ts->j' ts<=4097):TK (yY s).1:=by
 unfold yY;cases d:k5 s with
 |err f i=>exact .zero
 |ok ts=>
  dsimp only;cases g:EF ⟨0,0,ts⟩ 0 with
  |bad f i=>exact .zero
  |ok k j=>
   dsimp only;split
   ·exact .zero
   split
   ·exact .zero
   split
   ·exact .zero
   obtain⟨w,c⟩:=BG (R:=⟨0,0,ts⟩) d;have b:=BJ (R:=⟨0,0,ts⟩) d;exact .of (To w b (um w b _) (GY w b _ 0) (h _ d) c g).1
def Yr(b:Nat):decide (ais b=ais b)=A':=by simp
def X6(s:cC):b7 C cm qf [cv s] [] λr _=>r=.ret (cj A'):=by
 refine cD ?_;refine ei (args:=[]) (x:=.bool A') Z Z ?_;by_cases h:1500<j' s
 ·have c:decide (1500<ais (j' s))=A':=a_ (by simp only[aiu];omega);by_cases g:j' s<=65536
  ·have b:decide (ais (j' s)<=65536)=A':=a_ (by simp only[aiu];omega);refine cN ?_;exact cV.now Z Z
  have b:decide (ais (j' s)<=65536)=B':=Z' (by simp only[aiu];omega);exact IX
 have c:decide (1500<ais (j' s))=B':=Z' (by simp only[aiu];omega);exact IX
end Go.Proofs.YtdocmpeionacbaaGreatDoor
