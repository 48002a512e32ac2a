/- Part of the proof. -/
import Derived.Test.YtpejealjkmhkgaaGreatDoorKBh
set_option linter.all false
set_option maxHeartbeats 16000000
set_option maxRecDepth 100000
open Nat renaming not_lt_zero->YL,le_refl->YQ,le_of_ble_eq_true->YR,zero_le->YU
open List renaming length_cons->YM,getElem?_eq_getElem->YN,take_of_length_le->YO,map->YP,getElem_mem->YS,cons_append->YT,length_append->YV,take_add_one->YX,eq_nil_of_length_eq_zero->YY,length_map->YZ,map_cons->Y0,length_pos_iff->Y2
open Int renaming ofNat->YW,ofNat_eq_natCast->Y1
namespace Go.Proofs.YtpejealjkmhkgaaGreatDoor
open Go.AM Go.VM
structure mv where
 n:List UInt8
 vr:Nat
 b:Ty
structure kA where
 k:Nat
 n:List UInt8
 exp:Bool
 yB:Bool
 note:List UInt8
 ps:List mv
 lo:Ty
 up:Ty
 ty:Ty
 ex:Ex
 m:List UInt8
 tg:List UInt8
structure sL where
 p:List UInt8
 a:List UInt8
structure Fh where
 p:List UInt8
 is:List sL
 ds:List kA
def hS(b:Nat)(a:Rd)(p:Nat):PR (List UInt8):=if(a.tok p).kind≠b then .bad (a.tok p).off 3 else .ok (a.tok p).text (p+1)
def kI(a:Rd):Nat->List UInt8->Nat->PR (List UInt8)
 |0,_,_=>.bad 0 3
 |f+1,c,b=>if c0 (a.tok b) [47]then match c9 a (b+1)with
   |.bad i l=>.bad i l
   |.ok h e=>kI a f (c++47::h) e
  else .ok c b
def fT(b:Rd)(p:Nat):PR (List UInt8):=match c9 b p with
 |.bad e f=>.bad e f
 |.ok a c=>match kI b b.ts.length a c with
  |.bad e f=>.bad e f
  |.ok a c=>if gB a then .ok a c else .bad (b.tok p).off 4
def lA{a:Type}(step:a->Nat->PR a)(e:Rd):Nat->a->Nat->PR a
 |0,_,_=>.bad 0 3
 |f+1,h,l=>match step h l with
  |.bad i n=>.bad i n
  |.ok b c=>if c0 (e.tok c) [44]then lA step e f b (c+1)else(cu e [[93]] c).map fun _=>b
def hT{a:Type}(step:a->Nat->PR a)(b:Rd)(c:a)(p:Nat):PR a:=if c0 (b.tok p) [91]then lA step b b.ts.length c (p+1)else .ok c p
def sM(t:Tok):Option Nat:=if c0 t [43]then some 0 else if c0 t [45]then some 1 else if c0 t [61]then some 2 else none
def fq(b:Rd)(a:List mv)(p:Nat):PR (List mv):=match sM (b.tok p)with
 |none=>.bad (b.tok p).off 3
 |some e=>(hS 2 b (p+1)).map fun c=>a++[⟨c,e,c1⟩]
def fW(c:Nat->PR Ty)(f:Rd)(a:List mv)(p:Nat):PR (List mv):=match hS 2 f p with
 |.bad i l=>.bad i l
 |.ok e b=>if c0 (f.tok b) [60,58]then(c (b+1)).map fun h=>a++[⟨e,0,h⟩]else .ok (a++[⟨e,0,c1⟩]) b
def uz:Ty:=.mk 1 [] [] [] []
def qa:Ex:=.mk 0 [] [] [] 0 [] [] []
def lf(a:Nat->PR Ty)(c:Rd)(b:List UInt8)(t0:Ty)(p:Nat):PR (Bool×Ty):=if c0 (c.tok p) b then(a (p+1)).map fun e=>(true,e)else .ok (false,t0) p
def dA{a:Type}(b:Nat->PR a)(f:Rd)(e:List UInt8)(p:Nat):PR a:=match cu f [e] p with
 |.bad h i=>.bad h i
 |.ok _ c=>b c
def hM(b:Nat->PR Ty)(h:Rd)(l i:Bool)(a:List UInt8)(p:Nat):PR kA:=match hS 2 h p with
 |.bad c e=>.bad c e
 |.ok w v=>match hT (fq h) h [] v with
  |.bad c e=>.bad c e
  |.ok n t=>match lf b h [62,58] uz t with
   |.bad c e=>.bad c e
   |.ok f u=>match lf b h [60,58] c1 u with
    |.bad c e=>.bad c e
    |.ok up o=>(dA b h [61] o).map fun s=>⟨0,w,l,i,a,n,if f.1||up.1 then f.2 else s,if f.1||up.1 then up.2 else s,s,qa,[],[]⟩
def iX(e:Nat->PR Ty)(l:Nat->PR Ex)(c:Rd)(i b:Bool)(a:List UInt8)(p:Nat):PR kA:=match c9 c p with
 |.bad f h=>.bad f h
 |.ok u t=>match hT (fW e c) c [] t with
  |.bad f h=>.bad f h
  |.ok n o=>match dA e c [58] o with
   |.bad f h=>.bad f h
   |.ok w s=>(dA l c [61] s).map fun v=>⟨1,u,i,b,a,n,c1,c1,w,v,[],[]⟩
def gb(a:Rd)(p:Nat):PR (List UInt8):=if(a.tok p).kind=2 then hS 2 a p else c9 a p
def ie(c:Rd)(e b:Bool)(a:List UInt8)(p:Nat):PR kA:=match c9 c p with
 |.bad i l=>.bad i l
 |.ok s n=>match dA (gb c) c [58,58] n with
  |.bad i l=>.bad i l
  |.ok f h=>(dA (gb c) c [97,115] h).map fun o=>⟨2,o,e,b,a,[],c1,c1,c1,qa,s,f⟩
def kf(a:Rd)(p:Nat):PR (Bool×Bool×List UInt8):=if c0 (a.tok p) [101,120,112,111,114,116]then
  if c0 (a.tok (p+1)) [100,101,112,114,101,99,97,116,101,100]then(hS 4 a (p+2)).map fun b=>(true,true,b)else .ok (true,false,[]) (p+1)
 else .ok (false,false,[]) p
def eS(e:Nat->PR Ty)(f:Nat->PR Ex)(b:Rd)(p:Nat):PR kA:=match kf b p with
 |.bad h i=>.bad h i
 |.ok a c=>
  if c0 (b.tok c) [116,121,112,101]then hM e b a.1 a.2.1 a.2.2 (c+1)
  else if c0 (b.tok c) [108,101,116]then iX e f b a.1 a.2.1 a.2.2 (c+1)
  else if c0 (b.tok c) [117,115,101]then ie b a.1 a.2.1 a.2.2 (c+1)
  else .bad (b.tok c).off 3
def fR(a:Rd)(p:Nat):PR sL:=match fT a p with
 |.bad f h=>.bad f h
 |.ok c b=>(dA (c9 a) a [97,115] b).map fun e=>⟨c,e⟩
def eK(a:Rd):Nat->List sL->Nat->PR (List sL)
 |0,_,_=>.bad 0 3
 |f+1,c,b=>if c0 (a.tok b) [105,109,112,111,114,116]then match fR a (b+1)with
   |.bad i l=>.bad i l
   |.ok h e=>eK a f (c++[h]) e
  else .ok c b
def fX(c:Nat->PR Ty)(a:Nat->PR Ex)(e:Rd):Nat->List kA->List Nat->Nat->PR (List kA×List Nat)
 |0,_,_,_=>.bad 0 3
 |f+1,i,b,h=>if(e.tok h).kind≠0 then match eS c a e h with
   |.bad p n=>.bad p n
   |.ok l o=>fX c a e f (i++[l]) (b++[(e.tok h).off]) o
  else .ok (i,b) h
def ow(i:Nat->PR Ty)(b:Nat->PR Ex)(a:Rd)(p:Nat):PR (Fh×List Nat):=match dA (fT a) a [109,111,100,117,108,101] p with
 |.bad f h=>.bad f h
 |.ok o n=>match eK a a.ts.length [] n with
  |.bad f h=>.bad f h
  |.ok e c=>(fX i b a a.ts.length [] [] c).map fun l=>(⟨o,e,l.1⟩,l.2)
def EN(p:mv)(b:List D):Prop:=∃a,gK p.b a/\b=.str p.n:: .int .i64 (YW p.vr)::a
inductive wU:List mv->List (List D)->Prop
 |nil:wU [] []
 |cons {p:mv} {d:List D} {l:List mv} {els:List (List D)} (h:EN p d) (hl:wU l els):wU (p::l) (d::els)
inductive uA:List mv->D->Prop
 |nil:uA [] .cn
 |ps {b o cap:Nat} {l:List mv} {els:List (List D)} (h:wU l els):uA l (.ps b o 7 cap els)
def mG(o:Nat)(n:List UInt8)(c b:Bool)(a:List UInt8)(f:D)(lo l i e:List D)(p h:List UInt8):List D:=
 [.int .i64 (YW o),.str n,.bool c,.bool b,.str a,f]++(lo++(l++(i++(e++[.str p,.str h]))))
def rL(a:kA)(i:List D):Prop:=∃b f h e c,uA a.ps b/\gK a.lo f/\gK a.up h/\gK a.ty e/\ly a.ex c/\i=mG a.k a.n a.exp a.yB a.note b f h e c a.m a.tg
inductive nn:List kA->List (List D)->Prop
 |nil:nn [] []
 |cons {p:kA} {d:List D} {l:List kA} {els:List (List D)} (h:rL p d) (hl:nn l els):nn (p::l) (d::els)
inductive C1:List kA->D->Prop
 |nil:C1 [] .cn
 |ps {b o cap:Nat} {l:List kA} {els:List (List D)} (h:nn l els) (hc:els.length<=cap):C1 l (.ps b o 31 cap els)
def fh(a:sL):List D:=[.str a.p,.str a.a]
inductive A3:List sL->D->Prop
 |nil:A3 [] .cn
 |ps {b o cap:Nat} {l:List sL} (hc:l.length<=cap):A3 l (.ps b o 2 cap (l.map fh))
inductive C2:List Nat->D->Prop
 |nil:C2 [] .cn
 |ps {b o cap:Nat} {l:List Nat}:C2 l (.ps b o 1 cap (l.map fun n=>[.int .i64 (YW n)]))
def EO(c:Fh)(e:List D):Prop:=∃a b,A3 c.is a/\C1 c.ds b/\e=[.str c.p,a,b]
def VY(a:List UInt8)(t:Tok):Prop:=(t.kind=1->cM t.text=true)/\(t.kind=2->dB t.text=true)/\t.off<=a.length
theorem ML{l t:List UInt8}{c n:Nat}(a:eL l=.ok c t n):c≠0/\(c=1->cM t=true)/\(c=2->dB t=true):=by
 cases l with
 |nil=>cases a
 |cons f e=>
  rw[eL]at a;split at a
  ·unfold eU at a;split at a
   ·cases a;exact⟨om,fun a=>om,fun a=>om⟩
   ·split at a
    ·rename_i b;cases a;exact⟨om,fun _=>b,fun a=>om⟩
    ·split at a
     ·rename_i b;cases a;exact⟨om,fun a=>om,fun _=>b⟩
     ·cases a
  ·split at a
   ·unfold gj at a;split at a
    ·cases a
    ·cases a;exact⟨om,fun a=>om,fun a=>om⟩
   ·split at a
    ·split at a
     ·cases a;exact⟨om,fun a=>om,fun a=>om⟩
     ·cases a
    ·split at a
     ·cases a
     ·cases a;exact⟨om,fun a=>om,fun a=>om⟩
theorem A4(s:List UInt8):∀(t a:Nat) (i:List Tok),s.length-a<t->fy s t a=.ok i->
  i≠[]/\(∀h p,i[h]?=some p->p.kind≠0->h+1<i.length)/\i.length<=s.length-a+1/\∀p∈i,VY s p:=by
 intro t;induction t with
 |zero=>intro a i b;omega
 |succ t A=>
  intro a i G b;rw[fy]at b;split at b
  ·cases b;refine⟨by simp,fun h p f n=>?_,by simp,fun p c=>?_⟩
   ·cases h with
    |zero=>simp at f;subst f;exact absurd rfl n
    |succ h=>simp at f
   ·simp at c;subst c;exact⟨fun b=>by simp at b,fun b=>by simp at b,YQ _⟩
  ·rename_i B;cases c:eL (s.drop a)with
   |err J=>rw[c]at b;cases b
   |ok I p D=>
    rw[c]at b;dsimp only at b;obtain⟨F,y⟩:=mi c;rw[List.length_drop]at y;cases o:fy s t (a+D+cZ false (s.drop (a+D)))with
    |err C E=>rw[o]at b;cases b
    |ok u=>
     rw[o]at b;cases b;obtain⟨z,v,H,x⟩:=A _ u om o;have w:0<u.length:=Y2.2 z;refine⟨by simp,fun h l f n=>?_,?_,fun l e=>?_⟩
     ·cases h with
      |zero=>simp only[YM];omega
      |succ h=>
       have:=v h l (by simpa using f) n;simp only[YM];omega
     ·simp only[YM];omega
     ·rcases List.mem_cons.1 e with rfl|e
      ·obtain⟨_,C,E⟩:=ML c;exact⟨C,E,by show a<=s.length;omega⟩
      ·exact x l e
theorem wV{s:List UInt8}{l:List Tok}(a:gk s=.ok l):s.length<=65536/\l≠[]/\(∀c b,l[c]?=some b->b.kind≠0->c+1<l.length)/\l.length<=65537/\∀b∈l,VY s b:=by
 unfold gk at a;split at a
 ·cases a
 ·obtain⟨h,f,i,e⟩:=A4 s _ _ l om a;exact⟨om,h,f,om,e⟩
theorem mn{a:List UInt8}{R:Rd}(b:gk a=.ok R.ts):R.Wf/\0<R.ts.length:=by
 obtain⟨_,e,c,f,_⟩:=wV b;exact⟨⟨om,c⟩,Y2.2 e⟩
def wW:V:=.agg qO
def A5(n:List UInt8)(e:dC):Prop:=match gk n with
 |.err a h=>e=.ret (.dV [wW,b3 a,b3 h])
 |.ok c=>∃f b,match de ⟨f,b,c⟩ c.length 0 with
  |.bad a h=>e=.ret (.dV [wW,b3 a,b3 h])
  |.ok o l=>if(Rd.tok ⟨f,b,c⟩ l).kind≠0 then e=.ret (.dV [wW,b3 (Rd.tok ⟨f,b,c⟩ l).off,b3 3])else ∃i,gK o i/\e=.ret (.dV [.agg (i.map V.d),b3 0,b3 0])
theorem MM(s:List UInt8):∀(h a c i:Nat),fy s h a=.err c i->i≠0:=by
 intro h;induction h with
 |zero=>intro a c i b;cases b
 |succ h l=>
  intro a c i b;rw[fy]at b;split at b
  ·cases b
  ·cases f:eL (s.drop a)with
   |err p=>rw[f]at b;cases b;exact wE f
   |ok u t n=>
    rw[f]at b;dsimp only at b;cases e:fy s h (a+n+cZ false (s.drop (a+n)))with
    |err w v=>rw[e]at b;cases b;exact l _ _ _ e
    |ok o=>rw[e]at b;cases b
variable{k:Nat}
theorem oc{s:List UInt8}{b:Nat}(a:gk s=.err k b):b≠0:=by
 unfold gk at a;split at a
 ·cases a;decide
 ·exact MM s _ _ _ _ a
variable{d:dC->VS->Prop} {j:VS}
theorem xT(b:List UInt8)(a:∀h,I9 (gk b) h->d h j):b1 C b7 ys [cq b] j d:=by
 by_cases f:b.length<4294967296
 ·exact Pe b f a
 ·refine b1.closed (P:=I9 (gk b)) ?_ Z a;refine cA X3 (fun _=>Z) ?_;refine aZ (fun e=>?_) (fun e=>absurd (dR (a:=65536) e) om);have c:=fF (a:=65536) e;refine a7 0 ⟨Z,Z,?_⟩;rw[gk,if_pos c];rfl
theorem MN(s:List UInt8)(v:∀u,A5 s u->d u j):b1 C b7 qD [cq s,.fn dk [] []] j d:=by
 refine b1.closed (P:=A5 s) ?_ Z v;refine cz ?_;refine xT s (fun u h=>?_);cases b:gk s with
 |err p y=>
  rw[b]at h;obtain rfl:u=_:=h;have x:=oc b;refine aZ (fun l=>?_) (fun l=>absurd (k6 l) x);repeat refine b6 ?_
  refine a7 0 ⟨Z,Z,?_⟩;unfold A5;rw[b];rfl
 |ok c=>
  rw[b]at h;obtain⟨i,a,rfl⟩:=h;obtain⟨z,e⟩:=mn (R:=⟨i,a,c⟩) b;refine(AZ z c.length 0 (by show c.length-0<=c.length;omega)).call 0 (YQ _) e 4 _ _ ?_ (fun I F t f n=>?_) (fun p y t f=>?_)
  ·exact Z
  ·obtain⟨D,H,G,B,A,rfl⟩:=n.di;obtain⟨_,w⟩:=KZ z _ _ _ _ e f;refine ei ⟨i,a,c⟩ t _ (bZ w) 4 ?_ ?_
   ·exact Z
   apply aZ<;>intro l
   ·have o:(Rd.tok ⟨i,a,c⟩ t).kind≠0:=fun y=>by rw[y]at l;cases l
    refine eO _ (Rd.tok ⟨i,a,c⟩ t).off 3 ?_;refine my.body xH ?_;repeat refine b6 ?_
    refine a7 0 ⟨Z,Z,?_⟩;unfold A5;rw[b];refine⟨i,a,?_⟩;rw[f];dsimp only;rw[if_pos o];rfl
   ·have o:(Rd.tok ⟨i,a,c⟩ t).kind=0:=k6 l;refine my.body xH ?_;refine a7 0 ⟨Z,Z,?_⟩;unfold A5;rw[b];refine⟨i,a,?_⟩;rw[f];dsimp only;rw[if_neg om];exact⟨_,n,Z⟩
  ·refine my.body xH ?_;repeat refine b6 ?_
   refine a7 0 ⟨Z,Z,?_⟩;unfold A5;rw[b];refine⟨i,a,?_⟩;rw[f];rfl
mutual
def cJ:Ty->Nat
 |.mk _ _ _ args fields=>cC args+qY fields+1
def cC:List Ty->Nat
 |[]=>0
 |t::l=>cJ t+cC l
def qY:List (List UInt8×Ty×Bool)->Nat
 |[]=>0
 |(_,t,_)::l=>cJ t+qY l
end
mutual
def pA:Ty->Nat
 |.mk _ _ _ args fields=>max (gd args) (zA fields)+1
def gd:List Ty->Nat
 |[]=>0
 |t::l=>max (pA t) (gd l)
def zA:List (List UInt8×Ty×Bool)->Nat
 |[]=>0
 |(_,t,_)::l=>max (pA t) (zA l)
end
mutual
def vb:Ty->Bool
 |.mk _ _ _ args fields=>decide (32<fields.length)||decide (8<args.length)||od args||K7 fields
def od:List Ty->Bool
 |[]=>false
 |t::l=>vb t||od l
def K7:List (List UInt8×Ty×Bool)->Bool
 |[]=>false
 |(_,t,_)::l=>vb t||K7 l
end
def gn(l:List mT):List Ty:=l.map fun a=>a.2.1
def eI:Ty->List Ty
 |.mk _ _ _ b a=>b++gn a
theorem jC(a b:List Ty):cC (a++b)=cC a+cC b:=by
 induction a with
 |nil=>simp[cC]
 |cons e a c=>simp only[YT,cC,c];omega
theorem qb(l:List mT):qY l=cC (gn l):=by
 induction l with
 |nil=>rfl
 |cons b l a=>obtain⟨c,e,f⟩:=b;simp only[qY,gn,Y0,cC]at a⊢;rw[a]
theorem im(t:Ty):cJ t=cC (eI t)+1:=by
 obtain⟨e,f,c,b,a⟩:=t;rw[cJ,eI,jC,qb]
theorem yC(a b:List Ty):gd (a++b)=max (gd a) (gd b):=by
 induction a with
 |nil=>simp[gd]
 |cons e a c=>simp only[YT,gd,c];omega
theorem Jy(l:List mT):zA l=gd (gn l):=by
 induction l with
 |nil=>rfl
 |cons b l a=>obtain⟨c,e,f⟩:=b;simp only[zA,gn,Y0,gd]at a⊢;rw[a]
theorem wX(t:Ty):pA t=gd (eI t)+1:=by
 obtain⟨e,f,c,b,a⟩:=t;rw[pA,eI,yC,Jy]
theorem MO(a b:List Ty):od (a++b)=(od a||od b):=by
 induction a with
 |nil=>simp[od]
 |cons e a c=>simp only[YT,od,c,Bool.or_assoc]
theorem PD(l:List mT):K7 l=od (gn l):=by
 induction l with
 |nil=>rfl
 |cons b l a=>obtain⟨c,e,f⟩:=b;simp only[K7,gn,Y0,od]at a⊢;rw[a]
def pB:Ty->Bool
 |.mk _ _ _ b a=>decide (32<a.length)||decide (8<b.length)
theorem A6(t:Ty):vb t=(pB t||od (eI t)):=by
 obtain⟨e,f,c,b,a⟩:=t;rw[vb,eI,MO,PD,pB,Bool.or_assoc]
theorem lY(t:Ty):0<cJ t:=by rw[im];omega
theorem gN(l:List Ty):l.length<=cC l:=by
 induction l with
 |nil=>simp
 |cons b l a=>have:=lY b;simp only[YM,cC];omega
theorem iC{l:List Ty}{t:Ty}(h:t∈l):cJ t<=cC l:=by
 induction l with
 |nil=>simp at h
 |cons b l a=>
  rcases List.mem_cons.1 h with rfl|h
  ·simp only[cC];omega
  ·have:=a h;simp only[cC];omega
theorem MP(n:Nat):∀a:Ty,cJ a<=n->pA a<=cJ a:=by
 induction n with
 |zero=>intro a h;have:=lY a;omega
 |succ n e=>
  intro a h;rw[im]at h⊢;rw[wX];have:∀b:List Ty,cC b<=n->gd b<=cC b:=by
   intro b;induction b with
   |nil=>intro _;simp[gd]
   |cons i b c=>
    intro f;simp only[cC,gd]at f⊢;have:=e i om;have:=c om;omega
  have:=this _ (by omega:cC (eI a)<=n);omega
variable{g:List (List D)}
theorem eX.len{l:List Ty}(c:eX l g):g.length=l.length:=by
 induction l generalizing g with
 |nil=>cases c;rfl
 |cons e l a=>cases c with|cons _ b=>simp only[YM,a b]
theorem eX.get{l:List Ty}(n:eX l g){i:Nat}(a:i<l.length):∃b,g[i]?=some b/\gK l[i] b:=by
 induction l generalizing g i with
 |nil=>simp at a
 |cons h l c=>
  cases n with
  |cons f e=>
   cases i with
   |zero=>exact⟨_,rfl,f⟩
   |succ i=>obtain⟨b,h,o⟩:=c e (i:=i) (by simpa using a);exact⟨b,by simpa using h,o⟩
theorem eX.KR{l b:List Ty}{a:List (List D)}(i:eX l g)(c:eX b a):eX (l++b) (g++a):=by
 induction l generalizing g with
 |nil=>cases i;exact c
 |cons n l e=>cases i with|cons h f=>exact .cons h (e f)
theorem sF.len{l:List mT}(c:sF l g):g.length=l.length:=by
 induction l generalizing g with
 |nil=>cases c;rfl
 |cons e l a=>cases c with|cons _ b=>simp only[YM,a b]
theorem sF.get{l:List mT}(t:sF l g){i:Nat}(b:i<l.length):∃c:FE,g[i]?=some (fe c)/\l[i].1=c.n/\l[i].2.2=c.o/\gK l[i].2.1 c.ty:=by
 induction l generalizing g i with
 |nil=>simp at b
 |cons p l f=>
  cases t with
  |cons a h=>
   cases i with
   |zero=>
    obtain⟨u,w,e,n,o,rfl⟩:=a.di;exact⟨⟨_,u,w,e,n,o,_,[],.cn⟩,Z,Z,Z,a⟩
   |succ i=>obtain⟨s,p,v⟩:=f h (i:=i) (by simpa using b);exact⟨s,by simpa using p,v⟩
inductive Ob:List Ty->D->Prop
 |nil:Ob [] .cn
 |ps {b o cap:Nat} {l:List Ty} {els:List (List D)} (h:eX l els):Ob l (.ps b o 5 cap els)
def UH:Nat->Bool:=fun a=>Nat.beq a 19
def A7(c:Nat)(b n:List UInt8)(a f:D):List V:=[.d (.int .i64 (YW c)),.d (.str b),.d (.str n),.d a,.d f]
def K8(c:List V):List (List D)->VS
 |[]=>[.box c]
 |e::b=>[.box c,.row 5 ((e::b).map fun a=>a.map V.d)]
def K9:List (List D)->V
 |[]=>.d .cn
 |_::a=>.ms 1 5 0 (a.length+1) (a.length+1)
variable{m:Nat->Nat}
theorem C3(b:List D)(c:List (List D))(a:List D):some (cL.row 5 (List.take (c.length+1) (List.drop 0 (YP (fun a=>YP V.d a) (b::c)))++[a.map V.d]))=some (dH m (.row 5 (YP (fun a=>YP V.d a) (b::(c++[a]))))):=by
 rw[sG,List.drop_zero,YO sm];simp
theorem G3(c:Nat)(a:List (List D))(b:List D):some (V.ms c 5 0 (a.length+1+1) (a.length+1+1))=some (V.ms c 5 0 ((a++[b]).length+1) ((a++[b]).length+1)):=by simp
theorem sN{c:List V}{l:List Ty}{els:List (List D)}(a n:Nat)(e:n=els.length)(i:nth j a=some (.row 5 (els.map fun f=>f.map V.d)))(o:eX l els):
  cP 0 (.ret (.ms (a+1) 5 0 n n)) (.box c::j) fun p b=>b=[]/\cN p=true/\∃f,Ob l f/\p=.ret (.d f):=by
 refine cP.freeze (a+1) (es:=5) (l:=els) i (fZ els) (fun _=>⟨Z,by simp[e]⟩) (fun h=>?_);have s:uZ (a+1) h els (.ret (.ms (a+1) 5 0 n n))=.ret (.d (.ps h (0*5) 5 n els)):=by
  show dC.ret (nf (a+1) h els (.ms (a+1) 5 0 n n))=_;rw[nf,jQ];show dC.ret (.d (.ps h (0*5) 5 n ((els.drop 0).take n)))=_;rw[eH _ _ e]
 rw[s];refine cP.drop 0 Z (by rw[ln]) rfl (cP.now rfl ?_);exact⟨Z,Z,_,.ps o,Z⟩
theorem A8{c n:Nat}(b:c<=4294967296)(a:n=1:=by rfl):(c+n)*88<=eF/\c+n<=eF:=by
 unfold eF;omega
theorem C4(a:List D)(b:List (List D))(e:b.length+1<4294967296):(0+(YP (fun c=>YP V.d c) (a::b)).length)*88<=eF/\0+(YP (fun c=>YP V.d c) (a::b)).length<=eF:=by
 unfold eF;simp only[YZ,YM];omega
theorem Jz(a:List D)(c:List (List D)):some (cL.row 5 (List.take 0 (List.drop 0 [])++YP (fun b=>YP V.d b) (a::c)))=some (dH m (.row 5 (YP (fun b=>YP V.d b) (a::c)))):=by
 rw[sG];rfl
theorem MQ(e:Nat)(a:List D)(b:List (List D)):some (V.ms e 5 0 (0+(YP (fun c=>YP V.d c) (a::b)).length) (0+(YP (fun c=>YP V.d c) (a::b)).length))=some (V.ms e 5 0 (b.length+1) (b.length+1)):=by simp
theorem C5{l:List mT}(a:k<l.length):gn (l.take (k+1))=gn (l.take k)++[l[k].2.1]:=by
 unfold gn;rw[YX,YN a,List.map_append];rfl
theorem G4(P:Nat)(R n:List UInt8)(l:List Ty)(a:List mT)(X f:D)(V:ib l X)(z:ee a f)(j:l.length+a.length<4294967296):
  b1 C b7 ss [.agg (A7 P R n X f)] [] fun y T=>T=[]/\cN y=true/\∃d,Ob (l++gn a) d/\y=.ret (.d d):=by
 refine cA UH (fun _=>Z) ?_;refine b9 ?_;cases V with
 |nil=>
  cases z with
  |nil=>
   refine cl.loop ?_;refine a7 0 ⟨Z,Z,.cn,.nil,Z⟩
  |ps z=>
   rename_i x w e h;have B:=z.len;refine cF (eW:=[(3,K9 []),(10,.d (.ps x w 7 e h)),(11,b3 a.length),(12,b3 0)]) (ii:=K8 (A7 P R n .cn (.ps x w 7 e h)) []) (.same ⟨Z,Z,int_eq (by rw[B]),rfl,tv⟩ rfl) ?_;refine cl.iter (fun i:Nat×List (List D)=>[(3,K9 i.2),(10,.d (.ps x w 7 e h)),(11,b3 a.length),(12,b3 i.1)]) (fun i=>K8 (A7 P R n .cn (.ps x w 7 e h)) i.2) (fun i=>a.length-i.1)
    (fun i=>i.1<=a.length/\eX ([]++gn (a.take i.1)) i.2) ?_ (0,[]) ⟨YU _,by exact .nil⟩
   rintro⟨s,p⟩ ⟨F,b⟩;have F:s<=a.length:=F;have b:eX ([]++gn (a.take s)) p:=b;have t:=b.len;rw[YV,gn,YZ,List.length_take]at t;try simp only[List.length_nil]at t
   apply aZ<;>intro H
   ·have c:s<a.length:=fF H;obtain⟨i,M,_,_,G⟩:=z.get c;have o:eX ([]++gn (a.take (s+1))) (p++[i.ty]):=by rw[C5 c,<-List.append_assoc];exact b.snoc G
    refine b0 Z ?_;refine b4 (fe i) (by rw[cv];exact M) ?_;cases p with
    |nil=>
     intro L;refine a1 Z (a1 ⟨YR Z,YR Z⟩ ?_);refine⟨(s+1,[i.ty]),⟨c,o⟩,by show a.length-(s+1)<a.length-s;omega,?_,rfl,rfl⟩;exact .pick 1 [0,2] ⟨Z,Z,Z,int_eq (cp om),tv⟩ Z Z Z Z Z dc ⟨Z,Z,Z,Z,tv⟩
    |cons N y=>
     intro L;have E:y.length+1<=4294967296:=by simp only[YM]at t;omega
     refine a1 Z (a1 ⟨Z,Z,by simp,YQ _,A8 E⟩ ?_);refine a6 Z (a6 (fg (y.length+1)) ?_);refine⟨(s+1,N::(y++[i.ty])),⟨c,o⟩,by show a.length-(s+1)<a.length-s;omega,?_,rfl,rfl⟩;exact .pick 1 [0,3] ⟨G3 3 y i.ty,Z,Z,int_eq (cp om),tv⟩ Z Z Z Z Z dc ⟨Z,Z,C3 N y i.ty,ju _ _ _,tv⟩
   ·have c:a.length<=s:=dR H;rw[YO c]at b;cases p with
    |nil=>
     have A: []++gn a=[]:=YY b.len.symm;refine a7 0 ⟨Z,Z,.cn,?_,Z⟩;rw[A];exact .nil
    |cons N y=>exact sN 0 (y.length+1) rfl rfl b
 |ps W O=>
  rename_i g Y I J;cases J with
  |nil=>exact absurd rfl O
  |cons v u=>
   have U:=W.len;have K:u.length+1<4294967296:=by simp only[YM]at U;omega
   refine a1 Z (a1 ⟨Z,Z,YQ _,YQ _,C4 v u K⟩ ?_);refine a6 Z (a6 Z ?_);cases z with
   |nil=>
    refine cl.loop ?_;refine sN (els:=v::u) 1 _ sm ?_ ?_
    ·exact Z
    ·simpa [gn]using W
   |ps z=>
    rename_i x w e h;have B:=z.len;refine cF (eW:=[(3,K9 (v::u)),(10,.d (.ps x w 7 e h)),(11,b3 a.length),(12,b3 0)]) (ii:=K8 (A7 P R n (.ps g Y 5 I (v::u)) (.ps x w 7 e h)) (v::u)) (.pick 1 [0,2] ⟨MQ 2 v u,Z,int_eq (by rw[B]),rfl,tv⟩ rfl rfl rfl rfl rfl dc ⟨rfl,rfl,Jz v u,ju _ _ _,tv⟩) ?_;refine cl.iter (fun i:Nat×List (List D)=>[(3,K9 i.2),(10,.d (.ps x w 7 e h)),(11,b3 a.length),(12,b3 i.1)]) (fun i=>K8 (A7 P R n (.ps g Y 5 I (v::u)) (.ps x w 7 e h)) i.2) (fun i=>a.length-i.1)
     (fun i=>i.1<=a.length/\eX (l++gn (a.take i.1)) i.2) ?_ (0,(v::u)) ⟨YU _,by simpa [gn]using W⟩
    rintro⟨s,p⟩ ⟨F,b⟩;have F:s<=a.length:=F;have b:eX (l++gn (a.take s)) p:=b;have t:=b.len;rw[YV,gn,YZ,List.length_take]at t;try simp only[List.length_nil]at t
    apply aZ<;>intro H
    ·have c:s<a.length:=fF H;obtain⟨i,M,_,_,G⟩:=z.get c;have o:eX (l++gn (a.take (s+1))) (p++[i.ty]):=by rw[C5 c,<-List.append_assoc];exact b.snoc G
     refine b0 Z ?_;refine b4 (fe i) (by rw[cv];exact M) ?_;cases p with
     |nil=>
      intro L;refine a1 Z (a1 ⟨YR Z,YR Z⟩ ?_);refine⟨(s+1,[i.ty]),⟨c,o⟩,by show a.length-(s+1)<a.length-s;omega,?_,rfl,rfl⟩;exact .pick 1 [0,2] ⟨Z,Z,Z,int_eq (cp om),tv⟩ Z Z Z Z Z dc ⟨Z,Z,Z,Z,tv⟩
     |cons N y=>
      intro L;have E:y.length+1<=4294967296:=by simp only[YM]at t;omega
      refine a1 Z (a1 ⟨Z,Z,by simp,YQ _,A8 E⟩ ?_);refine a6 Z (a6 (fg (y.length+1)) ?_);refine⟨(s+1,N::(y++[i.ty])),⟨c,o⟩,by show a.length-(s+1)<a.length-s;omega,?_,rfl,rfl⟩;exact .pick 1 [0,3] ⟨G3 3 y i.ty,Z,Z,int_eq (cp om),tv⟩ Z Z Z Z Z dc ⟨Z,Z,C3 N y i.ty,ju _ _ _,tv⟩
    ·have c:a.length<=s:=dR H;rw[YO c]at b;cases p with
     |nil=>
      have A:l++gn a=[]:=YY b.len.symm;refine a7 0 ⟨Z,Z,.cn,?_,Z⟩;rw[A];exact .nil
     |cons N y=>exact sN 0 (y.length+1) rfl rfl b
theorem vd(t:Ty)(c:List D)(e:gK t c)(n:cJ t<4294967296)(f:∀c,Ob (eI t) c->d (.ret (.d c)) j):b1 C b7 ss [.agg (c.map V.d)] j d:=by
 cases e with
 |mk p i=>
  rename_i h o l b a v w;have x:=gN (eI (.mk h o l b a));rw[im]at n;have u:(eI (.mk h o l b a)).length=b.length+a.length:=by simp[eI,gn]
  exact b1.closed (P:=fun s=>∃c,Ob (b++gn a) c/\s=.ret (.d c)) (G4 h o l b a v w p i om) rfl (fun s ⟨c,y,z⟩=>by rw[z];exact f c y)
theorem EP{l:List Ty}(a:k<l.length):gd (l.take (k+1))=max (gd (l.take k)) (pA l[k]):=by
 rw[YX,YN a,yC];simp[gd]
theorem yD{l:List Ty}(a:k<l.length):cC (l.take (k+1))=cC (l.take k)+cJ l[k]:=by
 rw[YX,YN a,jC];simp[cC]
theorem sO(l:List Ty)(a:Nat):cC (l.take a)<=cC l:=by
 have b:=jC (l.take a) (l.drop a);rw[List.take_append_drop]at b;omega
theorem JA(l:List Ty):gd l<=cC l:=by
 induction l with
 |nil=>simp[gd]
 |cons b l a=>have:=MP _ b (YQ _);simp only[gd,cC];omega
theorem G5(n:Nat)(z:∀(t:Ty) (i:List D),cJ t<=n->gK t i->∀{v:VS} {A:dC->VS->Prop},A (.ret (b3 (pA t))) v->b1 C b7 kv [.agg (i.map V.d)] v A) 
  (t:Ty) (i:List D) (O:cJ t<=n+1) (T:n<4294967295) (l:gK t i):b1 C b7 kv [.agg (i.map V.d)] [] fun L u=>u=[]/\L=.ret (b3 (pA t)):=by
 obtain⟨Q,R,x,N,P,rfl⟩:=l.di;have G:=im t;refine cz ?_;refine vd t _ l om (fun i s=>?_);rw[wX];have o:cC (eI t)<=n:=om;generalize eI t=a at s o;have B:=gN a;cases s with
 |nil=>
  refine cl.loop ?_;exact a7 0 ⟨Z,Z⟩
 |ps J=>
  rename_i H E e f;have p:=J.len;refine cl.less (eW:=[(3,b3 0),(7,.d (.ps H E 5 e f)),(8,b3 a.length),(9,b3 0)]) ⟨Z,Z,int_eq (by rw[p]),rfl,tv⟩ ?_;refine cl.iter (fun c:Nat=>[(3,b3 (gd (a.take c))),(7,.d (.ps H E 5 e f)),(8,b3 a.length),(9,b3 c)]) (fun _=>[.box (A7 Q R x N P)]) (fun c=>a.length-c) (fun c=>c<=a.length) ?_ 0 (YU _);intro c S;apply aZ<;>intro w
  ·have b:c<a.length:=fF w;obtain⟨i,y,h⟩:=J.get b;refine b0 Z ?_;obtain⟨U,M,F,W,f2,rfl⟩:=h.di;refine b4 _ (by rw[cv];exact y) ?_;have K:=iC (YS b);refine z a[c] _ om h ?_;refine⟨c+1,b,by show a.length-(c+1)<a.length-c;omega,.drop 1 ⟨int_eq ?_,rfl,rfl,int_eq (cp om),tv⟩ rfl rfl rfl rfl rfl rfl rfl,rfl,rfl⟩;rw[EP b];simp only[Y1];omega
  ·have b:a.length<=c:=dR w;rw[YO b];have I:=JA a;refine a7 0 ⟨Z,?_⟩;exact congrArg dC.ret (congrArg V.d (congrArg (D.int .i64) (cp om)))
theorem JB:∀(e:Nat) (a:Ty) (c:List D),e<4294967295->cJ a<=e->gK a c->∀{b:VS} {i:dC->VS->Prop},i (.ret (b3 (pA a))) b->b1 C b7 kv [.agg (c.map V.d)] b i:=by
 intro e;induction e with
 |zero=>intro a c _ p;have:=lY a;omega
 |succ e l=>
  intro a c t p f b i h;obtain⟨v,w,s,x,u,rfl⟩:=f.di;exact cQ (G5 e (fun a c o n=>l a c om o n) a _ p om f) Z Z h
def jc(o:List V)(b a:List V)(c:jl):VS:=[.box b,.box o,.box a,.eG false,.loop c,.box [.rN 4],.box [.fn eA [] [.bp 5 0,.bp 6 0]]]
variable{q:jl}
theorem lg{o b a:List V}(e:e5 0 o=true)(h:e5 0 b=true)(f:e5 0 a=true)(c:fG 7 (.loop q)=true):ln 7 (jc o b a q) 7=true:=by
 simp only[jc,ln,fG,gl 7 o e,gl 7 b h,gl 7 a f,Bool.true_and,Bool.and_true]at c⊢;rw[c];rfl
theorem PE{o c a b:List V}(f:e5 0 o=true)(i:e5 0 c=true)(h:e5 0 a=true)(l:e5 0 b=true)(e:fG 8 (.loop q)=true):ln 8 (jc o c a q++.box b::j) 8=true:=by
 simp only[jc,YT,List.nil_append,ln,fG,gl 8 o f,gl 8 c i,gl 8 a h,gl 8 b l,Bool.true_and,Bool.and_true]at e⊢;rw[e];rfl
def y6(n:Nat)(b a:List V)(c:jl):VS:=jc [b3 n] b a c
theorem MR(l f:List V)(u:jl)(h:e5 0 l=true)(i:e5 0 f=true)(v:fG 7 (.loop u)=true)(E:fG 8 (.loop u)=true) 
  (T:∀(n:Nat) (K w:List V) (d:dC->VS->Prop),n<4294967296->d (.ret (ct true)) (y6 (n+1) l f u++[.box K])->gT C b7 4 [.agg w] (y6 n l f u++[.box K]) d) (n:Nat)
  (X:∀(t:Ty) (w:List D),cJ t<=n->gK t w->∀c,c+cJ t<4294967296->b1 C b7 eA [.agg (w.map V.d),.bp 5 0,.bp 6 0] (y6 c l f u) fun O s=>s=y6 (c+cJ t) l f u/\O=.ret (ct true))
  (t:Ty) (w:List D) (q:cJ t<=n+1) (F:gK t w) (c:Nat) (B:c+cJ t<4294967296):
  b1 C b7 eA [.agg (w.map V.d),.bp 5 0,.bp 6 0] (y6 c l f u) fun O s=>s=y6 (c+cJ t) l f u/\O=.ret (ct true):=by
 obtain⟨S,U,A,a,R,rfl⟩:=F.di;have L:=im t;refine cz ?_;refine T c (A7 S U A a R) _ _ om ?_;refine vd t _ F om (fun w M=>?_);rw[L];have G:cC (eI t)<=n:=om;have N:c+(cC (eI t)+1)<4294967296:=om;generalize eI t=b at M G N;have g:=gN b;cases M with
 |nil=>
  refine cl.loop ?_;refine cP.drop 7 ?_ ?_ ?_ ?_
  ·exact Z
  ·exact lg Z h i v
  ·exact Z
  exact cP.now Z ⟨Z,Z⟩
 |ps P=>
  rename_i k o x y;have J:=P.len;refine cl.less (eW:=[(12,.d (.ps k o 5 x y)),(13,b3 b.length),(14,b3 0),(2,.bp 6 0)]) ⟨Z,int_eq (by rw[J]),rfl,rfl,tv⟩ ?_;refine cl.iter (fun p:Nat=>[(12,.d (.ps k o 5 x y)),(13,b3 b.length),(14,b3 p),(2,.bp 6 0)]) (fun p=>y6 (c+1+cC (b.take p)) l f u++[.box (A7 S U A a R)]) (fun p=>b.length-p) (fun p=>p<=b.length) ?_ 0 (YU _);intro p r;apply aZ<;>intro B
  ·have e:p<b.length:=fF B;obtain⟨w,hx,z⟩:=P.get e;refine b0 Z ?_;obtain⟨W,Q,I,Y,f2,rfl⟩:=z.di;refine b4 _ (by rw[cv];exact hx) ?_;have m:=iC (YS e);have H:=yD e;have j:=sO b (p+1);refine(X b[p] _ om z (c+1+cC (b.take p)) om).pre [.box (A7 S U A a R),.box (A7 W Q I Y f2)] (lg Z h i v) Z (fun O s P=>?_);obtain⟨rfl,rfl⟩:=P;refine⟨Z,lg Z h i v,Z,?_⟩;refine⟨p+1,e,by show b.length-(p+1)<b.length-p;omega,.drop 8 ⟨rfl,rfl,int_eq (cp om),rfl,tv⟩ rfl rfl ?_ rfl rfl rfl ?_,rfl,rfl⟩
   ·exact PE Z h i Z E
   ·rw[H,<-Nat.add_assoc];rfl
  ·have e:b.length<=p:=dR B;rw[YO e];refine cP.drop 7 ?_ ?_ ?_ ?_
   ·exact Z
   ·exact lg Z h i v
   ·exact Z
   refine cP.now Z ⟨?_,Z⟩;rw[show c+(cC b+1)=c+1+cC b from by omega];rfl
theorem PF(b a:List V)(f:jl)(n:e5 0 b=true)(o:e5 0 a=true)(u:fG 7 (.loop f)=true)(i:fG 8 (.loop f)=true) 
  (v:∀(c:Nat) (l h:List V) (y:dC->VS->Prop),c<4294967296->y (.ret (ct true)) (y6 (c+1) b a f++[.box l])->gT C b7 4 [.agg h] (y6 c b a f++[.box l]) y):∀(c:Nat)
  (e:Ty) (h:List D),cJ e<=c->gK e h->∀s,s+cJ e<4294967296->b1 C b7 eA [.agg (h.map V.d),.bp 5 0,.bp 6 0] (y6 s b a f) fun A p=>p=y6 (s+cJ e) b a f/\A=.ret (ct true):=by
 intro c;induction c with
 |zero=>intro e h z;have:=lY e;omega
 |succ c w=>intro e h z t s x;exact MR b a f n o u i v c w e h z t s x
theorem JC(t:Ty)(h:List D)(c:gK t h)(i:cJ t<4294967296):b1 C b7 oW [.agg (h.map V.d)] [] fun n b=>b=[]/\n=.ret (b3 (cJ t)):=by
 obtain⟨o,p,f,a,l,rfl⟩:=c.di;refine cz ?_;refine b9 ?_;refine b9 ?_;refine(PF (A7 o p f a l) (A7 o p f a l) _ Z Z ?_ ?_ (fun s v h w i e=>?_) _ t _ (YQ _) c 0 om).mono (fun n b u=>?_)
 ·exact Z
 ·exact Z
 ·refine gT.intro ?_;rw[y6,b3,<-cp (a:=s) om]at e;exact e
 ·obtain⟨rfl,rfl⟩:=u;refine a7 0 ⟨Z,?_⟩;show dC.ret (b3 (0+cJ t))=_;rw[Nat.zero_add]
theorem lZ(t:Ty)(e:List D)(a:gK t e)(c:cJ t<4294967296)(b:d (.ret (b3 (cJ t))) j):b1 C b7 oW [.agg (e.map V.d)] j d:=by
 obtain⟨i,l,f,n,h,rfl⟩:=a.di;exact cQ (JC t _ a c) Z Z b
theorem Sm(a b:List UInt8):C.ext eb ([D.str a,D.str b].map cx)=some (cx (.int .i64 (vN a b))):=by
 show ext eb [.string ⟨⟨a⟩⟩,.string ⟨⟨b⟩⟩]=_;rfl
theorem wY(a b:List UInt8)(c:d (.ret (.d (.int .i64 (vN a b)))) j):b1 C b7 o8 [cq a,cq b] j d:=by
 refine b9 ?_;refine b9 ?_;refine Ep (.int .i64 (vN a b)) (Sm a b) Z ?_;exact c
theorem EQ{a b:List UInt8}(c:cB a b=true):vN a b= -1:=by rw[vN,c]
theorem PG(i:(C.ff.get k).isSome=true)(f:D)(a:List mT)(u:ee a f)(E:a.length<4294967296) 
  (s:∀(l:FE) (p:Nat) (G:p<a.length),a[p].1=l.n->a[p].2.2=l.o->∀{j:VS} {d:dC->VS->Prop},d (.ret (ct false)) j->b1 C b7 k [fw l] j d) (n:d (.ret (.d (.int .i64 (-1)))) j):b1 C b7 mA [.d f,.fn k [] []] j d:=by
 refine b9 ?_;cases u with
 |nil=>
  refine cl.loop ?_;exact n
 |ps A=>
  rename_i z y e h;have o:=A.len;refine cl.less (eW:=[(0,.d (.ps z y 7 e h)),(1,.fn k [] []),(7,b3 a.length),(8,b3 0)]) ⟨Z,Z,int_eq (by rw[o]),rfl,tv⟩ ?_;refine cl.iter (fun c:Nat=>[(0,.d (.ps z y 7 e h)),(1,.fn k [] []),(7,b3 a.length),(8,b3 c)]) (fun _=>j) (fun c=>a.length-c) (fun c=>c<=a.length) ?_ 0 (YU _);intro c F;apply aZ<;>intro x
  ·have b:c<a.length:=fF x;obtain⟨l,v,w,t,B⟩:=A.get b;refine b0 Z ?_;refine b4 _ (by rw[cv];exact v) ?_;refine a8 i ?_;refine s l c b w t ?_;refine⟨c+1,b,by show a.length-(c+1)<a.length-c;omega,.same ⟨rfl,rfl,rfl,int_eq (cp om),tv⟩ rfl,rfl,rfl⟩
  ·exact n
theorem cI(b:(C.ff.get k).isSome=true)(f:D)(a:List mT)(c:ee a f)(i:a.length<4294967296) 
  (n:∀(e:FE) (l:Nat) (o:l<a.length),a[l].1=e.n->a[l].2.2=e.o->∀{j:VS} {d:dC->VS->Prop},d (.ret (ct false)) j->b1 C b7 k [fw e] j d) (h:d (.ret (ct false)) j):b1 C b7 lr [.d f,.fn k [] []] j d:=by
 refine b9 ?_;refine PG b f a c i n ?_;exact h
theorem wZ(a:FE)(b:d (.ret (ct a.o)) j):b1 C b7 wu [fw a] j d:=by
 refine cQ (v:=ct a.o) ?_ Z Z b;refine cz ?_;exact a7 0 ⟨Z,Z⟩
theorem ve(b:FE)(c:cM b.n=true)(e:d (.ret (ct false)) j):b1 C b7 tU [fw b] j d:=by
 refine cQ (v:=ct false) ?_ Z Z e;refine cz ?_;have a:b.n.length<4294967296:=by
  simp only[cM,Bool.and_eq_true,decide_eq_true_eq]at c;omega
 refine fV b.n a ?_;refine a7 0 ⟨Z,?_⟩;show dC.ret (ct (!(cM b.n)))=_;rw[c];rfl
theorem A9(a:FE)(b:d (.ret (cq a.n)) j):b1 C b7 hY [fw a] j d:=by
 refine cQ (v:=cq a.n) ?_ Z Z b;refine cz ?_;exact a7 0 ⟨Z,Z⟩
theorem C6{a:Nat}(b:0<a)(c:a<9223372036854775807):IntKind.i64.wrap (YW a-1)=YW (a-1):=by
 simp only[Y1];rw[wrap64 om om];omega
theorem c5(f:D)(a:List mT)(v:ee a f)(K:a.length<4294967296)(x:k8 (·.1) a)(n:d (.ret (b3 0)) j):b1 C b7 ng [.d f,.fn hY [] []] j d:=by
 refine b9 ?_;cases v with
 |nil=>
  refine cl.loop ?_;exact n
 |ps B=>
  rename_i G F i c;have o:=B.len;refine cl.less (eW:=[(0,.d (.ps G F 7 i c)),(1,.fn hY [] []),(5,b3 1)]) ⟨Z,Z,Z,tv⟩ ?_;refine cl.iter (fun b:Nat=>[(0,.d (.ps G F 7 i c)),(1,.fn hY [] []),(5,b3 b)]) (fun _=>j) (fun b=>a.length-b) (fun b=>1<=b) ?_ 1 (YQ _);intro b y;apply aZ<;>intro E
  ·have h:b<a.length:=o▸fF E;obtain⟨t,z,A,J,I⟩:=B.get h;obtain⟨u,w,f1,f2,H⟩:=B.get (show b-1<a.length by omega);have e:cB u.n t.n=true:=by
    rw[<-A,<-f1];exact x.sH (YN om) (YN h) om
   have s:=C6 (a:=b) y om;have l:nth c b=some (fe t):=by rw[cv];exact z
   have p:nth c (b-1)=some (fe u):=by rw[cv];exact w
   repeat first
    |refine b0 s ?_
    |refine b0 rfl ?_
    |refine b4 _ p ?_
    |refine b4 _ l ?_
    |refine b8 ?_
    |refine A9 u ?_
    |refine A9 t ?_
    |refine wY u.n t.n ?_
   refine a6 (by rw[EQ e];rfl) ?_;refine a6 (by rw[EQ e];rfl) ?_;exact⟨b+1,by show 1<=b+1;omega,by show a.length-(b+1)<a.length-b;omega,.same ⟨rfl,rfl,int_eq (cp om),tv⟩ rfl,rfl,rfl⟩
  ·exact n
structure WQ (vu:Bool) (fields:List mT):Prop where
 name:∀x∈fields,cM x.1=true
 VZ:k8 (·.1) fields
 vu:vu=false->∀x∈fields,x.2.2=false
inductive pg:Ty->Prop
 |base {k:Nat} (h:k<=4):pg (.mk k [] [] [] [])
 |list {t:Ty}:pg (.mk 5 [] [] [t] [])
 |UI {fields:List mT} (h:WQ false fields):pg (.mk 6 [] [] [] fields)
 |XA {fields:List mT} (h:WQ false fields):pg (.mk 7 [] [] [] fields)
 |func {t:Ty} {fields:List mT} (h:WQ true fields):pg (.mk 8 [] [] [t] fields)
 |ref {m n:List UInt8} {args:List Ty} (hm:m=[]∨cM m=true) (hn:dB n=true):pg (.mk 10 m n args [])
theorem ee.cV{f:D}(b:ee [] f):f=.cn∨∃e c a,f=.ps e c 7 a []:=by
 cases b with
 |nil=>exact .inl rfl
 |ps b=>cases b;exact .inr ⟨_,_,_,rfl⟩
variable{r:D}
theorem ib.cV(b:ib [] r):r=.cn:=by
 cases b with
 |nil=>rfl
 |ps b a=>cases b;exact absurd rfl a
theorem ib.np{t:Ty}(a:ib [t] r):∃f h b e,r=.ps f h 5 b [e]:=by
 cases a with
 |ps a c=>cases a with|cons _ a=>cases a;exact⟨_,_,_,_,rfl⟩
theorem Ba{h n:List UInt8}{b:List Ty}{a:List mT}(c:cJ (.mk k h n b a)<4294967296):a.length<4294967296/\b.length<4294967296:=by
 have f:=gN (eI (.mk k h n b a));rw[im]at c;have e:(gn a).length=a.length:=by simp[gn]
 rw[eI,YV,e]at f;rw[eI]at c;omega
theorem ER(t:Ty)(A:List D)(h:gK t A)(E:pg t)(w:cJ t<4294967296):b1 C b7 rr [.agg (A.map V.d)] [] fun I z=>z=[]/\I=.ret (ct true):=by
 refine cz ?_;cases E with
 |base o=>
  rename_i n;cases h with
  |mk c b=>
   obtain rfl:=c.cV;rcases b.cV with rfl|⟨H,G,p,rfl⟩
   ·have i:n=0∨n=1∨n=2∨n=3∨n=4:=om;rcases i with rfl|rfl|rfl|rfl|rfl
    ·repeat refine b6 ?_
     refine cI Z _ _ ee.nil dc (fun e f a=>absurd a (YL _)) ?_;exact a7 0 ⟨Z,Z⟩
    ·repeat refine b6 ?_
     refine cI Z _ _ ee.nil dc (fun e f a=>absurd a (YL _)) ?_;exact a7 0 ⟨Z,Z⟩
    ·repeat refine b6 ?_
     refine cI Z _ _ ee.nil dc (fun e f a=>absurd a (YL _)) ?_;exact a7 0 ⟨Z,Z⟩
    ·repeat refine b6 ?_
     refine cI Z _ _ ee.nil dc (fun e f a=>absurd a (YL _)) ?_;exact a7 0 ⟨Z,Z⟩
    ·repeat refine b6 ?_
     refine cI Z _ _ ee.nil dc (fun e f a=>absurd a (YL _)) ?_;exact a7 0 ⟨Z,Z⟩
   ·have i:n=0∨n=1∨n=2∨n=3∨n=4:=om;rcases i with rfl|rfl|rfl|rfl|rfl
    ·repeat refine b6 ?_
     refine cI Z _ _ (ee.ps .nil) dc (fun e f a=>absurd a (YL _)) ?_;exact a7 0 ⟨Z,Z⟩
    ·repeat refine b6 ?_
     refine cI Z _ _ (ee.ps .nil) dc (fun e f a=>absurd a (YL _)) ?_;exact a7 0 ⟨Z,Z⟩
    ·repeat refine b6 ?_
     refine cI Z _ _ (ee.ps .nil) dc (fun e f a=>absurd a (YL _)) ?_;exact a7 0 ⟨Z,Z⟩
    ·repeat refine b6 ?_
     refine cI Z _ _ (ee.ps .nil) dc (fun e f a=>absurd a (YL _)) ?_;exact a7 0 ⟨Z,Z⟩
    ·repeat refine b6 ?_
     refine cI Z _ _ (ee.ps .nil) dc (fun e f a=>absurd a (YL _)) ?_;exact a7 0 ⟨Z,Z⟩
 |list=>
  cases h with
  |mk c b=>
   obtain⟨H,G,p,A,rfl⟩:=c.np;rcases b.cV with rfl|⟨y,v,l,rfl⟩
   ·repeat refine b6 ?_
    refine cI Z _ _ ee.nil dc (fun e f a=>absurd a (YL _)) ?_;exact a7 0 ⟨Z,Z⟩
   ·repeat refine b6 ?_
    refine cI Z _ _ (ee.ps .nil) dc (fun e f a=>absurd a (YL _)) ?_;exact a7 0 ⟨Z,Z⟩
 |UI B=>
  cases h with
  |mk c b=>
   obtain rfl:=c.cV;have u:=B.vu rfl;have x:=(Ba w).1;cases b with
   |nil=>
    repeat refine b6 ?_
    refine cI Z _ _ ee.nil dc (fun e f a=>absurd a (YL _)) ?_;exact a7 0 ⟨Z,Z⟩
   |ps b=>
    repeat refine b6 ?_
    refine cI Z _ _ (ee.ps b) om (fun e f a _ s=>fun o=>wZ e (by rw[<-s,u _ (YS a)];exact o)) ?_;exact a7 0 ⟨Z,Z⟩
 |XA B=>
  cases h with
  |mk c b=>
   obtain rfl:=c.cV;have u:=B.vu rfl;have x:=(Ba w).1;cases b with
   |nil=>
    repeat refine b6 ?_
    refine cI Z _ _ ee.nil dc (fun e f a=>absurd a (YL _)) ?_;exact a7 0 ⟨Z,Z⟩
   |ps b=>
    repeat refine b6 ?_
    refine cI Z _ _ (ee.ps b) om (fun e f a _ s=>fun o=>wZ e (by rw[<-s,u _ (YS a)];exact o)) ?_;exact a7 0 ⟨Z,Z⟩
 |func B=>
  cases h with
  |mk c b=>
   obtain⟨H,G,p,A,rfl⟩:=c.np;cases b with
   |nil=>
    repeat refine b6 ?_
    exact a7 0 ⟨Z,Z⟩
   |ps b=>
    repeat refine b6 ?_
    exact a7 0 ⟨Z,Z⟩
 |ref K J=>
  cases h with
  |mk c b=>
   cases c with
   |nil=>
    rcases b.cV with rfl|⟨y,v,l,rfl⟩
    ·repeat refine b6 ?_
     refine cI Z _ _ ee.nil dc (fun e f a=>absurd a (YL _)) ?_;exact a7 0 ⟨Z,Z⟩
    ·repeat refine b6 ?_
     refine cI Z _ _ (ee.ps .nil) dc (fun e f a=>absurd a (YL _)) ?_;exact a7 0 ⟨Z,Z⟩
   |ps c F=>
    rcases b.cV with rfl|⟨y,v,l,rfl⟩
    ·repeat refine b6 ?_
     refine cI Z _ _ ee.nil dc (fun e f a=>absurd a (YL _)) ?_;exact a7 0 ⟨Z,Z⟩
    ·repeat refine b6 ?_
     refine cI Z _ _ (ee.ps .nil) dc (fun e f a=>absurd a (YL _)) ?_;exact a7 0 ⟨Z,Z⟩
end Go.Proofs.YtpejealjkmhkgaaGreatDoor
