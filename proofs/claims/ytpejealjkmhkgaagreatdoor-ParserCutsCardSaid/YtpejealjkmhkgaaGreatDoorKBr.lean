/- Part of the proof. -/
import Derived.Test.YtpejealjkmhkgaaGreatDoorKBq
set_option linter.all false
set_option maxHeartbeats 16000000
set_option maxRecDepth 100000
open Int renaming ofNat->YL
open Nat renaming le_refl->YM,zero_le->YN
open List renaming length_cons->YO,getElem_mem->YP,getElem?_eq_getElem->YQ,take_append_drop->YR
namespace Go.Proofs.YtpejealjkmhkgaaGreatDoor
open Go.AM Go.VM
theorem PR.E.of{e b:Type}{l:PR e}{o n:Nat}(p:l=.bad o n)(i:l.E):(PR.bad o n:PR b).E:=fun _ _ c=>by
 cases c;exact i _ _ p
theorem tM(R:Rd)(p:Nat):(c9 R p).E:=by
 unfold c9;split
 ·exact .bad dc
 ·exact .ok
theorem Bq(R:Rd)(b:List et)(p:Nat):(ef R b p).E:=by
 unfold ef;split
 ·exact .bad dc
 ·split
  ·exact .bad dc
  ·exact .ok
theorem pE{ex:Nat->PR Ex}(he:∀p,(ex p).E)(R:Rd)(b:List UInt8)(p:Nat):(eJ ex R b p).E:=by
 unfold eJ;split
 ·exact .of ‹_› (hE R _ _)
 ·exact he _
theorem SN{b:Type}{step:b->Nat->PR b}(n:∀e p,(step e p).E)(R:Rd)(c:List UInt8):∀(i:Nat) (e:b) (p:Nat),(gS step R c i e p).E:=by
 intro i;induction i with
 |zero=>intro e p;exact .bad dc
 |succ i l=>
  intro e p;rw[gS];split
  ·exact .of ‹_› (n _ _)
  ·split
   ·exact .ok
   ·split
    ·exact .of ‹_› (hE R _ _)
    ·exact l _ _
theorem zF{c:Type}{step:c->Nat->PR c}(i:∀e p,(step e p).E)(R:Rd)(b:List UInt8)(e:c)(p:Nat):(fA step R b e p).E:=by
 unfold fA;split
 ·exact .ok
 ·exact SN i R b _ _ _
section
variable{ty:Nat->PR Ty} {ex:Nat->PR Ex} (ht:∀p,(ty p).E) (he:∀p,(ex p).E) (R:Rd)
include he
theorem SO(b:List et)(p:Nat):(ja ex R b p).E:=by
 unfold ja;split
 ·exact .of ‹_› (Bq R _ _)
 ·exact .map (pE he R _ _)
theorem SP(b:List et)(p:Nat):(ic ex R b p).E:=by
 unfold ic;split
 ·exact .of ‹_› (Bq R _ _)
 ·split
  ·exact .of ‹_› (tM R _)
  ·exact .map (pE he R _ _)
theorem Hx(c:List UInt8)(e:Nat)(b:List Ex)(p:Nat):(gV ex R c e b p).E:=.map (zF (SO he R) R _ _ _)
theorem Va(p:Nat):(qX ex R p).E:=by
 unfold qX;split
 ·exact .of ‹_› (tM R _)
 ·split
  ·exact .of ‹_› (pE he R _ _)
  ·exact .map (pE he R _ _)
theorem Vb(b:List (List UInt8)):∀(c:Nat) (e:Ex) (p:Nat),(rK ex b R c e p).E:=by
 intro c;induction c with
 |zero=>intro e p;exact .bad dc
 |succ c i=>
  intro e p;rw[rK];split
  ·exact .ok
  ·split
   ·exact .of ‹_› (he _)
   ·exact i _ _
theorem E5(b:List (List UInt8))(p:Nat):(la ex b R p).E:=by
 unfold la;split
 ·exact .of ‹_› (he _)
 ·exact Vb he R _ _ _ _
theorem SQ:∀(c:Nat) (e:Ex) (p:Nat),(lc ex R c e p).E:=by
 intro c;induction c with
 |zero=>intro e p;exact .bad dc
 |succ c b=>
  intro e p;rw[lc];split
  ·split
   ·exact .of ‹_› (tM R _)
   ·exact b _ _
  ·split
   ·split
    ·exact .of ‹_› (Hx he R _ _ _ _)
    ·exact b _ _
   ·exact .ok
omit he in
theorem Qs(b p:Nat):(mF b R p).E:=by
 unfold mF;split
 ·exact .bad dc
 ·split
  ·split
   ·exact .bad dc
   ·exact .ok
  ·exact .bad dc
include ht
theorem SS(b:List et)(p:Nat):(hR ty ex R b p).E:=by
 unfold hR;split
 ·exact .of ‹_› (Bq R _ _)
 ·split
  ·exact .of ‹_› (hE R _ _)
  ·split
   ·exact .of ‹_› (ht _)
   ·split
    ·exact .map (he _)
    ·exact .ok
omit he in
theorem Qt(c:List UInt8)(p:Nat):(gm ty R c p).E:=by
 have b:∀p,(if c0 (R.tok p) [58,58]=true then(c9 R (p+1)).map fun e=>(4,c,e)else .ok (3,[],c) p:PR (Nat×List UInt8×List UInt8)).E:=fun p=>by
  split
  ·exact .map (tM R _)
  ·exact .ok
 unfold gm;split
 ·exact .of ‹_› (b _)
 ·split
  ·exact .map (E1 ht R _)
  ·exact .ok
theorem SU(p:Nat):(e7 ty ex R p).E:=by
 have i:∀c b,(if c0 (R.tok b) [58]=true then(ty (b+1)).map fun n=>Ex.mk 11 [] [] [] 0 [n] [] [c]else .ok c b).E:=fun c b=>by
  split
  ·exact .map (ht _)
  ·exact .ok
 have e:∀l p,(kc ex l p).E:=fun l p=>.map (he p);unfold e7;repeat' split
 all_goals first
  |exact Qs R _ _
  |exact .ok
  |exact .bad dc
  |exact Qt ht R _ _
  |exact Hx he R _ _ _ _
  |exact .of ‹_› (tM R _)
  |exact .of ‹_› (pE he R _ _)
  |exact .of ‹_› (ht _)
  |exact .of ‹_› (he _)
  |exact .of ‹_› (hE R _ _)
  |exact .of ‹_› (i _ _)
  |exact .map (hE R _ _)
  |exact .map (zF e R _ _ _)
theorem SV(p:Nat):(jB ty ex R p).E:=by
 unfold jB;split
 ·exact .of ‹_› (SU ht he R _)
 ·exact SQ he R _ _ _
theorem Vc:∀(b p:Nat),(ov ty ex R b p).E:=by
 intro b;induction b with
 |zero=>intro p;exact .bad dc
 |succ b c=>
  intro p;rw[ov];split
  ·exact .map (c _)
  ·split
   ·exact Qs R _ _
   ·exact SV ht he R _
theorem Qu(p:Nat):(pd ty ex R p).E:=E5 (E5 (Vc ht he R _) R _) R _ p
theorem Vd:∀(b p:Nat),(mm ty ex R b p).E:=by
 intro b;induction b with
 |zero=>intro p;exact .bad dc
 |succ b c=>
  intro p;rw[mm];split
  ·exact .map (c _)
  ·split
   ·exact .of ‹_› (Qu ht he R _)
   ·split
    ·exact .ok
    ·exact .map (Qu ht he R _)
theorem Wx(p:Nat):(MB ty ex R p).E:=E5 (E5 (Vd ht he R _) R _) R _ p
theorem SW(p:Nat):(kH ty ex R p).E:=by
 unfold kH;split
 ·exact .of ‹_› (q8 ht R _)
 ·split
  ·exact .of ‹_› (he _)
  ·split
   ·exact .of ‹_› (pE he R _ _)
   ·exact .map (pE he R _ _)
theorem Qv(p:Nat):(iW ty ex R p).E:=by
 unfold iW;split
 ·exact .of ‹_› (q8 ht R _)
 ·split
  ·exact .of ‹_› (he _)
  ·split
   ·exact .of ‹_› (hE R _ _)
   ·exact .map (zF (SP he R) R _ _ _)
theorem SX(p:Nat):(jb ty ex R p).E:=by
 unfold jb;repeat' split
 all_goals first
  |exact .of ‹_› (q8 ht R _)
  |exact .of ‹_› (tM R _)
  |exact .of ‹_› (hE R _ _)
  |exact .of ‹_› (pE he R _ _)
  |exact .map (pE he R _ _)
theorem SY(p:Nat):(funcF ty ex R p).E:=by
 unfold funcF;split
 ·exact .of ‹_› (hE R _ _)
 ·split
  ·exact .of ‹_› (zF (SS ht he R) R _ _ _)
  ·exact .map (pE he R _ _)
end
theorem TV(R:Rd):∀(c p:Nat),(AW R c p).E:=by
 intro c;induction c with
 |zero=>intro p;exact .bad dc
 |succ c b=>
  intro p;have ht:=JX R R.ts.length;rw[AW,y5];repeat' split
  ·exact Va b R _
  ·exact SW ht b R _
  ·exact Qv ht b R _
  ·exact SX ht b R _
  ·exact SY ht b R _
  ·exact Wx ht b R _
def tN:V:=.agg [.d (.int .i64 0),.d (.str []),.d (.str []),.d (.str []),.d (.int .i64 0),.d .cn,.d .cn,.d .cn]
def Br(q:List UInt8)(i:dC):Prop:=match gk q with
 |.err b n=>i=.ret (.dV [tN,b3 b,b3 n])
 |.ok e=>∃l c,match AW ⟨l,c,e⟩ e.length 0 with
  |.bad b n=>i=.ret (.dV [tN,b3 b,b3 n])
  |.ok r p=>if(Rd.tok ⟨l,c,e⟩ p).kind≠0 then i=.ret (.dV [tN,b3 (Rd.tok ⟨l,c,e⟩ p).off,b3 3])else ∃o,ly r o/\i=.ret (.dV [.agg (o.map V.d),b3 0,b3 0])
variable{a:dC->VS->Prop} {h:VS}
theorem J2(s:List UInt8)(y:∀x,Br s x->a x h):b1 C b7 qE [cq s,.fn cR [] []] h a:=by
 refine b1.closed (P:=Br s) ?_ Z y;refine cz ?_;refine xT s (fun x o=>?_);cases c:gk s with
 |err v A=>
  rw[c]at o;obtain rfl:x=_:=o;have he:=oc c;refine aZ (fun q=>?_) (fun q=>absurd (k6 q) he);repeat refine b6 ?_
  refine a7 0 ⟨Z,Z,?_⟩;unfold Br;rw[c];rfl
 |ok e=>
  rw[c]at o;obtain⟨n,b,rfl⟩:=o;obtain⟨G,i⟩:=mn (R:=⟨n,b,e⟩) c;have t:=Hw (R:=⟨n,b,e⟩) c;have p:=TN G t e.length 0 (by show e.length-0<=e.length;omega);refine p.call 0 (YM _) i 4 _ _ ?_ (fun L I w l r=>?_) (fun v A w l=>?_)
  ·exact Z
  ·obtain⟨H,K,J,E,B,ty,F,D,rfl⟩:=r.eight;obtain⟨_,z⟩:=p.lt _ _ _ (YN _) i l;refine ei ⟨n,b,e⟩ w _ (bZ z) 4 ?_ ?_
   ·exact Z
   apply aZ<;>intro q
   ·have u:(Rd.tok ⟨n,b,e⟩ w).kind≠0:=fun A=>by rw[A]at q;cases q
    refine eO _ (Rd.tok ⟨n,b,e⟩ w).off 3 ?_;refine my.body xH ?_;repeat refine b6 ?_
    refine a7 0 ⟨Z,Z,?_⟩;unfold Br;rw[c];refine⟨n,b,?_⟩;rw[l];dsimp only;rw[if_pos u];rfl
   ·have u:(Rd.tok ⟨n,b,e⟩ w).kind=0:=k6 q;refine my.body xH ?_;refine a7 0 ⟨Z,Z,?_⟩;unfold Br;rw[c];refine⟨n,b,?_⟩;rw[l];dsimp only;rw[if_neg om];exact⟨_,r,Z⟩
  ·refine my.body xH ?_;repeat refine b6 ?_
   refine a7 0 ⟨Z,Z,?_⟩;unfold Br;rw[c];refine⟨n,b,?_⟩;rw[l];rfl
def Hy(b:List UInt8)(e:dC):Prop:=∃c,ly (qg b).1 c/\e=.ret (.dV [.agg (c.map V.d),b3 (qg b).2.1,b3 (qg b).2.2])
variable{f:Nat}
theorem ra{b:List UInt8}{c:Nat}(e:qg b=(uF,f,c)):Hy b (.ret (.dV [tN,b3 f,b3 c])):=by
 rw[Hy,e];exact⟨_,SM,Z⟩
theorem Ll(c:f≠0):decide (YL f=0)=false:=decide_eq_false fun b=>c (by simp only[Int.ofNat_eq_natCast]at b;omega)
theorem Hz(s:List UInt8):b1 C b7 uo [cq s] [] fun A F=>F=[]/\cN A=true/\Hy s A:=by
 refine cz ?_;refine J2 s (fun A b=>?_);unfold Br at b;cases n:gk s with
 |err l u=>
  rw[n]at b;have b:A=.ret (.dV [tN,b3 l,b3 u]):=b;subst b;have q:=oc n;have e:qg s=(uF,l,u):=by rw[qg,n]
  refine a6 (Ll q) ?_;refine a7 0 ⟨Z,Z,ra e⟩
 |ok c=>
  rw[n]at b;dsimp only at b;obtain⟨z,i,b⟩:=b;obtain⟨M,x⟩:=mn (R:=⟨z,i,c⟩) n;have G:=qc (R:=⟨z,i,c⟩) n;have H:AW ⟨z,i,c⟩ c.length=AW ⟨0,0,c⟩ c.length:=Qr (R:=⟨z,i,c⟩) (R':=⟨0,0,c⟩) rfl _;have o:=Bg M G c.length 0;rw[H]at b o;cases p:AW ⟨0,0,c⟩ c.length 0 with
  |bad l u=>
   rw[p]at b;have b:A=.ret (.dV [tN,b3 l,b3 u]):=b;subst b;have q:=TV _ _ _ l u p;have e:qg s=(uF,l,u):=by rw[qg,n];dsimp only;rw[p]
   refine a6 (Ll q) ?_;refine a7 0 ⟨Z,Z,ra e⟩
  |ok y t=>
   rw[p]at b;dsimp only at b;have e:qg s=if(Rd.tok ⟨0,0,c⟩ t).kind≠0 then(uF,(Rd.tok ⟨0,0,c⟩ t).off,3)else if sX y≠0 then(uF,0,sX y)else(y,0,0):=by rw[qg,n];dsimp only;rw[p]
   have I:Rd.tok ⟨z,i,c⟩ t=Rd.tok ⟨0,0,c⟩ t:=eg (R:=⟨z,i,c⟩) (R':=⟨0,0,c⟩) rfl t;rw[I]at b;by_cases B:(Rd.tok ⟨0,0,c⟩ t).kind≠0
   ·rw[if_pos B]at b e;subst b;refine a7 0 ⟨Z,Z,ra e⟩
   ·rw[if_neg B]at b e;obtain⟨T,v,rfl⟩:=b;obtain⟨J,P,_,D⟩:=o 0 y t (YM _) x p;have E:=M.len;have D:t<c.length:=D;have E:c.length<4294967296:=E;obtain⟨S,V,U,O,L,ty,Q,N,rfl⟩:=v.eight;refine yL y _ v J om ?_;apply aZ<;>intro w
    ·have r:sX y≠0:=fun u=>by rw[u]at w;cases w
     rw[if_pos r]at e;refine a7 0 ⟨Z,Z,ra e⟩
    ·have r:sX y=0:=k6 w;rw[if_neg om]at e;rw[r];refine a7 0 ⟨Z,Z,by rw[Hy,e];exact⟨_,v,rfl⟩⟩
theorem J3(c:List UInt8)(b:∀e,Hy c e->a e h):b1 C b7 uo [cq c] h a:=
 b1.closed (Hz c) rfl b
def tO:V:=.agg [cq [],.d .cn,.d .cn]
abbrev vo(R:Rd)(p:Nat):PR (Fh×List Nat):=ow (de R R.ts.length) (AW R R.ts.length) R p
def yM(s:List UInt8)(i:dC)(l:D):Prop:=match gk s with
 |.err b o=>i=.ret (.dV [tO,b3 b,b3 o])
 |.ok e=>∃n c,match vo ⟨n,c,e⟩ 0 with
  |.bad b o=>i=.ret (.dV [tO,b3 b,b3 o])
  |.ok r q=>if(Rd.tok ⟨n,c,e⟩ q).kind≠0 then i=.ret (.dV [tO,b3 (Rd.tok ⟨n,c,e⟩ q).off,b3 3])else ∃p,EO r.1 p/\C2 r.2 l/\i=.ret (.dV [.agg (p.map V.d),b3 0,b3 0])
theorem HA{R:Rd}(u:R.Wf)(r:R.Nm)(l:R.ts.length<=65537):∀(t:Nat) (A:List sL) (p:Nat) (i:List sL) (q:Nat),p<R.ts.length->eK R t A p=.ok i q->p<=q/\q<R.ts.length:=by
 intro t;induction t with
 |zero=>intro A p i q _ e;cases e
 |succ t z=>
  intro A p i q n e;rw[eK]at e;split at e
  ·rename_i v;split at e
   ·cases e
   ·rename_i K C b;rw[fR]at b;split at b
    ·cases b
    ·rename_i s G x;obtain⟨H,F⟩:=(vj u r l).lt _ _ _ (u.step n v) x;obtain⟨I,c,_⟩:=du b;rw[dA]at c;split at c
     ·cases c
     ·rename_i J D o;have y:=cH _ _ _ o;have w:=c8 u _ _ _ F o;simp only[YO,List.length_nil]at y;obtain⟨L,E⟩:=fB u w c;obtain⟨M,B⟩:=z _ _ _ _ E e;exact⟨om,B⟩
  ·cases e;exact⟨YM _,n⟩
theorem Ns{R:Rd}(y:R.Wf){ty:Nat->PR Ty}{ex:Nat->PR Ex}{lo:Nat}(ht:∀p q b,lo<=p->p<R.ts.length->ty p=.ok q b->p<b/\b<R.ts.length)(s:∀p q b,lo<=p->p<R.ts.length->ex p=.ok q b->p<b/\b<R.ts.length):∀(n:Nat) (u:List kA) (e:List Nat) (p:Nat) (i:List kA×List Nat) (b:Nat),lo<=p->p<R.ts.length->fX ty ex R n u e p=.ok i b->p<=b/\b<R.ts.length:=by
 intro n;induction n with
 |zero=>intro u e p i b _ _ c;cases c
 |succ n t=>
  intro u e p i b r l c;rw[fX]at c;split at c
  ·split at c
   ·cases c
   ·rename_i A w o;obtain⟨z,x⟩:=qe y ht s r l o;obtain⟨B,v⟩:=t _ _ _ _ _ om x c;exact⟨om,v⟩
  ·cases c;exact⟨YM _,l⟩
theorem SZ{R:Rd}(o:R.Wf)(e:R.Nm)(c:R.ts.length<=65537){ty:Nat->PR Ty}{ex:Nat->PR Ex}{lo:Nat}(ht:∀p n f,lo<=p->p<R.ts.length->ty p=.ok n f->p<f/\f<R.ts.length)(v:∀p n f,lo<=p->p<R.ts.length->ex p=.ok n f->p<f/\f<R.ts.length){C:Fh×List Nat}(t:lo<R.ts.length)(i:ow ty ex R lo=.ok C f):lo<=f/\f<R.ts.length:=by
 rw[ow]at i;split at i
 ·cases i
 ·rename_i s z b;rw[dA]at b;split at b
  ·cases b
  ·rename_i G x l;have w:=cH _ _ _ l;have r:=c8 o _ _ _ t l;simp only[YO,List.length_nil]at w;obtain⟨F,B⟩:=(vj o e c).lt _ _ _ r b;split at i
   ·cases i
   ·rename_i D E q;obtain⟨H,A⟩:=HA o e c _ _ _ _ _ B q;obtain⟨n,u,_⟩:=du i;obtain⟨I,y⟩:=Ns o ht v _ _ _ _ _ _ om A u;exact⟨om,y⟩
theorem Qw{R:Rd}(E:R.Wf)(r:R.Nm)(l:R.ts.length<=65537){ty:Nat->PR Ty}{ex:Nat->PR Ex}{p:Nat}(ht:eo ty R p)(x:Good ty R p)(o:ld cR ex R p)(y:p<R.ts.length)(s:Nat)(q:nth h s=some (dq R p)) 
  (v:∀n u c e,ow ty ex R p=.ok n e->EO n.1 u->C2 n.2 c->a (.ret (.dV [.agg (u.map V.d),.d c])) (h.set s (dq R e))) (A:∀b i e,ow ty ex R p=.bad b i->a (.eE (dt b i)) (h.set s (dq R e))):b1 C b7 rm [.bp s 0] h a:=by
 refine b1.one (dN:=[.bp 0 0]) (P:=XK R (ow ty ex R p)) (MU E r l ht x o y) s q Z Z Z (fun F D t=>?_);unfold XK at t;split at t
 ·rename_i n e i;obtain⟨rfl,u,c,B,z,rfl⟩:=t;exact v n u c e i B z
 ·rename_i b w i;obtain⟨e,rfl,rfl⟩:=t;exact A b w e i
theorem HB(s:List UInt8):b1 C b7 j6 [cq s,.fn k2 [] [.bp 0 0]] [.box [.d .cn]] fun H E=>∃o,E=[.box o]/\cN H=true/\e5 0 o=true/\∃l,o=[.d l]/\yM s H l:=by
 refine cz ?_;refine xT s (fun H r=>?_);cases e:gk s with
 |err D M=>
  rw[e]at r;obtain rfl:H=_:=r;have he:=oc e;refine aZ (fun w=>?_) (fun w=>absurd (k6 w) he);repeat refine b6 ?_
  refine a7 1 ⟨_,Z,Z,Z,_,Z,?_⟩;unfold yM;rw[e];rfl
 |ok c=>
  rw[e]at r;obtain⟨i,b,rfl⟩:=r;obtain⟨G,n⟩:=mn (R:=⟨i,b,c⟩) e;have y:=Hw (R:=⟨i,b,c⟩) e;have q:=qc (R:=⟨i,b,c⟩) e;have t:c.length<=65537:=(wV e).2.2.2.1;have v:=TN G y c.length 0 (by show c.length-0<=c.length;omega);have u:=AZ G c.length 0 (by show c.length-0<=c.length;omega);have x:=qd G q c.length;refine b9 ?_;refine Qw G q t u x v n 5 ?_ (fun O P l F p N L=>?_) (fun D M F p=>?_)
  ·exact Z
  ·obtain⟨z,B,K,I,rfl⟩:=N;obtain⟨_,J⟩:=SZ G q t u.lt v.lt n p;refine ei ⟨i,b,c⟩ F _ (bZ J) 5 ?_ ?_
   ·exact Z
   apply aZ<;>intro w
   ·have A:(Rd.tok ⟨i,b,c⟩ F).kind≠0:=fun M=>by rw[M]at w;cases w
    refine eO _ (Rd.tok ⟨i,b,c⟩ F).off 3 ?_;refine my.body xH ?_;repeat refine b6 ?_
    refine a7 1 ⟨_,Z,Z,Z,l,Z,?_⟩;unfold yM;rw[e];refine⟨i,b,?_⟩;rw[show vo ⟨i,b,c⟩ 0=_ from p];dsimp only;rw[if_pos A];rfl
   ·have A:(Rd.tok ⟨i,b,c⟩ F).kind=0:=k6 w;refine my.body xH ?_;refine a7 1 ⟨_,Z,Z,Z,l,Z,?_⟩;unfold yM;rw[e];refine⟨i,b,?_⟩;rw[show vo ⟨i,b,c⟩ 0=_ from p];dsimp only;rw[if_neg om];exact⟨_,⟨z,B,K,I,Z⟩,L,Z⟩
  ·refine my.body xH ?_;repeat refine b6 ?_
   refine a7 1 ⟨_,Z,Z,Z,.cn,Z,?_⟩;unfold yM;rw[e];refine⟨i,b,?_⟩;rw[show vo ⟨i,b,c⟩ 0=_ from p];rfl
theorem J4(i:List UInt8)(n:Nat)(l:nth h n=some (.box [.d .cn]))(o:∀c b,yM i c b->a c (h.set n (.box [.d b]))):b1 C b7 j6 [cq i,.fn k2 [] [.bp n 0]] h a:=
 b1.one (dN:=[cq i,.fn k2 [] [.bp 0 0]]) (P:=fun c p=>∃b,p=[.d b]/\yM i c b) (HB i) n l rfl rfl rfl (fun c q ⟨b,e,r⟩=>by rw[e];exact o c b r)
def Od(c:Prop)(e:dC):Prop:=∃b:Bool,(c->b=true)/\e=.ret (ct b)
variable{j:Prop}
theorem kC(b:¬j):Od j (.ret (ct false)):=⟨false,fun p=>absurd p b,rfl⟩
theorem tP:Od j (.ret (ct true)):=⟨true,fun _=>rfl,rfl⟩
abbrev Wy(n:Nat):Prop:=∀(e l:Ty) (i b:List D),cJ e<=n->gK e i->gK l b->∀{c:VS} {o:dC->VS->Prop},(∀p:Bool,(e=l->p=true)->o (.ret (ct p)) c)->b1 C b7 gr [.agg (i.map V.d),.agg (b.map V.d)] c o
variable{k m:D}
theorem Nt(n:Nat)(f:Wy n)(ah:n<4294967295){l s:List Ty}(ae:cC l<=n)(g:ib l k)(y:ib s m):b1 C b7 ni [.d k,.d m,.fn gr [] []] [] fun ad N=>N=[]/\Od (l=s) ad:=by
 have j:=gN l;refine cz ?_;cases g with
 |nil=>
  cases y with
  |nil=>
   refine cl.loop ?_;exact a7 0 ⟨Z,tP⟩
  |ps R o=>
   rename_i b;have e:=R.len;rcases b with _|⟨S,d⟩
   ·exact absurd Z o
   ·exact a7 0 ⟨Z,kC fun t=>by rw[<-t]at e;simp at e⟩
 |ps R o=>
  rename_i ab aa w b;have e:=R.len;cases y with
  |nil=>
   rcases b with _|⟨S,d⟩
   ·exact absurd Z o
   ·exact a7 0 ⟨Z,kC fun t=>by rw[t]at e;simp at e⟩
  |ps H h=>
   rename_i G O p c;have Y:=H.len;apply aZ<;>intro A
   ·refine a7 0 ⟨Z,kC fun t=>?_⟩;have:b.length≠c.length:=fun t=>by rw[t]at A;simp at A
    rw[e,Y,t]at this;exact this Z
   ·have X:b.length=c.length:=by
     have:decide (YL b.length=YL c.length)=true:=vh A;exact CM this
    refine cl.less (eW:=[(1,.d (.ps G O 5 p c)),(2,.fn gr [] []),(15,.d (.ps ab aa 5 w b)),(16,b3 b.length),(17,b3 0)]) ⟨Z,Z,Z,Z,Z,tv⟩ ?_;refine cl.iter (fun i:Nat=>[(1,.d (.ps G O 5 p c)),(2,.fn gr [] []),(15,.d (.ps ab aa 5 w b)),(16,b3 b.length),(17,b3 i)]) (fun _=>[]) (fun i=>l.length-i) (fun i=>i<=l.length) ?_ 0 (YN _);intro i ag;apply aZ<;>intro W
    ·have q:i<l.length:=e▸fF W;have J:i<s.length:=om;obtain⟨ai,a,x⟩:=R.get q;obtain⟨af,B,r⟩:=H.get J;have ac:=iC (YP q);obtain⟨P,E,v,Q,f2,rfl⟩:=x.di;obtain⟨I,F,u,K,f3,rfl⟩:=r.di;have L:nth b i=some [.int .i64 (YL P),.str E,.str v,Q,f2]:=by rw[cv];exact a
     have z:nth c i=some [.int .i64 (YL I),.str F,.str u,K,f3]:=by rw[cv];exact B
     refine b0 Z ?_;refine b4 _ L ?_;refine b0 Z ?_;refine b4 _ z ?_;refine f l[i] s[i] [.int .i64 (YL P),.str E,.str v,Q,f2] [.int .i64 (YL I),.str F,.str u,K,f3] om x r (fun U V=>?_);apply aZ<;>intro T
     ·have M:U=false:=vg T;refine a7 0 ⟨Z,kC fun t=>?_⟩;have:=V (by subst t;rfl);rw[M]at this;cases this
     ·exact⟨i+1,q,by show l.length-(i+1)<l.length-i;omega,.pick 0 [] ⟨rfl,rfl,rfl,rfl,int_eq (cp om),tv⟩ rfl rfl rfl rfl rfl dc trivial,rfl,rfl⟩
    ·exact a7 0 ⟨Z,tP⟩
theorem J5(n:Nat)(o:Wy n){c b:FE}{t l:Ty}(p:cJ t<=n)(v:gK t c.ty)(q:gK l b.ty):b1 C b7 gQ [fw c,fw b] [] fun w e=>e=[]/\Od (c.n=b.n/\c.o=b.o/\t=l) w:=by
 refine cz ?_;apply aZ<;>intro s
 ·repeat refine dX ?_
  apply aZ<;>intro r
  ·repeat refine dX ?_
   refine o t l c.ty b.ty p v q (fun y u=>?_);repeat refine dX ?_
   exact a7 0 ⟨Z,y,fun x=>u x.2.2,Z⟩
  ·repeat refine dX ?_
   exact a7 0 ⟨Z,kC fun i=>of_decide_eq_false r i.2.1⟩
 ·repeat refine dX ?_
  exact a7 0 ⟨Z,kC fun i=>of_decide_eq_false s i.1⟩
theorem J6(n:Nat)(f:Wy n)(af:n<4294967295){l r:List mT}(ad:cC (gn l)<=n)(g:ee l k)(v:ee r m):b1 C b7 mC [.d k,.d m,.fn gQ [] []] [] fun y t=>t=[]/\Od (l=r) y:=by
 have h:=gN (gn l);have aa:(gn l).length=l.length:=by simp[gn]
 refine cz ?_;cases g with
 |nil=>
  cases v with
  |nil=>
   refine cl.loop ?_;exact a7 0 ⟨Z,tP⟩
  |ps u=>
   rename_i b;have i:=u.len;rcases b with _|⟨R,d⟩
   ·refine cl.loop ?_;exact a7 0 ⟨Z,tP⟩
   ·exact a7 0 ⟨Z,kC fun q=>by rw[<-q]at i;simp at i⟩
 |ps u=>
  rename_i ab j s b;have i:=u.len;cases v with
  |nil=>
   rcases b with _|⟨R,d⟩
   ·refine cl.loop ?_;exact a7 0 ⟨Z,tP⟩
   ·exact a7 0 ⟨Z,kC fun q=>by rw[q]at i;simp at i⟩
  |ps B=>
   rename_i z K o c;have W:=B.len;apply aZ<;>intro x
   ·refine a7 0 ⟨Z,kC fun q=>?_⟩;have:b.length≠c.length:=fun q=>by rw[q]at x;simp at x
    rw[i,W,q]at this;exact this Z
   ·have V:b.length=c.length:=by
     have:decide (YL b.length=YL c.length)=true:=vh x;exact CM this
    refine cl.less (eW:=[(1,.d (.ps z K 7 o c)),(2,.fn gQ [] []),(15,.d (.ps ab j 7 s b)),(16,b3 b.length),(17,b3 0)]) ⟨Z,Z,Z,Z,Z,tv⟩ ?_;refine cl.iter (fun e:Nat=>[(1,.d (.ps z K 7 o c)),(2,.fn gQ [] []),(15,.d (.ps ab j 7 s b)),(16,b3 b.length),(17,b3 e)]) (fun _=>[]) (fun e=>l.length-e) (fun e=>e<=l.length) ?_ 0 (YN _);intro e ae;apply aZ<;>intro U
    ·have p:e<l.length:=i▸fF U;have E:e<r.length:=om;obtain⟨O,a,I,L,M⟩:=u.get p;obtain⟨Q,X,G,N,J⟩:=B.get E;have ac:cJ l[e].2.1<=cC (gn l):=iC (List.mem_map_of_mem (YP p));have F:nth b e=some (fe O):=by rw[cv];exact a
     have w:nth c e=some (fe Q):=by rw[cv];exact X
     refine b0 Z ?_;refine b4 _ F ?_;refine b0 Z ?_;refine b4 _ w ?_;refine b1.closed (P:=fun y=>Od (O.n=Q.n/\O.o=Q.o/\l[e].2.1=r[e].2.1) y) (args:=[fw O,fw Q]) ((J5 n f om M J).mono fun y t u=>⟨u.1,by obtain⟨A,_,q⟩:=u.2;rw[q];rfl,u.2⟩) rfl (fun y Y=>?_);obtain⟨A,T,rfl⟩:=Y;apply aZ<;>intro S
     ·have H:A=false:=vg S;refine a7 0 ⟨Z,kC fun q=>?_⟩;have:=T (by subst q;exact⟨I.symm.trans G,L.symm.trans N,rfl⟩);rw[H]at this;cases this
     ·exact⟨e+1,p,by show l.length-(e+1)<l.length-e;omega,.pick 0 [] ⟨rfl,rfl,rfl,rfl,int_eq (cp om),tv⟩ rfl rfl rfl rfl rfl dc trivial,rfl,rfl⟩
    ·exact a7 0 ⟨Z,tP⟩
theorem Nu(n:Nat)(B:Wy n)(A:n<4294967295)(t T:Ty)(R y:List D)(ht:cJ t<=n+1)(H:gK t R)(E:gK T y):b1 C b7 gr [.agg (R.map V.d),.agg (y.map V.d)] [] fun p o=>o=[]/\Od (t=T) p:=by
 cases H with
 |mk N K=>
  rename_i h j W l b f g;cases E with
  |mk G w=>
   rename_i Y d U q c X a;have Q:cC l+qY b<=n:=by simp only[cJ]at ht;omega
   have O:=qb b;refine cz ?_;apply aZ<;>intro x
   ·have S:=CM x;repeat refine dX ?_
    apply aZ<;>intro I
    ·repeat refine dX ?_
     apply aZ<;>intro M
     ·repeat refine dX ?_
      refine b1.closed (P:=fun p=>Od (l=q) p) ((Nt n B A om N G).mono fun p o s=>⟨s.1,by obtain⟨J,_,e⟩:=s.2;rw[e];rfl,s.2⟩) rfl (fun p r=>?_);obtain⟨u,F,rfl⟩:=r;repeat refine dX ?_
      apply aZ<;>intro v
      ·have i:u=true:=v;subst i;repeat refine dX ?_
       refine b1.closed (P:=fun p=>Od (b=c) p) ((J6 n B A om K w).mono fun p o s=>⟨s.1,by obtain⟨J,_,e⟩:=s.2;rw[e];rfl,s.2⟩) rfl (fun p r=>?_);obtain⟨L,z,rfl⟩:=r;repeat refine dX ?_
       exact a7 0 ⟨Z,L,fun e=>z (by cases e;rfl),rfl⟩
      ·have i:u=false:=v;subst i;repeat refine dX ?_
       exact a7 0 ⟨Z,kC fun e=>absurd (F (by cases e;rfl)) dc⟩
     ·repeat refine dX ?_
      exact a7 0 ⟨Z,kC fun e=>of_decide_eq_false M (by cases e;rfl)⟩
    ·repeat refine dX ?_
     exact a7 0 ⟨Z,kC fun e=>of_decide_eq_false I (by cases e;rfl)⟩
   ·repeat refine dX ?_
    exact a7 0 ⟨Z,kC fun e=>of_decide_eq_false x (by cases e;rfl)⟩
theorem Lm:∀c,c<4294967296->Wy c:=by
 intro c;induction c with
 |zero=>intro _ n s v i l;have:=lY n;omega
 |succ c t=>
  intro F n s v i ht e b E H r;have p:=Nu c (t om) om n s v i ht e b;obtain⟨K,L,y,I,J,rfl⟩:=e.di;obtain⟨B,G,x,A,D,rfl⟩:=b.di;exact b1.closed (P:=fun o=>Od (n=s) o) (p.mono fun o w l=>⟨l.1,by obtain⟨z,_,u⟩:=l.2;rw[u];rfl,l.2⟩) rfl (fun o ⟨C,q,u⟩=>by rw[u];exact r C q)
variable{g:kA}
theorem iD{H:List D}(J:rL g H):∃o b u y w f1 v c q x f2 p e l r f3 A z n i s t4 t d4,uA g.ps o/\gK g.lo (j2 b u y w f1)/\gK g.up (j2 v c q x f2)/\gK g.ty (j2 p e l r f3)/\ly g.ex [.int .i64 (YL A),.str z,.str n,.str i,.int .i64 s,t4,t,d4]/\H=mG g.k g.n g.exp g.yB g.note o (j2 b u y w f1) (j2 v c q x f2) (j2 p e l r f3) [.int .i64 (YL A),.str z,.str n,.str i,.int .i64 s,t4,t,d4] g.m g.tg:=by
 obtain⟨o,K,I,ty,ex,G,B,F,C,E,rfl⟩:=J;obtain⟨b,u,y,w,f1,rfl⟩:=B.di;obtain⟨v,c,q,x,f2,rfl⟩:=F.di;obtain⟨p,e,l,r,f3,rfl⟩:=C.di;obtain⟨A,z,n,i,s,t4,t,d4,rfl⟩:=E.eight;exact⟨o,b,u,y,w,f1,v,c,q,x,f2,p,e,l,r,f3,A,z,n,i,s,t4,t,d4,G,B,F,C,E,Z⟩
theorem xc(b:kA)(G:List D)(q:rL b G)(R:cJ b.lo<4294967295/\cJ b.up<4294967295):b1 C b7 sv [.agg (G.map V.d)] [] fun H i=>i=[]/\Od (b.lo=b.up/\b.up=b.ty) H:=by
 obtain⟨K,r,A,E,B,f1,n,c,p,o,f2,w,t,v,y,f3,L,S,J,I,O,t4,P,d4,M,s,e,x,N,rfl⟩:=iD q;refine cz ?_;refine Lm (cJ b.lo) om b.lo b.up (j2 r A E B f1) (j2 n c p o f2) (YM _) s e (fun Q u=>?_);cases Q with
 |true=>
  refine Lm (cJ b.up) om b.up b.ty (j2 n c p o f2) (j2 w t v y f3) (YM _) e x (fun z l=>?_);exact a7 0 ⟨Z,z,fun F=>l F.2,Z⟩
 |false=>
  exact a7 0 ⟨Z,kC fun F=>absurd (u F.1) dc⟩
def mu:List mv->Nat
 |[]=>0
 |p::b=>cJ p.b+mu b
theorem xd(c b:List mv):mu (c++b)=mu c+mu b:=by
 induction c with
 |nil=>simp[mu]
 |cons i c e=>simp only[List.cons_append,mu,e];omega
open Classical in
noncomputable def hF(b:kA):Nat:=1+b.ps.length+(if b.k=0 then cJ b.ty+(if b.lo=b.up/\b.up=b.ty then 0 else cJ b.lo+cJ b.up)else if b.k=1 then cJ b.ty+da b.ex+mu b.ps else 0)
noncomputable def jf(l:List kA):Nat:=(l.map hF).sum
noncomputable def Ln(b:Fh):Nat:=1+b.is.length+jf b.ds
theorem Bs(c b:List kA):jf (c++b)=jf c+jf b:=by simp[jf]
theorem HC(l:List kA):l.length<=jf l:=by
 induction l with
 |nil=>simp[jf]
 |cons b l e=>
  have:jf (b::l)=hF b+jf l:=by simp[jf]
  have c:1+b.ps.length<=hF b:=by rw[hF];omega
  simp only[YO];omega
theorem Nv{l:List mv}(b:f<l.length):mu (l.take (f+1))=mu (l.take f)+cJ l[f].b:=by
 rw[List.take_add_one,YQ b,xd];simp[mu]
theorem Lo(l:List mv)(b:Nat):mu (l.take b)<=mu l:=by
 have c:=xd (l.take b) (l.drop b);rw[YR]at c;omega
theorem Nw{l:List kA}(b:f<l.length):jf (l.take (f+1))=jf (l.take f)+hF l[f]:=by
 rw[List.take_add_one,YQ b,Bs];simp[jf]
theorem Lp(l:List kA)(b:Nat):jf (l.take b)<=jf l:=by
 have c:=Bs (l.take b) (l.drop b);rw[YR]at c;omega
variable{d:List (List D)}
theorem nn.get{l:List kA}(q:nn l d){i:Nat}(b:i<l.length):∃c,d[i]?=some c/\rL l[i] c:=by
 induction l generalizing d i with
 |nil=>simp at b
 |cons p l e=>
  cases q with
  |cons o n=>
   cases i with
   |zero=>exact⟨_,rfl,o⟩
   |succ i=>obtain⟨c,p,r⟩:=e n (i:=i) (by simpa using b);exact⟨c,by simpa using p,r⟩
theorem wU.get{l:List mv}(q:wU l d){i:Nat}(b:i<l.length):∃c,d[i]?=some c/\EN l[i] c:=by
 induction l generalizing d i with
 |nil=>simp at b
 |cons p l e=>
  cases q with
  |cons o n=>
   cases i with
   |zero=>exact⟨_,rfl,o⟩
   |succ i=>obtain⟨c,p,r⟩:=e n (i:=i) (by simpa using b);exact⟨c,by simpa using p,r⟩
theorem Ya{c b:Nat}(i:c<4611686018427387904)(e:c=b):IntKind.i64.wrap (1+YL c)=YL (1+b):=by
 subst e;exact dg (a:=1) om
theorem YE{c b:Nat}(e:c+b<4611686018427387904):IntKind.i64.wrap (YL c+IntKind.i64.wrap (1+YL b))=YL (c+(1+b)):=by
 rw[Ya om rfl,dg om]
theorem HD(b:kA):1+b.ps.length<=hF b:=by rw[hF];omega
theorem HE(b:g.k=0)(c:g.lo=g.up/\g.up=g.ty):hF g=1+g.ps.length+cJ g.ty:=by rw[hF,if_pos b,if_pos c];omega
theorem HF(b:g.k=0)(c:¬(g.lo=g.up/\g.up=g.ty)):hF g=1+g.ps.length+(cJ g.ty+(cJ g.lo+cJ g.up)):=by rw[hF,if_pos b,if_neg c]
theorem x4(b:g.k=1):hF g=1+g.ps.length+(cJ g.ty+da g.ex+mu g.ps):=by rw[hF,if_neg om,if_pos b]
theorem Dd(b:g.k=0):1+g.ps.length+cJ g.ty<=hF g/\cJ g.lo<=hF g/\cJ g.up<=hF g:=by
 by_cases c:g.lo=g.up/\g.up=g.ty
 ·rw[HE b c,c.1,c.2];omega
 ·rw[HF b c];omega
def Wz(b o c:Nat)(e:List (List D))(i:Nat×Nat):Tm:=[(3,b3 i.2),(13,.d (.ps b o 31 c e)),(14,b3 e.length),(15,b3 i.1)]
def Yb(b o c:Nat)(e:List (List D))(q l n i:Nat)(es:List (List D))(p:Nat×Nat):Tm:=[(3,b3 p.2),(13,.d (.ps b o 31 c e)),(14,b3 e.length),(15,b3 q),(58,.d (.ps l n 7 i es)),(59,b3 es.length),(60,b3 p.1)]
theorem HG(h:Fh)(aK:List D)(aT:EO h aK)(ba:Ln h<1073741824)(X:∀c∈h.ds,c.k=1->fS c.ex):b1 C b7 mO [.agg (aK.map V.d)] [] fun af W=>W=[]/\∃n,n<=Ln h/\af=.ret (b3 n):=by
 obtain⟨E,an,t,B,rfl⟩:=aT;have az:∃aB,aB=h.is.length:=⟨_,rfl⟩;obtain⟨bv,l,b⟩:=h;have be:1+l.length+jf b<1073741824:=ba;have X:∀c∈b,c.k=1->fS c.ex:=X;have bf:=HC b;have t:A3 l E:=t;have B:C1 b an:=B;have o:∃r:Nat,r=l.length/\((E=.cn/\r=0)∨∃I L N,E=.ps I L 2 N (l.map fh)):=by
  cases t with
  |nil=>exact⟨0,rfl,.inl ⟨rfl,rfl⟩⟩
  |ps=>exact⟨_,rfl,.inr ⟨_,_,_,rfl⟩⟩
 clear t;obtain⟨r,ak,t⟩:=o;have v:∀ax,ax=r->IntKind.i64.wrap (1+YL ax)=YL (1+r):=fun ax J=>Ya om J;rcases t with⟨rfl,O⟩|⟨bz,bm,bo,rfl⟩;all_goals
  refine cz ?_;cases B with
  |nil=>
   refine cl.loop ?_;refine a7 0 ⟨Z,1+r,by show 1+r<=1+l.length+_;omega,?_⟩;refine congrArg (fun c=>dC.ret (V.d (D.int .i64 c))) ?_;first
    |exact v 0 O.symm
    |exact v _ (by rw[List.length_map];exact ak.symm)
  |ps K ay=>
   rename_i I L N q;have U:=K.len;refine cl.less (eW:=Wz I L N q (0,1+r)) ⟨by first|exact int_eq (v 0 O.symm)|exact int_eq (v _ (by rw[List.length_map];exact ak.symm)),rfl,rfl,rfl,tv⟩ ?_;refine cl.iter (Wz I L N q) (fun _=>_) (fun c=>b.length-c.1) (fun c=>c.1<=b.length/\c.2<=1+r+jf (b.take c.1)) ?_ (0,1+r) ⟨YN _,Nat.le_add_right _ _⟩;rintro⟨i,n⟩ ⟨g,d⟩;have bp:i<=b.length:=g;have av:n<=1+r+jf (b.take i):=d;have bh:=Lp b i;apply aZ<;>intro ab
   ·have e:i<b.length:=U▸fF ab;have ac:=Nw e;have aA:=Lp b (i+1);obtain⟨aK,aF,z⟩:=K.get e;obtain⟨c,Q⟩:∃c,c=b[i]:=⟨_,rfl⟩;have ao:c.k=1->fS c.ex:=by rw[Q];exact X _ (YP e)
    rw[<-Q]at z ac;obtain⟨ps,aU,aR,aN,aM,f1,aG,aV,aO,aS,f2,ai,ag,ah,aq,f3,bA,bq,bB,br,bs,t4,bn,d4,f,aP,aE,aj,aJ,rfl⟩:=iD z;have ar:=(cv q i).trans aF;have A:∃P:Nat,P=c.ps.length/\((ps=.cn/\P=0)∨∃I L N s,ps=.ps I L 7 N s/\wU c.ps s/\s.length=P):=by
     revert f;generalize c.ps=bu;intro f;cases f with
     |nil=>exact⟨0,rfl,.inl ⟨rfl,rfl⟩⟩
     |ps K=>exact⟨_,rfl,.inr ⟨_,_,_,_,rfl,K,K.len⟩⟩
    obtain⟨P,Y,A⟩:=A;have bk:P<1073741824:=by
     have:=HD c;omega
    have u:∀p,p=P->IntKind.i64.wrap (YL n+IntKind.i64.wrap (1+YL p))=YL (n+(1+P)):=fun p J=>by
     subst J;exact YE om
    refine b0 Z ?_;refine b4 _ ar ?_;rcases A with⟨rfl,w⟩|⟨au,ad,aa,s,rfl,S,x⟩;all_goals
     apply aZ<;>intro aI
     ·have R:c.k=0:=CM (b:=0) aI;obtain⟨am,bj,bc⟩:=Dd R;rw[<-Y]at am;refine lZ c.ty (j2 ai ag ah aq f3) aj om ?_;refine b1.closed (P:=fun af=>Od (c.lo=c.up/\c.up=c.ty) af) ((xc c _ z ⟨om,om⟩).mono fun af W K=>⟨K.1,by obtain⟨aW,_,J⟩:=K.2;rw[J];rfl,K.2⟩) rfl (fun af aY=>?_);obtain⟨bw,k,rfl⟩:=aY;apply aZ<;>intro ht
      ·have m:¬(c.lo=c.up/\c.up=c.ty):=fun J=>by rw[k J]at ht;cases ht
       have G:=HF R m;rw[<-Y]at G;repeat refine b6 ?_
       refine lZ c.lo (j2 aU aR aN aM f1) aP om ?_;repeat refine b6 ?_
       refine lZ c.up (j2 aG aV aO aS f2) aE om ?_;repeat refine b6 ?_
       exact⟨(i+1,n+(1+P)+cJ c.ty+(cJ c.lo+cJ c.up)),⟨e,by show _<=1+r+jf (b.take (i+1));omega⟩,by show b.length-(i+1)<b.length-i;omega,.pick 0 [0] ⟨int_eq (by rw[u _ (by first|exact w.symm|exact x),dg om,dg om,dg om]),rfl,rfl,int_eq (cp om),tv⟩ rfl rfl rfl rfl rfl dc ⟨rfl,rfl,tv⟩,rfl,rfl⟩
      ·exact⟨(i+1,n+(1+P)+cJ c.ty),⟨e,by show _<=1+r+jf (b.take (i+1));omega⟩,by show b.length-(i+1)<b.length-i;omega,.pick 0 [0] ⟨int_eq (by rw[u _ (by first|exact w.symm|exact x),dg om]),rfl,rfl,int_eq (cp om),tv⟩ rfl rfl rfl rfl rfl dc ⟨rfl,rfl,tv⟩,rfl,rfl⟩
     ·apply aZ<;>intro ap
      ·have H:c.k=1:=CM (b:=1) ap;have G:=x4 H;rw[<-Y]at G;repeat refine b6 ?_
       refine lZ c.ty (j2 ai ag ah aq f3) aj om ?_;repeat refine b6 ?_
       refine Bp c.ex _ aJ (ao H) om ?_;repeat refine b6 ?_
       have T:∀p,p=P->IntKind.i64.wrap (IntKind.i64.wrap (YL n+IntKind.i64.wrap (1+YL p))+IntKind.i64.wrap (YL (cJ c.ty)+YL (da c.ex)))=YL (n+(1+P)+(cJ c.ty+da c.ex)):=fun p J=>by
        rw[u p J,dg om,dg om]
       first
        |refine cl.loop ?_
         exact⟨(i+1,n+(1+P)+(cJ c.ty+da c.ex)),⟨e,by show _<=1+r+jf (b.take (i+1));omega⟩,by show b.length-(i+1)<b.length-i;omega,.pick 0 [0] ⟨int_eq (T _ w.symm),rfl,rfl,int_eq (cp om),tv⟩ rfl rfl rfl rfl rfl dc ⟨rfl,rfl,tv⟩,rfl,rfl⟩
        |refine cl.less (eW:=Yb I L N q i au ad aa s (0,n+(1+P)+(cJ c.ty+da c.ex))) ⟨int_eq (T _ x),rfl,rfl,rfl,rfl,rfl,rfl,tv⟩ ?_
         refine cl.iter (Yb I L N q i au ad aa s) (fun _=>_) (fun al=>c.ps.length-al.1) (fun al=>al.1<=c.ps.length/\al.2=n+(1+P)+(cJ c.ty+da c.ex)+mu (c.ps.take al.1)) ?_ (0,n+(1+P)+(cJ c.ty+da c.ex)) ⟨YN _,Z⟩;rintro⟨y,F⟩ ⟨g,d⟩;have t:y<=c.ps.length:=g;have bl:F=n+(1+P)+(cJ c.ty+da c.ex)+mu (c.ps.take y):=d;have aX:=Lo c.ps y;have a:=S.len;apply aZ<;>intro ae
         ·have o:y<c.ps.length:=a▸fF ae;have bg:=Nv o;have aQ:=Lo c.ps (y+1);obtain⟨bx,aL,aW,M,rfl⟩:=S.get o;obtain⟨aH,aC,aD,aw,f7,rfl⟩:=M.di;have j:=(cv s y).trans aL;refine b0 Z ?_;refine b4 _ j ?_;refine lZ c.ps[y].b (j2 aH aC aD aw f7) M om ?_;exact⟨(y+1,F+cJ c.ps[y].b),⟨o,by show F+cJ c.ps[y].b=_+mu (c.ps.take (y+1));omega⟩,by show c.ps.length-(y+1)<c.ps.length-y;omega,.pick 0 [0,1] ⟨int_eq (dg om),rfl,rfl,rfl,rfl,rfl,int_eq (cp om),tv⟩ rfl rfl rfl rfl rfl dc ⟨rfl,rfl,rfl,rfl,tv⟩,rfl,rfl⟩
         ·exact⟨(i+1,F),⟨e,by show F<=1+r+jf (b.take (i+1));omega⟩,by show b.length-(i+1)<b.length-i;omega,.pick 0 [0] ⟨rfl,rfl,rfl,int_eq (cp om),tv⟩ rfl rfl rfl rfl rfl dc ⟨rfl,rfl,tv⟩,rfl,rfl⟩
      ·exact⟨(i+1,n+(1+P)),⟨e,by show _<=1+r+jf (b.take (i+1));have:=HD c;omega⟩,by show b.length-(i+1)<b.length-i;omega,.pick 0 [0] ⟨int_eq (by rw[u _ (by first|exact w.symm|exact x)]),rfl,rfl,int_eq (cp om),tv⟩ rfl rfl rfl rfl rfl dc ⟨rfl,rfl,tv⟩,rfl,rfl⟩
   ·refine a7 0 ⟨Z,n,?_,Z⟩;have e:b.length<=i:=U▸dR ab;rw[List.take_of_length_le e]at av;show n<=1+l.length+jf b;omega
end Go.Proofs.YtpejealjkmhkgaaGreatDoor
