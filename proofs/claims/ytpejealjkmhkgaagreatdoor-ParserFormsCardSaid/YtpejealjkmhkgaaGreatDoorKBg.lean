/- Part of the proof. -/
import Derived.Test.YtpejealjkmhkgaaGreatDoorKBf
set_option linter.all false
set_option maxHeartbeats 16000000
set_option maxRecDepth 100000
open Int renaming ofNat->abK
open List renaming take_of_length_le->abL,map->aet,length_cons->aev,getElem?_eq_getElem->aeM,length_append->aeN,length_pos_iff->aeP,length_map->aeQ,cons_append->aeR,append_assoc->aeS,length_drop->aeU,eq_nil_of_length_eq_zero->aeV,length_nil->aeW,map_cons->aeX
open Nat renaming le_refl->aeu,zero_le->aeO,zero_add->aeT
namespace Go.Proofs.YtpejealjkmhkgaaGreatDoor
open Go.AM Go.VM
def c0:cq->List cq
 |[]=>[[]]
 |c::a=>if c.toNat=47 then []::c0 a else match c0 a with
  |[]=>[[c]]
  |x::b=>(c::x)::b
def tS:cq->Bool
 |[]=>false
 |v::a=>decide (v=118)&&(!decide (a=[])&&(decide (a.length<=3)&&(!(decide (1<a.length)&&decide (abK (a.headD 0).toNat=48))&&a.all isDigit)))
def tF(c:UInt8):Bool:=k9 c||isDigit c
def fV(s:cq):Bool:=tS ((c0 s).getLastD [])&&(decide (s.length<=64)&&(decide (2<=(c0 s).length)&&(c0 s).all fun a=>cK a&&a.all tF))
variable{g:Nat}
theorem r8(b:0<g)(c:g<9223372036854775807):IntKind.i64.wrap (abK g-1)=abK (g-1):=by
 obtain⟨a,rfl⟩:∃a,g=a+1:=⟨g-1,om⟩;rw[show abK (a+1)-1=abK a+abK 0 by simp only[Int.ofNat_eq_natCast];omega];exact c4 om
theorem lR(s:cq):c0 s≠[]:=by
 cases s with
 |nil=>simp[c0]
 |cons a b=>
  rw[c0];split
  ·simp
  ·split<;>simp
theorem Du(s:cq):(c0 s).length=countB 47 s+1:=by
 induction s with
 |nil=>rfl
 |cons e d a=>
  rw[c0,countB];by_cases c:e.toNat=47
  ·rw[if_pos c,c];simp[a]
  ·rw[if_neg c,show Nat.beq e.toNat 47=false by rw[<-Bool.not_eq_true,Nat.beq_eq];exact c];cases b:c0 d with
   |nil=>exact absurd b (lR d)
   |cons f h=>rw[b]at a;simpa using a
theorem J8(s:cq):∀a,(indexByte s 47 a= -1/\c0 s=[s])∨∃b,b<s.length/\indexByte s 47 a=abK (a+b)/\c0 s=s.take b::c0 (s.drop (b+1)):=by
 induction s with
 |nil=>intro a;exact .inl ⟨rfl,rfl⟩
 |cons h j d=>
  intro a;rw[c0,indexByte];by_cases c:h.toNat=47
  ·rw[if_pos c,c];exact .inr ⟨0,by simp,Z,Z⟩
  ·rw[if_neg c,show Nat.beq h.toNat 47=false by rw[<-Bool.not_eq_true,Nat.beq_eq];exact c];rcases d (a+1)with⟨f,e⟩|⟨b,f,e,i⟩
   ·exact .inl ⟨f,by rw[e]⟩
   ·refine .inr ⟨b+1,by simpa using f,?_,by rw[i];rfl⟩;rw[show a+(b+1)=a+1+b by omega];exact e
theorem Qo(s:cq):C.ext tO ([D.str s,uy 47].map cz)=some (cz (.int .i64 (abK (countB 47 s)))):=rfl
theorem index_spec(s:cq){e:Int}(b:indexByte s 47 0=e){σ:VS}{K:cO->VS->Prop}(a:K (.ret (.d (.int .i64 e))) σ):bV C ca By [cn s,cn [47]] σ K:=by
 refine cj ?_;refine cj ?_;apply aZ<;>intro d
 ·have c: [47]=s:=of_decide_eq_true d;subst c;subst b;repeat refine cg d ?_
  exact a
 ·repeat refine a7 d ?_
  refine bZ Z (cc 47 Z ?_);refine tD s 47 ?_;subst b;exact a
def WH(l:List cq)(b:Nat):List (List V):=l.map (fun a=>[cn a])++xo [cn []] b
theorem Ot{l:List cq}{n b:Nat}(a:n=b+1):nth (WH l n) (0+l.length)=some [cn []]:=by
 subst a;rw[ck,WH,aeT,List.getElem?_append_right sm];simp only[aeQ,Nat.sub_self];rfl
theorem Ou{l:List cq}{n b:Nat}(c:n=b+1)(a:cq):(WH l n).set (0+l.length) [cn a]=WH (l++[a]) b:=by
 subst c;rw[WH,aeT,List.set_append_right _ _ sm];simp only[aeQ,Nat.sub_self,WH,List.map_append,aeS];rfl
theorem aa7{l:List cq}{c s:cq}{n:Nat}(a:n=0+1)(b:c0 s=l++[c]):(WH l n).set (0+l.length) [cn c]=(eW (c0 s)).map fun d=>d.map V.d:=by
 rw[Ou a,b];simp[WH,eW,xo,Function.comp_def];exact⟨fun _ _=>Z,Z⟩
theorem J9(s:cq)(G:s.length<4294967296):bV C ca tz [cn s,cn [47]] [] fun r A=>A=[]/\cM r=true/\∃f x,r=.ret (.d (.ps f 0 1 x (eW (c0 s)))):=by
 have K:countB 47 s<=s.length:=by
  clear G;exact abW
 have t:=Du s;refine cm ?_;refine cj ?_;refine cj ?_;refine bZ Z (cc 47 Z ?_);refine xE (.int .i64 (abK (countB 47 s))) (Qo s) Z ?_;obtain⟨a,B⟩:∃a,a=countB 47 s:=⟨_,rfl⟩;have h:min (IntKind.i64.wrap (abK (countB 47 s)+1)) (IntKind.i64.wrap (abK s.length+1))=abK (a+1):=by
  rw[cp om,cp om,B];exact Fe
 refine bZ h ?_;refine a6 ⟨Z,?_,?_⟩ ?_
 ·show(a+1)*16<=_;omega
 ·omega
 refine cd.less (dB:=[(0,cn s),(1,cn [47]),(2,bW 0),(3,bW a),(9,.ms 0 1 0 (a+1) (a+1)),(10,bW 0)]) ⟨Z,Z,Z,int_eq (by show IntKind.i64.wrap (min _ _-1)=_;rw[h];exact r8 om om),Z,Z,tv⟩ ?_;refine cd.iter (fun d:List cq×cq=>[(0,cn d.2),(1,cn [47]),(2,bW 0),(3,bW a),(9,.ms 0 1 0 (a+1) (a+1)),(10,bW d.1.length)]) (fun d=>[.row 1 (WH d.1 (a+1-d.1.length))]) (fun d=>d.2.length)
  (fun d=>c0 s=d.1++c0 d.2/\d.2.length<=s.length) ?_ ([],s) ⟨rfl,aeu _⟩
 rintro⟨b,r⟩ ⟨y,p⟩;have o:c0 s=b++c0 r:=y;have I:r.length<=s.length:=p;have n:b.length+(c0 r).length=a+1:=by rw[<-aeN,<-o,t,B]
 clear y p;have E:0<(c0 r).length:=aeP.2 (lR r);obtain⟨w,i⟩:∃w,(c0 r).length=w+1:=⟨(c0 r).length-1,om⟩;have e:a+1-b.length=w+1:=om;apply aZ<;>intro J
 ·have D:b.length<a:=ee J;rcases J8 r 0 with⟨_,d⟩|⟨c,d,f,F⟩
  ·rw[d]at i;simp at i;omega
  ·rw[aeT]at f;refine index_spec r f ?_;refine bZ (m:=c) (c4 (b:=0) om) ?_;refine a6 ⟨aeO _,by show c<=r.length;omega⟩ ?_;refine bZ Z ?_;refine a6 (by show b.length<a+1;omega) ?_;refine cc [cn []] (Ot e) ?_;refine bZ (m:=c+1) (c4 (b:=1) om) ?_;refine a6 ⟨by show c+1<=r.length;omega,aeu _⟩ ?_;have l:a+1-(b++[r.take c]).length=w:=by simp only[aeN,aev,aeW];omega
   refine⟨(b++[r.take c],r.drop (c+1)),⟨by rw[o,F];simp,by show(r.drop (c+1)).length<=s.length;rw[aeU];omega⟩,by show(r.drop (c+1)).length<r.length;rw[aeU];omega,.same ⟨congrArg (fun L=>some (cn (List.drop (c+1) L))) List.take_length,Z,Z,Z,Z,int_eq (by show IntKind.i64.wrap (abK b.length+1)=abK (b++[r.take c]).length;rw[cp om];simp),tv⟩ (congrArg (fun l=>[cN.row 1 l]) ((Ou e (r.take c)).trans (by rw[l]))),Z,Z⟩
 ·have D:a<=b.length:=dq J;have z:c0 r=[r]:=by
   rcases J8 r 0 with⟨_,d⟩|⟨c,_,_,F⟩
   ·exact d
   ·have N:0<(c0 (r.drop (c+1))).length:=aeP.2 (lR _);rw[F,aev]at n;omega
  have v:w=0:=by rw[z]at i;simpa using i.symm
  subst v;refine bZ Z ?_;refine a6 (by show b.length<a+1;omega) ?_;refine cc [cn []] (Ot e) ?_;refine bZ (m:=b.length+1) (cp (by show b.length<_;omega)) ?_;refine a6 ⟨aeO _,by show b.length+1<=a+1;omega,aeu _,aeO _,Z,Z,Z⟩ ?_;have j:c0 s=b++[r]:=by rw[o,z]
  have H:b.length+1=(eW (c0 s)).length:=by rw[j];simp[eW]
  refine cU.freeze 0 (es:=1) (l:=eW (c0 s)) (congrArg (fun l=>some (cN.row 1 l)) (aa7 e j)) (gk _) (fun _=>⟨Z,by show 0+0+(b.length+1-0)<=_;omega⟩) (fun f=>?_);have l:wq 0 f (eW (c0 s)) (.ret (.ms 0 1 0 (b.length+1) (a+1)))=.ret (.d (.ps f (0*1) 1 (a+1) (eW (c0 s)))):=by
   show cO.ret (o5 0 f (eW (c0 s)) (.ms 0 1 0 (b.length+1) (a+1)))=_;rw[o5,kz];show cO.ret (V.d (.ps f (0*1) 1 (a+1) (((eW (c0 s)).drop 0).take (b.length+1))))=_;rw[eT _ _ H]
  show cU 0 (wq 0 f (eW (c0 s)) (.ret (.ms 0 1 0 (b.length+1) (a+1)))) _ _;rw[l];refine cU.drop 0 Z (by rw[mJ]) Z (cU.now Z ?_);exact⟨Z,Z,f,a+1,Z⟩
structure mM where
 n:cq
 vr:Nat
 b:Ty
structure jX where
 k:Nat
 n:cq
 exp:Bool
 wj:Bool
 note:cq
 ps:List mM
 lo:Ty
 up:Ty
 ty:Ty
 ex:Ex
 m:cq
 tg:cq
structure vY where
 p:cq
 a:cq
structure FO where
 p:cq
 is:List vY
 ds:List jX
def jY(b:Nat)(a:Rd)(p:Nat):PR cq:=if(a.tok p).kind≠b then .bad (a.tok p).off 3 else .ok (a.tok p).text (p+1)
def oU(a:Rd):Nat->cq->Nat->PR cq
 |0,_,_=>.bad 0 3
 |f+1,c,b=>if c5 (a.tok b) [47]then match dh a (b+1)with
   |.bad h i=>.bad h i
   |.ok e d=>oU a f (c++47::e) d
  else .ok c b
def hP(b:Rd)(p:Nat):PR cq:=match dh b p with
 |.bad d e=>.bad d e
 |.ok a c=>match oU b b.ts.length a c with
  |.bad d e=>.bad d e
  |.ok a c=>if fV a then .ok a c else .bad (b.tok p).off 4
def qY{a:Type}(step:a->Nat->PR a)(d:Rd):Nat->a->Nat->PR a
 |0,_,_=>.bad 0 3
 |f+1,e,i=>match step e i with
  |.bad h j=>.bad h j
  |.ok b c=>if c5 (d.tok c) [44]then qY step d f b (c+1)else(cu d [[93]] c).map fun _=>b
def jZ{a:Type}(step:a->Nat->PR a)(b:Rd)(c:a)(p:Nat):PR a:=if c5 (b.tok p) [91]then qY step b b.ts.length c (p+1)else .ok c p
def xJ(t:Tok):Option Nat:=if c5 t [43]then some 0 else if c5 t [45]then some 1 else if c5 t [61]then some 2 else none
def gG(b:Rd)(a:List mM)(p:Nat):PR (List mM):=match xJ (b.tok p)with
 |none=>.bad (b.tok p).off 3
 |some d=>(jY 2 b (p+1)).map fun c=>a++[⟨c,d,cV⟩]
def ia(c:Nat->PR Ty)(e:Rd)(a:List mM)(p:Nat):PR (List mM):=match jY 2 e p with
 |.bad h i=>.bad h i
 |.ok d b=>if c5 (e.tok b) [60,58]then(c (b+1)).map fun f=>a++[⟨d,0,f⟩]else .ok (a++[⟨d,0,cV⟩]) b
def zm:Ty:=.mk 1 [] [] [] []
def oe:Ex:=.mk 0 [] [] [] 0 [] [] []
def oI(a:Nat->PR Ty)(c:Rd)(s:cq)(t0:Ty)(p:Nat):PR (Bool×Ty):=if c5 (c.tok p) s then(a (p+1)).map fun b=>(true,b)else .ok (false,t0) p
def dI{a:Type}(b:Nat->PR a)(d:Rd)(s:cq)(p:Nat):PR a:=match cu d [s] p with
 |.bad e f=>.bad e f
 |.ok _ c=>b c
def kt(b:Nat->PR Ty)(f:Rd)(i h:Bool)(a:cq)(p:Nat):PR jX:=match jY 2 f p with
 |.bad c d=>.bad c d
 |.ok o n=>match jZ (gG f) f [] n with
  |.bad c d=>.bad c d
  |.ok j q1=>match oI b f [62,58] zm q1 with
   |.bad c d=>.bad c d
   |.ok e q2=>match oI b f [60,58] cV q2 with
    |.bad c d=>.bad c d
    |.ok up q3=>(dI b f [61] q3).map fun l=>⟨0,o,i,h,a,j,if e.1||up.1 then e.2 else l,if e.1||up.1 then up.2 else l,l,oe,[],[]⟩
def mB(d:Nat->PR Ty)(i:Nat->PR Ex)(c:Rd)(h b:Bool)(a:cq)(p:Nat):PR jX:=match dh c p with
 |.bad e f=>.bad e f
 |.ok n l=>match jZ (ia d c) c [] l with
  |.bad e f=>.bad e f
  |.ok j q1=>match dI d c [58] q1 with
   |.bad e f=>.bad e f
   |.ok r q2=>(dI i c [61] q2).map fun o=>⟨1,n,h,b,a,j,cV,cV,r,o,[],[]⟩
def iS(a:Rd)(p:Nat):PR cq:=if(a.tok p).kind=2 then jY 2 a p else dh a p
def kQ(c:Rd)(d b:Bool)(a:cq)(p:Nat):PR jX:=match dh c p with
 |.bad f h=>.bad f h
 |.ok l i=>match dI (iS c) c [58,58] i with
  |.bad f h=>.bad f h
  |.ok e q1=>(dI (iS c) c [97,115] q1).map fun j=>⟨2,j,d,b,a,[],cV,cV,cV,oe,l,e⟩
def og(a:Rd)(p:Nat):PR (Bool×Bool×cq):=if c5 (a.tok p) [101,120,112,111,114,116]then
  if c5 (a.tok (p+1)) [100,101,112,114,101,99,97,116,101,100]then(jY 4 a (p+2)).map fun b=>(true,true,b)else .ok (true,false,[]) (p+1)
 else .ok (false,false,[]) p
def j6(d:Nat->PR Ty)(e:Nat->PR Ex)(b:Rd)(p:Nat):PR jX:=match og b p with
 |.bad f h=>.bad f h
 |.ok a c=>
  if c5 (b.tok c) [116,121,112,101]then kt d b a.1 a.2.1 a.2.2 (c+1)
  else if c5 (b.tok c) [108,101,116]then mB d e b a.1 a.2.1 a.2.2 (c+1)
  else if c5 (b.tok c) [117,115,101]then kQ b a.1 a.2.1 a.2.2 (c+1)
  else .bad (b.tok c).off 3
def iu(a:Rd)(p:Nat):PR vY:=match hP a p with
 |.bad e f=>.bad e f
 |.ok c b=>(dI (dh a) a [97,115] b).map fun d=>⟨c,d⟩
def fT(a:Rd):Nat->List vY->Nat->PR (List vY)
 |0,_,_=>.bad 0 3
 |f+1,c,b=>if c5 (a.tok b) [105,109,112,111,114,116]then match iu a (b+1)with
   |.bad h i=>.bad h i
   |.ok e d=>fT a f (c++[e]) d
  else .ok c b
def ib(c:Nat->PR Ty)(a:Nat->PR Ex)(d:Rd):Nat->List jX->List Nat->Nat->PR (List jX×List Nat)
 |0,_,_,_=>.bad 0 3
 |f+1,h,b,e=>if(d.tok e).kind≠0 then match j6 c a d e with
   |.bad n j=>.bad n j
   |.ok i l=>ib c a d f (h++[i]) (b++[(d.tok e).off]) l
  else .ok (h,b) e
def tQ(f:Nat->PR Ty)(b:Nat->PR Ex)(a:Rd)(p:Nat):PR (FO×List Nat):=match dI (hP a) a [109,111,100,117,108,101] p with
 |.bad d e=>.bad d e
 |.ok j i=>match fT a a.ts.length [] i with
  |.bad d e=>.bad d e
  |.ok c q1=>(ib f b a a.ts.length [] [] q1).map fun h=>(⟨j,c,h.1⟩,h.2)
def HF(p:mM)(b:cH):Prop:=∃a,eZ p.b a/\b=.str p.n:: .int .i64 (abK p.vr)::a
inductive vb:List mM->List cH->Prop
 |nil:vb [] []
 |cons {p:mM} {d:cH} {l:List mM} {els:List cH} (h:HF p d) (hl:vb l els):vb (p::l) (d::els)
inductive tG:List mM->D->Prop
 |nil:tG [] .ci
 |ps {b o cap:Nat} {l:List mM} {els:List cH} (h:vb l els):tG l (.ps b o 7 cap els)
def mR(j:Nat)(n:cq)(c b:Bool)(a:cq)(e:D)(lo i h d:cH)(l f:cq):cH:=
 [.int .i64 (abK j),.str n,.bool c,.bool b,.str a,e]++(lo++(i++(h++(d++[.str l,.str f]))))
def rs(a:jX)(h:cH):Prop:=∃b e f d c,tG a.ps b/\eZ a.lo e/\eZ a.up f/\eZ a.ty d/\je a.ex c/\h=mR a.k a.n a.exp a.wj a.note b e f d c a.m a.tg
inductive oh:List jX->List cH->Prop
 |nil:oh [] []
 |cons {p:jX} {d:cH} {l:List jX} {els:List cH} (h:rs p d) (hl:oh l els):oh (p::l) (d::els)
inductive zn:List jX->D->Prop
 |nil:zn [] .ci
 |ps {b o cap:Nat} {l:List jX} {els:List cH} (h:oh l els) (hc:els.length<=cap):zn l (.ps b o 31 cap els)
def fF(a:vY):cH:=[.str a.p,.str a.a]
inductive wY:List vY->D->Prop
 |nil:wY [] .ci
 |ps {b o cap:Nat} {l:List vY} (hc:l.length<=cap):wY l (.ps b o 2 cap (l.map fF))
inductive FP:List Nat->D->Prop
 |nil:FP [] .ci
 |ps {b o cap:Nat} {l:List Nat}:FP l (.ps b o 1 cap (l.map fun n=>[.int .i64 (abK n)]))
def At(c:FO)(d:cH):Prop:=∃a b,wY c.is a/\zn c.ds b/\d=[.str c.p,a,b]
def acT(s:cq)(t:Tok):Prop:=(t.kind=1->cK t.text=true)/\(t.kind=2->dX t.text=true)/\t.off<=s.length
theorem Qp{l t:cq}{b n:Nat}(h:oa l=.ok b t n):b≠0/\(b=1->cK t=true)/\(b=2->dX t=true):=by
 cases l with
 |nil=>cases h
 |cons c d=>
  rw[oa]at h;split at h
  ·unfold nM at h;split at h
   ·exact R6
   ·split at h
    ·rename_i a;cases h;exact⟨om,fun _=>a,fun h=>om⟩
    ·split at h
     ·rename_i a;cases h;exact⟨om,fun h=>om,fun _=>a⟩
     ·cases h
  ·split at h
   ·unfold mZ at h;split at h
    ·cases h
    ·exact R6
   ·split at h
    ·split at h
     ·exact R6
     ·cases h
    ·split at h
     ·cases h
     ·exact R6
theorem Ka(s:cq):∀(o a:Nat) (h:List Tok),s.length-a<o->jF s o a=.ok h->
  h≠[]/\(∀f n,h[f]?=some n->n.kind≠0->f+1<h.length)/\h.length<=s.length-a+1/\∀n∈h,acT s n:=by
 intro o;induction o with
 |zero=>intro a h b;omega
 |succ o y=>
  intro a h E b;rw[jF]at b;split at b
  ·cases b;refine⟨by simp,fun f n e j=>?_,by simp,fun n c=>?_⟩
   ·cases f with
    |zero=>simp at e;subst e;exact absurd rfl j
    |succ f=>simp at e
   ·simp at c;subst c;exact⟨fun b=>by simp at b,fun b=>by simp at b,aeu _⟩
  ·rename_i z;cases c:oa (s.drop a)with
   |err H=>rw[c]at b;cases b
   |ok G n B=>
    rw[c]at b;dsimp only at b;obtain⟨D,w⟩:=y7 c;rw[aeU]at w;cases l:jF s o (a+B+dZ false (s.drop (a+B)))with
    |err A C=>rw[l]at b;cases b
    |ok p=>
     rw[l]at b;cases b;obtain⟨x,r,F,v⟩:=y _ p om l;have t:0<p.length:=aeP.2 x;refine⟨by simp,fun f i e j=>?_,?_,fun i d=>?_⟩
     ·cases f with
      |zero=>simp only[aev];omega
      |succ f=>
       have:=r f i (by simpa using e) j;exact Im
     ·exact Im
     ·rcases List.mem_cons.1 d with rfl|d
      ·obtain⟨_,A,C⟩:=Qp c;exact⟨A,C,by show a<=s.length;omega⟩
      ·exact v i d
theorem B8{s:cq}{l:List Tok}(a:jl s=.ok l):s.length<=65536/\l≠[]/\(∀c b,l[c]?=some b->b.kind≠0->c+1<l.length)/\l.length<=65537/\∀b∈l,acT s b:=by
 unfold jl at a;split at a
 ·cases a
 ·obtain⟨f,e,h,d⟩:=Ka s _ _ l om a;exact⟨om,f,e,om,d⟩
theorem mC{s:cq}{R:Rd}(b:jl s=.ok R.ts):R.Wf/\0<R.ts.length:=by
 obtain⟨_,a,c,d,_⟩:=B8 b;exact⟨⟨om,c⟩,aeP.2 a⟩
def zo:V:=.agg tX
def Dv(s:cq)(d:cO):Prop:=match jl s with
 |.err a f=>d=.ret (.dS [zo,bW a,bW f])
 |.ok c=>∃e b,match dl ⟨e,b,c⟩ c.length 0 with
  |.bad a f=>d=.ret (.dS [zo,bW a,bW f])
  |.ok j i=>if(Rd.tok ⟨e,b,c⟩ i).kind≠0 then d=.ret (.dS [zo,bW (Rd.tok ⟨e,b,c⟩ i).off,bW 3])else ∃h,eZ j h/\d=.ret (.dS [.agg (h.map V.d),bW 0,bW 0])
theorem Qq(s:cq):∀(f a c h:Nat),jF s f a=.err c h->h≠0:=by
 intro f;induction f with
 |zero=>intro a c h b;cases b
 |succ f i=>
  intro a c h b;rw[jF]at b;split at b
  ·cases b
  ·cases e:oa (s.drop a)with
   |err n=>rw[e]at b;cases b;exact Iq e
   |ok p o j=>
    rw[e]at b;dsimp only at b;cases d:jF s f (a+j+dZ false (s.drop (a+j)))with
    |err t r=>rw[d]at b;cases b;exact i _ _ _ d
    |ok l=>rw[d]at b;cases b
theorem mD{s:cq}{b:Nat}(a:jl s=.err g b):b≠0:=by
 unfold jl at a;split at a
 ·cases a;decide
 ·exact Qq s _ _ _ _ a
theorem Au(s:cq){σ:VS}{K:cO->VS->Prop}(b:∀d,Tn (jl s) d->K d σ):bV C ca A6 [cn s] σ K:=by
 by_cases c:s.length<4294967296
 ·exact Tq s c b
 ·refine bV.closed (P:=Tn (jl s)) ?_ Z b;refine cv xfz (fun _=>Z) ?_;refine aZ (fun h=>?_) (fun h=>absurd (dq (a:=65536) h) om);exact aeJ
theorem Qr(s:cq){σ:VS}{K:cO->VS->Prop}(l:∀j,Dv s j->K j σ):bV C ca sC [cn s,.fn dj [] []] σ K:=by
 refine bV.closed (P:=Dv s) ?_ Z l;refine cm ?_;refine Au s (fun j d=>?_);cases hx:jl s with
 |err h p=>
  rw[hx]at d;obtain rfl:j=_:=d;have o:=mD hx;refine aZ (fun e=>?_) (fun e=>absurd (l3 e) o);repeat refine ch ?_
  refine a8 0 ⟨Z,Z,?_⟩;unfold Dv;rw[hx];rfl
 |ok a=>
  rw[hx]at d;obtain⟨b,cap,rfl⟩:=d;obtain⟨r,c⟩:=mC (R:=⟨b,cap,a⟩) hx;refine(Ds r a.length 0 (by show a.length-0<=a.length;omega)).call 0 (aeu _) c 4 _ _ ?_ (fun B y i e1 hd=>?_) (fun h p i e1=>?_)
  ·exact Z
  ·obtain⟨w,A,z,v,t,rfl⟩:=hd.cZ;obtain⟨_,n⟩:=Ol r _ _ _ _ c e1;refine eF ⟨b,cap,a⟩ i _ (bY n) 4 ?_ ?_
   ·exact Z
   apply aZ<;>intro e
   ·have f:(Rd.tok ⟨b,cap,a⟩ i).kind≠0:=fun p=>by rw[p]at e;cases e
    refine fK _ (Rd.tok ⟨b,cap,a⟩ i).off 3 ?_;refine oA.body Aj ?_;repeat refine ch ?_
    refine a8 0 ⟨Z,Z,?_⟩;unfold Dv;rw[hx];refine⟨b,cap,?_⟩;rw[e1];dsimp only;rw[if_pos f];rfl
   ·have f:(Rd.tok ⟨b,cap,a⟩ i).kind=0:=l3 e;refine oA.body Aj ?_;refine a8 0 ⟨Z,Z,?_⟩;unfold Dv;exact aeG
  ·refine oA.body Aj ?_;repeat refine ch ?_
   refine a8 0 ⟨Z,Z,?_⟩;unfold Dv;rw[hx];refine⟨b,cap,?_⟩;rw[e1];rfl
mutual
def ct:Ty->Nat
 |.mk _ _ _ args fields=>cy args+qa fields+1
def cy:List Ty->Nat
 |[]=>0
 |t::l=>ct t+cy l
def qa:List (cq×Ty×Bool)->Nat
 |[]=>0
 |(_,t,_)::l=>ct t+qa l
end
mutual
def nD:Ty->Nat
 |.mk _ _ _ args fields=>max (gl args) (B9 fields)+1
def gl:List Ty->Nat
 |[]=>0
 |t::l=>max (nD t) (gl l)
def B9:List (cq×Ty×Bool)->Nat
 |[]=>0
 |(_,t,_)::l=>max (nD t) (B9 l)
end
mutual
def ru:Ty->Bool
 |.mk _ _ _ args fields=>decide (32<fields.length)||decide (8<args.length)||oW args||Ov fields
def oW:List Ty->Bool
 |[]=>false
 |t::l=>ru t||oW l
def Ov:List (cq×Ty×Bool)->Bool
 |[]=>false
 |(_,t,_)::l=>ru t||Ov l
end
def ea(l:List oG):List Ty:=l.map fun a=>a.2.1
def dD:Ty->List Ty
 |.mk _ _ _ b a=>b++ea a
theorem ga(a b:List Ty):cy (a++b)=cy a+cy b:=by
 induction a with
 |nil=>simp[cy]
 |cons d a c=>simp only[aeR,cy,c];omega
theorem nE(l:List oG):qa l=cy (ea l):=by
 induction l with
 |nil=>rfl
 |cons b l a=>obtain⟨c,d,e⟩:=b;simp only[qa,ea,aeX,cy]at a⊢;rw[a]
theorem eO(t:Ty):ct t=cy (dD t)+1:=by
 obtain⟨d,e,c,b,a⟩:=t;rw[ct,dD,ga,nE]
theorem Bf(a b:List Ty):gl (a++b)=max (gl a) (gl b):=by
 induction a with
 |nil=>simp[gl]
 |cons d a c=>simp only[aeR,gl,c];omega
theorem MJ(l:List oG):B9 l=gl (ea l):=by
 induction l with
 |nil=>rfl
 |cons b l a=>obtain⟨c,d,e⟩:=b;simp only[B9,ea,aeX,gl]at a⊢;rw[a]
theorem sU(t:Ty):nD t=gl (dD t)+1:=by
 obtain⟨d,e,c,b,a⟩:=t;rw[nD,dD,Bf,MJ]
theorem Qs(a b:List Ty):oW (a++b)=(oW a||oW b):=by
 induction a with
 |nil=>simp[oW]
 |cons d a c=>simp only[aeR,oW,c,Bool.or_assoc]
theorem TR(l:List oG):Ov l=oW (ea l):=by
 induction l with
 |nil=>rfl
 |cons b l a=>obtain⟨c,d,e⟩:=b;simp only[Ov,ea,aeX,oW]at a⊢;rw[a]
def lm:Ty->Bool
 |.mk _ _ _ b a=>decide (32<a.length)||decide (8<b.length)
theorem xK(t:Ty):ru t=(lm t||oW (dD t)):=by
 obtain⟨d,e,c,b,a⟩:=t;rw[ru,dD,Qs,TR,lm,Bool.or_assoc]
theorem gO(t:Ty):0<ct t:=by rw[eO];omega
theorem dA(l:List Ty):l.length<=cy l:=by
 induction l with
 |nil=>simp
 |cons b l a=>have:=gO b;simp only[aev,cy];omega
theorem dJ{l:List Ty}{t:Ty}(h:t∈l):ct t<=cy l:=by
 induction l with
 |nil=>simp at h
 |cons b l a=>
  rcases List.mem_cons.1 h with rfl|h
  ·simp only[cy];omega
  ·have:=a h;simp only[cy];omega
theorem Qt(n:Nat):∀a:Ty,ct a<=n->nD a<=ct a:=by
 induction n with
 |zero=>intro a f;have:=gO a;omega
 |succ n d=>
  intro a f;rw[eO]at f⊢;rw[sU];have:∀b:List Ty,cy b<=n->gl b<=cy b:=by
   intro b;induction b with
   |nil=>intro _;simp[gl]
   |cons h b c=>
    intro e;simp only[cy,gl]at e⊢;have:=d h om;have:=c om;omega
  have:=this _ (by omega:cy (dD a)<=n);omega
theorem dz.len{l:List Ty}{els:List cH}(h:dz l els):els.length=l.length:=by
 exact abM
theorem dz.get{l:List Ty}{els:List cH}(h:dz l els){i:Nat}(hi:i<l.length):∃d,els[i]?=some d/\eZ l[i] d:=by
 exact NH
theorem dz.P9{l b:List Ty}{els a:List cH}(h:dz l els)(h':dz b a):dz (l++b) (els++a):=by
 exact abR
theorem u5.len{l:List oG}{els:List cH}(h:u5 l els):els.length=l.length:=by
 exact abM
theorem u5.get{l:List oG}{a:List cH}(r:u5 l a){i:Nat}(c:i<l.length):∃d:FE,a[i]?=some (fe d)/\l[i].1=d.n/\l[i].2.2=d.o/\eZ l[i].2.1 d.ty:=by
 induction l generalizing a i with
 |nil=>simp at c
 |cons o l f=>
  cases r with
  |cons b h=>
   cases i with
   |zero=>
    obtain⟨s,v,e,j,n,rfl⟩:=b.cZ;exact⟨⟨_,s,v,e,j,n,_,[],.ci⟩,Z,Z,Z,b⟩
   |succ i=>obtain⟨p,o,t⟩:=f h (i:=i) (by simpa using c);exact⟨p,by simpa using o,t⟩
inductive Ii:List Ty->D->Prop
 |nil:Ii [] .ci
 |ps {b o cap:Nat} {l:List Ty} {els:List cH} (h:dz l els):Ii l (.ps b o 5 cap els)
def aa8:Nat->Bool:=fun a=>Nat.beq a 19
def qk(c:Nat)(b n:cq)(a f:D):List V:=[.d (.int .i64 (abK c)),.d (.str b),.d (.str n),.d a,.d f]
def Ow(c:List V):List cH->VS
 |[]=>[.box c]
 |e::b=>[.box c,.row 5 ((e::b).map fun a=>a.map V.d)]
def Ox:List cH->V
 |[]=>.d .ci
 |_::a=>.ms 1 5 0 (a.length+1) (a.length+1)
variable{k:Nat->Nat}
theorem OW(b:cH)(c:List cH)(a:cH):some (cN.row 5 (List.take (c.length+1) (List.drop 0 (aet (fun a=>aet V.d a) (b::c)))++[a.map V.d]))=some (dF k (.row 5 (aet (fun a=>aet V.d a) (b::(c++[a]))))):=by
 rw[sM,List.drop_zero,abL sm];simp
theorem RF(c:Nat)(a:List cH)(b:cH):some (V.ms c 5 0 (a.length+1+1) (a.length+1+1))=some (V.ms c 5 0 ((a++[b]).length+1) ((a++[b]).length+1)):=by simp
variable{q:VS}
theorem jw{c:List V}{l:List Ty}{els:List cH}(i n:Nat)(hn:n=els.length)(e:nth q i=some (.row 5 (els.map fun d=>d.map V.d)))(f:dz l els):
  cU 0 (.ret (.ms (i+1) 5 0 n n)) (.box c::q) fun h a=>a=[]/\cM h=true/\∃d,Ii l d/\h=.ret (.d d):=by
 refine cU.freeze (i+1) (es:=5) (l:=els) e (gk els) (fun _=>⟨Z,by simp[hn]⟩) (fun b=>?_);have j:wq (i+1) b els (.ret (.ms (i+1) 5 0 n n))=.ret (.d (.ps b (0*5) 5 n els)):=by
  exact Zg
 rw[j];refine cU.drop 0 Z (by rw[mJ]) Z (cU.now Z ?_);exact⟨Z,Z,_,.ps f,Z⟩
theorem xY{c n:Nat}(b:c<=4294967296)(a:n=1:=by rfl):(c+n)*88<=fy/\c+n<=fy:=by
 unfold fy;omega
theorem vZ(a:cH)(b:List cH)(d:b.length+1<4294967296):(0+(aet (fun c=>aet V.d c) (a::b)).length)*88<=fy/\0+(aet (fun c=>aet V.d c) (a::b)).length<=fy:=by
 unfold fy;simp only[aeQ,aev];omega
theorem xL(a:cH)(c:List cH):some (cN.row 5 (List.take 0 (List.drop 0 [])++aet (fun b=>aet V.d b) (a::c)))=some (dF k (.row 5 (aet (fun b=>aet V.d b) (a::c)))):=by
 rw[sM];rfl
theorem Qu(d:Nat)(a:cH)(b:List cH):some (V.ms d 5 0 (0+(aet (fun c=>aet V.d c) (a::b)).length) (0+(aet (fun c=>aet V.d c) (a::b)).length))=some (V.ms d 5 0 (b.length+1) (b.length+1)):=by simp
theorem v7{l:List oG}(h:g<l.length):ea (l.take (g+1))=ea (l.take g)++[l[g].2.1]:=by
 unfold ea;exact XV
theorem Kb(G:Nat)(I n:cq)(h:List Ty)(a:List oG)(O f:D)(M:fA h O)(s:ll a f)(S:h.length+a.length<4294967296):
  bV C ca uP [.agg (qk G I n O f)] [] fun r K=>K=[]/\cM r=true/\∃Q,Ii (h++ea a) Q/\r=.ret (.d Q):=by
 refine cv aa8 (fun _=>Z) ?_;refine cj ?_;cases M with
 |nil=>
  cases s with
  |nil=>
   refine cd.loop ?_;refine a8 0 ⟨Z,Z,.ci,.nil,Z⟩
  |ps s=>
   rename_i p o c d;have v:=s.len;refine cw (dB:=[(3,Ox []),(10,.d (.ps p o 7 c d)),(11,bW a.length),(12,bW 0)]) (fU:=Ow (qk G I n .ci (.ps p o 7 c d)) []) (.same ⟨Z,Z,int_eq (by rw[v]),Z,tv⟩ Z) ?_;refine cd.iter (fun x:Nat×List cH=>[(3,Ox x.2),(10,.d (.ps p o 7 c d)),(11,bW a.length),(12,bW x.1)]) (fun x=>Ow (qk G I n .ci (.ps p o 7 c d)) x.2) (fun x=>a.length-x.1)
    (fun x=>x.1<=a.length/\dz ([]++ea (a.take x.1)) x.2) ?_ (0,[]) ⟨aeO _,by exact .nil⟩
   rintro⟨j,acc⟩ ⟨w,b⟩;have w:j<=a.length:=w;have b:dz ([]++ea (a.take j)) acc:=b;have hcl:=b.len;rw[aeN,ea,aeQ,List.length_take]at hcl;try simp only[aeW]at hcl
   apply aZ<;>intro z
   ·have lU:j<a.length:=ee z;obtain⟨x,hx,_,_,y⟩:=s.get lU;have xX:dz ([]++ea (a.take (j+1))) (acc++[x.ty]):=by rw[v7 lU,<-aeS];exact b.snoc y
    exact Yd
   ·have lU:a.length<=j:=dq z;rw[abL lU]at b;cases acc with
    |nil=>
     have t: []++ea a=[]:=aeV b.len.symm;refine a8 0 ⟨Z,Z,.ci,?_,Z⟩;rw[t];exact .nil
    |cons e r=>exact jw 0 (r.length+1) rfl rfl b
 |ps N F=>
  rename_i R P A B;cases B with
  |nil=>exact absurd rfl F
  |cons l i=>
   have L:=N.len;have E:i.length+1<4294967296:=by simp only[aev]at L;omega
   refine a6 Z (a6 ⟨Z,Z,aeu _,aeu _,vZ l i E⟩ ?_);refine a7 Z (a7 Z ?_);cases s with
   |nil=>
    refine cd.loop ?_;refine jw (els:=l::i) 1 _ sm ?_ ?_
    ·exact Z
    ·simpa [ea]using N
   |ps s=>
    rename_i p o c d;have v:=s.len;refine cw (dB:=[(3,Ox (l::i)),(10,.d (.ps p o 7 c d)),(11,bW a.length),(12,bW 0)]) (fU:=Ow (qk G I n (.ps R P 5 A (l::i)) (.ps p o 7 c d)) (l::i)) (.pick 1 [0,2] ⟨Qu 2 l i,Z,int_eq (by rw[v]),Z,tv⟩ Z Z Z Z Z dc ⟨Z,Z,xL l i,jv _ _ _,tv⟩) ?_;refine cd.iter (fun x:Nat×List cH=>[(3,Ox x.2),(10,.d (.ps p o 7 c d)),(11,bW a.length),(12,bW x.1)]) (fun x=>Ow (qk G I n (.ps R P 5 A (l::i)) (.ps p o 7 c d)) x.2) (fun x=>a.length-x.1)
     (fun x=>x.1<=a.length/\dz (h++ea (a.take x.1)) x.2) ?_ (0,(l::i)) ⟨aeO _,by simpa [ea]using N⟩
    rintro⟨j,acc⟩ ⟨w,b⟩;have w:j<=a.length:=w;have b:dz (h++ea (a.take j)) acc:=b;have hcl:=b.len;rw[aeN,ea,aeQ,List.length_take]at hcl;try simp only[aeW]at hcl
    apply aZ<;>intro z
    ·have lU:j<a.length:=ee z;obtain⟨x,hx,_,_,y⟩:=s.get lU;have xX:dz (h++ea (a.take (j+1))) (acc++[x.ty]):=by rw[v7 lU,<-aeS];exact b.snoc y
     exact Yd
    ·have lU:a.length<=j:=dq z;rw[abL lU]at b;cases acc with
     |nil=>
      have t:h++ea a=[]:=aeV b.len.symm;refine a8 0 ⟨Z,Z,.ci,?_,Z⟩;rw[t];exact .nil
     |cons e r=>exact jw 0 (r.length+1) rfl rfl b
theorem xM(t:Ty)(c:cH)(d:eZ t c)(j:ct t<4294967296){σ:VS}{K:cO->VS->Prop}(e:∀c,Ii (dD t) c->K (.ret (.d c)) σ):bV C ca uP [.agg (c.map V.d)] σ K:=by
 cases d with
 |mk n h=>
  rename_i f l i b a r s;have v:=dA (dD (.mk f l i b a));rw[eO]at j;have p:(dD (.mk f l i b a)).length=b.length+a.length:=by simp[dD,ea]
  exact bV.closed (P:=fun o=>∃c,Ii (b++ea a) c/\o=.ret (.d c)) (Kb f l i b a r s n h om) Z (fun o ⟨c,w,x⟩=>by rw[x];exact e c w)
theorem zp{l:List Ty}(a:g<l.length):gl (l.take (g+1))=max (gl (l.take g)) (nD l[g]):=by
 rw[List.take_add_one,aeM a,Bf];simp[gl]
theorem qZ{l:List Ty}(a:g<l.length):cy (l.take (g+1))=cy (l.take g)+ct l[g]:=by
 rw[List.take_add_one,aeM a,ga];simp[cy]
theorem mE(l:List Ty)(a:Nat):cy (l.take a)<=cy l:=by
 have b:=ga (l.take a) (l.drop a);rw[List.take_append_drop]at b;omega
theorem Dw(l:List Ty):gl l<=cy l:=by
 induction l with
 |nil=>simp[gl]
 |cons b l a=>have:=Qt _ b (aeu _);simp only[gl,cy];omega
theorem Kc(n:Nat)(x:∀(t:Ty) (h:cH),ct t<=n->eZ t h->∀{r:VS} {y:cO->VS->Prop},y (.ret (bW (nD t))) r->bV C ca lB [.agg (h.map V.d)] r y) 
  (t:Ty) (h:cH) (L:ct t<=n+1) (Q:n<4294967295) (i:eZ t h):bV C ca lB [.agg (h.map V.d)] [] fun I p=>p=[]/\I=.ret (bW (nD t)):=by
 obtain⟨N,O,v,K,M,rfl⟩:=i.cZ;have D9:=eO t;refine cm ?_;refine xM t _ i om (fun h o=>?_);rw[sU];have j:cy (dD t)<=n:=om;generalize dD t=a at o j;have z:=dA a;cases o with
 |nil=>
  exact oy
 |ps G=>
  rename_i E A d e;have l:=G.len;refine cd.less (dB:=[(3,bW 0),(7,.d (.ps E A 5 d e)),(8,bW a.length),(9,bW 0)]) ⟨Z,Z,int_eq (by rw[l]),Z,tv⟩ ?_;refine cd.iter (fun c:Nat=>[(3,bW (gl (a.take c))),(7,.d (.ps E A 5 d e)),(8,bW a.length),(9,bW c)]) (fun _=>[.box (qk N O v K M)]) (fun c=>a.length-c) (fun c=>c<=a.length) ?_ 0 (aeO _);intro c P;apply aZ<;>intro s
  ·have b:c<a.length:=ee s;obtain⟨h,w,f⟩:=G.get b;refine bZ Z ?_;obtain⟨R,J,B,S,f2,rfl⟩:=f.cZ;refine cc _ (by rw[ck];exact w) ?_;have H:=dJ (List.getElem_mem b);refine x a[c] _ om f ?_;refine⟨c+1,b,iK,.drop 1 ⟨int_eq ?_,Z,Z,int_eq (cp om),tv⟩ Z Z Z Z Z Z Z,Z,Z⟩;rw[zp b];exact Fe
  ·have b:a.length<=c:=dq s;rw[abL b];have F:=Dw a;exact XI
theorem MK:∀(d:Nat) (a:Ty) (c:cH),d<4294967295->ct a<=d->eZ a c->∀{b:VS} {h:cO->VS->Prop},h (.ret (bW (nD a))) b->bV C ca lB [.agg (c.map V.d)] b h:=by
 intro d;induction d with
 |zero=>intro a c _ n;have:=gO a;omega
 |succ d i=>
  intro a c p n e b h f;obtain⟨s,t,o,v,r,rfl⟩:=e.cZ;exact cC (Kc d (fun a c l j=>i a c om l j) a _ n om e) Z Z f
def j0(o:List V)(b a:List V)(c:ki):VS:=[.box b,.box o,.box a,.eI false,.loop c,.box [.tR 4],.box [.fn ez [] [.bp 5 0,.bp 6 0]]]
variable{m:ki}
theorem nP{o b a:List V}(d:fu 0 o=true)(f:fu 0 b=true)(e:fu 0 a=true)(c:fW 7 (.loop m)=true):mJ 7 (j0 o b a m) 7=true:=by
 simp only[j0,mJ,fW,gx 7 o d,gx 7 b f,gx 7 a e,Bool.true_and,Bool.and_true]at c⊢;rw[c];rfl
theorem TS{o c a b:List V}(e:fu 0 o=true)(h:fu 0 c=true)(f:fu 0 a=true)(i:fu 0 b=true)(d:fW 8 (.loop m)=true):mJ 8 (j0 o c a m++.box b::q) 8=true:=by
 simp only[j0,aeR,List.nil_append,mJ,fW,gx 8 o e,gx 8 c h,gx 8 a f,gx 8 b i,Bool.true_and,Bool.and_true]at d⊢;rw[d];rfl
def BH(n:Nat)(b a:List V)(c:ki):VS:=j0 [bW n] b a c
theorem Qv(e d:List V)(i:ki)(Rx:fu 0 e=true)(Io:fu 0 d=true)(hL:fW 7 (.loop i)=true)(v:fW 8 (.loop i)=true) 
  (M:∀(n:Nat) (B j:List V) (S:cO->VS->Prop),n<4294967296->S (.ret (bX true)) (BH (n+1) e d i++[.box B])->iA C ca 4 [.agg j] (BH n e d i++[.box B]) S) (n:Nat)
  (Q:∀(t:Ty) (j:cH),ct t<=n->eZ t j->∀c,c+ct t<4294967296->bV C ca ez [.agg (j.map V.d),.bp 5 0,.bp 6 0] (BH c e d i) fun G f=>f=BH (c+ct t) e d i/\G=.ret (bX true))
  (t:Ty) (j:cH) (g:ct t<=n+1) (w:eZ t j) (c:Nat) (s:c+ct t<4294967296):
  bV C ca ez [.agg (j.map V.d),.bp 5 0,.bp 6 0] (BH c e d i) fun G f=>f=BH (c+ct t) e d i/\G=.ret (bX true):=by
 obtain⟨L,N,r,J,K,rfl⟩:=w.cZ;have D:=eO t;refine cm ?_;refine M c (qk L N r J K) _ _ om ?_;refine xM t _ w om (fun j E=>?_);rw[D];have x:cy (dD t)<=n:=om;have F:c+(cy (dD t)+1)<4294967296:=om;generalize dD t=a at E x F;have T:=dA a;cases E with
 |nil=>
  exact aag
 |ps H=>
  rename_i X U l o;have A:=H.len;refine cd.less (dB:=[(12,.d (.ps X U 5 l o)),(13,bW a.length),(14,bW 0),(2,.bp 6 0)]) ⟨Z,int_eq (by rw[A]),Z,Z,tv⟩ ?_;refine cd.iter (fun h:Nat=>[(12,.d (.ps X U 5 l o)),(13,bW a.length),(14,bW h),(2,.bp 6 0)]) (fun h=>BH (c+1+cy (a.take h)) e d i++[.box (qk L N r J K)]) (fun h=>a.length-h) (fun h=>h<=a.length) ?_ 0 (aeO _);intro h k;apply aZ<;>intro s
  ·have b:h<a.length:=ee s;obtain⟨j,O,p⟩:=H.get b;refine bZ Z ?_;obtain⟨P,I,z,R,f2,rfl⟩:=p.cZ;refine cc _ (by rw[ck];exact O) ?_;have Y:=dJ (List.getElem_mem b);have y:=qZ b;have W:=mE a (h+1);refine(Q a[h] _ om p (c+1+cy (a.take h)) om).pre [.box (qk L N r J K),.box (qk P I z R f2)] (nP Z Rx Io hL) Z (fun G f H=>?_);obtain⟨rfl,rfl⟩:=H;refine⟨Z,nP Z Rx Io hL,Z,?_⟩;refine⟨h+1,b,iK,.drop 8 ⟨Z,Z,int_eq (cp om),Z,tv⟩ Z Z ?_ Z Z Z ?_,Z,Z⟩
   ·exact TS Z Rx Io Z v
   ·rw[y,<-Nat.add_assoc];rfl
  ·have b:a.length<=h:=dq s;rw[abL b];refine cU.drop 7 ?_ ?_ ?_ ?_
   ·exact Z
   ·exact nP Z Rx Io hL
   ·exact Z
   refine cU.now Z ⟨?_,Z⟩;rw[show c+(cy a+1)=c+1+cy a from by omega];rfl
theorem TT(b a:List V)(e:ki)(j:fu 0 b=true)(l:fu 0 a=true)(r:fW 7 (.loop e)=true)(h:fW 8 (.loop e)=true) 
  (s:∀(c:Nat) (i f:List V) (w:cO->VS->Prop),c<4294967296->w (.ret (bX true)) (BH (c+1) b a e++[.box i])->iA C ca 4 [.agg f] (BH c b a e++[.box i]) w):∀(c:Nat)
  (d:Ty) (f:cH),ct d<=c->eZ d f->∀o,o+ct d<4294967296->bV C ca ez [.agg (f.map V.d),.bp 5 0,.bp 6 0] (BH o b a e) fun y n=>n=BH (o+ct d) b a e/\y=.ret (bX true):=by
 intro c;induction c with
 |zero=>intro d f x;have:=gO d;omega
 |succ c t=>intro d f x p o v;exact Qv b a e j l r h s c t d f x p o v
theorem ML(t:Ty)(e:cH)(b:eZ t e)(h:ct t<4294967296):bV C ca qL [.agg (e.map V.d)] [] fun j a=>a=[]/\j=.ret (bW (ct t)):=by
 obtain⟨l,n,d,f,i,rfl⟩:=b.cZ;refine cm ?_;refine cj ?_;refine cj ?_;refine(TT (qk l n d f i) (qk l n d f i) _ Z Z ?_ ?_ (fun o r e s h c=>?_) _ t _ (aeu _) b 0 om).mono (fun j a p=>?_)
 ·exact Z
 ·exact Z
 ·refine iA.intro ?_;rw[BH,bW,<-cp (a:=o) om]at c;exact c
 ·obtain⟨rfl,rfl⟩:=p;refine a8 0 ⟨Z,?_⟩;show cO.ret (bW (0+ct t))=_;rw[aeT]
theorem nF(t:Ty)(d:cH)(a:eZ t d)(c:ct t<4294967296){σ:VS}{K:cO->VS->Prop}(b:K (.ret (bW (ct t))) σ):bV C ca qL [.agg (d.map V.d)] σ K:=by
 obtain⟨h,i,e,j,f,rfl⟩:=a.cZ;exact cC (ML t _ a c) Z Z b
theorem WI(a b:cq):C.ext fg ([D.str a,D.str b].map cz)=some (cz (.int .i64 (yw a b))):=by
 exact aeE
theorem zq(a b:cq){σ:VS}{K:cO->VS->Prop}(c:K (.ret (.d (.int .i64 (yw a b)))) σ):bV C ca qS [cn a,cn b] σ K:=by
 refine cj ?_;refine cj ?_;refine xE (.int .i64 (yw a b)) (WI a b) Z ?_;exact c
theorem R1{a b:cq}(c:cE a b=true):yw a b= -1:=by rw[yw,c]
theorem TU(d:(C.ff.get g).isSome=true)(f:D)(a:List oG)(p:ll a f)(z:a.length<4294967296) 
  (n:∀(e:FE) (l:Nat) (B:l<a.length),a[l].1=e.n->a[l].2.2=e.o->∀{σ:VS} {K:cO->VS->Prop},K (.ret (bX false)) σ->bV C ca g [fw e] σ K)
  {σ:VS} {K:cO->VS->Prop} (h:K (.ret (.d (.int .i64 (-1)))) σ):bV C ca oB [.d f,.fn g [] []] σ K:=by
 refine cj ?_;cases p with
 |nil=>
  refine cd.loop ?_;exact h
 |ps x=>
  rename_i w v b c;have j:=x.len;refine cd.less (dB:=[(0,.d (.ps w v 7 b c)),(1,.fn g [] []),(7,bW a.length),(8,bW 0)]) ⟨Z,Z,int_eq (by rw[j]),Z,tv⟩ ?_;refine cd.iter (fun i:Nat=>[(0,.d (.ps w v 7 b c)),(1,.fn g [] []),(7,bW a.length),(8,bW i)]) (fun _=>σ) (fun i=>a.length-i) (fun i=>i<=a.length) ?_ 0 (aeO _);intro i A;apply aZ<;>intro t
  ·have hi':i<a.length:=ee t;obtain⟨e,r,s,o,y⟩:=x.get hi';refine bZ Z ?_;refine cc _ (by rw[ck];exact r) ?_;refine cg d ?_;refine n e i hi' s o ?_;exact Gc
  ·exact h
theorem gI(b:(C.ff.get g).isSome=true)(f:D)(a:List oG)(c:ll a f)(h:a.length<4294967296) 
  (j:∀(d:FE) (i:Nat) (l:i<a.length),a[i].1=d.n->a[i].2.2=d.o->∀{σ:VS} {K:cO->VS->Prop},K (.ret (bX false)) σ->bV C ca g [fw d] σ K)
  {σ:VS} {K:cO->VS->Prop} (e:K (.ret (bX false)) σ):bV C ca mL [.d f,.fn g [] []] σ K:=by
 refine cj ?_;refine TU b f a c h j ?_;exact e
theorem Gf(a:FE){σ:VS}{K:cO->VS->Prop}(b:K (.ret (bX a.o)) σ):bV C ca yW [fw a] σ K:=by
 refine cC (v:=bX a.o) ?_ Z Z b;exact Fa
theorem K6(b:FE)(c:cK b.n=true){σ:VS}{K:cO->VS->Prop}(d:K (.ret (bX false)) σ):bV C ca wv [fw b] σ K:=by
 refine cC (v:=bX false) ?_ Z Z d;refine cm ?_;have a:b.n.length<4294967296:=by
  simp only[cK,Bool.and_eq_true,decide_eq_true_eq]at c;omega
 refine ic b.n a ?_;refine a8 0 ⟨Z,?_⟩;show cO.ret (bX (!(cK b.n)))=_;rw[c];rfl
theorem Dx(a:FE){σ:VS}{K:cO->VS->Prop}(b:K (.ret (cn a.n)) σ):bV C ca iQ [fw a] σ K:=by
 refine cC (v:=cn a.n) ?_ Z Z b;exact Fa
theorem vz{a:Nat}(b:0<a)(c:a<9223372036854775807):IntKind.i64.wrap (abK a-1)=abK (a-1):=by
 exact XU
theorem iy(f:D)(a:List oG)(r:ll a f)(I:a.length<4294967296)(t:mw (·.1) a) 
  {σ:VS} {K:cO->VS->Prop} (h:K (.ret (bW 0)) σ):bV C ca pc [.d f,.fn iQ [] []] σ K:=by
 refine cj ?_;cases r with
 |nil=>
  refine cd.loop ?_;exact h
 |ps y=>
  rename_i E A d b;have j:=y.len;refine cD (dB:=[(0,.d (.ps E A 7 d b)),(1,.fn iQ [] []),(5,bW 1)]) ?_;refine cd.iter (fun i:Nat=>[(0,.d (.ps E A 7 d b)),(1,.fn iQ [] []),(5,bW i)]) (fun _=>σ) (fun i=>a.length-i) (fun i=>1<=i) ?_ 1 (aeu _);intro i v;apply aZ<;>intro z
  ·have c:i<a.length:=j▸ee z;obtain⟨o,w,x,H,G⟩:=y.get c;obtain⟨p,s,f1,f2,F⟩:=y.get (show i-1<a.length by omega);have Vo:cE p.n o.n=true:=by
    rw[<-x,<-f1];exact t.px (aeM om) (aeM c) om
   have n:=vz (a:=i) v om;have e:nth b i=some (fe o):=by rw[ck];exact w
   have l:nth b (i-1)=some (fe p):=by rw[ck];exact s
   repeat first
    |refine bZ n ?_
    |refine bZ rfl ?_
    |refine cc _ l ?_
    |refine cc _ e ?_
    |refine cf ?_
    |refine Dx p ?_
    |refine Dx o ?_
    |refine zq p.n o.n ?_
   exact Zk
  ·exact h
structure FlW (tV:Bool) (fields:List oG):Prop where
 name:∀x∈fields,cK x.1=true
 srt:mw (·.1) fields
 tV:tV=false->∀x∈fields,x.2.2=false
inductive ol:Ty->Prop
 |base {k:Nat} (h:k<=4):ol (.mk k [] [] [] [])
 |list {t:Ty}:ol (.mk 5 [] [] [t] [])
 |Rz {fields:List oG} (h:FlW false fields):ol (.mk 6 [] [] [] fields)
 |vrt {fields:List oG} (h:FlW false fields):ol (.mk 7 [] [] [] fields)
 |func {t:Ty} {fields:List oG} (h:FlW true fields):ol (.mk 8 [] [] [t] fields)
 |ref {m n:cq} {args:List Ty} (hm:m=[]∨cK m=true) (hn:dX n=true):ol (.mk 10 m n args [])
theorem ll.cS{f:D}(h:ll [] f):f=.ci∨∃b c a,f=.ps b c 7 a []:=by
 exact O2
variable{u:D}
theorem fA.cS(b:fA [] u):u=.ci:=by
 cases b with
 |nil=>rfl
 |ps b a=>cases b;exact absurd rfl a
theorem fA.nN{t:Ty}(a:fA [t] u):∃e f b d,u=.ps e f 5 b [d]:=by
 cases a with
 |ps a c=>cases a with|cons _ a=>cases a;exact⟨_,_,_,_,rfl⟩
theorem sV{f n:cq}{b:List Ty}{a:List oG}(c:ct (.mk g f n b a)<4294967296):a.length<4294967296/\b.length<4294967296:=by
 have e:=dA (dD (.mk g f n b a));rw[eO]at c;have d:(ea a).length=a.length:=by simp[ea]
 rw[dD,aeN,d]at e;rw[dD]at c;omega
theorem HG(t:Ty)(o:cH)(b:eZ t o)(r:ol t)(i:ct t<4294967296):bV C ca tu [.agg (o.map V.d)] [] fun x n=>n=[]/\x=.ret (bX true):=by
 refine cm ?_;cases r with
 |base hk=>
  rename_i e;cases b with
  |mk a hf=>
   obtain rfl:=a.cS;rcases hf.cS with rfl|⟨w,v,f,rfl⟩
   ·have c:e=0∨e=1∨e=2∨e=3∨e=4:=om;rcases c with rfl|rfl|rfl|rfl|rfl
    ·exact Cl
    ·exact Cl
    ·exact Cl
    ·exact Cl
    ·exact Cl
   ·have c:e=0∨e=1∨e=2∨e=3∨e=4:=om;rcases c with rfl|rfl|rfl|rfl|rfl
    ·exact Ga
    ·exact Ga
    ·exact Ga
    ·exact Ga
    ·exact Ga
 |list=>
  cases b with
  |mk a hf=>
   obtain⟨w,v,f,o,rfl⟩:=a.nN;rcases hf.cS with rfl|⟨l,h,d,rfl⟩
   ·exact Cl
   ·exact Ga
 |Rz p=>
  cases b with
  |mk a hf=>
   obtain rfl:=a.cS;have ho:=p.tV rfl;have j:=(sV i).1;cases hf with
   |nil=>
    exact Cl
   |ps hf=>
    exact YR
 |vrt p=>
  cases b with
  |mk a hf=>
   obtain rfl:=a.cS;have ho:=p.tV rfl;have j:=(sV i).1;cases hf with
   |nil=>
    exact Cl
   |ps hf=>
    exact YR
 |func p=>
  cases b with
  |mk a hf=>
   obtain⟨w,v,f,o,rfl⟩:=a.nN;cases hf with
   |nil=>
    exact R7
   |ps hf=>
    exact R7
 |ref z y=>
  cases b with
  |mk a hf=>
   cases a with
   |nil=>
    rcases hf.cS with rfl|⟨l,h,d,rfl⟩
    ·exact Cl
    ·exact Ga
   |ps a s=>
    rcases hf.cS with rfl|⟨l,h,d,rfl⟩
    ·exact Cl
    ·exact Ga
end Go.Proofs.YtpejealjkmhkgaaGreatDoor
