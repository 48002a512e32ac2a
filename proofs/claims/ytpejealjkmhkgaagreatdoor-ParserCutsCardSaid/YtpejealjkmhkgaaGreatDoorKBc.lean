/- Part of the proof. -/
import Derived.Test.YtpejealjkmhkgaaGreatDoorKBb
set_option linter.all false
set_option maxHeartbeats 16000000
set_option maxRecDepth 100000
open Nat renaming le_of_ble_eq_true->YL,le_refl->YO
open List renaming take_of_length_le->YM,map->YP
open And renaming intro->YN
namespace Go.Proofs.YtpejealjkmhkgaaGreatDoor
open Go.AM Go.VM
def kO(es:Nat):List (List D)->cL
 |[]=>.gone
 |e::c=>.row es ((e::c).map fun b=>b.map V.d)
def kV(c es:Nat):List (List D)->V
 |[]=>.d .cn
 |_::b=>.ms c es 0 (b.length+1) (b.length+1)
theorem ga(es:Nat)(l:List (List D)):fG 0 (kO es l)=true:=by
 cases l with
 |nil=>rfl
 |cons b c=>exact ju 0 es (b::c)
theorem AQ(b:Nat->Nat)(es:Nat)(l:List (List D)):dH b (kO es l)=kO es l:=en b _ (ga es l)
theorem qS{c n b:Nat}(j:c<=4294967296)(f:n<=1)(e:b<=200):(c+n)*b<=eF/\c+n<=eF:=by
 unfold eF;constructor
 ·calc (c+n)*b<=4294967297*200:=Nat.mul_le_mul om e
   _<=_:=dc
 ·omega
theorem jw(n:Nat):Nat.ble (n+1+1) (n+1)=false:=by
 rw[<-Bool.not_eq_true,Nat.ble_eq];omega
def jx(f:Nat)(n:List UInt8)(b:D)(c e:V):List V:=[b3 f,cq [],cq n,cq [],b3 0,.d b,c,e]
def jz:List V:=[b3 0,cq [],cq [],cq [],b3 0,.d .cn,.d .cn,.d .cn]
def Yw:Nat->Bool:=fun b=>Nat.beq b 23
theorem Un{p:et}{b:FE}(f:p.n=b.n)(e:p.v=b.v)(c:p.vu=b.o):Jg p.CV b.ty=[.str b.n,.str b.v,.int .i64 (Int.ofNat b.k),.str b.m,.str b.nm,b.a,b.f,.bool b.o]:=by
 rw[Jg,et.CV,f,e,c];rfl
def Uo:Bool->Nat
 |false=>1
 |true=>5
def Vm(f:Bool)(l:List (List D)):cL:=match f with
 |false=>kO 8 l
 |true=>.gone
def TH(f:Bool)(l:List (List D)):cL:=match f with
 |false=>.gone
 |true=>kO 8 l
theorem lW(b:Nat->Nat)(c es:Nat)(l:List (List D)):gJ b (kV c es l)=kV (b c) es l:=by cases l<;>rfl
theorem km(c es:Nat)(f:List D)(b:List (List D))(e:List D):V.ms c es 0 (b.length+1+1) (b.length+1+1)=kV c es ((f::b)++[e]):=by simp[kV]
theorem p8(c:Nat->Nat)(b:List FE):some (cL.row 9 (dd true b))=some (dH c (.row 9 (dd true b))):=congrArg some (sG c 9 (b.map (wI true))).symm
theorem EI(b:Nat->Nat)(es:Nat)(l:List (List D)):some (kO es l)=some (dH b (kO es l)):=congrArg some (AQ b es l).symm
theorem iB(c:Nat->Nat)(es:Nat)(f:List D)(e:List (List D))(b:List D):some (cL.row es (List.take (e.length+1) (List.drop 0 (YP (fun b=>YP V.d b) (f::e)))++[b.map V.d]))=some (dH c (kO es ((f::e)++[b]))):=by
 rw[AQ,List.drop_zero,YM sm];simp[kO]
theorem jy(b:Nat->Nat)(es:Nat)(c:List D):some (cL.row es [c.map V.d])=some (dH b (kO es ([]++[c]))):=by
 rw[AQ];rfl
theorem fO(b es:Nat)(l:List (List D)):fG b (kO es l)=true:=iA b _ (ga es l)
theorem EJ(b:Nat->Nat)(f:Bool)(l:List (List D)):some (Vm f l)=some (dH b (Vm f l)):=by
 cases f
 ·exact EI b 8 l
 ·rfl
theorem zv(b:Nat->Nat)(f:Bool)(l:List (List D)):some (TH f l)=some (dH b (TH f l)):=by
 cases f
 ·rfl
 ·exact EI b 8 l
theorem AS(b:Nat)(f:Bool)(l:List (List D)):fG b (Vm f l)=true:=by
 cases f
 ·exact fO b 8 l
 ·rfl
theorem Jl(b:Nat)(f:Bool)(l:List (List D)):fG b (TH f l)=true:=by
 cases f
 ·rfl
 ·exact fO b 8 l
theorem EK(b:Nat->Nat)(c:List D):some (cL.row 8 [c.map V.d])=some (dH b (TH true ([]++[c]))):=jy b 8 c
theorem AT(c:Nat->Nat)(f:List D)(e:List (List D))(b:List D):some (cL.row 8 (List.take (e.length+1) (List.drop 0 (YP (fun b=>YP V.d b) (f::e)))++[b.map V.d]))=some (dH c (TH true ((f::e)++[b]))):=iB c 8 f e b
theorem wJ{e b:cL}{c:VS}(j:fG 2 e=true)(f:fG 2 b=true):ln 2 (e::b::c) 2=true:=by
 show(fG 2 e&&(fG 2 b&&ln 2 c 0))=true;rw[j,f,ln];rfl
theorem py.Pq{l:List iV}(b:py l []):fK l .cn:=by cases b;exact .nil
variable{a d:List (List D)}
theorem py.VJ{l:List iV}{b o c:Nat}(f:py l a)(e:d=a):fK l (.ps b o 8 c d):=e▸ .ps f
theorem iL.Pq{l:List Ex}(b:iL l []):ij l .cn:=by cases b;exact .nil
theorem iL.VJ{l:List Ex}{b o c:Nat}(f:iL l a)(e:d=a):ij l (.ps b o 8 c d):=e▸ .ps f
variable{g h:Nat} {i:D}
theorem wK{c:Nat->Nat}{n:List UInt8}{l b e f:V}(j:l=gJ c e)(k:b=gJ c f):some (cL.box (jx g n i l b))=some (dH c (.box (jx g n i e f))):=by
 subst j k;rfl
theorem wL{n:List UInt8}{f b:V}(c:bd g f=true)(e:bd g b=true):fG g (.box (jx h n i f b))=true:=by
 simp only[fG,jx,e5,bd,b3,cq,c,e];rfl
theorem ka(es:Nat)(l:List (List D))(b:Nat.blt h g=true):bd g (kV h es l)=true:=by
 cases l with
 |nil=>rfl
 |cons e c=>exact b
theorem GR(R:Nat)(n:List UInt8)(o:D){kids:List Ex}{l:List et}{xs:List FE}{ml:List (List D)}(p:iL kids ml)(ac:jS l xs)(ao:(xs.map FE.n).Nodup)(aC:∀ad∈l,ad.val.length<=1)(z:kids.length<=1)(e:Nat)(aG:e=xs.length)(aT:e<4294967295){a:dC->VS->Prop} 
  (q:∀(m:Bool) (w:List FE) (c b:List (List D)),(m=false->b=ml)->py ((cE et.n l).map et.CV) c->iL (kids++(cE et.n l).flatMap et.val) b->b.length<=e+1->cP 2 (.ret (.agg (jx R n o (kV 4 8 c) (kV (Uo m) 8 b)))) [.row 9 (dd true w),Vm m b,.box (jx R n o (kV 4 8 c) (kV (Uo m) 8 b)),.box (jx R n o (kV 4 8 c) (kV (Uo m) 8 b)),kO 8 c,TH m b] a):
  b1 C b7 iR [.agg (jx R n o (.d .cn) (.d .cn)),kV 1 8 ml,.ms 0 9 0 e e] [.row 9 (dd true xs),kO 8 ml] a:=by
 refine cA Yw (fun _=>Z) ?_;refine AO (dN:=[.ms 0 (ew true) 0 e e,lU true]) (P:=fun ap u=>u=dd true (cE FE.n xs)/\ap=.ret (.dV [])) ((yy true xs ao e aG om).mono fun ap aN v=>?_) 0 Z (yw xs) Z Z (fun ap u v=>?_)
 ·obtain⟨rfl,rfl⟩:=v;exact⟨_,Z,Z,yw _,Z,Z⟩
 obtain⟨rfl,rfl⟩:=v;have h:=ac.GI;have ai:(cE et.n l).length=l.length:=(dG l).length_eq;have aL:=ac.len;have P:∀ad∈cE et.n l,ad.val.length<=1:=fun ad aF=>aC ad ((dG l).subset aF);generalize cE et.n l=f at h ai P q;generalize cE FE.n xs=w at h⊢;obtain⟨y,Q⟩:∃y,y=ml:=⟨_,rfl⟩;have G:∀(m:Bool) (c b:List (List D)),(m=false->b=y)->py (f.map et.CV) c->iL (kids++f.flatMap et.val) b->b.length<=e+1->cP 2 (.ret (.agg (jx R n o (kV 4 8 c) (kV (Uo m) 8 b)))) [.row 9 (dd true w),Vm m b,.box (jx R n o (kV 4 8 c) (kV (Uo m) 8 b)),.box (jx R n o (kV 4 8 c) (kV (Uo m) 8 b)),kO 8 c,TH m b] a:=fun m c b aE ay ar aA=>q m w c b (fun v=>(aE v).trans Q) ay ar aA;clear q;rcases ml with _|⟨B,d⟩;all_goals
  refine cl.less (eW:=[(13,.ms 0 9 0 e e),(14,b3 e),(15,b3 0),(3,.bp 2 0),(6,.bp 3 0)]) ⟨Z,Z,Z,Z,Z,tv⟩ ?_;refine cl.gone (cl.gone ?_);refine cl.iter (fun k:Nat×Bool×List (List D)×List (List D)=>[(13,.ms 0 9 0 e e),(14,b3 e),(15,b3 k.1),(3,.bp 2 0),(6,.bp 3 0)])
   (fun k=>[.row 9 (dd true w),Vm k.2.1 k.2.2.2,.box (jx R n o (kV 4 8 k.2.2.1) (kV (Uo k.2.1) 8 k.2.2.2)),.box jz,kO 8 k.2.2.1,TH k.2.1 k.2.2.2]) (fun k=>e-k.1)
   (fun k=>k.1<=e/\py ((f.take k.1).map et.CV) k.2.2.1/\iL (kids++(f.take k.1).flatMap et.val) k.2.2.2/\(kids++(f.take k.1).flatMap et.val).length<=k.1+1/\(k.2.1=false->k.2.2.2=y)) ?_ (0,false,[],_) ⟨Nat.zero_le _,.nil,by simpa using p,by simpa using z,fun _=>Q.symm⟩
  rintro⟨j,m,c,ml⟩ ⟨X,L,T,N,M⟩;have aK:j<=e:=X;have J:py ((f.take j).map et.CV) c:=L;have p:iL (kids++(f.take j).flatMap et.val) ml:=T;have z:(kids++(f.take j).flatMap et.val).length<=j+1:=N;have S:m=false->ml=y:=M;clear X L T N M;have aI:=p.len;have O:ml.length<=j+1:=om;have ae:c.length<=j:=by rw[J.len,List.length_map,List.length_take];omega
  apply aZ<;>intro ah
  ·have Y:j<e:=fF ah;have E:j<f.length:=om;obtain⟨F,au,av,aB,aH,af,an⟩:=h.get E;have al:nth (dd true w) (0+j)=some ((pe F).map V.d):=by rw[Nat.zero_add];exact gL au
   have A:f.take (j+1)=f.take j++[f[j]]:=by rw[List.take_add_one,List.getElem?_eq_getElem E];rfl
   have aM:f[j].val.length<=1:=P _ (List.getElem_mem E);have W:=Un av aB aH;have t:py ((f.take (j+1)).map et.CV) (c++[[.str F.n,.str F.v,.int .i64 (Int.ofNat F.k),.str F.m,.str F.nm,F.a,F.f,.bool F.o]]):=by
    rw[A,List.map_append,<-W];exact J.snoc af
   have s:kids++(f.take (j+1)).flatMap et.val=(kids++(f.take j).flatMap et.val)++f[j].val:=by
    rw[A,List.flatMap_append,List.append_assoc];simp
   have r:(kids++(f.take (j+1)).flatMap et.val).length<=j+1+1:=by rw[s,List.length_append];omega
   have U:f[j].val=[]->iL (kids++(f.take (j+1)).flatMap et.val) ml:=fun v=>by rw[s,v,List.append_nil];exact p
   have ag:∀I,iL f[j].val [I]->iL (kids++(f.take (j+1)).flatMap et.val) (ml++[I]):=fun I v=>by rw[s];exact p.KR v
   clear s p A;obtain⟨aO,aX,aP,aJ,aV,aW,aQ,aS,g⟩:=F;dsimp only at an t W;refine b0 Z ?_;refine a1 Y ?_;refine b4 _ al ?_;intro aR;have aj:(g=.cn/\f[j].val=[])∨(∃ab i aa,g=.ps ab i 8 aa []/\f[j].val=[])∨∃ab i aa I,g=.ps ab i 8 aa [I]/\iL f[j].val [I]:=by
    obtain⟨aw,K⟩|⟨ab,i,aa,u,K,ak⟩:=an.inv
    ·exact .inl ⟨K,aw⟩
    ·have:=ak.len;rcases u with _|⟨I,_|⟨aU,ap⟩⟩
     ·exact .inr (.inl ⟨ab,i,aa,K,List.eq_nil_of_length_eq_zero this.symm⟩)
     ·exact .inr (.inr ⟨ab,i,aa,I,K,ak⟩)
     ·simp at this;omega
   rcases c with _|⟨H,am⟩;all_goals
    first
     |refine a1 rfl (a1 ⟨YL rfl,YL rfl⟩ (a6 rfl ?_))
     |refine a1 rfl (a1 ⟨rfl,rfl,by simp,YO _,qS (by simp at ae;omega) (YO _) (YL rfl)⟩ (a6 rfl (a6 (jw am.length) ?_)))
    rcases aj with⟨rfl,x⟩|⟨az,aD,ax,rfl,x⟩|⟨az,aD,ax,I,rfl,x⟩;all_goals
     cases m;all_goals
      rcases ml with _|⟨B,d⟩;all_goals
       try refine a1 (rfl:8=_) ?_
       first
        |refine a1 ⟨YL rfl,YL rfl⟩ ?_
        |refine a1 ⟨rfl,rfl,by simp,YO _,qS (by simp only[List.length_cons]at O;omega) sm (YL rfl)⟩ ?_
       first
        |refine a8 rfl ?_
        |refine a6 rfl ?_
       try refine a6 (jw d.length) ?_
       first
        |refine⟨(j+1,false,_,_),⟨by show j+1<=e;omega,t,U x,r,S⟩,by show e-(j+1)<e-j;omega,.pick 2 [0,1,2,3,7,5] ⟨rfl,rfl,int_eq (cp om),rfl,rfl,tv⟩ rfl rfl rfl rfl rfl dc ⟨p8 _ _,ju _ _ _,by first|exact EJ _ _ _|exact rfl,AS _ _ _,wK (by first|exact rfl|exact(km _ _ H _ _).trans (lW _ _ _ _).symm) (by first|exact rfl|exact(km _ _ B _ _).trans (lW _ _ _ _).symm),wL (ka 8 _ rfl) (ka 8 _ rfl),rfl,rfl,by first|exact jy _ _ _|exact iB _ _ _ _ _,fO _ _ _,by first|exact zv _ _ _|exact EK _ _|exact AT _ _ _ _,Jl _ _ _,tv⟩,rfl,rfl⟩
        |refine⟨(j+1,true,_,_),⟨by show j+1<=e;omega,t,U x,r,fun v=>Bool.noConfusion (show true=false from v)⟩,by show e-(j+1)<e-j;omega,.pick 2 [0,1,2,3,7,5] ⟨rfl,rfl,int_eq (cp om),rfl,rfl,tv⟩ rfl rfl rfl rfl rfl dc ⟨p8 _ _,ju _ _ _,by first|exact EJ _ _ _|exact rfl,AS _ _ _,wK (by first|exact rfl|exact(km _ _ H _ _).trans (lW _ _ _ _).symm) (by first|exact rfl|exact(km _ _ B _ _).trans (lW _ _ _ _).symm),wL (ka 8 _ rfl) (ka 8 _ rfl),rfl,rfl,by first|exact jy _ _ _|exact iB _ _ _ _ _,fO _ _ _,by first|exact zv _ _ _|exact EK _ _|exact AT _ _ _ _,Jl _ _ _,tv⟩,rfl,rfl⟩
        |refine⟨(j+1,true,_,_),⟨by show j+1<=e;omega,t,(ag _ x),r,fun v=>Bool.noConfusion (show true=false from v)⟩,by show e-(j+1)<e-j;omega,.pick 2 [0,1,2,3,7,8] ⟨rfl,rfl,int_eq (cp om),rfl,rfl,tv⟩ rfl rfl rfl rfl rfl dc ⟨p8 _ _,ju _ _ _,by first|exact EJ _ _ _|exact rfl,AS _ _ _,wK (by first|exact rfl|exact(km _ _ H _ _).trans (lW _ _ _ _).symm) (by first|exact rfl|exact(km _ _ B _ _).trans (lW _ _ _ _).symm),wL (ka 8 _ rfl) (ka 8 _ rfl),rfl,rfl,by first|exact jy _ _ _|exact iB _ _ _ _ _,fO _ _ _,by first|exact zv _ _ _|exact EK _ _|exact AT _ _ _ _,Jl _ _ _,tv⟩,rfl,rfl⟩
  ·have Y:e<=j:=dR ah;have aw:f.take j=f:=YM om;rw[aw]at J p z;rcases c with _|⟨H,am⟩;all_goals
    cases m;all_goals
     rcases ml with _|⟨B,d⟩;all_goals
      exact G _ _ _ S J p (Nat.le_trans O om)
theorem qT(o:Nat)(n:List UInt8)(j:D){types:List Ty}{b:List Ex}{l:List et}{xs:List FE}(y:ib types j)(f:iL b a)(x:jS l xs)(s:(xs.map FE.n).Nodup)(E:∀v∈l,v.val.length<=1)(m:b.length<=1)(c:Nat)(B:c=xs.length)(A:c<4294967295):
  b1 C b7 iR [.agg (jx o n j (.d .cn) (.d .cn)),kV 1 8 a,.ms 0 9 0 c c] [.row 9 (dd true xs),kO 8 a] fun H t=>∃v I,t=[v,I]/\fG 0 v=true/\fG 0 I=true/\cN H=true/\∃J,ly (jv o n types b l) J/\H=.ret (.agg (J.map V.d)):=by
 have F:jv o n types b l=.mk o [] n [] 0 types ((cE et.n l).map et.CV) (b++(cE et.n l).flatMap et.val):=rfl;rw[F];refine GR o n j f x s E m c B A (fun L M k a K q f _=>?_);rcases k with _|⟨z,G⟩;all_goals
  cases L;all_goals
   rcases a with _|⟨p,u⟩;all_goals
    first
     |refine cP.freeze 4 (es:=8) (l:=z::G) rfl (fZ _) (by repeat' (first|exact tv|exact fun e=>absurd (show(1:Nat)=4 from e) dc|exact fun e=>absurd (show(5:Nat)=4 from e) dc|exact fun _=>⟨rfl,by simp⟩|refine YN ?_ ?_)) (fun N=>?_)
     |skip
    first
     |refine cP.freeze 1 (es:=8) (l:=p::u) rfl (fZ _) (by repeat' (first|exact tv|exact fun e=>absurd (show(1:Nat)=4 from e) dc|exact fun e=>absurd (show(5:Nat)=4 from e) dc|exact fun _=>⟨rfl,by simp⟩|refine YN ?_ ?_)) (fun w=>?_)
     |refine cP.freeze 5 (es:=8) (l:=p::u) rfl (fZ _) (by repeat' (first|exact tv|exact fun e=>absurd (show(1:Nat)=4 from e) dc|exact fun e=>absurd (show(5:Nat)=4 from e) dc|exact fun _=>⟨rfl,by simp⟩|refine YN ?_ ?_)) (fun w=>?_)
     |skip
    refine cP.drop 2 rfl (wJ (ju _ _ _) (by first|rfl|exact AS _ _ _)) rfl (cP.now rfl ⟨_,_,rfl,ju _ _ _,by first|rfl|exact AS _ _ _,rfl,_,.mk y ?_ ?_,rfl⟩)
    ·first|exact q.Pq|exact q.VJ sm
    ·first|exact f.Pq|exact f.VJ sm
theorem Jm(p:Nat)(n:List UInt8)(j:D){l:List et}{xs:List FE}(z:jS l xs)(s:(xs.map FE.n).Nodup)(G:∀y∈l,y.val.length<=1)(f:Nat)(E:f=xs.length)(B:f<4294967295):
  b1 C b7 iR [.agg (jx p n j (.d .cn) (.d .cn)),.d .cn,.ms 0 9 0 f f] [.row 9 (dd true xs),.gone] fun J u=>∃y t b,u=[y,.gone,kO 8 b]/\fG 0 y=true/\fK ((cE et.n l).map et.CV) t/\iL ((cE et.n l).flatMap et.val) b/\b.length<=f+1/\J=.ret (.agg (jx p n j (.d t) (kV 2 8 b))):=by
 refine GR (kids:=[]) (ml:=[]) p n j .nil z s G (Nat.zero_le _) f E B (fun x w o b m r q k=>?_);have v:(x=false/\b=[])∨(x=true/\b=[])∨∃c e,x=true/\b=c::e:=by
  cases x
  ·exact .inl ⟨Z,m Z⟩
  ·rcases b with _|⟨c,e⟩
   ·exact .inr (.inl ⟨Z,Z⟩)
   ·exact .inr (.inr ⟨c,e,Z,Z⟩)
 clear m;rcases o with _|⟨A,I⟩;all_goals
  rcases v with⟨rfl,rfl⟩|⟨rfl,rfl⟩|⟨c,e,rfl,rfl⟩;all_goals
   first
    |refine cP.freeze 4 (es:=8) (l:=A::I) rfl (fZ _) (by repeat' (first|exact tv|exact fun H=>absurd (show(1:Nat)=4 from H) dc|exact fun H=>absurd (show(5:Nat)=4 from H) dc|exact fun _=>⟨rfl,by simp⟩|refine YN ?_ ?_)) (fun L=>?_)
    |skip
   first
    |refine cP.pick [0,1,5] (ii:=[.row 9 (dd true w),.gone,kO 8 []]) (r0:=.ret (.agg (jx p n j (.d _) (kV 2 8 [])))) rfl rfl rfl dc ⟨p8 _ _,ju _ _ _,rfl,rfl,rfl,rfl,tv⟩ (cP.now rfl ⟨_,_,[],rfl,ju _ _ _,?_,q,k,rfl⟩)
    |refine cP.pick [0,1,5] (ii:=[.row 9 (dd true w),.gone,kO 8 (c::e)]) (r0:=.ret (.agg (jx p n j (.d _) (kV 2 8 (c::e))))) rfl rfl rfl dc ⟨p8 _ _,ju _ _ _,rfl,rfl,zv _ true _,fO _ _ _,tv⟩ (cP.now rfl ⟨_,_,c::e,rfl,ju _ _ _,?_,q,k,rfl⟩)
   first|exact r.Pq|exact r.VJ sm
theorem MA(e:Nat)(n:List UInt8)(c:D):b1 C b7 iR [.agg (jx e n c (.d .cn) (.d .cn)),.d .cn,.d .cn] [] fun f b=>b=[]/\f=.ret (.agg (jx e n c (.d .cn) (.d .cn))):=by
 refine cz ?_;refine b9 ?_;refine b9 ?_;refine cl.loop ?_;refine b9 ?_;refine cl.loop ?_;refine cl.loop ?_;refine cl.loop ?_;refine a7 0 ⟨Z,Z⟩
end Go.Proofs.YtpejealjkmhkgaaGreatDoor
