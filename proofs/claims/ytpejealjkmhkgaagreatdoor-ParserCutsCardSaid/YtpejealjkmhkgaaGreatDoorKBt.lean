/- Part of the proof. -/
import Derived.Test.YtpejealjkmhkgaaGreatDoorKBs
set_option linter.all false
set_option maxHeartbeats 16000000
set_option maxRecDepth 100000
open Int renaming ofNat->YL,ofNat_eq_natCast->YM
open List renaming length_append->YN,length_nil->YO,getElem?_eq_getElem->YP,length_cons->YQ,take_of_length_le->YS,getElem_mem->YU,mem_append->YV,mem_singleton->YW,take_add_one->YX,length_take->YY,map_append->YZ,drop_eq_getElem_cons->Y0,mem_cons->Y1,drop_of_length_le->Y2,getElem?_eq_none->Y4
open Nat renaming zero_le->YR,le_refl->YT,zero_add->Y3
namespace Go.Proofs.YtpejealjkmhkgaaGreatDoor
open Go.AM Go.VM
def Qx(b:List (List UInt8))(c:List UInt8):List (List UInt8):=if c∈b then b else b++[c]
def Lq(l:List mv):List (List UInt8):=(l.map mv.n).foldl Qx []
def rD:List Ty->Nat
 |[]=>0
 |t::b=>if qZ t then 7 else rD b
def rM(b:kA):List Ty:=[b.lo,b.up,b.ty]++b.ps.map mv.b
def vp(b:List kA)(c:kA):Nat:=
 if 8<c.ps.length∨65536<c.note.length then 7 else if jd c=false then 4 else if b.any (sY c)then 5 else if(Lq c.ps).length<c.ps.length then 5 else if rD (rM c)≠0 then rD (rM c)else sX c.ex
variable{e:List UInt8}
theorem Qy:∀{b:List (List UInt8)} {k i:Nat},e∈b->∃c,eN .string (cq e) (eC k b) i=some (some (i+c,ct true))/\l8 (eC k b) c (cq e) (ct true)=eC k b:=by
 intro b;induction b with
 |nil=>intro k i h;simp at h
 |cons p o f=>
  intro k i h;by_cases n:e=p
  ·subst n;refine⟨0,?_,Z⟩;show(match decide (e=e)with
    |true=>some (some (i,ct true))
    |false=>eN .string (cq e) (eC (k+1) o) (i+1))=_
   rw[decide_eq_true rfl];rfl
  ·obtain⟨c,l,m⟩:=f (k:=k+1) (i:=i+1) (by simpa [n]using h);refine⟨c+1,?_,by show _::l8 (eC (k+1) o) c (cq e) (ct true)=_;rw[m];rfl⟩;show(match decide (e=p)with
    |true=>some (some (i,ct true))
    |false=>eN .string (cq e) (eC (k+1) o) (i+1))=_
   rw[decide_eq_false n,show i+(c+1)=i+1+c by omega];exact l
theorem Qz(l:List (List UInt8)):∀c,(eC c l).length=l.length:=by
 induction l with
 |nil=>intro c;rfl
 |cons f l b=>intro c;simp[eC,b]
def E7(l:List mv)(b:Nat):List (List UInt8):=((l.take b).map mv.n).foldl Qx []
variable{j:Nat}
theorem Nx{l:List mv}(h:j<l.length):E7 l (j+1)=Qx (E7 l j) l[j].n:=by
 rw[E7,YX,YP h,YZ,List.foldl_append];rfl
theorem J9(n w:Nat)(l:List (List D)):fG n (.row w (l.map fun b=>b.map V.d))=true:=by
 cases l with
 |nil=>rfl
 |cons c f=>exact fO n w (c::f)
theorem Lr(f:Nat->Nat)(w:Nat)(l:List (List D)):dH f (.row w (l.map fun b=>b.map V.d))=.row w (l.map fun b=>b.map V.d):=en _ _ (J9 0 w l)
theorem Ny(f:Nat->Nat)(w:Nat)(l:List (List D))(b:List D):some (cL.row w (List.take l.length (List.drop 0 (l.map fun b=>b.map V.d))++[b.map V.d]))=some (dH f (.row w ((l++[b]).map fun b=>b.map V.d))):=by
 rw[Lr,List.drop_zero,YS sm,YZ];rfl
theorem YF{c b:Nat}{l:List (List D)}:some (nf c b l (.ms c 5 0 l.length l.length))=some (V.d (.ps b 0 5 l.length l)):=by
 rw[nf,jQ];show some (V.d (.ps b (0*5) 5 l.length ((l.drop 0).take l.length)))=_;rw[List.drop_zero,YS (YT _),Nat.zero_mul]
def QA:Nat->Bool:=fun b=>Nat.beq b 72||Nat.beq b 1000023
variable{g:kA}
theorem HJ{aa:List D}(ak:rL g aa)(Q:zc g){ac:List kA}{Y:List (List D)}(aT:nn ac Y)(aW:ac.length<4294967296)(b o c:Nat)(aw:cJ g.lo<1073741824/\cJ g.up<1073741824/\cJ g.ty<1073741824/\(∀aP∈g.ps,cJ aP.b<1073741824)/\da g.ex<1073741824):b1 C b7 uu [.agg (aa.map V.d),.d (.ps b o 31 c Y)] [] fun bj aM=>aM=[]/\bj=.ret (b3 (vp ac g)):=by
 have ad:=Bu ak Q;have aD:=E6 ak Q;have aI:=@J8 g aa ak ac Y aT aW b o c;obtain⟨ps,z,x,s,r,f1,p,A,t,y,f2,w,u,v,B,f3,R,M,S,N,O,t4,L,d4,ar,aG,az,aH,aS,rfl⟩:=iD ak;have U:∃aQ:Nat,aQ=g.ps.length/\((ps=.cn/\aQ=0)∨∃b o c k,ps=.ps b o 7 c k/\wU g.ps k/\k.length=aQ):=by
  revert ar;generalize g.ps=bi;intro ar;cases ar with
  |nil=>exact⟨0,rfl,.inl ⟨rfl,rfl⟩⟩
  |ps h=>exact⟨_,rfl,.inr ⟨_,_,_,_,rfl,h,h.len⟩⟩
 obtain⟨aQ,bl,U⟩:=U;by_cases ai:8<g.ps.length∨65536<g.note.length
 ·have i:vp ac g=7:=by rw[vp,if_pos ai]
  rcases U with⟨rfl,aE⟩|⟨G,F,E,k,rfl,ag,aN⟩
  ·have ap:decide (65536<YL g.note.length)=true:=decide_eq_true (by simp only[YM];omega);refine cA QA (fun _=>Z) ?_;refine cQ ad Z Z ?_;repeat refine dX ?_
   exact a7 0 ⟨Z,by rw[i];rfl⟩
  ·by_cases ab:8<g.ps.length
   ·have al:decide (8<YL k.length)=true:=decide_eq_true (by simp only[YM];omega);refine cA QA (fun _=>Z) ?_;refine cQ ad Z Z ?_;repeat refine dX ?_
    exact a7 0 ⟨Z,by rw[i];rfl⟩
   ·have al:decide (8<YL k.length)=false:=decide_eq_false (by simp only[YM];omega);have ap:decide (65536<YL g.note.length)=true:=decide_eq_true (by simp only[YM];omega);refine cA QA (fun _=>Z) ?_;refine cQ ad Z Z ?_;repeat refine dX ?_
    exact a7 0 ⟨Z,by rw[i];rfl⟩
 ·have ap:decide (65536<YL g.note.length)=false:=decide_eq_false (by simp only[YM];omega);have i:vp ac g=if jd g=false then 4 else if ac.any (sY g)then 5 else if(Lq g.ps).length<g.ps.length then 5 else if rD (rM g)≠0 then rD (rM g)else sX g.ex:=by rw[vp,if_neg ai]
  apply gh (T:=fun f:List (List D)=>[(2,.bp 0 0),(8,.ms 1 5 0 f.length f.length)]) (S:=fun f:List (List D)=>[.box ((mG g.k g.n g.exp g.yB g.note ps (j2 z x s r f1) (j2 p A t y f2) (j2 w u v B f3) [.int .i64 (YL R),.str M,.str S,.str N,.int .i64 O,t4,L,d4] g.m g.tg).map V.d),.row 5 (f.map fun aa=>aa.map V.d)]) (I:=fun f:List (List D)=>eX (rM g) f/\vp ac g=if rD (rM g)≠0 then rD (rM g)else sX g.ex)
  ·intro ay;rcases U with⟨rfl,aE⟩|⟨G,F,E,k,rfl,ag,aN⟩
   ·refine cA QA (fun _=>Z) ?_;refine cQ ad Z Z ?_;repeat refine dX ?_
    refine cQ aD Z Z ?_;cases K:jd g with
    |false=>
     rw[K,if_pos rfl]at i;exact a7 0 ⟨Z,by rw[i];rfl⟩
    |true=>
    rw[K,if_neg dc]at i;refine aI 0 Z ?_;apply aZ<;>intro ab
    ·have q:ac.any (sY g)=true:=ab;rw[if_pos q]at i;exact a7 0 ⟨Z,by rw[i];rfl⟩
    have q:ac.any (sY g)=false:=ab;rw[if_neg (by rw[q];decide)]at i;refine cl.loop ?_;refine cl.loop ?_;have am:g.ps=[]:=List.eq_nil_of_length_eq_zero om;refine cF (ii:=[.box ((mG g.k g.n g.exp g.yB g.note .cn (j2 z x s r f1) (j2 p A t y f2) (j2 w u v B f3) [.int .i64 (YL R),.str M,.str S,.str N,.int .i64 O,t4,L,d4] g.m g.tg).map V.d),.row 5 ([j2 z x s r f1,j2 p A t y f2,j2 w u v B f3].map fun aa=>aa.map V.d)]) (eW:=[(2,.bp 0 0),(8,.ms 1 5 0 3 3)]) (.pick 0 [0,2] ⟨Z,Z,tv⟩ Z Z Z Z Z dc ⟨Z,Z,Z,Z,tv⟩) (ay [j2 z x s r f1,j2 p A t y f2,j2 w u v B f3] ⟨by rw[rM,am];exact .cons aG (.cons az (.cons aH .nil)),by rw[i,am];rfl⟩)
   ·have al:decide (8<YL k.length)=false:=decide_eq_false (by simp only[YM];omega);refine cA QA (fun _=>Z) ?_;refine cQ ad Z Z ?_;repeat refine dX ?_
    refine cQ aD Z Z ?_;cases K:jd g with
    |false=>
     rw[K,if_pos rfl]at i;exact a7 0 ⟨Z,by rw[i];rfl⟩
    |true=>
    rw[K,if_neg dc]at i;refine aI 0 Z ?_;apply aZ<;>intro ab
    ·have q:ac.any (sY g)=true:=ab;rw[if_pos q]at i;exact a7 0 ⟨Z,by rw[i];rfl⟩
    have q:ac.any (sY g)=false:=ab;rw[if_neg (by rw[q];decide)]at i;refine cl.less (eW:=[(2,.bp 0 0),(5,.map 1),(39,.d (.ps G F 7 E k)),(40,b3 k.length),(41,b3 0)]) ⟨Z,Z,Z,Z,Z,tv⟩ ?_;refine cl.iter (fun m:Nat=>[(2,.bp 0 0),(5,.map 1),(39,.d (.ps G F 7 E k)),(40,b3 k.length),(41,b3 m)]) (fun m=>[.box ((mG g.k g.n g.exp g.yB g.note (.ps G F 7 E k) (j2 z x s r f1) (j2 p A t y f2) (j2 w u v B f3) [.int .i64 (YL R),.str M,.str S,.str N,.int .i64 O,t4,L,d4] g.m g.tg).map V.d),nj (E7 g.ps m)]) (fun m=>g.ps.length-m) (fun m=>m<=g.ps.length) ?_ 0 (YR _);intro m aX;apply aZ<;>intro I
    ·have l:m<g.ps.length:=by have:=fF I;omega
     obtain⟨aV,ae,aY,T,rfl⟩:=ag.get l;obtain⟨j,d,e,a,f7,rfl⟩:=T.di;have H:=(cv k m).trans ae;have W:=Nx l;refine b0 Z ?_;refine b4 _ H ?_;by_cases X:g.ps[m].n∈E7 g.ps m
     ·rw[Qx,if_pos X]at W;obtain⟨aj,aA,aU⟩:=Qy (k:=0) (i:=0) X;refine b4 (some (0+aj,ct true)) aA ?_;exact⟨m+1,l,by show g.ps.length-(m+1)<g.ps.length-m;omega,.pick 0 [0,1] ⟨rfl,rfl,rfl,rfl,int_eq (cp om),tv⟩ rfl rfl rfl rfl rfl dc ⟨rfl,rfl,by rw[W,en _ _ (fQ _)];exact congrArg (fun aR=>some (cL.map aR (E7 g.ps m).length)) (by rw[Y3];exact aU),iA _ _ (fQ _),tv⟩,rfl,rfl⟩
     ·rw[Qx,if_neg X]at W;refine b4 none (xO X) ?_;exact⟨m+1,l,by show g.ps.length-(m+1)<g.ps.length-m;omega,.pick 0 [0,1] ⟨rfl,rfl,rfl,rfl,int_eq (cp om),tv⟩ rfl rfl rfl rfl rfl dc ⟨rfl,rfl,by rw[W,en _ _ (fQ _),GB];rfl,iA _ _ (fQ _),tv⟩,rfl,rfl⟩
    ·have l:g.ps.length<=m:=by have:=dR I;omega
     have aF:E7 g.ps m=Lq g.ps:=by rw[E7,YS l];rfl
     have bg:(eC 0 (E7 g.ps m)).length=(Lq g.ps).length:=by rw[Qz,aF]
     apply aZ<;>intro aO
     ·have aC:=fF aO;rw[if_pos om]at i;exact a7 0 ⟨Z,by rw[i];rfl⟩
     ·have aC:=dR aO;rw[if_neg om]at i;refine cF (ii:=[.box ((mG g.k g.n g.exp g.yB g.note (.ps G F 7 E k) (j2 z x s r f1) (j2 p A t y f2) (j2 w u v B f3) [.int .i64 (YL R),.str M,.str S,.str N,.int .i64 O,t4,L,d4] g.m g.tg).map V.d),.row 5 ([j2 z x s r f1,j2 p A t y f2,j2 w u v B f3].map fun aa=>aa.map V.d)]) (eW:=[(2,.bp 0 0),(8,.ms 1 5 0 3 3),(63,.d (.ps G F 7 E k)),(64,b3 k.length),(65,b3 0)]) (.pick 0 [0,2] ⟨Z,Z,Z,Z,Z,tv⟩ Z Z Z Z Z dc ⟨Z,Z,Z,Z,tv⟩) ?_;refine cl.iter (fun ah:Nat×List (List D)=>[(2,.bp 0 0),(8,.ms 1 5 0 ah.2.length ah.2.length),(63,.d (.ps G F 7 E k)),(64,b3 k.length),(65,b3 ah.1)]) (fun ah=>[.box ((mG g.k g.n g.exp g.yB g.note (.ps G F 7 E k) (j2 z x s r f1) (j2 p A t y f2) (j2 w u v B f3) [.int .i64 (YL R),.str M,.str S,.str N,.int .i64 O,t4,L,d4] g.m g.tg).map V.d),.row 5 (ah.2.map fun aa=>aa.map V.d)]) (fun ah=>g.ps.length-ah.1) (fun ah=>ah.1<=g.ps.length/\eX ([g.lo,g.up,g.ty]++(g.ps.take ah.1).map mv.b) ah.2) ?_ (0,[j2 z x s r f1,j2 p A t y f2,j2 w u v B f3]) ⟨YR _,.cons aG (.cons az (.cons aH .nil))⟩;rintro⟨aj,f⟩ ⟨aA,P⟩;apply aZ<;>intro I
      ·have J:aj<g.ps.length:=by have:=fF I;omega
       obtain⟨aV,ae,aY,T,rfl⟩:=ag.get J;obtain⟨j,d,e,a,f7,rfl⟩:=T.di;have H:=(cv k aj).trans ae;refine b0 Z ?_;refine b4 _ H ?_;have aq:=P.len;simp only[YN,YQ,YO,List.length_map,YY]at aq;have ax:eX ([g.lo,g.up,g.ty]++(g.ps.take (aj+1)).map mv.b) (f++[j2 j d e a f7]):=by
        rw[YX,YP J,YZ,<-List.append_assoc];exact P.snoc T
       have aJ:V.ms 3 5 0 (f.length+1) (f.length+1)=V.ms 3 5 0 (f++[j2 j d e a f7]).length (f++[j2 j d e a f7]).length:=by rw[YN];rfl
       intro bh;refine a1 Z (a1 ⟨Z,Z,by simp,YT _,qS (by show f.length<=_;omega) (YT _) (Nat.le_of_ble_eq_true rfl)⟩ (a6 rfl (a6 (fg _) ?_)));exact⟨(aj+1,f++[j2 j d e a f7]),⟨J,ax⟩,by show g.ps.length-(aj+1)<g.ps.length-aj;omega,.pick 0 [0,3] ⟨rfl,congrArg some aJ,rfl,rfl,int_eq (cp om),tv⟩ rfl rfl rfl rfl rfl dc ⟨rfl,rfl,Ny _ 5 f _,J9 _ _ _,tv⟩,rfl,rfl⟩
      ·have J:g.ps.length<=aj:=by have:=dR I;omega
       rw[YS J]at P;have aL:eX (rM g) f:=P;exact cF (ii:=[.box ((mG g.k g.n g.exp g.yB g.note (.ps G F 7 E k) (j2 z x s r f1) (j2 p A t y f2) (j2 w u v B f3) [.int .i64 (YL R),.str M,.str S,.str N,.int .i64 O,t4,L,d4] g.m g.tg).map V.d),.row 5 (f.map fun aa=>aa.map V.d)]) (eW:=[(2,.bp 0 0),(8,.ms 1 5 0 f.length f.length)]) (.pick 0 [0,1] ⟨Z,Z,tv⟩ Z Z Z Z Z dc ⟨Z,Z,congrArg some (Lr _ _ _).symm,J9 _ _ _,tv⟩) (ay f ⟨aL,i⟩)
  ·rintro f ⟨P,i⟩;have be:=P.len;have bf:(rM g).length=3+g.ps.length:=by rw[rM,YN,List.length_map];rfl
   have bc:g.ps.length<=8:=om;have af:∀ba∈rM g,gu ba/\cJ ba<4294967295:=by
    intro ba au;simp only[rM,YV,Y1,List.mem_map,List.not_mem_nil,or_false]at au;rcases au with(rfl|rfl|rfl)|⟨aP,aK,rfl⟩
    ·exact⟨Q.lo,om⟩
    ·exact⟨Q.up,om⟩
    ·exact⟨Q.ty,om⟩
    ·exact⟨(Q.ps aP aK).1,by have:=aw.2.2.2.1 aP aK;omega⟩
   refine cl.freeze 1 [(2,.bp 0 0),(75,.ms 1 5 0 f.length f.length),(76,b3 f.length),(77,b3 0)] (es:=5) (els:=f.map fun aR=>aR.map V.d) (l:=f) Z (fZ _) ⟨Z,Z,Z,Z,tv⟩ ⟨tv,(fun _=>⟨Z,Nat.le_of_eq (Y3 _)⟩),tv,tv,tv⟩ (fun aB=>?_);refine cl.less (eW:=[(2,.bp 0 0),(75,.d (.ps aB 0 5 f.length f)),(76,b3 f.length),(77,b3 0)]) ⟨Z,YF,Z,Z,tv⟩ ?_;refine cl.iter (fun m:Nat=>[(2,.bp 0 0),(75,.d (.ps aB 0 5 f.length f)),(76,b3 f.length),(77,b3 m)]) (fun m=>[.box ((mG g.k g.n g.exp g.yB g.note ps (j2 z x s r f1) (j2 p A t y f2) (j2 w u v B f3) [.int .i64 (YL R),.str M,.str S,.str N,.int .i64 O,t4,L,d4] g.m g.tg).map V.d),.gone]) (fun m=>f.length-m) (fun m=>m<=f.length/\rD (rM g)=rD ((rM g).drop m)) ?_ 0 ⟨YR _,Z⟩;rintro m ⟨aX,n⟩;apply aZ<;>intro I
   ·have l:m<(rM g).length:=by have:=fF I;omega
    obtain⟨bk,ae,ao⟩:=P.get l;obtain⟨j,d,e,a,f7,rfl⟩:=ao.di;have H:=(cv f m).trans ae;rw[Y0 l,rD]at n;refine b0 Z ?_;refine b4 _ H ?_;refine oe _ _ ao (af _ (YU l)).1 (af _ (YU l)).2 ?_;cases av:qZ (rM g)[m]with
    |true=>
     rw[av,if_pos rfl]at n;rw[if_pos (by rw[n];decide),n]at i;exact a7 0 ⟨Z,by rw[i];rfl⟩
    |false=>
     rw[av,if_neg dc]at n;exact⟨m+1,⟨by show m+1<=f.length;omega,n⟩,by show f.length-(m+1)<f.length-m;omega,.pick 0 [0,1] ⟨rfl,rfl,rfl,int_eq (cp om),tv⟩ rfl rfl rfl rfl rfl dc ⟨rfl,rfl,rfl,rfl,tv⟩,rfl,rfl⟩
   ·have l:(rM g).length<=m:=by have:=dR I;omega
    rw[Y2 l]at n;rw[if_neg (by rw[n];decide)]at i;refine yL _ _ aS Q.ex om ?_;exact a7 0 ⟨Z,by rw[i];rfl⟩
def lu(b:List kA):List kA->Nat×Nat
 |[]=>(0,0)
 |x::c=>if vp b x≠0 then(b.length,vp b x)else lu (b++[x]) c
def Nz(b:Fh):Int×Nat:=if lB b≠0 then(-1,lB b)else(YL (lu [] b.ds).1,(lu [] b.ds).2)
structure S1 (m:Fh):Prop where
 size:Ln m<=4096
 path:gB m.p=true
 is:∀x∈m.is,gB x.p=true/\cM x.a=true
 ds:∀x∈m.ds,zc x
theorem QB{l:List kA}(h:g∈l):hF g<=jf l:=by
 induction l with
 |nil=>cases h
 |cons c f b=>
  have:jf (c::f)=hF c+jf f:=rfl;rcases Y1.1 h with rfl|h
  ·omega
  ·have:=b h;omega
theorem QC{l:List mv}{p:mv}(h:p∈l):cJ p.b<=mu l:=by
 induction l with
 |nil=>cases h
 |cons c f b=>
  have:mu (c::f)=cJ c.b+mu f:=rfl;rcases Y1.1 h with rfl|h
  ·omega
  ·have:=b h;omega
theorem Ve(o:zc g)(q:hF g<=4096):cJ g.lo<1073741824/\cJ g.up<1073741824/\cJ g.ty<1073741824/\(∀n∈g.ps,cJ n.b<1073741824)/\da g.ex<1073741824:=by
 have b:cJ c1<1073741824:=dc;have m:da qa<1073741824:=dc;rcases o.kind with⟨c,_,l,_,_,f⟩|⟨c,_,i,k,_,_,_⟩|⟨c,f,i,k,p,l,_⟩
 ·have:=Dd c;exact⟨om,om,om,(fun n h=>by rw[(f n h).1];exact b),by rw[l];exact m⟩
 ·rw[x4 c]at q;exact⟨by rw[i];exact b,by rw[k];exact b,om,(fun n h=>by have:=QC h;omega),om⟩
 ·exact⟨by rw[i];exact b,by rw[k];exact b,by rw[p];exact b,(fun n h=>by rw[f]at h;cases h),by rw[l];exact m⟩
theorem nn.take{l:List kA}{b:List (List D)}(h:nn l b)(c:Nat):nn (l.take c) (b.take c):=by
 induction h generalizing c with
 |nil=>simp;exact .nil
 |cons h i f=>cases c with
  |zero=>exact .nil
  |succ c=>exact .cons h (f c)
theorem Ka{m:kA}{u:List D}(h:rL m u)(k:zc m){n:List kA}{f:List (List D)}(s:nn n f)(r:n.length<4294967296)(b o c:Nat)(i:hF m<=4096){l:VS}{t:dC->VS->Prop}(q:t (.ret (b3 (vp n m))) l):b1 C b7 uu [.agg (u.map V.d),.d (.ps b o 31 c f)] l t:=by
 have p:=HJ h k s r b o c (Ve k i);obtain⟨E,v,N,S,Q,f1,P,w,U,R,f2,F,y,A,K,f3,H,T,B,z,L,t4,M,d4,I,x,O,G,J,rfl⟩:=iD h;exact cQ p Z Z q
theorem Kb(z:Fh)(R:List D)(A:EO z R)(n:S1 z):b1 C b7 sl [.agg (R.map V.d)] [] fun g J=>J=[]/\g=.ret (.dV [.d (.int .i64 (Nz z).1),b3 (Nz z).2]):=by
 have T:=J7 z R A n.size (fun ae U _=>(n.ds ae U).ex) n.path n.is;have H:=n.size;have u:=n.ds;obtain⟨F,I,K,o,rfl⟩:=A;obtain⟨s,m,b⟩:=z;have Y:jf b<=4096:=by have:1+m.length+jf b<=4096:=H;omega
 have d:=HC b;refine cz ?_;refine cQ T Z Z ?_;apply aZ<;>intro w
 ·have p:lB ⟨s,m,b⟩≠0:=fun P=>by rw[P]at w;cases w
  exact a7 0 ⟨Z,by rw[Nz,if_pos p];rfl⟩
 ·have p:lB ⟨s,m,b⟩=0:=k6 w;have v:Nz ⟨s,m,b⟩=(YL (lu [] b).1,(lu [] b).2):=by rw[Nz,if_neg (by rw[p];decide)]
  have o:C1 b I:=o;cases o with
  |nil=>
   refine cl.loop ?_;exact a7 0 ⟨Z,by rw[v];rfl⟩
  |ps x W=>
   rename_i O N l h;have a:=x.len;refine cl.less (eW:=[(1,.bp 0 0),(14,.d (.ps O N 31 l h)),(15,b3 h.length),(16,b3 0)]) ⟨Z,Z,Z,Z,tv⟩ ?_;refine cl.iter (fun f:Nat=>[(1,.bp 0 0),(14,.d (.ps O N 31 l h)),(15,b3 h.length),(16,b3 f)]) (fun _=>[.box [cq s,.d F,.d (.ps O N 31 l h)]]) (fun f=>b.length-f) (fun f=>f<=b.length/\lu [] b=lu (b.take f) (b.drop f)) ?_ 0 ⟨YR _,Z⟩;rintro f ⟨K,i⟩;apply aZ<;>intro B
   ·have c:f<b.length:=by have:=fF B;omega
    obtain⟨aw,S,t⟩:=x.get c;have E:=u _ (YU c);have M:hF b[f]<=4096:=by have:=QB (YU c);omega
    have r:=fun L X (Q:X (.ret (b3 (vp (b.take f) b[f]))) L)=>@Ka _ _ t E _ _ (x.take f) (by rw[YY];omega) O (N+0*31) (l-0) M L X Q;obtain⟨ps,e,an,ar,aq,f1,ao,j,ax,au,f2,ag,aa,ac,ai,f3,ah,av,ad,ab,aj,t4,al,d4,am,af,ay,ak,ap,rfl⟩:=iD t;have G:=(cv h f).trans S;refine b0 Z ?_;refine b4 _ G ?_;have k:=W;refine b0 Z ?_;refine a1 ⟨YR _,om,k,om,Z⟩ ?_;refine a1 (by repeat' (first|exact tv|exact rfl|refine b0 rfl ?_|exact YR _|(show _<_;omega)|(show _<=_;omega)|exact k|refine And.intro ?_ ?_)) ?_;refine r _ _ ?_;refine a1 (by repeat' (first|exact tv|exact rfl|refine b0 rfl ?_|exact YR _|(show _<_;omega)|(show _<=_;omega)|exact k|refine And.intro ?_ ?_)) ?_;refine a1 (by repeat' (first|exact tv|exact rfl|refine b0 rfl ?_|exact YR _|(show _<_;omega)|(show _<=_;omega)|exact k|refine And.intro ?_ ?_)) ?_;rw[Y0 c,lu]at i;apply aZ<;>intro y
    ·have q:vp (b.take f) b[f]≠0:=fun P=>by rw[P]at y;cases y
     rw[if_pos q,YY,Nat.min_eq_left K]at i;exact a7 0 ⟨Z,by rw[v,i];rfl⟩
    ·have q:vp (b.take f) b[f]=0:=k6 y;rw[if_neg (by rw[q];decide)]at i;refine⟨f+1,⟨c,?_⟩,by show b.length-(f+1)<b.length-f;omega,.pick 0 [0] ⟨rfl,rfl,rfl,int_eq (cp om),tv⟩ rfl rfl rfl rfl rfl dc ⟨rfl,rfl,tv⟩,rfl,rfl⟩;rw[i,YX,YP c];rfl
   ·have c:b.length<=f:=by have:=dR B;omega
    rw[Y2 c,lu]at i;refine a7 0 ⟨Z,by rw[v,i];rfl⟩
section
variable{R R':Rd} (h:R.ts=R'.ts)
include h
theorem sZ(b p:Nat):hS b R p=hS b R' p:=by rw[hS,hS,eg h]
theorem QD:∀(b:Nat) (f:List UInt8) (c:Nat),kI R b f c=kI R' b f c:=by
 intro b;induction b with
 |zero=>intro f c;rfl
 |succ b i=>intro f c;simp only[kI,eg h,jF h,i]
theorem HK(p:Nat):fT R p=fT R' p:=by simp only[fT,QD h,jF h,eg h,h]
theorem QE{f:Type}{step b:f->Nat->PR f}(m:∀i c,step i c=b i c):∀(k:Nat) (i:f) (c:Nat),lA step R k i c=lA b R' k i c:=by
 intro k;induction k with
 |zero=>intro i c;rfl
 |succ k l=>intro i c;simp only[lA,eg h,ih h,m,l]
theorem HL{c:Type}{step b:c->Nat->PR c}(i:∀f p,step f p=b f p)(f:c)(p:Nat):hT step R f p=hT b R' f p:=by simp only[hT,eg h,QE h i,h]
theorem NA(b:List mv)(p:Nat):fq R b p=fq R' b p:=by simp only[fq,eg h,sZ h]
theorem NB(b:Nat->PR Ty)(c:List mv)(p:Nat):fW b R c p=fW b R' c p:=by simp only[fW,eg h,sZ h]
theorem S2(b:Nat->PR Ty)(c:List UInt8)(t0:Ty)(p:Nat):lf b R c t0 p=lf b R' c t0 p:=by simp only[lf,eg h]
theorem qh{i:Type}{c b:Nat->PR i}(f:∀p,c p=b p)(k:List UInt8)(p:Nat):dA c R k p=dA b R' k p:=by simp only[dA,ih h,f]
theorem Kc(p:Nat):gb R p=gb R' p:=by simp only[gb,eg h,sZ h,jF h]
theorem NC(c:Nat->PR Ty)(f b:Bool)(n:List UInt8)(p:Nat):hM c R f b n p=hM c R' f b n p:=by simp only[hM,sZ h,HL h (NA h),S2 h,qh h (fun _=>rfl)]
theorem ND(c:Nat->PR Ty)(f:Nat->PR Ex)(i b:Bool)(n:List UInt8)(p:Nat):iX c f R i b n p=iX c f R' i b n p:=by simp only[iX,jF h,HL h (NB h c),qh h (fun _=>rfl)]
theorem NE(c b:Bool)(n:List UInt8)(p:Nat):ie R c b n p=ie R' c b n p:=by simp only[ie,jF h,qh h (Kc h)]
theorem QF(p:Nat):kf R p=kf R' p:=by simp only[kf,eg h,sZ h]
theorem QG(c:Nat->PR Ty)(b:Nat->PR Ex)(p:Nat):eS c b R p=eS c b R' p:=by simp only[eS,eg h,QF h,NC h,ND h,NE h]
theorem Kd(p:Nat):fR R p=fR R' p:=by simp only[fR,HK h,qh h (jF h)]
theorem HM:∀(b:Nat) (f:List sL) (c:Nat),eK R b f c=eK R' b f c:=by
 intro b;induction b with
 |zero=>intro f c;rfl
 |succ b i=>intro f c;simp only[eK,eg h,Kd h,i]
theorem NF(i:Nat->PR Ty)(f:Nat->PR Ex):∀(c:Nat) (l:List kA) (b:List Nat) (k:Nat),fX i f R c l b k=fX i f R' c l b k:=by
 intro c;induction c with
 |zero=>intro l b k;rfl
 |succ c m=>intro l b k;simp only[fX,eg h,QG h,m]
theorem S3(c:Nat->PR Ty)(b:Nat->PR Ex)(p:Nat):ow c b R p=ow c b R' p:=by simp only[ow,HM h,NF h,qh h (HK h),h]
end
theorem S4(b c:Nat)(ts:List Tok)(p:Nat):vo ⟨b,c,ts⟩ p=vo ⟨0,0,ts⟩ p:=by
 unfold vo;rw[Qr (R:=⟨b,c,ts⟩) (R':=⟨0,0,ts⟩) rfl,E0 (R:=⟨b,c,ts⟩) (R':=⟨0,0,ts⟩) rfl,S3 (R:=⟨b,c,ts⟩) (R':=⟨0,0,ts⟩) rfl]
theorem qi(R:Rd)(p:Nat):(c9 R p).E:=by
 rw[c9];split
 ·exact .bad dc
 ·exact .ok
theorem xe(R:Rd)(b p:Nat):(hS b R p).E:=by
 rw[hS];split
 ·exact .bad dc
 ·exact .ok
theorem S5(R:Rd):∀(f:Nat) (s:List UInt8) (c:Nat),(kI R f s c).E:=by
 intro f;induction f with
 |zero=>intro s c;exact .bad dc
 |succ f h=>
  intro s c;rw[kI];split
  ·have b:=qi R (c+1);revert b;cases c9 R (c+1)with
   |bad l m=>exact fun b=>.bad b.get
   |ok k i=>exact fun _=>h _ _
  ·exact .ok
theorem Ls(R:Rd)(p:Nat):(fT R p).E:=by
 rw[fT];have b:=qi R p;revert b;cases c9 R p with
 |bad h f=>exact fun b=>.bad b.get
 |ok s c=>
  intro _;dsimp only;have b:=S5 R R.ts.length s c;revert b;cases kI R R.ts.length s c with
  |bad h f=>exact fun b=>.bad b.get
  |ok s c=>
   intro _;dsimp only;split
   ·exact .ok
   ·exact .bad dc
theorem S6{f:Type}{step:f->Nat->PR f}(l:∀h c,(step h c).E)(R:Rd):∀(i:Nat) (h:f) (c:Nat),(lA step R i h c).E:=by
 intro i;induction i with
 |zero=>intro h c;exact .bad dc
 |succ i k=>
  intro h c;rw[lA];have b:=l h c;revert b;cases step h c with
  |bad o p=>exact fun b=>.bad b.get
  |ok m n=>
   intro _;dsimp only;split
   ·exact k _ _
   ·exact(hE R _ _).map
theorem Lt{b:Type}{step:b->Nat->PR b}(c:∀f p,(step f p).E)(R:Rd)(f:b)(p:Nat):(hT step R f p).E:=by
 rw[hT];split
 ·exact S6 c R _ _ _
 ·exact .ok
theorem QH(R:Rd)(b:List mv)(p:Nat):(fq R b p).E:=by
 rw[fq];split
 ·exact .bad dc
 ·exact(xe R _ _).map
variable{a:Nat->PR Ty}
theorem QI(c:∀p,(a p).E)(R:Rd)(f:List mv)(p:Nat):(fW a R f p).E:=by
 rw[fW];have b:=xe R 2 p;revert b;cases hS 2 R p with
 |bad i k=>exact fun b=>.bad b.get
 |ok s h=>
  intro _;dsimp only;split
  ·exact(c _).map
  ·exact .ok
theorem QJ(b:∀p,(a p).E)(R:Rd)(c:List UInt8)(t0:Ty)(p:Nat):(lf a R c t0 p).E:=by
 rw[lf];split
 ·exact(b _).map
 ·exact .ok
theorem oo{h:Type}{c:Nat->PR h}(f:∀p,(c p).E)(R:Rd)(s:List UInt8)(p:Nat):(dA c R s p).E:=by
 rw[dA];have b:=hE R [s] p;revert b;cases cu R [s] p with
 |bad k l=>exact fun b=>.bad b.get
 |ok s i=>exact fun _=>f _
theorem De(R:Rd)(p:Nat):(gb R p).E:=by
 rw[gb];split
 ·exact xe R _ _
 ·exact qi R _
theorem QK(f:∀p,(a p).E)(R:Rd)(t b:Bool)(n:List UInt8)(p:Nat):(hM a R t b n p).E:=by
 rw[hM];have c:=xe R 2 p;revert c;cases hS 2 R p with
 |bad k l=>exact fun c=>.bad c.get
 |ok s m=>
  intro _;dsimp only;have c:=Lt (QH R) R [] m;revert c;cases hT (fq R) R [] m with
  |bad k l=>exact fun c=>.bad c.get
  |ok o h=>
   intro _;dsimp only;have c:=QJ f R [62,58] uz h;revert c;cases lf a R [62,58] uz h with
   |bad k l=>exact fun c=>.bad c.get
   |ok u i=>
    intro _;dsimp only;have c:=QJ f R [60,58] c1 i;revert c;cases lf a R [60,58] c1 i with
    |bad k l=>exact fun c=>.bad c.get
    |ok r q=>exact fun _=>(oo f R _ _).map
variable{d:Nat->PR Ex}
theorem QL(h:∀p,(a p).E)(i:∀p,(d p).E)(R:Rd)(q b:Bool)(n:List UInt8)(p:Nat):(iX a d R q b n p).E:=by
 rw[iX];have c:=qi R p;revert c;cases c9 R p with
 |bad l m=>exact fun c=>.bad c.get
 |ok s k=>
  intro _;dsimp only;have c:=Lt (QI h R) R [] k;revert c;cases hT (fW a R) R [] k with
  |bad l m=>exact fun c=>.bad c.get
  |ok o f=>
   intro _;dsimp only;have c:=oo h R [58] f;revert c;cases dA a R [58] f with
   |bad l m=>exact fun c=>.bad c.get
   |ok r t=>exact fun _=>(oo i R _ _).map
theorem QM(R:Rd)(k b:Bool)(n:List UInt8)(p:Nat):(ie R k b n p).E:=by
 rw[ie];have c:=qi R p;revert c;cases c9 R p with
 |bad l m=>exact fun c=>.bad c.get
 |ok s f=>
  intro _;dsimp only;have c:=oo (De R) R [58,58] f;revert c;cases dA (gb R) R [58,58] f with
  |bad l m=>exact fun c=>.bad c.get
  |ok h i=>exact fun _=>(oo (De R) R _ _).map
theorem S7(R:Rd)(p:Nat):(kf R p).E:=by
 rw[kf];split
 ·split
  ·exact(xe R _ _).map
  ·exact .ok
 ·exact .ok
theorem S8(c:∀p,(a p).E)(f:∀p,(d p).E)(R:Rd)(p:Nat):(eS a d R p).E:=by
 rw[eS];have b:=S7 R p;revert b;cases kf R p with
 |bad k l=>exact fun b=>.bad b.get
 |ok h i=>
  intro _;dsimp only;split
  ·exact QK c R _ _ _ _
  ·split
   ·exact QL c f R _ _ _ _
   ·split
    ·exact QM R _ _ _ _
    ·exact .bad dc
theorem NG(R:Rd)(p:Nat):(fR R p).E:=by
 rw[fR];have b:=Ls R p;revert b;cases fT R p with
 |bad h c=>exact fun b=>.bad b.get
 |ok s f=>exact fun _=>(oo (qi R) R _ _).map
theorem Ke(R:Rd):∀(f:Nat) (i:List sL) (c:Nat),(eK R f i c).E:=by
 intro f;induction f with
 |zero=>intro i c;exact .bad dc
 |succ f h=>
  intro i c;rw[eK];split
  ·have b:=NG R (c+1);revert b;cases fR R (c+1)with
   |bad l m=>exact fun b=>.bad b.get
   |ok s k=>exact fun _=>h _ _
  ·exact .ok
theorem QN(k:∀b,(a b).E)(l:∀b,(d b).E)(R:Rd):∀(h:Nat) (m:List kA) (f:List Nat) (b:Nat),(fX a d R h m f b).E:=by
 intro h;induction h with
 |zero=>intro m f b;exact .bad dc
 |succ h i=>
  intro m f b;rw[fX];split
  ·have c:=S8 k l R b;revert c;cases eS a d R b with
   |bad o p=>exact fun c=>.bad c.get
   |ok s n=>exact fun _=>i _ _ _
  ·exact .ok
theorem Vf(f:∀p,(a p).E)(h:∀p,(d p).E)(R:Rd)(p:Nat):(ow a d R p).E:=by
 rw[ow];have b:=oo (Ls R) R [109,111,100,117,108,101] p;revert b;cases dA (fT R) R [109,111,100,117,108,101] p with
 |bad i k=>exact fun b=>.bad b.get
 |ok s c=>
  intro _;dsimp only;have b:=Ke R R.ts.length [] c;revert b;cases eK R R.ts.length [] c with
  |bad i k=>exact fun b=>.bad b.get
  |ok s c=>exact fun _=>(QN f h R _ _ _ _).map
theorem Vg(R:Rd)(p:Nat):(vo R p).E:=Vf (JX R _) (TV R _) R p
def rE:Fh:=⟨[],[],[]⟩
def xf(i:List UInt8):Fh×Nat×Nat:=match gk i with
 |.err b f=>(rE,b,f)
 |.ok ts=>match vo ⟨0,0,ts⟩ 0 with
  |.bad b f=>(rE,b,f)
  |.ok c h=>if(Rd.tok ⟨0,0,ts⟩ h).kind≠0 then(rE,(Rd.tok ⟨0,0,ts⟩ h).off,3)
   else if lB c.1≠0 then(rE,0,lB c.1)
   else if(lu [] c.1.ds).2≠0 then(rE,c.2.getD (lu [] c.1.ds).1 0,(lu [] c.1.ds).2)else(c.1,0,0)
def QO(b:List UInt8)(f:dC):Prop:=∃c,EO (xf b).1 c/\f=.ret (.dV [.agg (c.map V.d),b3 (xf b).2.1,b3 (xf b).2.2])
theorem S9:EO rE [.str [],.cn,.cn]:=⟨_,_,.nil,.nil,rfl⟩
theorem qj{b:Nat}(h:xf e=(rE,j,b)):QO e (.ret (.dV [tO,b3 j,b3 b])):=by
 rw[QO,h];exact⟨_,S9,Z⟩
theorem Ta:∀(f b:List kA),(lu b f).2≠0->(lu b f).1<b.length+f.length:=by
 intro f;induction f with
 |nil=>intro b h;exact absurd rfl h
 |cons k l i=>
  intro b h;rw[lu]at h⊢;by_cases c:vp b k≠0
  ·rw[if_pos c];simp
  ·rw[if_neg c]at h⊢;have:=i _ h;simp only[YN,YQ,YO]at this⊢;omega
theorem Kf(s:List UInt8)(K:∀ts f u,gk s=.ok ts->vo ⟨0,0,ts⟩ 0=.ok f u->S1 f.1/\f.2.length=f.1.ds.length):b1 C b7 rl [cq s] [] fun z F=>F=[]/\cN z=true/\QO s z:=by
 refine cz ?_;refine J4 s 1 ?_ (fun z L b=>?_)
 ·exact Z
 unfold yM at b;cases k:gk s with
 |err i y=>
  rw[k]at b;have b:z=.ret (.dV [tO,b3 i,b3 y]):=b;subst b;have o:=oc k;have c:xf s=(rE,i,y):=by rw[xf,k]
  refine aZ (fun h=>?_) (fun h=>absurd (k6 h) o);exact a7 0 ⟨Z,Z,qj c⟩
 |ok ts=>
  rw[k]at b;dsimp only at b;obtain⟨T,t,b⟩:=b;rw[S4]at b;cases m:vo ⟨0,0,ts⟩ 0 with
  |bad i y=>
   rw[m]at b;have b:z=.ret (.dV [tO,b3 i,b3 y]):=b;subst b;have o:=Vg _ _ i y m;have c:xf s=(rE,i,y):=by rw[xf,k];dsimp only;rw[m]
   refine aZ (fun h=>?_) (fun h=>absurd (k6 h) o);exact a7 0 ⟨Z,Z,qj c⟩
  |ok I u=>
   obtain⟨f,l⟩:=I;rw[m]at b;dsimp only at b;have N:Rd.tok ⟨T,t,ts⟩ u=Rd.tok ⟨0,0,ts⟩ u:=eg (R:=⟨T,t,ts⟩) (R':=⟨0,0,ts⟩) rfl u;rw[N]at b;have c:xf s=if(Rd.tok ⟨0,0,ts⟩ u).kind≠0 then(rE,(Rd.tok ⟨0,0,ts⟩ u).off,3)
    else if lB f≠0 then(rE,0,lB f)
    else if(lu [] f.ds).2≠0 then(rE,l.getD (lu [] f.ds).1 0,(lu [] f.ds).2)else(f,0,0):=by rw[xf,k];dsimp only;rw[m]
   by_cases B:(Rd.tok ⟨0,0,ts⟩ u).kind≠0
   ·rw[if_pos B]at b c;subst b;exact a7 0 ⟨Z,Z,qj c⟩
   ·rw[if_neg B]at b c;obtain⟨Q,n,w,rfl⟩:=b;have n:EO f Q:=n;have w:C2 l L:=w;obtain⟨M,A⟩:S1 f/\l.length=f.ds.length:=K _ _ _ k m;have J:=Kb f Q n M;have H:=n;obtain⟨P,S,Y,O,rfl⟩:=n;refine cQ J Z Z ?_;rw[Nz];by_cases p:lB f≠0
    ·rw[if_pos p];rw[if_pos p]at c;have G:(!decide (YL (lB f)=0))=true:=by rw[Ll p];rfl
     repeat refine dX ?_
     exact a7 0 ⟨Z,Z,qj c⟩
    ·rw[if_neg p];rw[if_neg p]at c;by_cases q:(lu [] f.ds).2≠0
     ·rw[if_pos q]at c;have G:(!decide (YL (lu [] f.ds).2=0))=true:=by rw[Ll q];rfl
      have U:decide (YL (lu [] f.ds).1<0)=false:=decide_eq_false (by simp only[YM];omega);have r:=Ta f.ds [] q;simp only[YO,Y3]at r;cases w with
      |nil=>exact absurd r (by rw[<-A];exact Nat.not_lt_zero _)
      |ps=>
       rename_i W a V;have v:(lu [] f.ds).1<l.length:=om;have x:nth (l.map fun X=>([.int .i64 (YL X)]:List D)) (lu [] f.ds).1=some [.int .i64 (YL (l.getD (lu [] f.ds).1 0))]:=by
        rw[cv,List.getElem?_map,YP v,List.getD_eq_getElem?_getD,YP v];rfl
       repeat refine dX ?_
       refine b0 Z ?_;refine b4 _ x ?_;repeat (refine b8 ?_)
       exact a7 0 ⟨Z,Z,qj c⟩
     ·rw[if_neg q]at c;have E:(lu [] f.ds).2=0:=om;rw[E];repeat refine dX ?_
      refine a7 0 ⟨Z,Z,?_⟩;rw[QO,c];exact⟨_,H,Z⟩
section
variable{R:Rd} (w:R.Wf) (mI:R.Nm)
include w mI
theorem E8{p f:Nat}{s:List UInt8}(h:hS 2 R p=.ok s f):dB s=true/\f=p+1/\f<R.ts.length:=by
 rw[hS]at h;split at h
 ·cases h
 ·rename_i c;cases h;have c:(R.tok p).kind=2:=om;have b:p<R.ts.length:=by
   by_cases b:p<R.ts.length
   ·exact b
   ·rw[Rd.tok,Y4 om]at c;cases c
  exact⟨(mI p b).2 c,Z,w.go p _ (bZ b) om⟩
theorem E9{p f:Nat}{s:List UInt8}(h:c9 R p=.ok s f):cM s=true/\f=p+1/\f<R.ts.length:=by
 rw[c9]at h;split at h
 ·cases h
 ·rename_i c;cases h;have c:(R.tok p).kind=1:=om;have b:p<R.ts.length:=by
   by_cases b:p<R.ts.length
   ·exact b
   ·rw[Rd.tok,Y4 om]at c;cases c
  exact⟨(mI p b).1 c,Z,w.go p _ (bZ b) om⟩
omit mI in
theorem oq{c:Type}{i:Nat->PR c}{s:List UInt8}{p m:Nat}{n:c}(k:p<R.ts.length)(h:dA i R s p=.ok n m):p+1<R.ts.length/\i (p+1)=.ok n m:=by
 rw[dA]at h;split at h
 ·cases h
 ·rename_i q o f;have b:=cH _ _ _ f;have l:=c8 w _ _ _ k f;simp only[YQ,YO]at b;subst b;exact⟨l,h⟩
omit mI in
theorem QP(m:Good a R 0){s:List UInt8}{t0:Ty}(k:gu t0){p b:Nat}{c:Bool×Ty}(f:p<R.ts.length)(h:lf a R s t0 p=.ok c b):gu c.2/\((c.1=false/\c.2=t0/\b=p)∨(c.1=true/\cJ c.2+p+1<=b))/\p<=b/\b<R.ts.length:=by
 rw[lf]at h;split at h
 ·rename_i l;obtain⟨o,i,rfl⟩:=du h;obtain⟨q,r,t,n⟩:=m _ _ _ (YR _) (w.step f l) i;exact⟨q,.inr ⟨Z,by show cJ o+p+1<=b;omega⟩,om,n⟩
 ·cases h;exact⟨k,.inl ⟨Z,Z,Z⟩,YT _,f⟩
omit mI in
theorem NH{c:Type}{step:c->Nat->PR c}{r:c->Prop}{p:c->Nat}(y:∀k f b i,f<R.ts.length->r k->step k f=.ok b i->r b/\p b+f<=p k+i+1/\f<i/\i<R.ts.length):∀(q:Nat) (k:c) (f:Nat) (b:c) (i:Nat),f<R.ts.length->r k->lA step R q k f=.ok b i->r b/\p b+f<=p k+i/\f<i/\i<R.ts.length:=by
 intro q;induction q with
 |zero=>intro k f b i _ _ h;cases h
 |succ q z=>
  intro k f b i u A h;rw[lA]at h;split at h
  ·cases h
  ·rename_i E C l;obtain⟨n,D,F,m⟩:=y _ _ _ _ u A l;split at h
   ·rename_i s;obtain⟨v,B,G,x⟩:=z _ _ _ _ (w.step m s) n h;exact⟨v,om,om,x⟩
   ·obtain⟨H,o,rfl⟩:=du h;have l:=cH _ _ _ o;have t:=c8 w _ _ _ m o;simp only[YQ,YO]at l;exact⟨n,om,om,t⟩
omit mI in
theorem Df{c:Type}{step:c->Nat->PR c}{P:c->Prop}{M:c->Nat}(q:∀i p b f,p<R.ts.length->P i->step i p=.ok b f->P b/\M b+p<=M i+f+1/\p<f/\f<R.ts.length){i b:c}{p f:Nat}(k:p<R.ts.length)(l:P i)(h:hT step R i p=.ok b f):P b/\M b+p<=M i+f/\p<=f/\f<R.ts.length:=by
 rw[hT]at h;split at h
 ·rename_i o;obtain⟨m,r,s,n⟩:=NH w q _ _ _ _ _ (w.step k o) l h;exact⟨m,om,om,n⟩
 ·cases h;exact⟨l,YT _,YT _,k⟩
theorem Vh(n:List mv)(p:Nat)(f:List mv)(k:Nat)(r:p<R.ts.length)(l:∀c∈n,c.b=c1/\c.vr<=2/\dB c.n=true)(h:fq R n p=.ok f k):(∀c∈f,c.b=c1/\c.vr<=2/\dB c.n=true)/\f.length+p<=n.length+k+1/\p<k/\k<R.ts.length:=by
 rw[fq]at h;split at h
 ·cases h
 ·rename_i t b;obtain⟨s,q,rfl⟩:=du h;obtain⟨m,rfl,o⟩:=E8 w mI q;have i:t<=2:=by
   rw[sM]at b;split at b
   ·cases b;omega
   ·split at b
    ·cases b;omega
    ·split at b
     ·cases b;omega
     ·cases b
  refine⟨fun c hx=>?_,by simp only[YN,YQ,YO];omega,om,o⟩;rcases YV.1 hx with hx|hx
  ·exact l c hx
  ·rw[YW]at hx;subst hx;exact⟨Z,i,m⟩
theorem pn:gu c1:=.mk (.base om) (fun c b=>by cases b)
theorem NI:gu uz:=.mk (.base om) (fun c b=>by cases b)
theorem QQ:fS qa:=.mk .int (fun c b=>by cases b)
theorem Vi(q:Good a R 0)(m:List mv)(p:Nat)(c:List mv)(n:Nat)(y:p<R.ts.length)(l:∀b∈m,gu b.b/\b.vr=0/\dB b.n=true)(h:fW a R m p=.ok c n):(∀b∈c,gu b.b/\b.vr=0/\dB b.n=true)/\(c.length+mu c)+p<=(m.length+mu m)+n+1/\p<n/\n<R.ts.length:=by
 rw[fW]at h;split at h
 ·cases h
 ·rename_i s x u;obtain⟨f,rfl,k⟩:=E8 w mI u;split at h
  ·rename_i o;obtain⟨A,i,rfl⟩:=du h;obtain⟨t,v,z,r⟩:=q _ _ _ (YR _) (w.step k o) i;refine⟨fun b hx=>?_,by rw[xd];simp only[YN,YQ,YO,mu];omega,om,r⟩;rcases YV.1 hx with hx|hx
   ·exact l b hx
   ·rw[YW]at hx;subst hx;exact⟨t,Z,f⟩
  ·cases h;refine⟨fun b hx=>?_,by rw[xd];simp only[YN,YQ,YO,mu,show cJ c1=1 from rfl];omega,om,k⟩;rcases YV.1 hx with hx|hx
   ·exact l b hx
   ·rw[YW]at hx;subst hx;exact⟨pn w mI,Z,f⟩
end
end Go.Proofs.YtpejealjkmhkgaaGreatDoor
