/- Part of the proof. -/
import Derived.Test.YtpejealjkmhkgaaGreatDoorKBq
set_option linter.all false
set_option maxHeartbeats 16000000
set_option maxRecDepth 100000
open Int renaming ofNat->abK,ofNat_eq_natCast->aet
open List renaming getElem_mem->abL,getElem?_eq_getElem->aev,length_cons->aeN,all_eq_true->aeP,take_of_length_le->aeQ
open Nat renaming zero_le->aeu,le_refl->aeO
open Bool renaming and_eq_true->aeM
namespace Go.Proofs.YtpejealjkmhkgaaGreatDoor
open Go.AM Go.VM
theorem KU(b:cq)(n:cK b=true)(t:b.all tF=true){σ:VS}{K:cO->VS->Prop}(s:K (.ret (bX true)) σ):bV C ca sI [cn b] σ K:=by
 have w:b.length<=32:=by
  simp only[cK,aeM,decide_eq_true_eq]at n;exact n.1.1.1.2
 refine cj ?_;refine cD (dB:=[(0,cn b),(3,bW 0)]) ?_;refine cd.iter (fun i:Nat=>[(0,cn b),(3,bW i)]) (fun _=>σ) (fun i=>b.length-i) (fun i=>i<=b.length) ?_ 0 (aeu _);intro i y;apply aZ<;>intro u
 ·have hi':i<b.length:=ee u;have l:nth b i=some b[i]:=by rw[ck];exact aev hi'
  have c:tF b[i]=true:=aeP.1 t _ (abL hi');refine bZ Z (cc b[i] l ?_);refine sZ b[i] ?_;apply aZ<;>intro o
  ·have x:(!isDigit b[i])=false:=by
    rw[tF,Bool.or_eq_true]at c;rcases c with h|h
    ·rw[h]at o;cases o
    ·rw[h];rfl
   repeat refine de ?_
   refine bZ Z (cc b[i] l ?_);repeat refine de ?_
   refine s0 b[i] ?_;repeat refine de ?_
   exact Fb
  ·repeat refine de ?_
   exact Fb
 ·refine eU b om ?_;rw[n];exact s
theorem U9{n c:Nat}(i:n<1000)(h:48<=c)(b:c<=57):IntKind.i64.wrap (IntKind.i64.wrap (10*abK n)+IntKind.i64.wrap (IntKind.u8.wrap (abK c-48)))=abK (10*n+(c-48)):=by
 simp only[aet];rw[Ob om om,wrap64 (n:=(c:Int)-48) om om,wrap64 (n:=10*(n:Int)) om om,wrap64 om om];omega
theorem Ri{c:UInt8}(h:isDigit c=true):48<=c.toNat/\c.toNat<=57:=by
 exact aeK
theorem Rj(M:cq)(x:tS M=true){σ:VS}{K:cO->VS->Prop}(N:∀E:Nat,K (.ret (bW E)) σ):bV C ca uQ [cn M] σ K:=by
 rcases M with _|⟨j,s⟩
 ·cases x
 simp only[tS,aeM,decide_eq_true_eq,Bool.not_eq_true',decide_eq_false_iff_not]at x;obtain⟨rfl,R,Q,B,I⟩:=x;rcases s with _|⟨i,w⟩
 ·exact absurd Z R
 have W:w.length<=2:=by simpa using Q
 have O:decide (abK (118::i::w).length<2)=false:=decide_eq_false (by simp only[aeN,aet];omega);have U:decide (4<abK (118::i::w).length)=false:=decide_eq_false (by simp only[aeN,aet];omega);have o:decide (abK i.toNat=48)=false∨(decide (abK i.toNat=48)=true/\decide (2<abK (118::i::w).length)=false):=by
  cases T:decide (abK i.toNat=48)with
  |false=>exact .inl rfl
  |true=>
   refine .inr ⟨Z,decide_eq_false fun J=>?_⟩;simp only[aeN,aet]at J;have S:decide (1<(i::w).length)=true:=decide_eq_true ZI;have P:decide (abK ((i::w).headD 0).toNat=48)=true:=T;rw[S,P]at B;cases B
 obtain⟨c,n⟩:∃c,c=118::i::w:=⟨_,rfl⟩;have Y:2<=c.length/\c.length<=4:=by rw[n];simp only[aeN];omega
 have y:∀b (T:b<c.length),1<=b->isDigit c[b]=true:=by
  intro b T z;subst n;obtain⟨X,rfl⟩:∃X,b=X+1:=⟨b-1,om⟩;exact aeP.1 I _ (abL _)
 have L:nth c 0=some 118:=by rw[n];rfl
 have z:nth c 1=some i:=by rw[n];rfl
 rw[<-n]at O U o⊢;refine cj ?_;repeat refine de ?_
 refine bZ (m:=0) Z (cc 118 L ?_);repeat refine de ?_
 refine bZ (m:=1) Z (cc i z ?_);rcases o with o|⟨o,e⟩;all_goals
  repeat refine de ?_
  refine cD (dB:=[(0,cn c),(3,bW 0),(4,bW 1)]) ?_;refine cd.iter (fun t:Nat×Nat=>[(0,cn c),(3,bW t.2),(4,bW t.1)]) (fun _=>σ) (fun t=>c.length-t.1) (fun t=>(1<=t.1/\t.1<=c.length)/\t.2<10^(t.1-1)) ?_ (1,0) ⟨⟨aeO _,by show 1<=c.length;omega⟩,dc⟩;rintro⟨b,E⟩ ⟨⟨h,F⟩,G⟩;have h:1<=b:=h;have F:b<=c.length:=F;have G:E<10^(b-1):=G;have f:10^(b-1)<=1000:=by
   have:b-1<=3:=om;exact Nat.pow_le_pow_right dc this
  apply aZ<;>intro V
  ·have l:b<c.length:=ee V;have v:nth c b=some c[b]:=by rw[ck];exact aev l
   have u:=y b l h;have d:(!isDigit c[b])=false:=by rw[u];rfl
   obtain⟨D,H⟩:=Ri u;have A:10^(b+1-1)=10*10^(b-1):=by
    rw[show b+1-1=(b-1)+1 by omega,Nat.pow_succ,Nat.mul_comm]
   refine bZ Z (cc c[b] v ?_);refine s0 c[b] ?_;repeat refine de ?_
   refine bZ Z (cc c[b] v ?_);refine⟨(b+1,10*E+(c[b].toNat-48)),⟨⟨by show 1<=b+1;omega,l⟩,by show _<10^(b+1-1);rw[A];omega⟩,iK,.same ⟨Z,int_eq (U9 om D H),int_eq (cp om),tv⟩ Z,Z,Z⟩
  ·exact N E
variable{f:Nat}
theorem OO{l:List cq}(b:f<l.length):nth (mI l) f=some [D.str l[f]]:=by
 rw[ck,mI,List.getElem?_map,aev b];rfl
theorem EZ(s:cq)(i:s.length<=64){σ:VS}{K:cO->VS->Prop}(b:∀c h,K (.ret (.d (.ps c 0 1 h (mI (c0 s))))) σ):bV C ca lM [cn s] σ K:=
 bV.closed (DT s i) rfl (fun n ⟨c,h,l⟩=>by rw[l];exact b c h)
theorem F3(s:cq)(E:fV s=true){σ:VS}{K:cO->VS->Prop}(n:K (.ret (bX true)) σ):bV C ca tK [cn s] σ K:=by
 simp only[fV,aeM,decide_eq_true_eq]at E;obtain⟨y,x,A,t⟩:=E;have H:=(zF s).1;refine cj ?_;have w:∀{σ:VS} {K:cO->VS->Prop},(∀v:Nat,K (.ret (.dS [bW v,bW 0])) σ)->bV C ca uK [cn s] σ K:=fun{σ K} n=>by
  have I:decide (64<abK s.length)=false:=decide_eq_false (by simp only[aet];omega);refine cj ?_;repeat refine de ?_
  refine EZ s x (fun D F=>?_);generalize c0 s=b at*;have c:(mI b).length=b.length:=List.length_map _;refine cD (dB:=[(4,.d (.ps D 0 1 F (mI b))),(5,bW 0)]) ?_;refine cd.iter (fun i:Nat=>[(4,.d (.ps D 0 1 F (mI b))),(5,bW i)]) (fun _=>σ) (fun i=>b.length-i) (fun i=>i<=b.length) ?_ 0 (aeu _);intro i J;apply aZ<;>intro z
  ·have hi':i<b.length:=c▸ee z;have o:=aeP.1 t _ (abL hi');rw[aeM]at o;refine bZ Z ?_;refine cc _ (OO hi') ?_;refine KU b[i] o.1 o.2 ?_;exact Fb
  ·have u:IntKind.i64.wrap (abK (mI b).length-1)=abK (b.length-1):=by rw[c];exact r8 om om
   have l:b.length-1<b.length:=om;have h:b[b.length-1]=b.getLastD []:=by
    rw[List.getLastD_eq_getLast?,List.getLast?_eq_getElem?,aev l];rfl
   have G:decide (abK (mI b).length<2)=false:=decide_eq_false (by rw[c];simp only[aet];omega);refine bZ u ?_;refine cc _ (OO l) ?_;refine Rj b[b.length-1] (by rw[h];exact y) (fun v=>?_);repeat refine de ?_
   exact n v
 exact w (fun v=>n)
theorem Rk{o:cq}:∀(i done:List vY),mT o done i=0->∀c (h:c<i.length),i[c].p≠o/\∀l∈done++i.take c,pv i[c] l=false:=by
 intro i;induction i with
 |nil=>intro done _ c h;simp at h
 |cons w x s=>
  intro done h c v;rw[mT]at h;split at h
  ·cases h
  ·rename_i u;split at h
   ·cases h
   ·rename_i t;cases c with
    |zero=>
     refine⟨u,fun l b=>?_⟩;rw[List.take_zero,List.append_nil]at b;have:=List.any_eq_false.1 (Bool.not_eq_true _▸t:done.any (pv w)=false) l b;simpa using this
    |succ c=>
     have n:c<x.length:=by simpa using v
     obtain⟨z,y⟩:=s (done++[w]) h c n;refine⟨z,fun l b=>y l ?_⟩;rw[List.take_succ_cons]at b;rw[List.append_assoc];exact b
theorem H7(u:FO)(S:cH)(K:At u S)(s:∀z∈u.is,fV z.p=true/\cK z.a=true)(t:mT u.p [] u.is=0)(D:u.is.length<=16):bV C ca sE [.agg (S.map V.d)] [] fun a I=>I=[]/\a=.ret (bW 0):=by
 obtain⟨y,o,h,x,rfl⟩:=K;obtain⟨l,b,R⟩:=u;have s:∀z∈b,fV z.p=true/\cK z.a=true:=s;have t:mT l [] b=0:=t;have D:b.length<=16:=D;have h:wY b y:=h;clear x;refine cm ?_;cases h with
 |nil=>
  exact oy
 |ps=>
  rename_i U P Y L;have G:(b.map fF).length=b.length:=List.length_map _;have n:∀i (X:i<b.length),nth (b.map fF) i=some (fF b[i]):=fun i X=>by rw[ck,List.getElem?_map,aev X];rfl
  refine cD (dB:=[(1,.bp 0 0),(3,bW 0)]) ?_;refine cd.iter (fun i:Nat=>[(1,.bp 0 0),(3,bW i)]) (fun _=>[.box [cn l,.d (.ps U P 2 Y (b.map fF)),.d o]]) (fun i=>b.length-i) (fun i=>i<=b.length) ?_ 0 (aeu _);intro i h;apply aZ<;>intro N
  ·have hi':i<b.length:=G▸ee N;obtain⟨M,J⟩:=s _ (abL hi');obtain⟨v,F⟩:=Rk b [] t i hi';have O:(!cK b[i].a)=false:=by rw[J];rfl
   have Q:decide (b[i].p=l)=false:=decide_eq_false v;refine bZ Z ?_;refine cc _ (n i hi') ?_;refine F3 b[i].p M ?_;refine eU b[i].a (by have:=nK J;omega) ?_;repeat refine de ?_
   refine cD (dB:=[(1,.bp 0 0),(3,bW i),(4,.bp 1 0),(5,bW 0)]) ?_;refine cd.iter (fun c:Nat=>[(1,.bp 0 0),(3,bW i),(4,.bp 1 0),(5,bW c)]) (fun _=>[.box [cn l,.d (.ps U P 2 Y (b.map fF)),.d o],.box [cn b[i].p,cn b[i].a]]) (fun c=>i-c) (fun c=>c<=i) ?_ 0 (aeu _);intro c d;apply aZ<;>intro E
   ·have A:c<i:=ee E;have w:=n c om;have H:=F b[c] (by
     rw[List.nil_append];exact List.mem_iff_getElem.2 ⟨c,by rw[List.length_take];omega,by rw[List.getElem_take]⟩)
    rw[pv,Bool.or_eq_false_iff]at H;obtain⟨T,W⟩:=H;repeat first|refine bZ rfl ?_|refine cc _ w ?_|refine de ?_|refine cf ?_
    exact⟨c+1,A,iK,.eS,Z,Z⟩
   ·exact RJ
  ·exact a8 0 ⟨Z,Z⟩
theorem Xx:je oe [.int .i64 (abK 0),.str [],.str [],.str [],.int .i64 0,.ci,.ci,.ci]:=.mk .nil .nil .nil
theorem Rl:ej oe:=.leaf .int
variable{j:cH}
theorem O7(c:je oe j){σ:VS}{K:cO->VS->Prop}(b:K (.ret (bX true)) σ):bV C ca fN [.agg (j.map V.d),.agg ([D.int .i64 (abK 0),.str [],.str [],.str [],.int .i64 0,.ci,.ci,.ci].map V.d)] σ K:=
 U6 1 oe j _ dc dc Rl c Xx b
theorem AH{l:List mM}{ps:D}(c:tG l ps):ps=.ci∨∃h n i b,ps=.ps h n 7 i b/\vb l b:=by
 cases c with
 |nil=>exact .inl rfl
 |ps c=>exact .inr ⟨_,_,_,_,rfl,c⟩
theorem abE{b:Bool}(c:b=true):(!b)=false:=by rw[c];rfl
variable{m:jX}
theorem DU(k:rs m j)(x:wE m):bV C ca mo [.agg (j.map V.d)] [] fun ak v=>v=[]/\ak=.ret (bX true):=by
 obtain⟨ps,G,U,d,Y,f1,X,H,O,a,f2,N,J,L,Q,f3,f,e,M,K,R,t4,S,d4,P,I,W,ao,h5,rfl⟩:=eK k;have B:=x.flags;have aa:=x.kind;have az:=x.pl;clear k x;have ab:bV C ca mo [.agg ((mR m.k m.n m.exp m.wj m.note ps (eQ G U d Y f1) (eQ X H O a f2) (eQ N J L Q f3) [.int .i64 (abK f),.str e,.str M,.str K,.int .i64 R,t4,S,d4] m.m m.tg).map V.d)] [] fun ak v=>v=[]/\ak=.ret (bX true):=by
  refine cm ?_;have ar:(m.wj=true/\(!m.exp)=false/\(!m.wj)=false)∨(m.wj=false/\(!m.wj)=true/\(!decide (m.note=[]))=false):=by
   cases w:m.wj with
   |true=>exact .inl ⟨rfl,abE (B.1 w),rfl⟩
   |false=>
    refine .inr ⟨Z,Z,?_⟩;by_cases ah:m.note=[]
    ·rw[ah];rfl
    ·exact absurd (B.2 ah) (by rw[w];decide)
  have A:ps=.ci∨∃D z F af,ps=.ps D z 7 F af/\vb m.ps af:=AH P;rcases ar with⟨av,an,ay⟩|⟨av,an,ay⟩;all_goals
   rcases aa with⟨b,E,hex,y,n,c⟩|⟨b,E,s,l,y,n,c⟩|⟨b,c,s,l,ag,hex,y,E,n⟩
   ·have q2:decide (abK m.k=2)=false:=by rw[b];rfl
    have al:decide (abK m.k=0)=true:=by rw[b];rfl
    have ax:(!decide (m.m=[]))=false:=by rw[y];rfl
    have au:(!decide (m.tg=[]))=false:=by rw[n];rfl
    rcases A with rfl|⟨D,z,F,h,rfl,w⟩
    ·repeat refine de ?_
     refine cd.loop ?_;exact X1
    ·have u:=w.len;repeat refine de ?_
     refine cD (dB:=[(1,.bp 0 0),(3,bW 0)]) ?_;refine cd.iter (fun i:Nat=>[(1,.bp 0 0),(3,bW i)]) (fun _=>[.box ((mR m.k m.n m.exp m.wj m.note (.ps D z 7 F h) (eQ G U d Y f1) (eQ X H O a f2) (eQ N J L Q f3) [.int .i64 (abK f),.str e,.str M,.str K,.int .i64 R,t4,S,d4] m.m m.tg).map V.d)]) (fun i=>m.ps.length-i) (fun i=>i<=m.ps.length) ?_ 0 (aeu _);intro i aw;apply aZ<;>intro g
     ·have hi':i<m.ps.length:=u▸ee g;obtain⟨ap,T,am,o,rfl⟩:=w.get hi';obtain⟨aq,aj⟩:=c _ (abL hi');obtain⟨q,ad,ae,p,f7,rfl⟩:=o.cZ;have t:=(ck h i).trans T;have r:decide (2<abK m.ps[i].vr)=false:=decide_eq_false (by simp only[aet];omega);repeat first|refine bZ rfl ?_|refine cc _ t ?_|refine de ?_
      refine lT (d:=eQ q ad ae p f7) (aq▸o) ?_;repeat refine de ?_
      exact RJ
     ·exact X1
   ·have q2:decide (abK m.k=2)=false:=by rw[b];rfl
    have al:decide (abK m.k=0)=false:=by rw[b];rfl
    have q1:decide (abK m.k=1)=true:=by rw[b];rfl
    have ax:(!decide (m.m=[]))=false:=by rw[y];rfl
    have au:(!decide (m.tg=[]))=false:=by rw[n];rfl
    rcases A with rfl|⟨D,z,F,h,rfl,w⟩
    ·repeat refine de ?_
     refine cd.loop ?_;repeat refine de ?_
     refine lT (s▸I) ?_;repeat refine de ?_
     refine lT (l▸W) ?_;exact Gd
    ·have u:=w.len;repeat refine de ?_
     refine cD (dB:=[(1,.bp 0 0),(4,bW 0)]) ?_;refine cd.iter (fun i:Nat=>[(1,.bp 0 0),(4,bW i)]) (fun _=>[.box ((mR m.k m.n m.exp m.wj m.note (.ps D z 7 F h) (eQ G U d Y f1) (eQ X H O a f2) (eQ N J L Q f3) [.int .i64 (abK f),.str e,.str M,.str K,.int .i64 R,t4,S,d4] m.m m.tg).map V.d)]) (fun i=>m.ps.length-i) (fun i=>i<=m.ps.length) ?_ 0 (aeu _);intro i aw;apply aZ<;>intro g
     ·have hi':i<m.ps.length:=u▸ee g;obtain⟨ap,T,am,o,rfl⟩:=w.get hi';have aj:=c _ (abL hi');obtain⟨q,ad,ae,p,f7,rfl⟩:=o.cZ;have t:=(ck h i).trans T;have r:(!decide (abK m.ps[i].vr=0))=false:=by rw[aj];rfl
      repeat first|refine bZ rfl ?_|refine cc _ t ?_|refine de ?_
      exact RJ
     ·repeat refine de ?_
      refine lT (s▸I) ?_;repeat refine de ?_
      refine lT (l▸W) ?_;exact Gd
   ·have q2:decide (abK m.k=2)=true:=by rw[b];rfl
    have ai:ps=.ci∨∃D z F,ps=.ps D z 7 F []:=by
     rw[c]at P;cases P with
     |nil=>exact .inl rfl
     |ps w=>cases w;exact .inr ⟨_,_,_,rfl⟩
    rcases ai with rfl|⟨D,z,F,rfl⟩;all_goals
     repeat refine de ?_
     refine lT (s▸I) ?_;repeat refine de ?_
     refine lT (l▸W) ?_;repeat refine de ?_
     refine lT (ag▸ao) ?_;repeat refine de ?_
     exact X1
 exact ab
def aeo:Nat->Bool:=fun b=>Nat.beq b 1000006
theorem H8(k:rs m j)(w:wE m)(A:iL m=true):bV C ca n9 [.agg (j.map V.d)] [] fun af v=>v=[]/\af=.ret (bX true):=by
 obtain⟨W,Q,N,I,H,f1,D,R,J,O,f2,M,K,L,T,f3,P,E,S,F,G,t4,B,d4,aj,ag,ab,ah,ad,rfl⟩:=eK k;have f:=w.kind;have d:=w.ps;have am:=w.pl;clear k w ag ab ah ad;have r:bV C ca n9 [.agg ((mR m.k m.n m.exp m.wj m.note W (eQ Q N I H f1) (eQ D R J O f2) (eQ M K L T f3) [.int .i64 (abK P),.str E,.str S,.str F,.int .i64 G,t4,B,d4] m.m m.tg).map V.d)] [] fun af v=>v=[]/\af=.ret (bX true):=by
  refine cv aeo (fun _=>Z) ?_;apply dH (ι:=Unit) (T:=fun _=>[(1,.bp 0 0)]) (S:=fun _=>[.box ((mR m.k m.n m.exp m.wj m.note W (eQ Q N I H f1) (eQ D R J O f2) (eQ M K L T f3) [.int .i64 (abK P),.str E,.str S,.str F,.int .i64 G,t4,B,d4] m.m m.tg).map V.d)]) (I:=fun _=>True)
  ·intro p;rcases AH aj with rfl|⟨ay,ap,au,x,rfl,h⟩
   ·refine cd.loop ?_;exact cw .eS (p () trivial)
   ·have e:=h.len;refine cD (dB:=[(1,.bp 0 0),(3,bW 0)]) ?_;refine cd.iter (fun i:Nat=>[(1,.bp 0 0),(3,bW i)]) (fun _=>[.box ((mR m.k m.n m.exp m.wj m.note (.ps ay ap 7 au x) (eQ Q N I H f1) (eQ D R J O f2) (eQ M K L T f3) [.int .i64 (abK P),.str E,.str S,.str F,.int .i64 G,t4,B,d4] m.m m.tg).map V.d)]) (fun i=>m.ps.length-i) (fun i=>i<=m.ps.length) ?_ 0 (aeu _);intro i aB;apply aZ<;>intro ac
    ·have hi':i<m.ps.length:=e▸ee ac;obtain⟨aA,ae,aC,X,rfl⟩:=h.get hi';have y:=(d _ (abL hi')).2;obtain⟨aw,aq,ar,ao,f7,rfl⟩:=X.cZ;have U:=(ck x i).trans ae;have an:(!dX m.ps[i].n)=false:=by rw[y];rfl
     refine bZ Z ?_;refine cc _ U ?_;refine fD m.ps[i].n (by have:=nJ y;omega) ?_;repeat refine de ?_
     exact RJ
    ·exact cw .eS (p () trivial)
  ·rintro⟨⟩-;rcases f with⟨c,b,aa,n,o,u⟩|⟨c,b,a,q,n,o,u⟩|⟨c,u,a,q,ak,aa,n,b,o⟩
   ·have q2:decide (abK m.k=2)=false:=by rw[c];rfl
    have ai:decide (abK m.k=0)=true:=by rw[c];rfl
    repeat refine de ?_
    refine fD m.n (by have:=nJ b;omega) ?_;exact a8 0 ⟨Z,by rw[b];rfl⟩
   ·have q2:decide (abK m.k=2)=false:=by rw[c];rfl
    have ai:decide (abK m.k=0)=false:=by rw[c];rfl
    repeat refine de ?_
    refine eU m.n (by have:=nK b;omega) ?_;exact a8 0 ⟨Z,by rw[b];rfl⟩
   ·have q2:decide (abK m.k=2)=true:=by rw[c];rfl
    have az:(!decide (m.m=[]))=true:=by
     have:m.m≠[]:=fun av=>by rw[av]at n;cases n
     rw[decide_eq_false this];rfl
    have t:m.n.length<4294967296:=by
     rcases b with h|h
     ·have:=nK h;omega
     ·have:=nJ h;omega
    have s:m.tg.length<4294967296:=by
     rcases o with h|h
     ·have:=nK h;omega
     ·have:=nJ h;omega
    rw[iL,if_pos c,Bool.or_eq_true,aeM,aeM]at A;repeat refine de ?_
    refine kJ m.m (.inr n) ?_;repeat refine de ?_
    refine eU m.n t ?_;apply aZ<;>intro Y
    ·have z:cK m.n=true:=Y;repeat refine de ?_
     refine eU m.tg s ?_;repeat refine de ?_
     apply aZ<;>intro g
     ·have l:cK m.tg=true:=g;repeat refine de ?_
      exact a8 0 ⟨Z,by first|rfl|(rw[l];rfl)⟩
     ·have l:cK m.tg=false:=g;repeat refine de ?_
      obtain⟨t1,t2⟩:=A.resolve_left fun h=>by rw[l]at h;cases h.2
      refine fD m.n t ?_;rw[t1];repeat refine de ?_
      refine fD m.tg s ?_;rw[t2];exact Gd
    ·have z:cK m.n=false:=Y;repeat refine de ?_
     obtain⟨t1,t2⟩:=A.resolve_left fun h=>by rw[z]at h;cases h.1
     refine fD m.n t ?_;rw[t1];repeat refine de ?_
     refine fD m.tg s ?_;rw[t2];exact Gd
 exact r
def OP:Prop:=∀(c:Ex) (h:cH),je c h->ej c->cP c<4294967295->∀(b:VS) (i:cO->VS->Prop),i (.ret (bW (oX c))) b->bV C ca lL [.agg (h.map V.d)] b i
theorem Rm:∀(t:Nat) (h:Ex) (n:Nat),cP h<=t->jj jd h ()=.inr n->n≠0:=by
 intro t;induction t with
 |zero=>intro h n x;have:=gP h;omega
 |succ t w=>
  intro h n x c;have A:=fJ h;rw[ou,jd]at c;by_cases l:oX h=0
  ·rw[if_pos l]at c;have o:∀u:List Ex,cQ u<=t->fx jd u ()=.inr n->n≠0:=by
    intro u;induction u with
    |nil=>intro _ x;cases x
    |cons z u v=>
     intro y b;rw[cQ]at y;rw[fx]at b;cases i:jj jd z ()with
     |inl B=>rw[i]at b;exact v om b
     |inr s=>rw[i]at b;cases b;exact w z n om i
   exact o h.kids om c
  ·rw[if_neg l]at c;cases c;exact l
theorem H9(L:OP)(n:Nat)(a:∀(h:Ex) (G:cH),cP h<=n->ej h->je h G->∀{N:VS} {e:cO->VS->Prop},e (.ret (bW (ZX (jj jd h ())))) N->bV C ca ja [.agg (G.map V.d)] N e) 
  (h:Ex) (G:cH) (U:cP h<=n+1) (ai:n<4294967294) (A:ej h) (t:je h G):bV C ca ja [.agg (G.map V.d)] [] fun aa M=>M=[]/\aa=.ret (bW (ZX (jj jd h ()))):=by
 have H:=fJ h;have v:=A.kids;have z:=t;obtain⟨ae,ag,S,ad,I,T,W,Q,rfl⟩:=t.eight;refine cm ?_;refine L h _ z A om _ _ ?_;rw[ou,jd];have x:fR h.kids Q:=by cases t;assumption
 have F:cQ h.kids<=n:=om;apply aZ<;>intro B
 ·have o:oX h≠0:=fun Y=>by rw[Y]at B;cases B
  rw[if_neg o];exact Gd
 ·have o:oX h=0:=l3 B;rw[if_pos o];repeat refine de ?_
  generalize h.kids=b at x F v;clear t A H U z;have g:=ju b;cases x with
  |nil=>
   exact oy
  |ps p=>
   rename_i af ac J O;have w:=p.len;refine cD (dB:=[(1,.bp 0 0),(4,bW 0)]) ?_;refine cd.iter (fun i:Nat=>[(1,.bp 0 0),(4,bW i)]) (fun _=>[.box (ky ae ag S ad I T W (.ps af ac 8 J O))]) (fun i=>b.length-i) (fun i=>i<=b.length/\fx jd (b.take i) ()=.inl ()) ?_ 0 ⟨aeu _,Z⟩;rintro i ⟨ah,D⟩;apply aZ<;>intro P
   ·have c:i<b.length:=w▸ee P;obtain⟨G,X,y⟩:=p.get c;refine bZ Z ?_;obtain⟨ak,ab,al,aj,R,q,m,f,rfl⟩:=y.eight;refine cc _ (by rw[ck];exact X) ?_;have s:b[i]∈b:=abL c;have r:=j7 s;refine a b[i] _ om (v _ s) y ?_;have u:=vm jd c D;cases l:jj jd b[i] ()with
    |inl am=>
     rw[l]at u;exact⟨i+1,⟨c,u⟩,iK,.eD 1,Z,Z⟩
    |inr j=>
     rw[l]at u;have d:j≠0:=Rm _ _ _ (aeO _) l;have E:fx jd b ()=.inr j:=vn jd u;refine aZ (fun K=>?_) (fun K=>absurd (l3 K) d);repeat refine de ?_
     refine a8 0 ⟨Z,?_⟩;show _=cO.ret (bW (ZX (fx jd b ())));rw[E];rfl
   ·have c:b.length<=i:=w▸dq P;rw[aeQ c]at D;refine a8 0 ⟨Z,?_⟩;show _=cO.ret (bW (ZX (fx jd b ())));rw[D];rfl
theorem KV(n:OP):∀(i:Nat) (b:Ex) (h:cH),i<4294967295->cP b<=i->ej b->je b h->∀{c:VS} {o:cO->VS->Prop},o (.ret (bW (ZX (jj jd b ())))) c->bV C ca ja [.agg (h.map V.d)] c o:=by
 intro i;induction i with
 |zero=>intro b h _ B;have:=gP b;omega
 |succ i y=>
  intro b h G B t l c o u;obtain⟨H,E,I,F,w,D,A,z,rfl⟩:=l.eight;exact cC (H9 n i (fun b h v s x=>y b h om v s x) b _ B om t l) Z Z u
theorem Ny(t:OP):aek:=by
 intro l F h o i A C v;obtain⟨E,H,G,D,w,y,z,x,rfl⟩:=h.eight;refine cC ?_ Z Z v;refine cm ?_;refine vw _ l _ i (aeO _) o h ?_;rw[r9];apply aZ<;>intro s
 ·have c:4096<cP l:=ee (a:=4096) s;rw[if_pos (.inl c)];exact Gd
 ·have c:¬4096<cP l:=Nat.not_lt.2 (dq (a:=4096) s);repeat refine de ?_
  refine H3 _ l _ i (aeO _) h ?_;repeat refine de ?_
  apply aZ<;>intro n
  ·have b:32<mG l:=ee (a:=32) n;rw[if_pos (.inr b)];exact Gd
  ·have b:¬32<mG l:=Nat.not_lt.2 (dq (a:=32) n);rw[if_neg (fun B=>B.elim c b)];repeat refine de ?_
   refine KV t _ l _ i (aeO _) o h ?_;exact a8 0 ⟨Z,Z⟩
variable{a:List hZ} {e p q:D}
theorem Rn(v:eR a e)(G:a.length<4294967296){σ:VS}{K:cO->VS->Prop}(u:K (.ret (bW (zv a))) σ):bV C ca rn [.d e] σ K:=by
 refine cC ?_ Z Z u;refine cm ?_;cases v with
 |nil=>
  exact oy
 |ps B=>
  rename_i A x l n;have i:=B.len;refine cD (dB:=[(0,.d (.ps A x 8 l n)),(3,bW 0),(4,bW 0)]) ?_;refine cd.iter (fun c:Nat=>[(0,.d (.ps A x 8 l n)),(3,bW (zv (a.take c))),(4,bW c)]) (fun _=>[]) (fun c=>a.length-c) (fun c=>c<=a.length) ?_ 0 (aeu _);intro c F;apply aZ<;>intro t
  ·have b:c<a.length:=i▸ee t;obtain⟨J,w,s⟩:=B.get b;obtain⟨H,E,y,I,f2,rfl⟩:=s.cZ;have o:=HQ (a.take c);rw[List.length_take]at o;refine bZ Z ?_;refine cc _ (by rw[ck];exact w) ?_;apply aZ<;>intro h
   ·have h:a[c].tV=true:=h;refine⟨c+1,b,iK,.same ⟨Z,int_eq ?_,int_eq (cp om),tv⟩ Z,Z,Z⟩;rw[AB b,h,if_pos rfl];exact cp om
   ·have h:a[c].tV=false:=h;refine⟨c+1,b,iK,.same ⟨Z,int_eq ?_,int_eq (cp om),tv⟩ Z,Z,Z⟩;rw[AB b,h,if_neg dc];rfl
  ·have b:a.length<=c:=i▸dq t;rw[aeQ b];exact a8 0 ⟨Z,Z⟩
def adp:Nat->Bool:=fun b=>Nat.beq b 9
def adq:List cq:=[[43],[45],[42],[60],[61,61],[61,61,61],[43,43],[97,110,100],[111,114]]
theorem DV{n:cq}(b:n∈K9){σ:VS}{K:cO->VS->Prop}(c:K (.ret (bW 1)) σ):bV C ca lN [cn n] σ K:=by
 refine cC ?_ Z Z c;simp only[K9,List.mem_cons,List.not_mem_nil,or_false]at b;rcases b with rfl|rfl;all_goals
  refine cv adp (fun _=>Z) ?_;exact a8 0 ⟨Z,Z⟩
theorem DW{n:cq}(b:n∈BK){σ:VS}{K:cO->VS->Prop}(h:K (.ret (bW 2)) σ):bV C ca lN [cn n] σ K:=by
 refine cC ?_ Z Z h;have c:n∈adq:=b;have s:decide (n=[110,111,116])=false:=decide_eq_false fun i=>by subst i;revert b;decide
 have l:decide (n=[108,101,110,103,116,104])=false:=decide_eq_false fun i=>by subst i;revert b;decide
 refine cv adp (fun _=>Z) ?_;repeat refine de ?_
 intro o;refine DF adq dc n o 9 ?_;rw[decide_eq_true c];exact a8 0 ⟨Z,Z⟩
def rA(c:Nat)(b:Int):List V:=match c with
 |0=>[bX false,bX false,bX true,bX false,bX false,bX false,bX false,.d (.int .i64 b),bX false]
 |1=>[bX false,bX true,bX false,bX false,bX false,bX false,bX false,.d (.int .i64 b),bX false]
 |2=>[bX false,bX false,bX true,bX false,bX false,bX false,bX false,.d (.int .i64 b),bX false]
 |4=>[bX true,bX false,bX false,bX true,bX false,bX false,bX true,.d (.int .i64 b),bX false]
 |5=>[bX false,bX false,bX false,bX false,bX true,bX false,bX false,.d (.int .i64 b),bX false]
 |8=>[bX false,bX false,bX false,bX false,bX true,bX false,bX false,.d (.int .i64 b),bX false]
 |9=>[bX false,bX false,bX false,bX false,bX true,bX false,bX false,.d (.int .i64 b),bX false]
 |11=>[bX false,bX false,bX false,bX false,bX false,bX false,bX true,.d (.int .i64 b),bX true]
 |12=>[bX false,bX false,bX false,bX false,bX false,bX false,bX true,.d (.int .i64 b),bX true]
 |13=>[bX false,bX false,bX false,bX false,bX true,bX true,bX true,.d (.int .i64 b),bX true]
 |14=>[bX false,bX false,bX false,bX false,bX false,bX false,bX true,.d (.int .i64 (-1)),bX true]
 |15=>[bX true,bX true,bX false,bX false,bX false,bX false,bX true,.d (.int .i64 b),bX true]
 |_=>[bX true,bX false,bX false,bX false,bX false,bX false,bX false,.d (.int .i64 b),bX false]
variable{d:List Ex} {g:Int}
theorem E0{B n A:cq}{types:List Ty}(H:fB (.mk f B n A g types a d))(hl:eR a p)(u:a.length<4294967296):
  bV C ca mQ [Ua f B n A g e p q] [] fun E x=>x=[]/\E=.ret (.dS [.agg (rA f (abK d.length)),bX true]):=by
 have i:(p=.ci/\a.length=0)∨∃b o c els,p=.ps b o 8 c els/\els.length=a.length:=by
  exact aae
 have G:∀y:Nat,y<4294967296->cO.ret (.dS [.agg (rA 5 (abK y)),bX true])=cO.ret (.dS [.agg (rA 5 (abK y)),bX true]):=fun _ _=>rfl;cases H with
 |int|text|bool|loc|val|WO|inj|WQ|asc|cond|lst|fold=>
  rcases i with⟨rfl,_⟩|⟨b,o,c,els,rfl,h⟩;all_goals
   refine cm ?_;exact a8 0 ⟨Z,Z⟩
 |Rz s l=>
  rw[l];rcases i with⟨rfl,h⟩|⟨b,o,c,els,rfl,h⟩;all_goals
   first|rw[h]|rw[<-h]
   exact Fa
 |call s l=>
  rw[l];rcases i with⟨rfl,h⟩|⟨b,o,c,els,rfl,h⟩
  ·rw[h];exact Fa
  ·rw[<-h];refine cm ?_;exact a8 0 ⟨Z,congrArg (fun v=>cO.ret (.dS [.agg (rA 9 v),bX true])) (cp om)⟩
 |mat F s l=>
  rw[l];rcases i with⟨rfl,h⟩|⟨b,o,c,els,rfl,h⟩
  ·rw[h];exact Fa
  ·rw[<-h];refine cm ?_;exact a8 0 ⟨Z,congrArg (fun v=>cO.ret (.dS [.agg (rA 13 v),bX true])) (cp om)⟩
 |func s l=>
  have z:=HQ a;rw[l];have w:=hl;rcases i with⟨rfl,h⟩|⟨b,o,c,els,rfl,h⟩;all_goals
   refine cm ?_;refine Rn w u ?_;exact a8 0 ⟨Z,congrArg (fun v=>cO.ret (.dS [.agg (rA 8 v),bX true])) (cp om)⟩
 |one t=>
  rcases i with⟨rfl,_⟩|⟨b,o,c,els,rfl,h⟩;all_goals
   refine cm ?_;repeat refine ch ?_
   refine DV t ?_;repeat refine ch ?_
   refine DV t ?_;exact R7
 |two t=>
  rcases i with⟨rfl,_⟩|⟨b,o,c,els,rfl,h⟩;all_goals
   refine cm ?_;repeat refine ch ?_
   refine DW t ?_;repeat refine ch ?_
   refine DW t ?_;exact R7
theorem eR.AI(h:eR [] e):e=.ci∨∃i c b,e=.ps i c 8 b []:=by
 exact O2
theorem fR.AI(h:fR [] e):e=.ci∨∃i c b,e=.ps i c 8 b []:=by
 exact O2
variable{k r:Ex}
theorem fR.Nt(c:fR [k] e):∃h l i b,e=.ps h l 8 i [b]:=c.one
theorem fR.aep(h:fR [k,r] e):∃c l i b n,e=.ps c l 8 i [b,n]:=by
 exact ab6
theorem fR.abF{i:Ex}(h:fR [k,r,i] e):∃l o n b s c,e=.ps l o 8 n [b,s,c]:=by
 exact aac
theorem fA.Nt{t:Ty}(b:fA [t] e):∃h l i c,e=.ps h l 5 i [c]:=by
 cases b with|ps b _=>cases b with|cons _ b=>cases b;exact⟨_,_,_,_,rfl⟩
theorem DX{ab n aa:cq}{types:List Ty}{labels:List hZ}(Q:fB (.mk f ab n aa g types labels d))(v:fA types e)(u:eR labels p)(s:fR d q)(k:labels.length<4294967296):
  bV C ca mq [Ua f ab n aa g e p q,.agg (rA f (abK d.length))] [] fun ac X=>X=[]/\ac=.ret (bX false):=by
 cases Q with
 |int|text|loc=>
  obtain rfl:=v.cS;rcases u.AI with rfl|⟨A,z,B,rfl⟩<;>rcases s.AI with rfl|⟨l,c,h,rfl⟩;all_goals
   refine cm ?_;exact oy
 |bool=>
  rename_i Y;obtain rfl:=v.cS;rcases u.AI with rfl|⟨A,z,B,rfl⟩<;>rcases s.AI with rfl|⟨l,c,h,rfl⟩<;>cases Y;all_goals
   refine cm ?_;exact oy
 |val ae ad y af=>
  rcases v.inv with⟨_,rfl⟩|⟨K,L,M,a,rfl,_⟩<;>rcases u.AI with rfl|⟨A,z,B,rfl⟩<;>rcases s.AI with rfl|⟨l,c,h,rfl⟩;all_goals
   refine cm ?_;exact oy
 |WO|inj|one=>
  obtain rfl:=v.cS;obtain⟨l,c,h,d2,rfl⟩:=s.Nt;rcases u.AI with rfl|⟨A,z,B,rfl⟩;all_goals
   refine cm ?_;exact oy
 |WQ|two=>
  obtain rfl:=v.cS;obtain⟨l,c,h,d2,m,rfl⟩:=s.aep;rcases u.AI with rfl|⟨A,z,B,rfl⟩;all_goals
   refine cm ?_;exact oy
 |asc=>
  obtain⟨K,L,M,d3,rfl⟩:=v.Nt;obtain⟨l,c,h,d2,rfl⟩:=s.Nt;rcases u.AI with rfl|⟨A,z,B,rfl⟩;all_goals
   refine cm ?_;exact oy
 |cond|fold=>
  obtain⟨K,L,M,d3,rfl⟩:=v.Nt;obtain⟨l,c,h,d2,m,f2,rfl⟩:=s.abF;rcases u.AI with rfl|⟨A,z,B,rfl⟩;all_goals
   refine cm ?_;exact oy
 |lst=>
  obtain⟨K,L,M,d3,rfl⟩:=v.Nt;rcases u.AI with rfl|⟨A,z,B,rfl⟩<;>rcases s.inv with⟨_,rfl⟩|⟨l,c,h,b,rfl,_⟩;all_goals
   refine cm ?_;exact oy
 |Rz y F=>
  obtain rfl:=v.cS;have G:∀b:List cH,b.length=d.length->(!decide (abK b.length=abK d.length))=false:=fun b Q=>by rw[Q];exact oJ _
  rcases s.inv with⟨rfl,rfl⟩|⟨l,c,h,b,rfl,H⟩
  ·obtain rfl:=List.eq_nil_of_length_eq_zero (F.symm.trans rfl);rcases u.AI with rfl|⟨A,z,B,rfl⟩;all_goals
    refine cm ?_;exact oy
  ·have N:=G b H.len;rcases u.inv with⟨rfl,rfl⟩|⟨A,z,B,t,rfl,x⟩
   ·refine cm ?_;repeat refine de ?_
    exact oy
   ·refine cm ?_;repeat refine de ?_
    have w:=x.len;refine cw (dB:=[(2,.bp 0 0),(3,.bp 1 0),(5,bW 0)]) (fU:=[.box (ky 5 [] [] [] 0 .ci (.ps A z 8 B t) (.ps l c 8 h b)),.box (rA 5 (abK d.length))]) .eS ?_;refine cd.iter (fun i:Nat=>[(2,.bp 0 0),(3,.bp 1 0),(5,bW i)]) (fun _=>[.box (ky 5 [] [] [] 0 .ci (.ps A z 8 B t) (.ps l c 8 h b)),.box (rA 5 (abK d.length))]) (fun i=>labels.length-i) (fun i=>i<=labels.length) ?_ 0 (aeu _);intro i U;apply aZ<;>intro J;rotate_left
    ·exact a8 0 ⟨Z,Z⟩
    ·have hi':i<labels.length:=w▸ee J;obtain⟨r,I,vy⟩:=x.get hi';obtain⟨R,V,tn,S,T,rfl⟩:=vy.cZ;have o:labels[i]∈labels:=abL hi';refine bZ Z ?_;refine cc _ (by rw[ck];exact I) ?_;have E:labels[i].v=[]:=by have:=y.var _ o;rwa[if_neg dc]at this
     have wi:=y.ty _ o;rw[if_neg dc]at wi;rw[wi.1]at vy;have W:(!decide (labels[i].v=[]))=false:=by rw[E];rfl
     exact Vu
 |func y F=>
  obtain rfl:=v.cS;have G:∀b:List cH,b.length=d.length->(!decide (abK b.length=abK d.length))=false:=fun b Q=>by rw[Q];exact oJ _
  rcases s.inv with⟨rfl,rfl⟩|⟨l,c,h,b,rfl,H⟩
  ·exact absurd F sm
  ·have N:=G b H.len;rcases u.inv with⟨rfl,rfl⟩|⟨A,z,B,t,rfl,x⟩
   ·refine cm ?_;repeat refine de ?_
    exact oy
   ·refine cm ?_;repeat refine de ?_
    have w:=x.len;refine cw (dB:=[(2,.bp 0 0),(3,.bp 1 0),(5,bW 0)]) (fU:=[.box (ky 8 [] [] [] 0 .ci (.ps A z 8 B t) (.ps l c 8 h b)),.box (rA 8 (abK d.length))]) .eS ?_;refine cd.iter (fun i:Nat=>[(2,.bp 0 0),(3,.bp 1 0),(5,bW i)]) (fun _=>[.box (ky 8 [] [] [] 0 .ci (.ps A z 8 B t) (.ps l c 8 h b)),.box (rA 8 (abK d.length))]) (fun i=>labels.length-i) (fun i=>i<=labels.length) ?_ 0 (aeu _);intro i U;apply aZ<;>intro J;rotate_left
    ·exact a8 0 ⟨Z,Z⟩
    ·have hi':i<labels.length:=w▸ee J;obtain⟨r,I,vy⟩:=x.get hi';obtain⟨R,V,tn,S,T,rfl⟩:=vy.cZ;have o:labels[i]∈labels:=abL hi';refine bZ Z ?_;refine cc _ (by rw[ck];exact I) ?_;have E:labels[i].v=[]:=by have:=y.var _ o;rwa[if_neg dc]at this
     have W:(!decide (labels[i].v=[]))=false:=by rw[E];rfl
     repeat refine de ?_
     exact⟨i+1,hi',iK,.eD 2,Z,Z⟩
 |call y F=>
  obtain rfl:=v.cS;have G:∀b:List cH,b.length=d.length->(!decide (abK b.length=abK d.length))=false:=fun b Q=>by rw[Q];exact oJ _
  rcases s.inv with⟨rfl,rfl⟩|⟨l,c,h,b,rfl,H⟩
  ·exact absurd F sm
  ·have N:=G b H.len;rcases u.inv with⟨rfl,rfl⟩|⟨A,z,B,t,rfl,x⟩
   ·refine cm ?_;repeat refine de ?_
    exact oy
   ·refine cm ?_;repeat refine de ?_
    have w:=x.len;refine cw (dB:=[(2,.bp 0 0),(3,.bp 1 0),(5,bW 0)]) (fU:=[.box (ky 9 [] [] [] 0 .ci (.ps A z 8 B t) (.ps l c 8 h b)),.box (rA 9 (abK d.length))]) .eS ?_;refine cd.iter (fun i:Nat=>[(2,.bp 0 0),(3,.bp 1 0),(5,bW i)]) (fun _=>[.box (ky 9 [] [] [] 0 .ci (.ps A z 8 B t) (.ps l c 8 h b)),.box (rA 9 (abK d.length))]) (fun i=>labels.length-i) (fun i=>i<=labels.length) ?_ 0 (aeu _);intro i U;apply aZ<;>intro J;rotate_left
    ·exact a8 0 ⟨Z,Z⟩
    ·have hi':i<labels.length:=w▸ee J;obtain⟨r,I,vy⟩:=x.get hi';obtain⟨R,V,tn,S,T,rfl⟩:=vy.cZ;have o:labels[i]∈labels:=abL hi';refine bZ Z ?_;refine cc _ (by rw[ck];exact I) ?_;have E:labels[i].v=[]:=by have:=y.var _ o;rwa[if_neg dc]at this
     have W:(!decide (labels[i].v=[]))=false:=by rw[E];rfl
     have wi:=y.ty _ o;rw[if_neg dc]at wi;rw[wi.1]at vy;exact Vu
 |mat j y F=>
  obtain⟨K,L,M,d3,rfl⟩:=v.Nt;have G:∀b:List cH,b.length=d.length->(!decide (abK b.length=abK d.length))=false:=fun b Q=>by rw[Q];exact oJ _
  rcases s.inv with⟨rfl,rfl⟩|⟨l,c,h,b,rfl,H⟩
  ·exact absurd F sm
  ·have N:=G b H.len;rcases u.inv with⟨rfl,rfl⟩|⟨A,z,B,t,rfl,x⟩
   ·refine cm ?_;repeat refine de ?_
    exact oy
   ·refine cm ?_;repeat refine de ?_
    have w:=x.len;refine cw (dB:=[(2,.bp 0 0),(3,.bp 1 0),(5,bW 0)]) (fU:=[.box (ky 13 [] [] [] 0 (.ps K L 5 M [d3]) (.ps A z 8 B t) (.ps l c 8 h b)),.box (rA 13 (abK d.length))]) .eS ?_;refine cd.iter (fun i:Nat=>[(2,.bp 0 0),(3,.bp 1 0),(5,bW i)]) (fun _=>[.box (ky 13 [] [] [] 0 (.ps K L 5 M [d3]) (.ps A z 8 B t) (.ps l c 8 h b)),.box (rA 13 (abK d.length))]) (fun i=>labels.length-i) (fun i=>i<=labels.length) ?_ 0 (aeu _);intro i U;apply aZ<;>intro J;rotate_left
    ·exact a8 0 ⟨Z,Z⟩
    ·have hi':i<labels.length:=w▸ee J;obtain⟨r,I,vy⟩:=x.get hi';obtain⟨R,V,tn,S,T,rfl⟩:=vy.cZ;have o:labels[i]∈labels:=abL hi';refine bZ Z ?_;refine cc _ (by rw[ck];exact I) ?_;have wi:=y.ty _ o;rw[if_neg dc]at wi;rw[wi.1]at vy;exact Vu
theorem Ia{o n i:cq}{types:List Ty}(l:fB (.mk f o n i g types a d))(h:eR a p)(b:a.length<4294967296){σ:VS}{K:cO->VS->Prop}(c:K (.ret (.dS [.agg (rA f (abK d.length)),bX true])) σ):bV C ca mQ [Ua f o n i g e p q] σ K:=
 cC (E0 l h b) rfl (by cases l<;>rfl) c
theorem E1{t n o:cq}{types:List Ty}(s:fB (.mk f t n o g types a d))(l:fA types e)(i:eR a p)(c:fR d q)(b:a.length<4294967296){σ:VS}{K:cO->VS->Prop}(h:K (.ret (bX false)) σ):bV C ca mq [Ua f t n o g e p q,.agg (rA f (abK d.length))] σ K:=
 cC (DX s l i c b) (by cases s<;>rfl) rfl h
end Go.Proofs.YtpejealjkmhkgaaGreatDoor
