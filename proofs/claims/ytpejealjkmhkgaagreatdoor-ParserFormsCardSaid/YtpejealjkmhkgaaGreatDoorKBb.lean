/- Part of the proof. -/
import Derived.Test.YtpejealjkmhkgaaGreatDoorKBa
set_option linter.all false
set_option maxHeartbeats 16000000
set_option maxRecDepth 100000
open List renaming length_append->abK,append_nil->aet,eq_nil_of_length_eq_zero->aeu,append_assoc->aeM,length_cons->aeN,length_nil->aeP,flatten_cons->aeR,map_append->aeU,take_of_length_le->aeV,flatten_append->ae0,map->ae1
open Int renaming ofNat->abL,ofNat_eq_natCast->aeO,ofNat_lt->aeY
open Nat renaming le_of_ble_eq_true->aev,mul_succ->aeQ,mul_zero->aeS,le_refl->aeT,zero_add->aeW,mul_comm->aeX
open And renaming intro->aeZ
namespace Go.Proofs.YtpejealjkmhkgaaGreatDoor
open Go.AM Go.VM
theorem TB(D:Bool):∀q,Hz D q:=by
 intro q;induction q with
 |zero=>intro x p s y v t _ _ _ A z C B _ _ _ _ _ w;omega
 |succ q I=>
  intro x p s y v t u o b A z C B f n l c e w;by_cases r:p.length=1
  ·obtain⟨F,H,rfl⟩:=FJ p v;have:H=[]:=aeu (by simpa using r);subst this;exact JW D x F s y o b A z C B f n l c e
  ·by_cases E:s.length=1
   ·obtain⟨F,G,rfl⟩:=FJ s t;have:G=[]:=aeu (by simpa using E);subst this;exact JX D x p F y r u b A z C B f n l c e
   ·exact JZ D q I x p s y om om u o b A z C B f n l c e w
variable{j m:V}
theorem yL(c:Bool)(s e f v:List FE)(F:0<e.length)(D:0<f.length)(E:mw FE.n e)(x:mw FE.n f)(p:((e++f).map FE.n).Nodup)(n t u b:Nat)(A:List FE)(y:A=s++(e++(f++v)))(G:n=A.length)(I:t=s.length)(H:u=t+e.length)(w:b=u+f.length)(B:n<4294967296) 
  {o:V} (r:j=bW t) (l:m=bW u) (q:o=bW b) {K:cO->VS->Prop} (z:K (.ret (.dS [])) [.row (ew c) (dg c (s++(cG FE.n (e++f)++v)))]):bV C ca (Qe c) [.ms 0 (ew c) 0 n n,j,m,o,(nz c)] [.row (ew c) (dg c A)] K:=by
 subst r l q y;refine(TB c _ s e f v F D E x p n t u b G I H w B (aeT _)).mono (fun M J L=>?_);rw[L.1,L.2];exact z
theorem TC(c:Bool)(e f q:List FE)(l:(f.map FE.n).Nodup)(n r b:Nat)(v:List FE)(t:v=e++(f++q))(x:n=v.length)(y:r=e.length)(s:b=e.length+f.length)(w:n<4294967296)(p:j=bW r)(o:m=bW b){K:cO->VS->Prop}(u:K (.ret (.dS [])) [.row (ew c) (dg c (e++(cG FE.n f++q)))]):
  bV C ca (acF c) [.ms 0 (ew c) 0 n n,j,m,(nz c)] [.row (ew c) (dg c v)] K:=by
 subst p o t;refine(BG c e f q l n r b x y s w).mono (fun B z A=>?_);rw[A.1,A.2];exact u
def nA(e:Nat)(c:List (List FE)):Prop:=∀b∈c,b.length=e/\mw FE.n b
variable{g i:Nat} {a:List (List FE)}
theorem nA.len(n:nA g a):a.flatten.length=g*a.length:=by
 induction a with
 |nil=>simp
 |cons l a b=>
  have f:=n l sm;have c:=b (fun l e=>n l (by simp[e]));simp only[aeR,abK,aeN,f.1,c,aeQ];omega
theorem nA.snoc{l:List FE}(n:nA g a)(e:l.length=g)(c:mw FE.n l):nA g (a++[l]):=by
 intro f b;rcases List.mem_append.1 b with b|b
 ·exact n f b
 ·simp at b;subst b;exact⟨e,c⟩
def stT(c:Bool)(n f e b:Nat):Tm:=[(0,.ms 0 (ew c) 0 n n),(1,bW n),(2,(nz c)),(6,bW f),(7,bW e),(8,bW b)]
theorem vQ{A c B:List FE}(b:((A++(c++B)).map FE.n).Nodup):(c.map FE.n).Nodup:=by
 rw[aeU,aeU,List.nodup_append]at b;exact(List.nodup_append.1 b.2.1).1
theorem HA(p:Bool)(xs:List FE)(Q:(xs.map FE.n).Nodup)(n:Nat)(R:n=xs.length)(I:n<4294967296):
  bV C ca (adM p) [.ms 0 (ew p) 0 n n,bW n,(nz p)] [.row (ew p) (dg p xs)] fun am ab=>ab=[.row (ew p) (dg p (cG FE.n xs))]/\am=.ret (.dS []):=by
 have aj:p=p:=rfl;cases p;all_goals
  let p:Bool:=Ba aj
  refine cj ?_;refine cw (dB:=stT p n 20 (20*([]:List (List FE)).length) (20*([]:List (List FE)).length+20)) (fU:=[.row (ew p) (dg p (([]:List (List FE)).flatten++xs))]) .eS ?_;refine cd.iter (fun o:List (List FE)×List FE=>stT p n 20 (20*o.1.length) (20*o.1.length+20)) (fun o=>[.row (ew p) (dg p (o.1.flatten++o.2))]) (fun o=>o.2.length)
   (fun o=>nA 20 o.1/\(o.1.flatten++o.2).Perm xs) ?_ ([],xs) ⟨by intro ag I;simp at I,by simp⟩
  rintro⟨s,f⟩ ⟨v,c⟩;have v:nA 20 s:=v;have c:(s.flatten++f).Perm xs:=c;have H:=v.len;have u:n=20*s.length+f.length:=by rw[R,<-c.length_eq,abK,H]
  have z:=xH (key:=FE.n) c Q;apply aZ<;>intro L
  ·have F:20*s.length+20<=n:=JA L;obtain⟨q,K,rfl,J⟩:=Mt f 20 om;have r:=vQ z;refine TC p s.flatten q K r n (20*s.length) (20*s.length+20) _ Z (by rw[R,<-c.length_eq]) H.symm om om Z Z ?_;refine⟨(s++[cG FE.n q],K),⟨v.snoc (by rw[nx,J]) (iG r),?_⟩,by show K.length<(q++K).length;rw[abK];omega,.same ⟨Z,Z,Z,Z,int_eq ?_,int_eq ?_,tv⟩ ?_,Z,Z⟩
   ·show((s++[cG FE.n q]).flatten++K).Perm xs;refine List.Perm.trans ?_ c;simp only[ae0,aeR,List.flatten_nil,aet,aeM];exact List.Perm.append_left _ ((dE q).append_right _)
   ·show abL (20*s.length+20)=abL (20*(s++[cG FE.n q]).length);rw[abK];rfl
   ·show IntKind.i64.wrap (abL (20*s.length+20)+20)=abL (20*(s++[cG FE.n q]).length+20);rw[abK];exact c4 (b:=20) om
   ·show _=[cN.row (ew p) (dg p ((s++[cG FE.n q]).flatten++K))];exact acp
  ·have F:n<20*s.length+20:=Iv L;have E:(f.map FE.n).Nodup:=by
    have:((s.flatten++(f++[])).map FE.n).Nodup:=by rw[aet];exact z
    exact vQ this
   refine TC p s.flatten f [] E n (20*s.length) n _ (by rw[aet]) (by rw[R,<-c.length_eq]) H.symm om om Z Z ?_;have V:(cG FE.n f).length=f.length:=nx f;have M:(s.flatten++cG FE.n f).Perm xs:=(List.Perm.append_left _ (dE f)).trans c;have t:=iG (key:=FE.n) E;generalize cG FE.n f=j at V M t;refine cw (dB:=[(0,.ms 0 (ew p) 0 n n),(1,bW n),(2,(nz p)),(6,bW 20)]) (fU:=[.row (ew p) (dg p (s.flatten++j))]) (.same ⟨Z,Z,Z,Z,tv⟩ (by rw[aet])) ?_;refine cd.iter (fun o:Nat×List (List FE)×List FE=>[(0,.ms 0 (ew p) 0 n n),(1,bW n),(2,(nz p)),(6,bW o.1)]) (fun o=>[.row (ew p) (dg p (o.2.1.flatten++o.2.2))]) (fun o=>n-o.1)
    (fun o=>0<o.1/\o.1<8589934592/\nA o.1 o.2.1/\mw FE.n o.2.2/\o.2.2.length<o.1/\(o.2.1.flatten++o.2.2).Perm xs) ?_ (20,s,j) ⟨by show 0<20;omega,by show 20<8589934592;omega,v,t,by show j.length<20;omega,M⟩
   clear c z E u F L V M t H v;rintro⟨b,s,f⟩ ⟨m,U,v,t,Y,c⟩;have m:0<b:=m;have U:b<8589934592:=U;have v:nA b s:=v;have t:mw FE.n f:=t;have Y:f.length<b:=Y;have c:(s.flatten++f).Perm xs:=c;have H:=v.len;have u:n=b*s.length+f.length:=by rw[R,<-c.length_eq,abK,H]
   apply aZ<;>intro L
   ·have F:b<n:=ee L;have W:IntKind.i64.wrap (2*abL b)=abL (2*b):=by
     rw[show(2:Int)*abL b=abL (2*b)from rfl,wrap64 (by simp only[aeO];omega) (by simp only[aeO];omega)]
    have aa:IntKind.i64.wrap (2*abL b)=abL (2*b*([]:List (List FE)).length+2*b):=by
     rw[W];simp
    refine cw (dB:=stT p n b (2*b*([]:List (List FE)).length) (2*b*([]:List (List FE)).length+2*b)) (fU:=[.row (ew p) (dg p (([]:List (List FE)).flatten++(s.flatten++f)))]) (.same ⟨Z,Z,Z,Z,Z,int_eq aa,tv⟩ Z) ?_;refine cd.iter (fun o:List (List FE)×List (List FE)=>stT p n b (2*b*o.1.length) (2*b*o.1.length+2*b)) (fun o=>[.row (ew p) (dg p (o.1.flatten++(o.2.flatten++f)))]) (fun o=>o.2.length)
     (fun o=>nA (2*b) o.1/\nA b o.2/\(o.1.flatten++(o.2.flatten++f)).Perm xs) ?_ ([],s) ⟨by intro ag I;simp at I,v,by simpa using c⟩
    rintro⟨e,l⟩ ⟨w,x,c⟩;have w:nA (2*b) e:=w;have x:nA b l:=x;have c:(e.flatten++(l.flatten++f)).Perm xs:=c;have X:=w.len;have ae:=x.len;obtain⟨y,T⟩:∃y,2*b*e.length=y:=⟨_,rfl⟩;have z:=xH (key:=FE.n) c Q;have P:n=(e.flatten++(l.flatten++f)).length:=by rw[R,<-c.length_eq]
    have u:n=y+(b*l.length+f.length):=by rw[P,abK,abK,X,ae,T]
    have g:y=e.flatten.length:=by rw[X,T]
    dsimp only;rw[T];apply aZ<;>intro k
    ·have ad:y+2*b<=n:=JA k;cases l with
     |nil=>simp only[aeP,aeS]at u;omega
     |cons q l=>
      cases l with
      |nil=>simp only[aeN,aeP,aeQ,aeS]at u;omega
      |cons G l=>
       have J:=x q sm;have ak:=x G sm;have B:e.flatten++((q::G::l).flatten++f)=e.flatten++(q++(G++(l.flatten++f))):=by simp only[aeR,aeM]
       have r:((q++G).map FE.n).Nodup:=by
        refine vQ (A:=e.flatten) (B:=l.flatten++f) ?_;rw[aeM,<-B];exact z
       have A:IntKind.i64.wrap (abL y+abL b)=abL (y+b):=c4 om;refine yL p e.flatten q G (l.flatten++f) om om J.2 ak.2 r n y (y+b) (y+2*b) _ B P g om om om Z (vi A) Z ?_;have h:(cG FE.n (q++G)).length=2*b:=by rw[nx,abK];omega
       have ac:2*b*(e++[cG FE.n (q++G)]).length=y+2*b:=by
        rw[abK,List.length_singleton,Nat.mul_add,T,Nat.mul_one]
       refine⟨(e++[cG FE.n (q++G)],l),⟨w.snoc h (iG r),fun ag I=>x ag (by simp[I]),?_⟩,by show l.length<l.length+1+1;omega,.same ⟨Z,Z,Z,Z,int_eq ?_,int_eq ?_,tv⟩ ?_,Z,Z⟩
       ·show((e++[cG FE.n (q++G)]).flatten++(l.flatten++f)).Perm xs;refine List.Perm.trans ?_ c;rw[B];simp only[ae0,aeR,List.flatten_nil,aet,aeM];rw[<-aeM q];exact List.Perm.append_left _ ((dE (q++G)).append_right _)
       ·show abL (y+2*b)=abL (2*b*(e++[cG FE.n (q++G)]).length);rw[ac]
       ·show IntKind.i64.wrap (abL (y+2*b)+IntKind.i64.wrap (2*abL b))=abL (2*b*(e++[cG FE.n (q++G)]).length+2*b);rw[ac,W];exact c4 om
       ·show _=[cN.row (ew p) (dg p ((e++[cG FE.n (q++G)]).flatten++(l.flatten++f)))];exact acp
    ·have ad:n<y+2*b:=Iv k;have O:IntKind.i64.wrap (abL b*2)=abL (b*2):=by
      rw[show abL b*(2:Int)=abL (b*2)from rfl,wrap64 (by simp only[aeO];omega) (by simp only[aeO];omega)]
     have A:IntKind.i64.wrap (abL y+abL b)=abL (y+b):=c4 om;cases l with
     |nil=>
      simp only[aeP,aeS,aeW]at u;have D:¬(y+b<n):=om;refine a7 (by rw[A];exact decide_eq_false (fun al=>D (aeY.1 al))) ?_;refine⟨(b*2,e,f),⟨by show 0<b*2;omega,by show b*2<8589934592;omega,by rw[aeX];exact w,t,by show f.length<b*2;omega,c⟩,by show n-b*2<n-b;omega,.same ⟨Z,Z,Z,int_eq O,tv⟩ Z,Z,Z⟩
     |cons q l=>
      cases l with
      |cons G l=>simp only[aeN,aeQ]at u;omega
      |nil=>
       have J:=x q sm;simp only[aeN,aeP,aeQ,aeS,aeW]at u;have B:e.flatten++([q].flatten++f)=e.flatten++(q++(f++[])):=by simp
       by_cases S:0<f.length
       ·have D:y+b<n:=om;refine cg (by rw[A];exact decide_eq_true (aeY.2 D)) ?_;have r:((q++f).map FE.n).Nodup:=by
         refine vQ (A:=e.flatten) (B:=[]) ?_;rw[aeM,<-B];exact z
        refine yL p e.flatten q f [] om S J.2 t r n y (y+b) n _ B P g om om om Z (vi A) Z ?_;have h:(cG FE.n (q++f)).length=b+f.length:=by rw[nx,abK];omega
        refine⟨(b*2,e,cG FE.n (q++f)),⟨by show 0<b*2;omega,by show b*2<8589934592;omega,by rw[aeX];exact w,iG r,by show(cG FE.n (q++f)).length<b*2;omega,?_⟩,by show n-b*2<n-b;omega,.same ⟨Z,Z,Z,int_eq O,tv⟩ (by rw[aet]),Z,Z⟩;show(e.flatten++cG FE.n (q++f)).Perm xs;refine List.Perm.trans ?_ c;rw[B,aet];exact List.Perm.append_left _ (dE (q++f))
       ·have N:f=[]:=aeu om;have D:¬(y+b<n):=by rw[N]at u;simp only[aeP]at u;omega
        refine a7 (by rw[A];exact decide_eq_false (fun al=>D (aeY.1 al))) ?_;refine⟨(b*2,e,q),⟨by show 0<b*2;omega,by show b*2<8589934592;omega,by rw[aeX];exact w,J.2,by show q.length<b*2;omega,?_⟩,by show n-b*2<n-b;omega,.same ⟨Z,Z,Z,int_eq O,tv⟩ (by rw[B,N,aet,aet]),Z,Z⟩;show(e.flatten++q).Perm xs;rw[B,N,aet,aet]at c;exact c
   ·have F:n<=b:=dq L;refine⟨?_,Z⟩;have ai:mw FE.n (s.flatten++f):=by
     cases s with
     |nil=>simpa using t
     |cons ag s=>
      have ah:=v ag sm;simp only[aeN,aeQ]at u;have S:f=[]:=aeu om;have af:s=[]:=by
       cases s with
       |nil=>rfl
       |cons ap s=>simp only[aeN,aeQ]at u;omega
      subst S af;simpa using ah.2
    rw[A8 Q c ai]
theorem Bd(b:Bool)(xs:List FE)(e:(xs.map FE.n).Nodup)(n:Nat)(o:n=xs.length)(l:n<4294967296):
  bV C ca (adN b) [.ms 0 (ew b) 0 n n,(nz b)] [.row (ew b) (dg b xs)] fun p c=>c=[.row (ew b) (dg b (cG FE.n xs))]/\p=.ret (.dS []):=by
 have f:b=b:=rfl;cases b;all_goals
  let b:Bool:=Ba f
  refine cj ?_;refine(HA b xs e n o l).mono (fun p c q=>?_);rw[q.1,q.2];exact⟨Z,Z⟩
theorem lO(xs:List FE)(r:(xs.map FE.n).Nodup)(t:xs.length<4294967296)(n:Nat)(q:n=xs.length)(e:Nat){σ:VS}{K:cO->VS->Prop}(c:nth σ e=some (.row 7 (rows xs))) 
  (l:K (.ret (.ms e 7 0 n n)) (σ.set e (.row 7 (rows (cG FE.n xs))))):bV C ca tq [.ms e 7 0 n n] σ K:=by
 refine cj ?_;refine Di (dM:=[.ms 0 7 0 n n,nz false]) (P:=fun o b=>b=rows (cG FE.n xs)/\o=.ret (.dS [])) ((Bd false xs r n q om).mono fun o s p=>?_) e c (A9 xs) Z Z (fun o b p=>?_)
 ·obtain⟨rfl,rfl⟩:=p;exact⟨_,Z,Z,A9 _,Z,Z⟩
 ·obtain⟨rfl,rfl⟩:=p;exact l
theorem Mw{σ:VS}{K:cO->VS->Prop}(b:K (.ret (.d .ci)) σ):bV C ca tq [.d .ci] σ K:=by
 refine cj ?_;refine cj ?_;refine cj ?_;refine cd.loop ?_;refine cj ?_;refine cd.loop ?_;refine cd.loop ?_;exact b
def kO(es:Nat):List cH->cN
 |[]=>.gone
 |e::c=>.row es ((e::c).map fun b=>b.map V.d)
def kV(c es:Nat):List cH->V
 |[]=>.d .ci
 |_::b=>.ms c es 0 (b.length+1) (b.length+1)
theorem gr(es:Nat)(l:List cH):fW 0 (kO es l)=true:=by
 cases l with
 |nil=>rfl
 |cons b c=>exact jv 0 es (b::c)
theorem Dk(b:Nat->Nat)(es:Nat)(l:List cH):dF b (kO es l)=kO es l:=fh b _ (gr es l)
theorem rB{c n b:Nat}(l:c<=4294967296)(f:n<=1)(e:b<=200):(c+n)*b<=fy/\c+n<=fy:=by
 unfold fy;constructor
 ·calc (c+n)*b<=4294967297*200:=Nat.mul_le_mul om e
   _<=_:=dc
 ·omega
theorem lk(n:Nat):Nat.ble (n+1+1) (n+1)=false:=by
 rw[<-Bool.not_eq_true,Nat.ble_eq];omega
def jx(f:Nat)(n:cq)(b:D)(c e:V):List V:=[bW f,cn [],cn n,cn [],bW 0,.d b,c,e]
def jz:List V:=[bW 0,cn [],cn [],cn [],bW 0,.d .ci,.d .ci,.d .ci]
def jfz:Nat->Bool:=fun b=>Nat.beq b 23
theorem aaR{p:eo}{b:FE}(f:p.n=b.n)(e:p.v=b.v)(c:p.tV=b.o):Ms p.FH b.ty=[.str b.n,.str b.v,.int .i64 (abL b.k),.str b.m,.str b.nm,b.a,b.f,.bool b.o]:=by
 rw[Ms,eo.FH,f,e,c];rfl
def kAt:Bool->Nat
 |false=>1
 |true=>5
def kO1(f:Bool)(l:List cH):cN:=match f with
 |false=>kO 8 l
 |true=>.gone
def ZN(f:Bool)(l:List cH):cN:=match f with
 |false=>.gone
 |true=>kO 8 l
theorem nB(b:Nat->Nat)(c es:Nat)(l:List cH):gW b (kV c es l)=kV (b c) es l:=by cases l<;>rfl
theorem li(c es:Nat)(f:cH)(b:List cH)(e:cH):V.ms c es 0 (b.length+1+1) (b.length+1+1)=kV c es ((f::b)++[e]):=by simp[kV]
theorem r7(c:Nat->Nat)(b:List FE):some (cN.row 9 (dg true b))=some (dF c (.row 9 (dg true b))):=congrArg some (sM c 9 (b.map (zb true))).symm
theorem HB(b:Nat->Nat)(es:Nat)(l:List cH):some (kO es l)=some (dF b (kO es l)):=congrArg some (Dk b es l).symm
theorem jQ(c:Nat->Nat)(es:Nat)(f:cH)(e:List cH)(b:cH):some (cN.row es (List.take (e.length+1) (List.drop 0 (ae1 (fun b=>ae1 V.d b) (f::e)))++[b.map V.d]))=some (dF c (kO es ((f::e)++[b]))):=by
 rw[Dk,List.drop_zero,aeV sm];simp[kO]
theorem lj(b:Nat->Nat)(es:Nat)(c:cH):some (cN.row es [c.map V.d])=some (dF b (kO es ([]++[c]))):=by
 rw[Dk];rfl
theorem gH(b es:Nat)(l:List cH):fW b (kO es l)=true:=lp b _ (gr es l)
theorem HC(b:Nat->Nat)(f:Bool)(l:List cH):some (kO1 f l)=some (dF b (kO1 f l)):=by
 cases f
 ·exact HB b 8 l
 ·rfl
theorem B3(b:Nat->Nat)(f:Bool)(l:List cH):some (ZN f l)=some (dF b (ZN f l)):=by
 cases f
 ·rfl
 ·exact HB b 8 l
theorem Dl(b:Nat)(f:Bool)(l:List cH):fW b (kO1 f l)=true:=by
 cases f
 ·exact gH b 8 l
 ·rfl
theorem Mx(b:Nat)(f:Bool)(l:List cH):fW b (ZN f l)=true:=by
 cases f
 ·rfl
 ·exact gH b 8 l
theorem HD(b:Nat->Nat)(c:cH):some (cN.row 8 [c.map V.d])=some (dF b (ZN true ([]++[c]))):=lj b 8 c
theorem Dm(c:Nat->Nat)(f:cH)(e:List cH)(b:cH):some (cN.row 8 (List.take (e.length+1) (List.drop 0 (ae1 (fun b=>ae1 V.d b) (f::e)))++[b.map V.d]))=some (dF c (ZN true ((f::e)++[b]))):=jQ c 8 f e b
theorem zc{e b:cN}{c:VS}(l:fW 2 e=true)(f:fW 2 b=true):mJ 2 (e::b::c) 2=true:=by
 show(fW 2 e&&(fW 2 b&&mJ 2 c 0))=true;rw[l,f,mJ];rfl
theorem qi.TD{l:List hZ}(b:qi l []):eR l .ci:=by cases b;exact .nil
variable{d h:List cH}
theorem qi.psD{l:List hZ}{b o c:Nat}(f:qi l d)(e:h=d):eR l (.ps b o 8 c h):=e▸ .ps f
theorem jt.TD{l:List Ex}(b:jt l []):fR l .ci:=by cases b;exact .nil
theorem jt.psD{l:List Ex}{b o c:Nat}(f:jt l d)(e:h=d):fR l (.ps b o 8 c h):=e▸ .ps f
variable{k:D}
theorem zd{c:Nat->Nat}{n:cq}{p b e f:V}(l:p=gW c e)(o:b=gW c f):some (cN.box (jx g n k p b))=some (dF c (.box (jx g n k e f))):=by
 subst l o;rfl
theorem ze{n:cq}{f b:V}(c:bd g f=true)(e:bd g b=true):fW g (.box (jx i n k f b))=true:=by
 simp only[fW,jx,fu,bd,bW,cn,c,e];rfl
theorem kZ(es:Nat)(l:List cH)(b:Nat.blt i g=true):bd g (kV i es l)=true:=by
 cases l with
 |nil=>rfl
 |cons e c=>exact b
theorem J0(U:Nat)(n:cq)(r:D){kids:List Ex}{l:List eo}{xs:List FE}{my:List cH}(s:jt kids my)(ac:kI l xs)(ao:(xs.map FE.n).Nodup)(aC:∀ad∈l,ad.val.length<=1)(E:kids.length<=1)(f:Nat)(aG:f=xs.length)(aU:f<4294967295){h:cO->VS->Prop} 
  (t:∀(q:Bool) (z:List FE) (c b:List cH),(q=false->b=my)->qi ((cG eo.n l).map eo.FH) c->jt (kids++(cG eo.n l).flatMap eo.val) b->b.length<=f+1->cU 2 (.ret (.agg (jx U n r (kV 4 8 c) (kV (kAt q) 8 b)))) [.row 9 (dg true z),kO1 q b,.box (jx U n r (kV 4 8 c) (kV (kAt q) 8 b)),.box (jx U n r (kV 4 8 c) (kV (kAt q) 8 b)),kO 8 c,ZN q b] h):
  bV C ca jL [.agg (jx U n r (.d .ci) (.d .ci)),kV 1 8 my,.ms 0 9 0 f f] [.row 9 (dg true xs),kO 8 my] h:=by
 refine cv jfz (fun _=>Z) ?_;refine Di (dM:=[.ms 0 (ew true) 0 f f,nz true]) (P:=fun ap x=>x=dg true (cG FE.n xs)/\ap=.ret (.dS [])) ((Bd true xs ao f aG om).mono fun ap aO y=>?_) 0 Z (Bb xs) Z Z (fun ap x y=>?_)
 ·obtain⟨rfl,rfl⟩:=y;exact⟨_,Z,Z,Bb _,Z,Z⟩
 obtain⟨rfl,rfl⟩:=y;have k:=ac.JR;have ai:(cG eo.n l).length=l.length:=(dE l).length_eq;have aL:=ac.len;have S:∀ad∈cG eo.n l,ad.val.length<=1:=fun ad aF=>aC ad ((dE l).subset aF);generalize cG eo.n l=e at k ai S t;generalize cG FE.n xs=z at k⊢;obtain⟨B,T⟩:∃B,B=my:=⟨_,rfl⟩;have J:∀(q:Bool) (c b:List cH),(q=false->b=B)->qi (e.map eo.FH) c->jt (kids++e.flatMap eo.val) b->b.length<=f+1->cU 2 (.ret (.agg (jx U n r (kV 4 8 c) (kV (kAt q) 8 b)))) [.row 9 (dg true z),kO1 q b,.box (jx U n r (kV 4 8 c) (kV (kAt q) 8 b)),.box (jx U n r (kV 4 8 c) (kV (kAt q) 8 b)),kO 8 c,ZN q b] h:=fun q c b aE ay ar aA=>t q z c b (fun y=>(aE y).trans T) ay ar aA;clear t;rcases my with _|⟨G,i⟩;all_goals
  refine cD (dB:=[(13,.ms 0 9 0 f f),(14,bW f),(15,bW 0),(3,.bp 2 0),(6,.bp 3 0)]) ?_;refine cd.gone (cd.gone ?_);refine cd.iter (fun p:Nat×Bool×List cH×List cH=>[(13,.ms 0 9 0 f f),(14,bW f),(15,bW p.1),(3,.bp 2 0),(6,.bp 3 0)])
   (fun p=>[.row 9 (dg true z),kO1 p.2.1 p.2.2.2,.box (jx U n r (kV 4 8 p.2.2.1) (kV (kAt p.2.1) 8 p.2.2.2)),.box jz,kO 8 p.2.2.1,ZN p.2.1 p.2.2.2]) (fun p=>f-p.1)
   (fun p=>p.1<=f/\qi ((e.take p.1).map eo.FH) p.2.2.1/\jt (kids++(e.take p.1).flatMap eo.val) p.2.2.2/\(kids++(e.take p.1).flatMap eo.val).length<=p.1+1/\(p.2.1=false->p.2.2.2=B)) ?_ (0,false,[],_) ⟨Nat.zero_le _,.nil,by simpa using s,by simpa using E,fun _=>T.symm⟩
  rintro⟨o,q,c,my⟩ ⟨d,O,X,Q,P⟩;have aK:o<=f:=d;have M:qi ((e.take o).map eo.FH) c:=O;have s:jt (kids++(e.take o).flatMap eo.val) my:=X;have E:(kids++(e.take o).flatMap eo.val).length<=o+1:=Q;have W:q=false->my=B:=P;clear d O X Q P;have aI:=s.len;have R:my.length<=o+1:=om;have ae:c.length<=o:=by rw[M.len,List.length_map,List.length_take];omega
  apply aZ<;>intro ah
  ·have g:o<f:=ee ah;have H:o<e.length:=om;obtain⟨I,au,av,aB,aH,af,an⟩:=k.get H;have al:nth (dg true z) (0+o)=some ((pe I).map V.d):=by rw[aeW];exact gY au
   have F:e.take (o+1)=e.take o++[e[o]]:=by rw[List.take_add_one,List.getElem?_eq_getElem H];rfl
   have aN:e[o].val.length<=1:=S _ (List.getElem_mem H);have a:=aaR av aB aH;have w:qi ((e.take (o+1)).map eo.FH) (c++[[.str I.n,.str I.v,.int .i64 (abL I.k),.str I.m,.str I.nm,I.a,I.f,.bool I.o]]):=by
    rw[F,aeU,<-a];exact M.snoc af
   have v:kids++(e.take (o+1)).flatMap eo.val=(kids++(e.take o).flatMap eo.val)++e[o].val:=by
    rw[F,List.flatMap_append,aeM];simp
   have u:(kids++(e.take (o+1)).flatMap eo.val).length<=o+1+1:=by rw[v,abK];omega
   have Y:e[o].val=[]->jt (kids++(e.take (o+1)).flatMap eo.val) my:=fun y=>by rw[v,y,aet];exact s
   have ag:∀L,jt e[o].val [L]->jt (kids++(e.take (o+1)).flatMap eo.val) (my++[L]):=fun L y=>by rw[v];exact s.P9 y
   clear v s F;obtain⟨aP,aY,aQ,aJ,aW,aX,aR,aT,j⟩:=I;dsimp only at an w a;refine bZ Z ?_;refine a6 g ?_;refine cc _ al ?_;intro aS;have aj:(j=.ci/\e[o].val=[])∨(∃ab m aa,j=.ps ab m 8 aa []/\e[o].val=[])∨∃ab m aa L,j=.ps ab m 8 aa [L]/\jt e[o].val [L]:=by
    obtain⟨aw,N⟩|⟨ab,m,aa,x,N,ak⟩:=an.inv
    ·exact .inl ⟨N,aw⟩
    ·have:=ak.len;rcases x with _|⟨L,_|⟨aV,ap⟩⟩
     ·exact .inr (.inl ⟨ab,m,aa,N,aeu this.symm⟩)
     ·exact .inr (.inr ⟨ab,m,aa,L,N,ak⟩)
     ·simp at this;omega
   rcases c with _|⟨K,am⟩;all_goals
    first
     |refine a6 rfl (a6 ⟨aev rfl,aev rfl⟩ (a7 rfl ?_))
     |refine a6 rfl (a6 ⟨rfl,rfl,by simp,aeT _,rB (by simp at ae;omega) (aeT _) (aev rfl)⟩ (a7 rfl (a7 (lk am.length) ?_)))
    rcases aj with⟨rfl,A⟩|⟨az,aD,ax,rfl,A⟩|⟨az,aD,ax,L,rfl,A⟩;all_goals
     cases q;all_goals
      rcases my with _|⟨G,i⟩;all_goals
       try refine a6 (rfl:8=_) ?_
       first
        |refine a6 ⟨aev rfl,aev rfl⟩ ?_
        |refine a6 ⟨rfl,rfl,by simp,aeT _,rB (by simp only[aeN]at R;omega) sm (aev rfl)⟩ ?_
       first
        |refine cg rfl ?_
        |refine a7 rfl ?_
       try refine a7 (lk i.length) ?_
       first
        |refine⟨(o+1,false,_,_),⟨by show o+1<=f;omega,w,Y A,u,W⟩,iK,.pick 2 [0,1,2,3,7,5] ⟨rfl,rfl,int_eq (cp om),rfl,rfl,tv⟩ rfl rfl rfl rfl rfl dc ⟨r7 _ _,jv _ _ _,by first|exact HC _ _ _|exact rfl,Dl _ _ _,zd (by first|exact rfl|exact(li _ _ K _ _).trans (nB _ _ _ _).symm) (by first|exact rfl|exact(li _ _ G _ _).trans (nB _ _ _ _).symm),ze (kZ 8 _ rfl) (kZ 8 _ rfl),rfl,rfl,by first|exact lj _ _ _|exact jQ _ _ _ _ _,gH _ _ _,by first|exact B3 _ _ _|exact HD _ _|exact Dm _ _ _ _,Mx _ _ _,tv⟩,rfl,rfl⟩
        |refine⟨(o+1,true,_,_),⟨by show o+1<=f;omega,w,Y A,u,fun y=>Bool.noConfusion (show true=false from y)⟩,iK,.pick 2 [0,1,2,3,7,5] ⟨rfl,rfl,int_eq (cp om),rfl,rfl,tv⟩ rfl rfl rfl rfl rfl dc ⟨r7 _ _,jv _ _ _,by first|exact HC _ _ _|exact rfl,Dl _ _ _,zd (by first|exact rfl|exact(li _ _ K _ _).trans (nB _ _ _ _).symm) (by first|exact rfl|exact(li _ _ G _ _).trans (nB _ _ _ _).symm),ze (kZ 8 _ rfl) (kZ 8 _ rfl),rfl,rfl,by first|exact lj _ _ _|exact jQ _ _ _ _ _,gH _ _ _,by first|exact B3 _ _ _|exact HD _ _|exact Dm _ _ _ _,Mx _ _ _,tv⟩,rfl,rfl⟩
        |refine⟨(o+1,true,_,_),⟨by show o+1<=f;omega,w,(ag _ A),u,fun y=>Bool.noConfusion (show true=false from y)⟩,iK,.pick 2 [0,1,2,3,7,8] ⟨rfl,rfl,int_eq (cp om),rfl,rfl,tv⟩ rfl rfl rfl rfl rfl dc ⟨r7 _ _,jv _ _ _,by first|exact HC _ _ _|exact rfl,Dl _ _ _,zd (by first|exact rfl|exact(li _ _ K _ _).trans (nB _ _ _ _).symm) (by first|exact rfl|exact(li _ _ G _ _).trans (nB _ _ _ _).symm),ze (kZ 8 _ rfl) (kZ 8 _ rfl),rfl,rfl,by first|exact lj _ _ _|exact jQ _ _ _ _ _,gH _ _ _,by first|exact B3 _ _ _|exact HD _ _|exact Dm _ _ _ _,Mx _ _ _,tv⟩,rfl,rfl⟩
  ·have g:f<=o:=dq ah;have aw:e.take o=e:=aeV om;rw[aw]at M s E;rcases c with _|⟨K,am⟩;all_goals
    cases q;all_goals
     rcases my with _|⟨G,i⟩;all_goals
      exact J _ _ _ W M s (Nat.le_trans R om)
theorem sQ(r:Nat)(n:cq)(o:D){types:List Ty}{b:List Ex}{l:List eo}{xs:List FE}(B:fA types o)(f:jt b d)(A:kI l xs)(v:(xs.map FE.n).Nodup)(H:∀y∈l,y.val.length<=1)(q:b.length<=1)(c:Nat)(G:c=xs.length)(F:c<4294967295):
  bV C ca jL [.agg (jx r n o (.d .ci) (.d .ci)),kV 1 8 d,.ms 0 9 0 c c] [.row 9 (dg true xs),kO 8 d] fun K w=>∃y L,w=[y,L]/\fW 0 y=true/\fW 0 L=true/\cM K=true/\∃M,je (kq r n types b l) M/\K=.ret (.agg (M.map V.d)):=by
 have I:kq r n types b l=.mk r [] n [] 0 types ((cG eo.n l).map eo.FH) (b++(cG eo.n l).flatMap eo.val):=rfl;rw[I];refine J0 r n o f A v H q c G F (fun O P p d N t f _=>?_);rcases p with _|⟨E,J⟩;all_goals
  cases O;all_goals
   rcases d with _|⟨s,x⟩;all_goals
    first
     |refine cU.freeze 4 (es:=8) (l:=E::J) rfl (gk _) (by repeat' (first|exact tv|exact fun e=>absurd (show(1:Nat)=4 from e) dc|exact fun e=>absurd (show(5:Nat)=4 from e) dc|exact fun _=>⟨rfl,by simp⟩|refine aeZ ?_ ?_)) (fun Q=>?_)
     |skip
    first
     |refine cU.freeze 1 (es:=8) (l:=s::x) rfl (gk _) (by repeat' (first|exact tv|exact fun e=>absurd (show(1:Nat)=4 from e) dc|exact fun e=>absurd (show(5:Nat)=4 from e) dc|exact fun _=>⟨rfl,by simp⟩|refine aeZ ?_ ?_)) (fun z=>?_)
     |refine cU.freeze 5 (es:=8) (l:=s::x) rfl (gk _) (by repeat' (first|exact tv|exact fun e=>absurd (show(1:Nat)=4 from e) dc|exact fun e=>absurd (show(5:Nat)=4 from e) dc|exact fun _=>⟨rfl,by simp⟩|refine aeZ ?_ ?_)) (fun z=>?_)
     |skip
    refine cU.drop 2 Z (zc (jv _ _ _) (by first|rfl|exact Dl _ _ _)) Z (cU.now Z ⟨_,_,Z,jv _ _ _,by first|rfl|exact Dl _ _ _,Z,_,.mk B ?_ ?_,Z⟩)
    ·first|exact t.TD|exact t.psD sm
    ·first|exact f.TD|exact f.psD sm
theorem My(s:Nat)(n:cq)(o:D){l:List eo}{xs:List FE}(E:kI l xs)(v:(xs.map FE.n).Nodup)(J:∀B∈l,B.val.length<=1)(f:Nat)(H:f=xs.length)(G:f<4294967295):
  bV C ca jL [.agg (jx s n o (.d .ci) (.d .ci)),.d .ci,.ms 0 9 0 f f] [.row 9 (dg true xs),.gone] fun M x=>∃B w b,x=[B,.gone,kO 8 b]/\fW 0 B=true/\eR ((cG eo.n l).map eo.FH) w/\jt ((cG eo.n l).flatMap eo.val) b/\b.length<=f+1/\M=.ret (.agg (jx s n o (.d w) (kV 2 8 b))):=by
 refine J0 (kids:=[]) (my:=[]) s n o .nil E v J (Nat.zero_le _) f H G (fun A z r b q u t p=>?_);have y:(A=false/\b=[])∨(A=true/\b=[])∨∃c e,A=true/\b=c::e:=by
  cases A
  ·exact .inl ⟨Z,q Z⟩
  ·rcases b with _|⟨c,e⟩
   ·exact .inr (.inl ⟨Z,Z⟩)
   ·exact .inr (.inr ⟨c,e,Z,Z⟩)
 clear q;rcases r with _|⟨F,L⟩;all_goals
  rcases y with⟨rfl,rfl⟩|⟨rfl,rfl⟩|⟨c,e,rfl,rfl⟩;all_goals
   first
    |refine cU.freeze 4 (es:=8) (l:=F::L) rfl (gk _) (by repeat' (first|exact tv|exact fun K=>absurd (show(1:Nat)=4 from K) dc|exact fun K=>absurd (show(5:Nat)=4 from K) dc|exact fun _=>⟨rfl,by simp⟩|refine aeZ ?_ ?_)) (fun O=>?_)
    |skip
   first
    |refine cU.pick [0,1,5] (fU:=[.row 9 (dg true z),.gone,kO 8 []]) (r0:=.ret (.agg (jx s n o (.d _) (kV 2 8 [])))) rfl rfl rfl dc ⟨r7 _ _,jv _ _ _,rfl,rfl,rfl,rfl,tv⟩ (cU.now rfl ⟨_,_,[],rfl,jv _ _ _,?_,t,p,rfl⟩)
    |refine cU.pick [0,1,5] (fU:=[.row 9 (dg true z),.gone,kO 8 (c::e)]) (r0:=.ret (.agg (jx s n o (.d _) (kV 2 8 (c::e))))) rfl rfl rfl dc ⟨r7 _ _,jv _ _ _,rfl,rfl,B3 _ true _,gH _ _ _,tv⟩ (cU.now rfl ⟨_,_,c::e,rfl,jv _ _ _,?_,t,p,rfl⟩)
   first|exact u.TD|exact u.psD sm
theorem Qf(e:Nat)(n:cq)(c:D):bV C ca jL [.agg (jx e n c (.d .ci) (.d .ci)),.d .ci,.d .ci] [] fun f b=>b=[]/\f=.ret (.agg (jx e n c (.d .ci) (.d .ci))):=by
 refine cm ?_;refine cj ?_;refine cj ?_;refine cd.loop ?_;refine cj ?_;exact wk
end Go.Proofs.YtpejealjkmhkgaaGreatDoor
