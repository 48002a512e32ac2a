/- Part of the proof. -/
import Derived.Test.YtpejealjkmhkgaaGreatDoorKBa
set_option linter.all false
set_option maxHeartbeats 16000000
set_option maxRecDepth 100000
open Int renaming ofNat->YL,ofNat_eq_natCast->YQ,ofNat_lt->Zb
open List renaming eq_nil_of_length_eq_zero->YM,length_append->YN,append_assoc->YO,append_nil->YP,nodup_append->YR,map_append->YS,flatten_cons->YT,length_cons->YU,getElem?_eq_getElem->YV,length_nil->YX,flatten_append->YY,getElem?_append_right->YZ,flatten_nil->Y3,nil_append->Y6,getElem?_append_left->Y7,take_append_drop->Y9,getElem?_eq_none->Za,mem_map_of_mem->Zc
open Nat renaming sub_eq_zero_of_le->YW,mul_succ->Y0,sub_pos_of_lt->Y1,le_refl->Y2,zero_add->Y4,mul_zero->Y5,mul_comm->Y8
namespace Go.Proofs.YtpejealjkmhkgaaGreatDoor
open Go.AM Go.VM
def EG(l:Bool)(v:Nat):Prop:=∀(p h b q:List FE),0<h.length->0<b.length->k8 FE.n h->k8 FE.n b->((h++b).map FE.n).Nodup->∀(o r s t:Nat),o=(p++(h++(b++q))).length->r=p.length->s=r+h.length->t=s+b.length->o<4294967296->h.length+b.length<=v->
  b1 C b7 (Mz l) [.ms 0 (ew l) 0 o o,b3 r,b3 s,b3 t,(lU l)] [.row (ew l) (dd l (p++(h++(b++q))))] fun u n=>n=[.row (ew l) (dd l (p++(cE FE.n (h++b)++q)))]/\u=.ret (.dV [])
variable{f j m:V} {a:dC->VS->Prop}
theorem AP(p:Bool)(M:Nat)(J:EG p M)(q l o s:List FE)(G:0<l.length)(E:0<o.length)(F:k8 FE.n l)(z:k8 FE.n o)(t:((l++o).map FE.n).Nodup)(n w x b:Nat)(N:List FE)(A:N=q++(l++(o++s)))(K:w=q.length)(I:x=w+l.length)(y:b=x+o.length)(H:n=q.length+(l.length+(o.length+s.length))∨n=(q++(l++(o++s))).length)(D:n<4294967296)(L:l.length+o.length<=M)(v:f=b3 w)(r:j=b3 x)(u:m=b3 b)(B:a (.ret (.dV [])) [.row (ew p) (dd p (q++(cE FE.n (l++o)++s)))]):b1 C b7 (Mz p) [.ms 0 (ew p) 0 n n,f,j,m,(lU p)] [.row (ew p) (dd p N)] a:=by
 subst v r u A;refine(J q l o s G E F z t n w x b ?_ K I y D L).mono (fun P O h=>?_)
 ·rcases H with h|h
  ·rw[h];simp
  ·exact h
 ·rw[h.1,h.2];exact B
theorem GP(h:Bool)(l o p t:List FE)(y:0<o.length)(D:0<p.length)(n u z b:Nat)(F:List FE)(v:F=l++(o++(p++t)))(A:n=l.length+(o.length+(p.length+t.length)))(E:u=l.length)(B:z=l.length+o.length)(I:b=l.length+o.length+p.length)(x:n<4294967296)(s:f=b3 u)(q:j=b3 z)(r:m=b3 b)(w:a (.ret (.dV [])) [.row (ew h) (dd h (l++(p++(o++t))))]):b1 C b7 (VF h) [.ms 0 (ew h) 0 n n,f,j,m,(lU h)] [.row (ew h) (dd h F)] a:=by
 subst s q r v;refine(EF h l o p t y D n u z b (by rw[A];simp) E B om x).mono (fun J G H=>?_);rw[H.1,H.2];exact w
def Xd:Nat->Bool:=fun b=>Nat.beq b 1000032||Nat.beq b 1000041||Nat.beq b 1000043
def Xe(o:Bool)(n r l b h p q:Nat):Tm:=[(0,.ms 0 (ew o) 0 n n),(1,b3 r),(2,b3 l),(3,b3 b),(4,(lU o)),(18,b3 h),(19,b3 (h+l)),(20,b3 p),(21,b3 q)]
def TG(o:Bool)(n q r b h p l:Nat):Tm:=[(0,.ms 0 (ew o) 0 n n),(1,b3 q),(2,b3 r),(3,b3 b),(4,(lU o)),(18,b3 h),(20,b3 p),(24,b3 l)]
def X5(o:Bool)(n r l b h p q:Nat):Tm:=[(0,.ms 0 (ew o) 0 n n),(1,b3 r),(2,b3 l),(3,b3 b),(4,(lU o)),(18,b3 h),(19,b3 (h+l)),(20,b3 p),(21,b3 q),(22,b3 (h+l-1))]
variable{d e g i:Nat}
theorem Ys(l:i=d+e-g)(b:i<=e)(h:g<=e):d-g=0:=om
theorem Yt(l:i=d+e-g)(b:i<=d)(h:g<=d):e-g=0:=om
theorem Yu(l:i=d+e-g)(b:e<i)(h:g<=e):0<d-g:=om
theorem Yv(l:i=d+e-g)(b:d<i)(h:g<=d):0<e-g:=om
abbrev Pn(h b:Nat):Int:=IntKind.i64.wrap (Int.fdiv (IntKind.u64.wrap (IntKind.i64.wrap (YL h+YL b))) (2^(min 1 IntKind.u64.bits)))
theorem GQ(r:Bool)(aP:Nat)(aX:EG r aP)(v o p A:List FE)(bL:1<o.length)(bO:1<p.length)(aI:k8 FE.n o)(aF:k8 FE.n p)(ab:((o++p).map FE.n).Nodup)(n l q b:Nat)(bK:n=(v++(o++(p++A))).length)(bI:l=v.length)(bS:q=l+o.length)(bR:b=q+p.length)(aH:n<4294967296)(bU:o.length+p.length<=aP+1):
  b1 C b7 (Mz r) [.ms 0 (ew r) 0 n n,b3 l,b3 q,b3 b,(lU r)] [.row (ew r) (dd r (v++(o++(p++A))))] fun U bz=>bz=[.row (ew r) (dd r (v++(cE FE.n (o++p)++A)))]/\U=.ret (.dV []):=by
 have aG:r=r:=rfl;cases r;all_goals
  let r:Bool:=yv aG
  have bM:n=v.length+(o.length+(p.length+A.length)):=by rw[bK];simp
  have aK:∀z∈o,∀r∈p,z.n≠r.n:=by
   intro z bC r aG bH;rw[YS,YR]at ab;exact ab.2.2 z.n (Zc bC) r.n (Zc aG) bH
  have aV:IntKind.i64.wrap (YL q-YL l)≠1:=by
   rw[e3 om om,show q-l=o.length from by omega];simp only[YQ];omega
  have aS:IntKind.i64.wrap (YL b-YL q)≠1:=by
   rw[e3 om om,show b-q=p.length from by omega];simp only[YQ];omega
  have bD:∀s (a:s<o.length),(v++(o++(p++A)))[l+s]?=some o[s]:=by
   intro s a;rw[YZ om,show l+s-v.length=s from om,Y7 a,YV a]
  have bJ:∀s (a:s<p.length),(v++(o++(p++A)))[q+s]?=some p[s]:=by
   intro s a;rw[YZ om,YZ om,show q+s-v.length-o.length=s from om,Y7 a,YV a]
  obtain⟨h,aW⟩:∃h,(l+b)/2=h:=⟨_,rfl⟩;have E:Pn l b=YL h:=by rw[<-aW];exact half om
  have j:IntKind.i64.wrap (Pn l b+YL q)=YL (h+q):=by rw[E,dg om]
  have bG:IntKind.i64.wrap (YL (h+q)-1)=YL (h+q-1):=e3 (b:=1) om om;refine b1.body Xd (fun _=>Z) ?_;refine a6 (decide_eq_false aV) ?_;refine a6 (decide_eq_false aS) ?_;refine b0 Z ?_;apply gh (ι:=Nat×Nat) (T:=fun z=>Xe r n l q b h z.1 z.2) (S:=fun _=>[.row (ew r) (dd r (v++(o++(p++A))))])
   (I:=fun z=>l<=z.1/\z.1<=z.2/\z.2<=q/\z.2<=h/\h+q<=z.1+b/\(z.1=l∨(b<=h+q/\z.1=h+q-b))/\(z.2=q∨z.2=h))
  ·intro R;apply aZ<;>intro ax
   ·have aC:h<q:=by
     have u:decide (Pn l b<YL q)=true:=ax;rw[E]at u;exact fF u
    have bB:IntKind.i64.wrap (IntKind.i64.wrap (Pn l b+YL q)-YL b)=YL (h+q-b):=by
     rw[j];exact e3 om om
    exact cF (eW:=Xe r n l q b h (h+q-b) h) (ii:=[.row (ew r) (dd r (v++(o++(p++A))))]) (.same ⟨Z,Z,Z,Z,Z,int_eq E,int_eq j,int_eq bB,int_eq E,tv⟩ Z) (R (h+q-b,h) ⟨by show l<=h+q-b;omega,by show h+q-b<=h;omega,by show h<=q;omega,Y2 _,by show h+q<=h+q-b+b;omega,.inr ⟨om,rfl⟩,.inr rfl⟩)
   ·have aC:q<=h:=by
     have u:decide (Pn l b<YL q)=false:=ax;rw[E]at u;exact dR u
    exact cF (eW:=Xe r n l q b h l q) (ii:=[.row (ew r) (dd r (v++(o++(p++A))))]) (.same ⟨Z,Z,Z,Z,Z,int_eq E,int_eq j,Z,Z,tv⟩ Z) (R (l,q) ⟨Y2 _,by show l<=q;omega,Y2 _,aC,by show h+q<=l+b;omega,.inl rfl,.inl rfl⟩)
  ·rintro⟨F,D⟩ ⟨f1,f2,f3,f4,f7,f5,f6⟩;have f1:l<=F:=f1;have f2:F<=D:=f2;have f3:D<=q:=f3;have f4:D<=h:=f4;have f7:h+q<=F+b:=f7;have f5:F=l∨(b<=h+q/\F=h+q-b):=f5;have f6:D=q∨D=h:=f6;refine cF (eW:=X5 r n l q b h F D) (ii:=[.row (ew r) (dd r (v++(o++(p++A))))]) (.same ⟨Z,Z,Z,Z,Z,Z,Z,Z,Z,int_eq bG,tv⟩ Z) ?_;refine cl.iter (fun z:Nat×Nat=>X5 r n l q b h z.1 z.2) (fun _=>[.row (ew r) (dd r (v++(o++(p++A))))]) (fun z=>z.2-z.1)
    (fun z=>F<=z.1/\z.1<=z.2/\z.2<=D/\(∀N P,F<z.1->o[z.1-1-l]?=some N->p[h-z.1]?=some P->cB N.n P.n=true)/\(∀N P,z.2<D->p[h-1-z.2]?=some N->o[z.2-l]?=some P->cB N.n P.n=true)) ?_ (F,D) ⟨Y2 _,f2,Y2 _,fun N P a=>absurd a (Nat.lt_irrefl _),fun N P a=>absurd a (Nat.lt_irrefl _)⟩
   rintro⟨s,U⟩ ⟨aN,bs,aO,ak,aj⟩;have aN:F<=s:=aN;have bs:s<=U:=bs;have aO:U<=D:=aO;have ak:∀N P,F<s->o[s-1-l]?=some N->p[h-s]?=some P->cB N.n P.n=true:=ak;have aj:∀N P,U<D->p[h-1-U]?=some N->o[U-l]?=some P->cB N.n P.n=true:=aj;apply aZ<;>intro ba
   ·have bb:s<U:=fF ba;have S:=half (i:=s) (j:=U) om;obtain⟨w,bE⟩:∃w,(s+U)/2=w:=⟨_,rfl⟩;rw[bE]at S;have bi:s<=w:=om;have bA:w<U:=om;have av:h-1-w<p.length:=om;have an:w-l<o.length:=om;have ap:=bJ (h-1-w) av;have ao:=bD (w-l) an;have e:p[h-1-w]?=some p[h-1-w]:=YV av;have aa:o[w-l]?=some o[w-l]:=YV an;have c:=aK o[w-l] (List.getElem_mem _) p[h-1-w] (List.getElem_mem _);generalize o[w-l]=N at ao aa c;generalize p[h-1-w]=P at ap e c;have aw:nth (dd r (v++(o++(p++A)))) (0+(q+(h-1-w)))=some ((wI r P).map V.d):=by rw[Y4];exact gL ap
    have ay:nth (dd r (v++(o++(p++A)))) (0+w)=some ((wI r N).map V.d):=by rw[Y4,show w=l+(w-l)from by omega];exact gL ao
    have au:q+(h-1-w)<n:=om;have aD:w<n:=om;have aE:IntKind.i64.wrap (YL (h+q-1)-IntKind.i64.wrap (Int.fdiv (IntKind.u64.wrap (IntKind.i64.wrap (YL s+YL U))) (2^(min 1 IntKind.u64.bits))))=YL (q+(h-1-w)):=by
     rw[S,e3 om om];congr 1;omega
    repeat first
     |refine b0 aE ?_
     |refine b0 S ?_
     |refine b0 rfl ?_
     |refine b4 _ aw ?_
     |refine b4 _ ay ?_
     |refine a1 au ?_
     |refine a1 aD ?_
     |refine b8 ?_
    refine tp r P N ?_;repeat first
     |refine b0 aE ?_
     |refine b0 S ?_
     |refine b0 rfl ?_
     |refine b4 _ aw ?_
     |refine b4 _ ay ?_
     |refine a1 au ?_
     |refine a1 aD ?_
     |refine b8 ?_
    apply aZ<;>intro bt
    ·have k:cB P.n N.n=false:=by rw[<-yx];simpa using bt
     have bj:cB N.n P.n=true:=wG _ _ k (fun a=>c a.symm);refine⟨(w+1,U),⟨by show F<=w+1;omega,bA,aO,fun aM aL _ H x=>?_,aj⟩,by show U-(w+1)<U-s;omega,.same ⟨rfl,rfl,rfl,rfl,rfl,rfl,rfl,int_eq ?_,rfl,rfl,tv⟩ rfl,rfl,rfl⟩
     ·have H:o[w+1-1-l]?=some aM:=H;have x:p[h-(w+1)]?=some aL:=x;rw[show w+1-1-l=w-l from om,aa]at H;rw[show h-(w+1)=h-1-w from om,e]at x;cases H;cases x;exact bj
     ·rw[S];exact cp om
    ·have k:cB P.n N.n=true:=by rw[<-yx];simpa using bt
     refine⟨(s,w),⟨aN,bi,by show w<=D;omega,ak,fun aM aL _ H x=>?_⟩,by show w-s<U-s;omega,.same ⟨rfl,rfl,rfl,rfl,rfl,rfl,rfl,rfl,int_eq S,rfl,tv⟩ rfl,rfl,rfl⟩;have H:p[h-1-w]?=some aM:=H;have x:o[w-l]?=some aL:=x;rw[e]at H;rw[aa]at x;cases H;cases x;exact k
   ·have bb:U<=s:=dR ba;obtain rfl:s=U:=om;have aJ:=My (key:=FE.n) aI aF ab (s-l) (h-s) om om
     (fun N P u H x=>by
      rcases Nat.lt_or_ge F s with h1|h1
      ·exact ak N P h1 (by rw[show s-1-l=s-l-1 from by omega];exact H) x
      ·exfalso;rcases f5 with h2|h2
       ·omega
       ·rw[Za om]at x;cases x)
     (fun N P u H x=>by
      rcases Nat.lt_or_ge s D with h1|h1
      ·exact aj N P h1 (by rw[show h-1-s=h-s-1 from by omega];exact H) x
      ·exfalso;rcases f6 with h2|h2
       ·rw[Za om]at x;cases x
       ·omega)
    obtain⟨X,O,M⟩:=aJ;have az:=aI.take (s-l);have ar:=aI.drop (s-l);have aA:=aF.take (h-s);have aB:=aF.drop (h-s);have L:(o.take (s-l)).length=s-l:=by simp;omega
    have y:(o.drop (s-l)).length=q-s:=by simp;omega
    have B:(p.take (h-s)).length=h-s:=by simp;omega
    have T:(p.drop (h-s)).length=b-(h+q-s):=by simp;omega
    have bg:o=o.take (s-l)++o.drop (s-l):=(Y9 _ _).symm;have bu:p=p.take (h-s)++p.drop (h-s):=(Y9 _ _).symm;have ad:((o.take (s-l)).map FE.n).Nodup:=by rw[YS,YR]at O;exact O.1
    have af:((p.take (h-s)).map FE.n).Nodup:=by rw[YS,YR]at O;exact O.2.1
    have al:((o.drop (s-l)).map FE.n).Nodup:=by rw[YS,YR]at M;exact M.1
    have ag:((p.drop (h-s)).map FE.n).Nodup:=by rw[YS,YR]at M;exact M.2.1
    have W:v++(o++(p++A))=v++(o.take (s-l)++(o.drop (s-l)++(p.take (h-s)++(p.drop (h-s)++A)))):=by
     conv=>lhs;rw[bg,bu]
     simp only[YO]<;>first|exact rfl|exact⟨rfl,rfl⟩
    obtain⟨t,Q⟩:∃t,t=h+q-s:=⟨_,rfl⟩;have G:IntKind.i64.wrap (YL (h+q)-YL s)=YL t:=by rw[e3 om om,Q]
    have Y:(v++(o.take (s-l))).length=s:=by rw[YN,L];omega
    have aq:((p.drop (h-s))++A).length=b-(h+q-s)+A.length:=by rw[YN,T]
    have aU:((o.drop (s-l))++((p.drop (h-s))++A)).length=q-s+(b-(h+q-s)+A.length):=by rw[YN,y,aq]
    have br:(v++cE FE.n ((o.take (s-l))++(p.take (h-s)))).length=h:=by rw[YN,lS,YN,L,B];omega
    have aT:s<=h:=om;have bl:s<=q:=om;have aR:s=(v++(o.take (s-l))).length:=Y.symm;have bc:q=(v++(o.take (s-l))).length+((o.drop (s-l))).length:=by rw[Y,y];omega
    have bv:t=(v++(o.take (s-l))).length+((o.drop (s-l))).length+((p.take (h-s))).length:=by rw[Y,y,B];omega
    have bx:n=(v++(o.take (s-l))).length+(((o.drop (s-l))).length+(((p.take (h-s))).length+((p.drop (h-s))++A).length)):=by rw[Y,y,B,aq];omega
    have bw:s=l+((o.take (s-l))).length:=by rw[L];omega
    have bf:h=s+((p.take (h-s))).length:=by rw[B];omega
    have bn:n=v.length+(((o.take (s-l))).length+(((p.take (h-s))).length+((o.drop (s-l))++((p.drop (h-s))++A)).length)):=by rw[L,B,aU];omega
    have aQ:((o.take (s-l))).length+((p.take (h-s))).length<=aP:=by rw[L,B];omega
    have bh:h=(v++cE FE.n ((o.take (s-l))++(p.take (h-s)))).length:=br.symm;have bo:t=h+((o.drop (s-l))).length:=by rw[y];omega
    have aY:b=t+((p.drop (h-s))).length:=by rw[T];omega
    have bk:n=(v++cE FE.n ((o.take (s-l))++(p.take (h-s)))).length+(((o.drop (s-l))).length+(((p.drop (h-s))).length+A.length)):=by rw[br,y,T];omega
    have bq:((o.drop (s-l))).length+((p.drop (h-s))).length<=aP:=by rw[y,T];omega
    apply gh (ι:=Unit) (T:=fun _=>TG r n l q b h s t) (S:=fun _=>[.row (ew r) (dd r (v++((o.take (s-l))++((p.take (h-s))++((o.drop (s-l))++((p.drop (h-s))++A))))))]) (I:=fun _=>True)
    ·intro R;apply aZ<;>intro ah
     ·have m:s<q:=fF ah;repeat refine a8 ah ?_
      apply aZ<;>intro ae
      ·have g:q<t:=by rw[G]at ae;exact fF ae
       repeat refine dX ?_
       refine GP r (v++(o.take (s-l))) (o.drop (s-l)) (p.take (h-s)) ((p.drop (h-s))++A) (by rw[y];exact Y1 m) (by rw[B];exact Yu Q g bl) n s q t _ (by rw[W];simp only[YO]) bx aR bc bv aH rfl rfl (vi G) ?_;refine cF (eW:=TG r n l q b h s t) (ii:=[.row (ew r) (dd r (v++((o.take (s-l))++((p.take (h-s))++((o.drop (s-l))++((p.drop (h-s))++A))))))]) (.same ⟨Z,Z,Z,Z,Z,Z,Z,int_eq G,tv⟩ (by simp only[YO])) (R () trivial)
      ·have g:t<=q:=by rw[G]at ae;exact dR ae
       repeat refine dX ?_
       refine cF (eW:=TG r n l q b h s t) (ii:=[.row (ew r) (dd r (v++((o.take (s-l))++((p.take (h-s))++((o.drop (s-l))++((p.drop (h-s))++A))))))]) (.same ⟨Z,Z,Z,Z,Z,Z,Z,int_eq G,tv⟩ ?_) (R () trivial);have u:(p.take (h-s))=[]:=YM (by rw[B];exact Ys Q g bl);rw[u]at W⊢;rw[W];rfl
     ·have m:q<=s:=dR ah;repeat refine a6 ah ?_
      refine cF (eW:=TG r n l q b h s t) (ii:=[.row (ew r) (dd r (v++((o.take (s-l))++((p.take (h-s))++((o.drop (s-l))++((p.drop (h-s))++A))))))]) (.same ⟨Z,Z,Z,Z,Z,Z,Z,int_eq G,tv⟩ ?_) (R () trivial);have u:(o.drop (s-l))=[]:=YM (by rw[y];exact YW m);rw[u]at W⊢;rw[W];rfl
    ·intro _ _;apply gh (ι:=Unit) (T:=fun _=>TG r n l q b h s t) (S:=fun _=>[.row (ew r) (dd r (v++(cE FE.n ((o.take (s-l))++(p.take (h-s)))++((o.drop (s-l))++((p.drop (h-s))++A)))))]) (I:=fun _=>True)
     ·intro R;apply aZ<;>intro ai
      ·have ac:l<s:=fF ai;repeat refine a8 ai ?_
       apply aZ<;>intro bp
       ·have f:s<h:=fF bp;repeat refine dX ?_
        refine AP r aP aX v (o.take (s-l)) (p.take (h-s)) ((o.drop (s-l))++((p.drop (h-s))++A)) (by rw[L];exact Y1 ac) (by rw[B];exact Y1 f) az aA O n l s h _ rfl bI bw bf (.inl bn) aH aQ rfl rfl rfl ?_;refine cF (eW:=TG r n l q b h s t) (ii:=[.row (ew r) (dd r (v++(cE FE.n ((o.take (s-l))++(p.take (h-s)))++((o.drop (s-l))++((p.drop (h-s))++A)))))]) (.same ⟨Z,Z,Z,Z,Z,Z,Z,Z,tv⟩ Z) (R () trivial)
       ·have f:h<=s:=dR bp;repeat refine dX ?_
        refine cF (eW:=TG r n l q b h s t) (ii:=[.row (ew r) (dd r (v++(cE FE.n ((o.take (s-l))++(p.take (h-s)))++((o.drop (s-l))++((p.drop (h-s))++A)))))]) (.same ⟨Z,Z,Z,Z,Z,Z,Z,Z,tv⟩ ?_) (R () trivial);have u:(p.take (h-s))=[]:=YM (by rw[B];exact YW f);rw[u,YP,lT ad (List.Perm.refl _) az];rfl
      ·have ac:s<=l:=dR ai;repeat refine a6 ai ?_
       refine cF (eW:=TG r n l q b h s t) (ii:=[.row (ew r) (dd r (v++(cE FE.n ((o.take (s-l))++(p.take (h-s)))++((o.drop (s-l))++((p.drop (h-s))++A)))))]) (.same ⟨Z,Z,Z,Z,Z,Z,Z,Z,tv⟩ ?_) (R () trivial);have u:(o.take (s-l))=[]:=YM (by rw[L];exact YW ac);rw[u];simp only[Y6];rw[lT af (List.Perm.refl _) aA]
     ·intro _ _;apply aZ<;>intro am
      ·have i:h<t:=fF am;repeat refine a8 am ?_
       apply aZ<;>intro bm
       ·have d:t<b:=fF bm;repeat refine dX ?_
        refine AP r aP aX (v++cE FE.n ((o.take (s-l))++(p.take (h-s)))) (o.drop (s-l)) (p.drop (h-s)) A (by rw[y];exact Yv Q i aT) (by rw[T,<-Q];exact Y1 d) ar aB M n h t b _ (by simp only[YO]) bh bo aY (.inl bk) aH bq rfl rfl rfl ?_;refine⟨?_,Z⟩;rw[X];simp only[YO]<;>first|exact rfl|exact⟨rfl,rfl⟩
       ·have d:b<=t:=dR bm;repeat refine dX ?_
        refine⟨?_,Z⟩;have u:(p.drop (h-s))=[]:=YM (by rw[T,<-Q];exact YW d);rw[X,u,YP,lT al (List.Perm.refl _) ar];simp only[YO,Y6]<;>first|exact rfl|exact⟨rfl,rfl⟩
      ·have i:t<=h:=dR am;repeat refine a6 am ?_
       refine⟨?_,Z⟩;have u:(o.drop (s-l))=[]:=YM (by rw[y];exact Yt Q i aT);rw[X,u];simp only[Y6];rw[lT ag (List.Perm.refl _) aB];simp only[YO]<;>first|exact rfl|exact⟨rfl,rfl⟩
theorem Po(F:Bool):∀s,EG F s:=by
 intro s;induction s with
 |zero=>intro z r u A x v _ _ _ C B E D _ _ _ _ _ y;omega
 |succ s K=>
  intro z r u A x v w q b C B E D n p o h l y;by_cases t:r.length=1
  ·obtain⟨H,J,rfl⟩:=CW r x;have:J=[]:=YM (by simpa using t);subst this;exact GN F z H u A q b C B E D n p o h l
  ·by_cases G:u.length=1
   ·obtain⟨H,I,rfl⟩:=CW u v;have:I=[]:=YM (by simpa using G);subst this;exact GO F z r H A t w b C B E D n p o h l
   ·exact GQ F s K z r u A om om w q b C B E D n p o h l y
theorem wa(h:Bool)(t l o w:List FE)(G:0<l.length)(E:0<o.length)(F:k8 FE.n l)(y:k8 FE.n o)(q:((l++o).map FE.n).Nodup)(n u v b:Nat)(B:List FE)(z:B=t++(l++(o++w)))(H:n=B.length)(J:u=t.length)(I:v=u+l.length)(x:b=v+o.length)(D:n<4294967296)(s:f=b3 u)(p:j=b3 v)(r:m=b3 b)(A:a (.ret (.dV [])) [.row (ew h) (dd h (t++(cE FE.n (l++o)++w)))]):b1 C b7 (Mz h) [.ms 0 (ew h) 0 n n,f,j,m,(lU h)] [.row (ew h) (dd h B)] a:=by
 subst s p r z;refine(Po h _ t l o w G E F y q n u v b H J I x D (Y2 _)).mono (fun M K L=>?_);rw[L.1,L.2];exact A
theorem Pp(h:Bool)(l o s:List FE)(p:(o.map FE.n).Nodup)(n t b:Nat)(x:List FE)(v:x=l++(o++s))(z:n=x.length)(A:t=l.length)(u:b=l.length+o.length)(y:n<4294967296)(r:f=b3 t)(q:j=b3 b)(w:a (.ret (.dV [])) [.row (ew h) (dd h (l++(cE FE.n o++s)))]):
  b1 C b7 (VG h) [.ms 0 (ew h) 0 n n,f,j,(lU h)] [.row (ew h) (dd h x)] a:=by
 subst r q v;refine(y4 h l o s p n t b z A u y).mono (fun E B D=>?_);rw[D.1,D.2];exact w
def lV(l:Nat)(h:List (List FE)):Prop:=∀b∈h,b.length=l/\k8 FE.n b
variable{c:List (List FE)}
theorem lV.len(p:lV d c):c.flatten.length=d*c.length:=by
 induction c with
 |nil=>simp
 |cons o c b=>
  have n:=p o sm;have h:=b (fun o l=>p o (by simp[l]));simp only[YT,YN,YU,n.1,h,Y0];omega
theorem lV.snoc{l:List FE}(p:lV d c)(n:l.length=d)(h:k8 FE.n l):lV d (c++[l]):=by
 intro o b;rcases List.mem_append.1 b with b|b
 ·exact p o b
 ·simp at b;subst b;exact⟨n,h⟩
def WL(h:Bool)(n o l b:Nat):Tm:=[(0,.ms 0 (ew h) 0 n n),(1,b3 n),(2,(lU h)),(6,b3 o),(7,b3 l),(8,b3 b)]
theorem tq{A h B:List FE}(b:((A++(h++B)).map FE.n).Nodup):(h.map FE.n).Nodup:=by
 rw[YS,YS,YR]at b;exact(YR.1 b.2.1).1
theorem EH(r:Bool)(xs:List FE)(S:(xs.map FE.n).Nodup)(n:Nat)(T:n=xs.length)(K:n<4294967296):
  b1 C b7 (Xa r) [.ms 0 (ew r) 0 n n,b3 n,(lU r)] [.row (ew r) (dd r xs)] fun am ab=>ab=[.row (ew r) (dd r (cE FE.n xs))]/\am=.ret (.dV []):=by
 have aj:r=r:=rfl;cases r;all_goals
  let r:Bool:=yv aj
  refine b9 ?_;refine cF (eW:=WL r n 20 (20*([]:List (List FE)).length) (20*([]:List (List FE)).length+20)) (ii:=[.row (ew r) (dd r (([]:List (List FE)).flatten++xs))]) (.same ⟨Z,Z,Z,Z,Z,Z,tv⟩ Z) ?_;refine cl.iter (fun q:List (List FE)×List FE=>WL r n 20 (20*q.1.length) (20*q.1.length+20)) (fun q=>[.row (ew r) (dd r (q.1.flatten++q.2))]) (fun q=>q.2.length)
   (fun q=>lV 20 q.1/\(q.1.flatten++q.2).Perm xs) ?_ ([],xs) ⟨by intro ag K;simp at K,by simp⟩
  rintro⟨u,o⟩ ⟨x,h⟩;have x:lV 20 u:=x;have h:(u.flatten++o).Perm xs:=h;have J:=x.len;have w:n=20*u.length+o.length:=by rw[T,<-h.length_eq,YN,J]
  have B:=va (key:=FE.n) h S;apply aZ<;>intro N
  ·have H:20*u.length+20<=n:=CL N;obtain⟨s,M,rfl,L⟩:=Jh o 20 om;have t:=tq B;refine Pp r u.flatten s M t n (20*u.length) (20*u.length+20) _ Z (by rw[T,<-h.length_eq]) J.symm om om rfl rfl ?_;refine⟨(u++[cE FE.n s],M),⟨x.snoc (by rw[lS,L]) (hL t),?_⟩,by show M.length<(s++M).length;rw[YN];omega,.same ⟨rfl,rfl,rfl,rfl,int_eq ?_,int_eq ?_,tv⟩ ?_,rfl,rfl⟩
   ·show((u++[cE FE.n s]).flatten++M).Perm xs;refine List.Perm.trans ?_ h;simp only[YY,YT,Y3,YP,YO];exact List.Perm.append_left _ ((dG s).append_right _)
   ·show YL (20*u.length+20)=YL (20*(u++[cE FE.n s]).length);rw[YN];rfl
   ·show IntKind.i64.wrap (YL (20*u.length+20)+20)=YL (20*(u++[cE FE.n s]).length+20);rw[YN];exact dg (b:=20) om
   ·show _=[cL.row (ew r) (dd r ((u++[cE FE.n s]).flatten++M))];simp only[YY,YT,Y3,YP,YO]
  ·have H:n<20*u.length+20:=wc N;have G:(o.map FE.n).Nodup:=by
    have:((u.flatten++(o++[])).map FE.n).Nodup:=by rw[YP];exact B
    exact tq this
   refine Pp r u.flatten o [] G n (20*u.length) n _ (by rw[YP]) (by rw[T,<-h.length_eq]) J.symm om om rfl rfl ?_;have X:(cE FE.n o).length=o.length:=lS o;have O:(u.flatten++cE FE.n o).Perm xs:=(List.Perm.append_left _ (dG o)).trans h;have v:=hL (key:=FE.n) G;generalize cE FE.n o=j at X O v;refine cF (eW:=[(0,.ms 0 (ew r) 0 n n),(1,b3 n),(2,(lU r)),(6,b3 20)]) (ii:=[.row (ew r) (dd r (u.flatten++j))]) (.same ⟨Z,Z,Z,Z,tv⟩ (by rw[YP])) ?_;refine cl.iter (fun q:Nat×List (List FE)×List FE=>[(0,.ms 0 (ew r) 0 n n),(1,b3 n),(2,(lU r)),(6,b3 q.1)]) (fun q=>[.row (ew r) (dd r (q.2.1.flatten++q.2.2))]) (fun q=>n-q.1)
    (fun q=>0<q.1/\q.1<8589934592/\lV q.1 q.2.1/\k8 FE.n q.2.2/\q.2.2.length<q.1/\(q.2.1.flatten++q.2.2).Perm xs) ?_ (20,u,j) ⟨by show 0<20;omega,by show 20<8589934592;omega,x,v,by show j.length<20;omega,O⟩
   clear h B G w H N X O v J x;rintro⟨b,u,o⟩ ⟨m,W,x,v,c,h⟩;have m:0<b:=m;have W:b<8589934592:=W;have x:lV b u:=x;have v:k8 FE.n o:=v;have c:o.length<b:=c;have h:(u.flatten++o).Perm xs:=h;have J:=x.len;have w:n=b*u.length+o.length:=by rw[T,<-h.length_eq,YN,J]
   apply aZ<;>intro N
   ·have H:b<n:=fF N;have Y:IntKind.i64.wrap (2*YL b)=YL (2*b):=by
     rw[show(2:Int)*YL b=YL (2*b)from rfl,wrap64 (by simp only[YQ];omega) (by simp only[YQ];omega)]
    have aa:IntKind.i64.wrap (2*YL b)=YL (2*b*([]:List (List FE)).length+2*b):=by
     rw[Y];simp
    refine cF (eW:=WL r n b (2*b*([]:List (List FE)).length) (2*b*([]:List (List FE)).length+2*b)) (ii:=[.row (ew r) (dd r (([]:List (List FE)).flatten++(u.flatten++o)))]) (.same ⟨Z,Z,Z,Z,Z,int_eq aa,tv⟩ Z) ?_;refine cl.iter (fun q:List (List FE)×List (List FE)=>WL r n b (2*b*q.1.length) (2*b*q.1.length+2*b)) (fun q=>[.row (ew r) (dd r (q.1.flatten++(q.2.flatten++o)))]) (fun q=>q.2.length)
     (fun q=>lV (2*b) q.1/\lV b q.2/\(q.1.flatten++(q.2.flatten++o)).Perm xs) ?_ ([],u) ⟨by intro ag K;simp at K,x,by simpa using h⟩
    rintro⟨l,p⟩ ⟨y,z,h⟩;have y:lV (2*b) l:=y;have z:lV b p:=z;have h:(l.flatten++(p.flatten++o)).Perm xs:=h;have a:=y.len;have ae:=z.len;obtain⟨A,V⟩:∃A,2*b*l.length=A:=⟨_,rfl⟩;have B:=va (key:=FE.n) h S;have R:n=(l.flatten++(p.flatten++o)).length:=by rw[T,<-h.length_eq]
    have w:n=A+(b*p.length+o.length):=by rw[R,YN,YN,a,ae,V]
    have f:A=l.flatten.length:=by rw[a,V]
    dsimp only;rw[V];apply aZ<;>intro k
    ·have ad:A+2*b<=n:=CL k;cases p with
     |nil=>simp only[YX,Y5]at w;omega
     |cons s p=>
      cases p with
      |nil=>simp only[YU,YX,Y0,Y5]at w;omega
      |cons I p=>
       have L:=z s sm;have ak:=z I sm;have E:l.flatten++((s::I::p).flatten++o)=l.flatten++(s++(I++(p.flatten++o))):=by simp only[YT,YO]
       have t:((s++I).map FE.n).Nodup:=by
        refine tq (A:=l.flatten) (B:=p.flatten++o) ?_;rw[YO,<-E];exact B
       have D:IntKind.i64.wrap (YL A+YL b)=YL (A+b):=dg om;refine wa r l.flatten s I (p.flatten++o) om om L.2 ak.2 t n A (A+b) (A+2*b) _ E R f om om om Z (vi D) Z ?_;have g:(cE FE.n (s++I)).length=2*b:=by rw[lS,YN];omega
       have ac:2*b*(l++[cE FE.n (s++I)]).length=A+2*b:=by
        rw[YN,List.length_singleton,Nat.mul_add,V,Nat.mul_one]
       refine⟨(l++[cE FE.n (s++I)],p),⟨y.snoc g (hL t),fun ag K=>z ag (by simp[K]),?_⟩,by show p.length<p.length+1+1;omega,.same ⟨rfl,rfl,rfl,rfl,int_eq ?_,int_eq ?_,tv⟩ ?_,rfl,rfl⟩
       ·show((l++[cE FE.n (s++I)]).flatten++(p.flatten++o)).Perm xs;refine List.Perm.trans ?_ h;rw[E];simp only[YY,YT,Y3,YP,YO];rw[<-YO s];exact List.Perm.append_left _ ((dG (s++I)).append_right _)
       ·show YL (A+2*b)=YL (2*b*(l++[cE FE.n (s++I)]).length);rw[ac]
       ·show IntKind.i64.wrap (YL (A+2*b)+IntKind.i64.wrap (2*YL b))=YL (2*b*(l++[cE FE.n (s++I)]).length+2*b);rw[ac,Y];exact dg om
       ·show _=[cL.row (ew r) (dd r ((l++[cE FE.n (s++I)]).flatten++(p.flatten++o)))];simp only[YY,YT,Y3,YP,YO]
    ·have ad:n<A+2*b:=wc k;have Q:IntKind.i64.wrap (YL b*2)=YL (b*2):=by
      rw[show YL b*(2:Int)=YL (b*2)from rfl,wrap64 (by simp only[YQ];omega) (by simp only[YQ];omega)]
     have D:IntKind.i64.wrap (YL A+YL b)=YL (A+b):=dg om;cases p with
     |nil=>
      simp only[YX,Y5,Y4]at w;have F:¬(A+b<n):=om;refine a6 (by rw[D];exact decide_eq_false (fun al=>F (Zb.1 al))) ?_;refine⟨(b*2,l,o),⟨by show 0<b*2;omega,by show b*2<8589934592;omega,by rw[Y8];exact y,v,by show o.length<b*2;omega,h⟩,by show n-b*2<n-b;omega,.same ⟨rfl,rfl,rfl,int_eq Q,tv⟩ rfl,rfl,rfl⟩
     |cons s p=>
      cases p with
      |cons I p=>simp only[YU,Y0]at w;omega
      |nil=>
       have L:=z s sm;simp only[YU,YX,Y0,Y5,Y4]at w;have E:l.flatten++([s].flatten++o)=l.flatten++(s++(o++[])):=by simp
       by_cases U:0<o.length
       ·have F:A+b<n:=om;refine a8 (by rw[D];exact decide_eq_true (Zb.2 F)) ?_;have t:((s++o).map FE.n).Nodup:=by
         refine tq (A:=l.flatten) (B:=[]) ?_;rw[YO,<-E];exact B
        refine wa r l.flatten s o [] om U L.2 v t n A (A+b) n _ E R f om om om Z (vi D) Z ?_;have g:(cE FE.n (s++o)).length=b+o.length:=by rw[lS,YN];omega
        refine⟨(b*2,l,cE FE.n (s++o)),⟨by show 0<b*2;omega,by show b*2<8589934592;omega,by rw[Y8];exact y,hL t,by show(cE FE.n (s++o)).length<b*2;omega,?_⟩,by show n-b*2<n-b;omega,.same ⟨rfl,rfl,rfl,int_eq Q,tv⟩ (by rw[YP]),rfl,rfl⟩;show(l.flatten++cE FE.n (s++o)).Perm xs;refine List.Perm.trans ?_ h;rw[E,YP];exact List.Perm.append_left _ (dG (s++o))
       ·have P:o=[]:=YM om;have F:¬(A+b<n):=by rw[P]at w;simp only[YX]at w;omega
        refine a6 (by rw[D];exact decide_eq_false (fun al=>F (Zb.1 al))) ?_;refine⟨(b*2,l,s),⟨by show 0<b*2;omega,by show b*2<8589934592;omega,by rw[Y8];exact y,L.2,by show s.length<b*2;omega,?_⟩,by show n-b*2<n-b;omega,.same ⟨rfl,rfl,rfl,int_eq Q,tv⟩ (by rw[E,P,YP,YP]),rfl,rfl⟩;show(l.flatten++s).Perm xs;rw[E,P,YP,YP]at h;exact h
   ·have H:n<=b:=dR N;refine⟨?_,Z⟩;have ai:k8 FE.n (u.flatten++o):=by
     cases u with
     |nil=>simpa using v
     |cons ag u=>
      have ah:=x ag sm;simp only[YU,Y0]at w;have U:o=[]:=YM om;have af:u=[]:=by
       cases u with
       |nil=>rfl
       |cons ap u=>simp only[YU,Y0]at w;omega
      subst U af;simpa using ah.2
    rw[yt S h ai]
theorem yy(b:Bool)(xs:List FE)(l:(xs.map FE.n).Nodup)(n:Nat)(q:n=xs.length)(p:n<4294967296):
  b1 C b7 (Xb b) [.ms 0 (ew b) 0 n n,(lU b)] [.row (ew b) (dd b xs)] fun r h=>h=[.row (ew b) (dd b (cE FE.n xs))]/\r=.ret (.dV []):=by
 have o:b=b:=rfl;cases b;all_goals
  let b:Bool:=yv o
  refine b9 ?_;refine(EH b xs l n q p).mono (fun r h s=>?_);rw[s.1,s.2];exact⟨Z,Z⟩
variable{k:VS}
theorem kG(xs:List FE)(s:(xs.map FE.n).Nodup)(v:xs.length<4294967296)(n:Nat)(t:n=xs.length)(l:Nat)(h:nth k l=some (.row 7 (rows xs))) 
  (p:a (.ret (.ms l 7 0 n n)) (k.set l (.row 7 (rows (cE FE.n xs))))):b1 C b7 rp [.ms l 7 0 n n] k a:=by
 refine b9 ?_;refine AO (dN:=[.ms 0 7 0 n n,lU false]) (P:=fun q b=>b=rows (cE FE.n xs)/\q=.ret (.dV [])) ((yy false xs s n t om).mono fun q u r=>?_) l h (yu xs) Z Z (fun q b r=>?_)
 ·obtain⟨rfl,rfl⟩:=r;exact⟨_,Z,Z,yu _,Z,Z⟩
 ·obtain⟨rfl,rfl⟩:=r;exact p
theorem Jk(b:a (.ret (.d .cn)) k):b1 C b7 rp [.d .cn] k a:=by
 refine b9 ?_;refine b9 ?_;refine b9 ?_;refine cl.loop ?_;refine b9 ?_;refine cl.loop ?_;refine cl.loop ?_;exact b
end Go.Proofs.YtpejealjkmhkgaaGreatDoor
