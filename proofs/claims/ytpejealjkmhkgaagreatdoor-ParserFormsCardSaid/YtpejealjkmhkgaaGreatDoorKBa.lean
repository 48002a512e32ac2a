/- Part of the proof. -/
import Derived.Test.YtpejealjkmhkgaaGreatDoorKAz
set_option linter.all false
set_option maxHeartbeats 16000000
set_option maxRecDepth 100000
open Int renaming ofNat->abK,ofNat_eq_natCast->aeP,fdiv->ae5
open List renaming getElem?_eq_getElem->abL,eq_nil_of_length_eq_zero->aet,append_assoc->aeu,nodup_append->aeM,nil_append->aeN,length_append->aeO,map_append->aeQ,cons_append->aeS,mem_map_of_mem->aeT,getElem?_eq_none->aeV,getElem?_append_right->aeW,drop_eq_getElem_cons->aeX,getElem_mem->aeZ,take_append_drop->ae0,getElem?_set_ne->ae1,take_add_one->ae3,getElem?_append_left->ae4
open Nat renaming zero_add->aev,le_refl->aeR,sub_eq_zero_of_le->aeU,sub_pos_of_lt->aeY,lt_irrefl->ae2,zero_le->ae6
namespace Go.Proofs.YtpejealjkmhkgaaGreatDoor
open Go.AM Go.VM
theorem aaQ(a b:cq):C.ext fg ([D.str a,D.str b].map cz)=some (cz (.int .i64 (yw a b))):=by
 exact aeE
theorem Mv(a b:cq){σ:VS}{K:cO->VS->Prop}(f:K (.ret (.d (.int .i64 (yw a b)))) σ):bV C ca qS [cn a,cn b] σ K:=by
 refine cj ?_;refine cj ?_;refine xE (.int .i64 (yw a b)) (aaQ a b) Z ?_;exact f
theorem Bc{a b:cq}:decide (yw a b<0)=cE a b:=by
 rw[yw];cases cE a b with
 |true=>rfl
 |false=>cases l8 a b<;>rfl
theorem vP(a:Bool)(f b:FE){σ:VS}{K:cO->VS->Prop}(g:K (.ret (.d (.int .i64 (yw f.n b.n)))) σ):bV C ca (match a with|false=>qR|true=>tx) [elw a f,elw a b] σ K:=by
 cases a;all_goals
  refine cC ?_ Z Z g;refine cm ?_;refine Mv f.n b.n ?_;refine cU.drop 0 ?_ ?_ ?_ ?_
  ·exact Z
  ·exact Z
  ·exact Z
  exact cU.now Z ⟨Z,Z⟩
def acG(a:Bool)(n f b g:Nat):Tm:=[(0,.ms 0 (ew a) 0 n n),(1,bW f),(2,bW b),(3,(nz a)),(8,bW g)]
def ZK(a:Bool)(n f b h g:Nat):Tm:=[(0,.ms 0 (ew a) 0 n n),(1,bW f),(2,bW b),(3,(nz a)),(8,bW h),(9,bW g)]
theorem BG(h:Bool)(p f s:List FE)(ag:(f.map FE.n).Nodup)(n l b:Nat)(an:n=(p++(f++s)).length)(c:l=p.length)(ax:b=p.length+f.length)(az:n<4294967296):
  bV C ca (acF h) [.ms 0 (ew h) 0 n n,bW l,bW b,(nz h)] [.row (ew h) (dg h (p++(f++s)))] fun aw ai=>ai=[.row (ew h) (dg h (p++(cG FE.n f++s)))]/\aw=.ret (.dS []):=by
 have hw:h=h:=rfl;cases h;all_goals
  let h:Bool:=Ba hw
  have aq:n=p.length+(f.length+s.length):=by rw[an];simp
  refine cj ?_;have ao:cG FE.n (f.take 1)=f.take 1:=by cases f<;>rfl
  refine cw (dB:=acG h n l b (l+1)) (fU:=[.row (ew h) (dg h (p++(cG FE.n (f.take 1)++(f.drop 1++s))))]) (.same ⟨Z,Z,Z,Z,int_eq (cp om),tv⟩ ?_) ?_
  ·show [cN.row (ew h) (dg h (p++(f++s)))]=_;rw[ao,<-aeu (f.take 1),ae0]
  refine cd.iter (fun g:Nat=>acG h n l b (l+g)) (fun g=>[.row (ew h) (dg h (p++(cG FE.n (f.take g)++(f.drop g++s))))]) (fun g=>f.length-g) (fun g=>1<=g/\(g<=f.length∨g=1)) ?_ 1 ⟨aeR _,.inr Z⟩;rintro g ⟨av,au⟩;apply aZ<;>intro ak
  ·have q:g<f.length:=by have:=ee ak;omega
   have P:f[g]?=some f[g]:=abL q;have z:f.take (g+1)=f.take g++[f[g]]:=by rw[ae3,P];rfl
   have N:f.drop g=f[g]::f.drop (g+1):=aeX q;have r:((f.take (g+1)).map FE.n).Nodup:=by
    have:(f.take (g+1)).map FE.n=(f.map FE.n).take (g+1):=by rw[List.map_take]
    rw[this];exact(List.take_sublist _ _).nodup ag
   generalize f[g]=o at z N P;have Y:((f.take g).map FE.n).Nodup:=by rw[z,aeQ,aeM]at r;exact r.1
   have aa:∀j∈f.take g,j.n≠o.n:=by
    intro j U ap;rw[z,aeQ,aeM]at r;exact r.2.2 j.n (aeT U) o.n sm ap
   have F:=iG (key:=FE.n) Y;have M:=dE (key:=FE.n) (f.take g);have D:(cG FE.n (f.take g)).length=g:=by rw[nx];simp;omega
   have L:∀j∈cG FE.n (f.take g),j.n≠o.n:=fun j U=>aa j (M.subset U);have x:∀m i,m++i=cG FE.n (f.take g)->(∀j∈m,cE j.n o.n=true)->(∀j∈i,cE o.n j.n=true)->cG FE.n (f.take (g+1))=m++o::i:=by
    intro m i k al v;refine ny r ?_ (JT (by rw[k];exact F) al v);rw[z];refine(JU m i o).trans ?_;rw[k];exact M.append_right _
   generalize cG FE.n (f.take g)=Q at F D L x;have ar:(f.drop (g+1)).length=f.length-(g+1):=by simp
   refine cw (dB:=ZK h n l b (l+g) (l+Q.length)) (fU:=[.row (ew h) (dg h (p++(Q++(o::([]++(f.drop (g+1)++s))))))]) (.same ⟨Z,Z,Z,Z,Z,by rw[D];rfl,tv⟩ ?_) ?_
   ·show [cN.row (ew h) (dg h (p++(Q++(f.drop g++s))))]=_;rw[N];rfl
   refine cd.iter (fun J:List FE×List FE=>ZK h n l b (l+g) (l+J.1.length)) (fun J=>[.row (ew h) (dg h (p++(J.1++(o::(J.2++(f.drop (g+1)++s))))))]) (fun J=>J.1.length) (fun J=>J.1++J.2=Q/\∀j∈J.2,cE o.n j.n=true) ?_ (Q,[]) ⟨by simp,by simp⟩;rintro⟨m,i⟩ ⟨k,v⟩;have k:m++i=Q:=k;have v:∀j∈i,cE o.n j.n=true:=v;have T:m.length+i.length=g:=by rw[<-D,<-k];simp
   apply aZ<;>intro u
   ·have E:0<m.length:=by have:l<l+m.length:=ee u;omega
    obtain⟨a,j,rfl⟩:=Tx m E;have K:(a++[j]).length=a.length+1:=by simp
    have am:p++((a++[j])++(o::(i++(f.drop (g+1)++s))))=(p++a)++j::([]++o::(i++(f.drop (g+1)++s))):=by simp only[aeu,aeS,aeN]
    have aj:p++(a++(o::((j::i)++(f.drop (g+1)++s))))=(p++a)++o::([]++j::(i++(f.drop (g+1)++s))):=by simp only[aeu,aeS,aeN]
    have O:l+a.length=(p++a).length:=by simp[c]
    have R:=sO (p++a) ([]++o::(i++(f.drop (g+1)++s))) j (l+a.length) O;have e:=za (p++a) [] (i++(f.drop (g+1)++s)) j o (l+(a.length+1)) (by simp[c];omega);have gs:=JS (p++a) [] (i++(f.drop (g+1)++s)) j o (l+a.length) (l+(a.length+1)) O (by simp[c];omega);rw[<-am]at R e gs;rw[<-aj]at gs;have I:l+(a.length+1)<n:=by rw[K]at T;omega
    have G:l+a.length<n:=om;have ab:j∈Q:=by rw[<-k];simp
    have d:=L j ab;have S:mw FE.n (a++[j]):=by
     have:=F;rw[<-k]at this;exact(List.pairwise_append.1 this).1
    dsimp only at u⊢;rw[K]at u⊢;generalize W:p++((a++[j])++(o::(i++(f.drop (g+1)++s))))=A at R e gs⊢;have B:IntKind.i64.wrap (abK (l+(a.length+1))-1)=abK (l+a.length):=by
     have:=fs (a:=l+(a.length+1)) (b:=1) om om;rw[show l+(a.length+1)-1=l+a.length from by omega]at this;exact this
    have y:nth (dg h A) (0+(l+(a.length+1)))=some ((zb h o).map V.d):=by rw[aev];exact gY e
    have t:nth (dg h A) (0+(l+a.length))=some ((zb h j).map V.d):=by rw[aev];exact gY R
    have w:nth ((dg h A).set (0+(l+(a.length+1))) ((zb h j).map V.d)) (0+(l+a.length))=some ((zb h j).map V.d):=by
     rw[ck,ae1 om,<-ck];exact t
    repeat first
     |refine bZ B ?_
     |refine bZ rfl ?_
     |refine a6 I ?_
     |refine a6 G ?_
     |refine cc _ w ?_
     |refine cc _ y ?_
     |refine cc _ t ?_
     |refine cg u ?_
     |refine cf ?_
    refine vP h o j ?_;repeat first
     |refine bZ B ?_
     |refine bZ rfl ?_
     |refine a6 I ?_
     |refine a6 G ?_
     |refine cc _ w ?_
     |refine cc _ y ?_
     |refine cc _ t ?_
     |refine cg u ?_
     |refine cf ?_
    apply aZ<;>intro ad
    ·have H:cE o.n j.n=true:=by rw[<-Bc];exact ad
     repeat first
      |refine bZ B ?_
      |refine bZ rfl ?_
      |refine a6 I ?_
      |refine a6 G ?_
      |refine cc _ w ?_
      |refine cc _ y ?_
      |refine cc _ t ?_
      |refine cg u ?_
      |refine cf ?_
     refine⟨(a,j::i),⟨by rw[<-k];simp,fun h hw=>?_⟩,by show a.length<a.length+1;omega,.same ⟨Z,Z,Z,Z,Z,int_eq B,tv⟩ ?_,Z,Z⟩
     ·rcases List.mem_cons.1 hw with rfl|hw
      ·exact H
      ·exact v h hw
     ·show _=[cN.row (ew h) (dg h (p++(a++(o::((j::i)++(f.drop (g+1)++s))))))];exact R5
    ·have H:cE o.n j.n=false:=by rw[<-Bc];exact ad
     have ac:cE j.n o.n=true:=y9 _ _ H (fun aA=>d aA.symm);refine⟨g+1,⟨om,.inl q⟩,iK,.same ⟨Z,Z,Z,Z,int_eq (cp om),tv⟩ ?_,Z,Z⟩;have:=x (a++[j]) i k (Tz S ac) v;show [cN.row (ew h) (dg h A)]=[cN.row (ew h) (dg h (p++(cG FE.n (f.take (g+1))++(f.drop (g+1)++s))))];rw[this,<-W];simp<;>exact⟨rfl,rfl⟩
   ·have E:m.length=0:=by have ay:l+m.length<=l:=dq u;omega
    repeat first|refine a7 u ?_|refine cf ?_
    have X:=aet E;subst X;refine⟨g+1,⟨om,.inl q⟩,iK,.same ⟨Z,Z,Z,Z,int_eq (cp om),tv⟩ ?_,Z,Z⟩;have:=x [] i k sm v;show _=[cN.row (ew h) (dg h (p++(cG FE.n (f.take (g+1))++(f.drop (g+1)++s))))];rw[this];simp<;>exact⟨rfl,rfl⟩
  ·have q:f.length<=g:=by have:=dq ak;omega
   refine⟨?_,Z⟩;rw[List.take_of_length_le q,List.drop_of_length_le q];rfl
theorem acH{n:Int}(b:0<=n)(a:n<18446744073709551616):IntKind.u64.wrap n=n:=by
 exact aat
theorem half{i j:Nat}(a:i+j<9223372036854775808):IntKind.i64.wrap (ae5 (IntKind.u64.wrap (IntKind.i64.wrap (abK i+abK j))) (2^(min 1 IntKind.u64.bits)))=abK ((i+j)/2):=by
 rw[c4 a,acH (by simp only[aeP];omega) (by simp only[aeP];omega)];have:ae5 (abK (i+j)) (2^(min 1 IntKind.u64.bits))=abK ((i+j)/2):=by
  show ae5 (abK (i+j)) 2=_;rw[Int.fdiv_eq_ediv_of_nonneg _ dc];exact Fe
 rw[this,wrap64 (by simp only[aeP];omega) (by simp only[aeP];omega)]
def ZL(a:Bool)(n g h b t1 f t2 i:Nat):Tm:=[(0,.ms 0 (ew a) 0 n n),(1,bW g),(2,bW h),(3,bW b),(4,(nz a)),(t1,bW f),(t2,bW i)]
theorem JW(g:Bool)(o:List FE)(h:FE)(a p:List FE)(aj:mw FE.n a)(E:((h::a).map FE.n).Nodup)(n i j b:Nat)(ap:n=(o++(h::(a++p))).length)(ar:i=o.length)(az:j=i+1)(ai:b=j+a.length)(ay:n<4294967296):
  bV C ca (Qe g) [.ms 0 (ew g) 0 n n,bW i,bW j,bW b,(nz g)] [.row (ew g) (dg g (o++(h::(a++p))))] fun ax ab=>ab=[.row (ew g) (dg g (o++(cG FE.n (h::a)++p)))]/\ax=.ret (.dS []):=by
 have B:g=g:=rfl;cases g;all_goals
  let g:Bool:=Ba B
  have av:n=o.length+(a.length+p.length+1):=by rw[ap];simp
  have U:∀k∈a,k.n≠h.n:=by
   intro k am aq;rw[List.map_cons,List.nodup_cons]at E;exact E.1 (by rw[<-aq];exact aeT am)
  have aa:IntKind.i64.wrap (abK j-abK i)=1:=by
   rw[fs om om,show j-i=1 from by omega];rfl
  have au:(o++(h::(a++p)))[i]?=some h:=sO o (a++p) h i ar;have ak:∀s (l:s<a.length),(o++(h::(a++p)))[j+s]?=some a[s]:=by
   intro s l;rw[aeW om,show j+s-o.length=s+1 from om,List.getElem?_cons_succ,ae4 l,abL l]
  refine cj ?_;refine aZ (fun ag=>?_) (fun ag=>absurd (ag.symm.trans (decide_eq_true aa)) dc);refine cw (dB:=ZL g n i j b 10 (j+0) 11 (j+a.length)) (fU:=[.row (ew g) (dg g (o++(h::(a++p))))]) (.same ⟨Z,Z,Z,Z,Z,Z,by rw[<-ai];rfl,tv⟩ Z) ?_;refine cd.iter (fun A:Nat×Nat=>ZL g n i j b 10 (j+A.1) 11 (j+A.2)) (fun _=>[.row (ew g) (dg g (o++(h::(a++p))))]) (fun A=>A.2-A.1)
   (fun A=>A.1<=A.2/\A.2<=a.length/\(∀k,0<A.1->a[A.1-1]?=some k->cE k.n h.n=true)/\(∀k,a[A.2]?=some k->cE h.n k.n=true)) ?_ (0,a.length) ⟨ae6 _,aeR _,fun k l=>absurd l (ae2 _),fun k l=>by rw[aeV (aeR _)]at l;cases l⟩
  rintro⟨s,t⟩ ⟨M,y,J,H⟩;have M:s<=t:=M;have y:t<=a.length:=y;have J:∀k,0<s->a[s-1]?=some k->cE k.n h.n=true:=J;have H:∀k,a[t]?=some k->cE h.n k.n=true:=H;apply aZ<;>intro Y
  ·have c:s<t:=by have u:j+s<j+t:=ee Y;omega
   have m:=half (i:=j+s) (j:=j+t) om;obtain⟨l,ao⟩:∃l,(j+s+(j+t))/2=j+l:=⟨(s+t)/2,om⟩;rw[ao]at m;have af:s<=l:=om;have W:l<t:=om;have P:=ak l om;have G:a[l]?=some a[l]:=abL om;have Q:a[l]∈a:=aeZ _;generalize a[l]=k at P G Q;have r:nth (dg g (o++(h::(a++p)))) (0+(j+l))=some ((zb g k).map V.d):=by rw[aev];exact gY P
   have q:nth (dg g (o++(h::(a++p)))) (0+i)=some ((zb g h).map V.d):=by rw[aev];exact gY au
   have z:j+l<n:=om;have x:i<n:=om;repeat first
    |refine bZ m ?_
    |refine bZ rfl ?_
    |refine cc _ r ?_
    |refine cc _ q ?_
    |refine a6 z ?_
    |refine a6 x ?_
    |refine cf ?_
   refine vP g k h ?_;repeat first
    |refine bZ m ?_
    |refine bZ rfl ?_
    |refine cc _ r ?_
    |refine cc _ q ?_
    |refine a6 z ?_
    |refine a6 x ?_
    |refine cf ?_
   apply aZ<;>intro d
   ·have F:cE k.n h.n=true:=by rw[<-Bc];exact d
    refine⟨(l+1,t),⟨W,y,fun g _ B=>?_,H⟩,by show t-(l+1)<t-s;omega,.same ⟨Z,Z,Z,Z,Z,int_eq ?_,Z,tv⟩ Z,Z,Z⟩
    ·have:a[l]?=some g:=B;rw[G]at this;cases this;exact F
    ·rw[m];exact cp om
   ·have F:cE k.n h.n=false:=by rw[<-Bc];exact d
    have X:cE h.n k.n=true:=y9 _ _ F (U k Q);refine⟨(s,l),⟨af,by show l<=a.length;omega,J,fun g B=>?_⟩,by show l-s<t-s;omega,.same ⟨Z,Z,Z,Z,Z,Z,int_eq m,tv⟩ Z,Z,Z⟩;have:a[l]?=some g:=B;rw[G]at this;cases this;exact X
  ·have c:t<=s:=by have u:j+t<=j+s:=dq Y;omega
   obtain rfl:s=t:=om;have R:=JV aj E s y J H;refine cw (dB:=ZL g n i j b 10 (j+s) 13 (i+0)) (fU:=[.row (ew g) (dg g (o++(a.take 0++(h::(a.drop 0++p)))))]) .eS ?_;refine cd.iter (fun f:Nat=>ZL g n i j b 10 (j+s) 13 (i+f)) (fun f=>[.row (ew g) (dg g (o++(a.take f++(h::(a.drop f++p)))))]) (fun f=>s-f) (fun f=>f<=s) ?_ 0 (ae6 _);intro f aw;have L:IntKind.i64.wrap (abK (j+s)-1)=abK (i+s):=by
    have:=fs (a:=j+s) (b:=1) om om;rw[show j+s-1=i+s from by omega]at this;exact this
   apply aZ<;>intro O
   ·have v:f<s:=by
     have u:=of_decide_eq_true O;rw[L]at u;simp only[aeP]at u;omega
    have N:f<a.length:=om;have ah:a.drop f=a[f]::a.drop (f+1):=aeX N;have al:a.take (f+1)=a.take f++[a[f]]:=by rw[ae3,abL N];rfl
    have T:(a.take f).length=f:=by simp;omega
    have ae:o++(a.take f++(h::(a.drop f++p)))=(o++a.take f)++h::([]++a[f]::(a.drop (f+1)++p)):=by rw[ah];simp only[aeu,aeS,aeN]
    have ad:o++(a.take (f+1)++(h::(a.drop (f+1)++p)))=(o++a.take f)++a[f]::([]++h::(a.drop (f+1)++p)):=by rw[al];simp only[aeu,aeS,aeN]
    have w:i+f=(o++a.take f).length:=by rw[aeO,T];omega
    have K:=sO (o++a.take f) ([]++a[f]::(a.drop (f+1)++p)) h (i+f) w;have I:=za (o++a.take f) [] (a.drop (f+1)++p) h a[f] (i+f+1) (by rw[<-w];rfl);have gs:=Hx (o++a.take f) [] (a.drop (f+1)++p) h a[f] (i+f) (i+f+1) w (by rw[<-w];rfl);rw[<-ae]at K I gs;rw[<-ad]at gs;generalize a[f]=k at K I gs;generalize an:o++(a.take f++(h::(a.drop f++p)))=D at K I gs;have q:nth (dg g D) (0+(i+f))=some ((zb g h).map V.d):=by rw[aev];exact gY K
    have r:nth (dg g D) (0+(i+f+1))=some ((zb g k).map V.d):=by rw[aev];exact gY I
    have S:nth ((dg g D).set (0+(i+f)) ((zb g k).map V.d)) (0+(i+f+1))=some ((zb g k).map V.d):=by
     rw[ck,ae1 om,<-ck];exact r
    have m:IntKind.i64.wrap (abK (i+f)+1)=abK (i+f+1):=cp om;have z:i+f+1<n:=om;have x:i+f<n:=om;repeat first
     |refine bZ m ?_
     |refine bZ rfl ?_
     |refine cc _ S ?_
     |refine cc _ q ?_
     |refine cc _ r ?_
     |refine a6 z ?_
     |refine a6 x ?_
     |refine cf ?_
    refine⟨f+1,v,iK,.same ⟨Z,Z,Z,Z,Z,Z,int_eq m,tv⟩ ?_,Z,Z⟩;exact R5
   ·have v:f=s:=by
     have u:=of_decide_eq_false O;rw[L]at u;simp only[aeP]at u;omega
    subst v;refine⟨?_,Z⟩;rw[R];simp<;>exact⟨rfl,rfl⟩
theorem JX(i:Bool)(A f:List FE)(j:FE)(m:List FE)(au:f.length≠1)(am:mw FE.n f)(D:((f++[j]).map FE.n).Nodup)(n a t b:Nat)(ao:n=(A++(f++(j::m))).length)(aB:a=A.length)(ae:t=a+f.length)(ay:b=t+1)(aA:n<4294967296):
  bV C ca (Qe i) [.ms 0 (ew i) 0 n n,bW a,bW t,bW b,(nz i)] [.row (ew i) (dg i (A++(f++(j::m))))] fun ax ac=>ac=[.row (ew i) (dg i (A++(cG FE.n (f++[j])++m)))]/\ax=.ret (.dS []):=by
 have y:i=i:=rfl;cases i;all_goals
  let i:Bool:=Ba y
  have av:n=A.length+(f.length+(m.length+1)):=by rw[ao];simp
  have U:∀k∈f,k.n≠j.n:=by
   intro k ak ap;rw[aeQ,aeM]at D;exact D.2.2 k.n (aeT ak) j.n sm ap
  have ab:IntKind.i64.wrap (abK t-abK a)≠1:=by
   rw[fs om om,show t-a=f.length from by omega];exact Fe
  have c:IntKind.i64.wrap (abK b-abK t)=1:=by
   rw[fs om om,show b-t=1 from by omega];rfl
  have aq:(A++(f++(j::m)))[t]?=some j:=by
   have:=sO (A++f) m j t (by simp;omega);rw[aeu]at this;exact this
  have an:∀s (h:s<f.length),(A++(f++(j::m)))[a+s]?=some f[s]:=by
   exact Zr
  refine cj ?_;refine a7 (decide_eq_false ab) ?_;refine cg (decide_eq_true c) ?_;refine cw (dB:=ZL i n a t b 14 (a+0) 15 (a+f.length)) (fU:=[.row (ew i) (dg i (A++(f++(j::m))))]) (.same ⟨Z,Z,Z,Z,Z,Z,by rw[<-ae];rfl,tv⟩ Z) ?_;refine cd.iter (fun x:Nat×Nat=>ZL i n a t b 14 (a+x.1) 15 (a+x.2)) (fun _=>[.row (ew i) (dg i (A++(f++(j::m))))]) (fun x=>x.2-x.1)
   (fun x=>x.1<=x.2/\x.2<=f.length/\(∀k,0<x.1->f[x.1-1]?=some k->cE k.n j.n=true)/\(∀k,f[x.2]?=some k->cE j.n k.n=true)) ?_ (0,f.length) ⟨ae6 _,aeR _,fun k h=>absurd h (ae2 _),fun k h=>by rw[aeV (aeR _)]at h;cases h⟩
  rintro⟨s,r⟩ ⟨K,p,I,G⟩;have K:s<=r:=K;have p:r<=f.length:=p;have I:∀k,0<s->f[s-1]?=some k->cE k.n j.n=true:=I;have G:∀k,f[r]?=some k->cE j.n k.n=true:=G;apply aZ<;>intro Y
  ·have d:s<r:=by have P:a+s<a+r:=ee Y;omega
   have l:=half (i:=a+s) (j:=a+r) om;obtain⟨h,al⟩:∃h,(a+s+(a+r))/2=a+h:=⟨(s+r)/2,om⟩;rw[al]at l;have ah:s<=h:=om;have W:h<r:=om;have O:=an h om;have B:f[h]?=some f[h]:=abL om;have N:f[h]∈f:=aeZ _;generalize f[h]=k at O B N;have q:nth (dg i (A++(f++(j::m)))) (0+(a+h))=some ((zb i k).map V.d):=by rw[aev];exact gY O
   have o:nth (dg i (A++(f++(j::m)))) (0+t)=some ((zb i j).map V.d):=by rw[aev];exact gY aq
   have w:a+h<n:=om;have v:t<n:=om;repeat first
    |refine bZ l ?_
    |refine bZ rfl ?_
    |refine cc _ q ?_
    |refine cc _ o ?_
    |refine a6 w ?_
    |refine a6 v ?_
    |refine cf ?_
   refine vP i j k ?_;repeat first
    |refine bZ l ?_
    |refine bZ rfl ?_
    |refine cc _ q ?_
    |refine cc _ o ?_
    |refine a6 w ?_
    |refine a6 v ?_
    |refine cf ?_
   apply aZ<;>intro e
   ·have E:cE j.n k.n=false:=by rw[<-Bc];simpa using e
    have X:cE k.n j.n=true:=y9 _ _ E (fun h=>U k N h.symm);refine⟨(h+1,r),⟨W,p,fun i _ y=>?_,G⟩,by show r-(h+1)<r-s;omega,.same ⟨Z,Z,Z,Z,Z,int_eq ?_,Z,tv⟩ Z,Z,Z⟩
    ·have:f[h]?=some i:=y;rw[B]at this;cases this;exact X
    ·rw[l];exact cp om
   ·have E:cE j.n k.n=true:=by rw[<-Bc];simpa using e
    refine⟨(s,h),⟨ah,by show h<=f.length;omega,I,fun i y=>?_⟩,by show h-s<r-s;omega,.same ⟨Z,Z,Z,Z,Z,Z,int_eq l,tv⟩ Z,Z,Z⟩;have:f[h]?=some i:=y;rw[B]at this;cases this;exact E
  ·have d:r<=s:=by have P:a+r<=a+s:=dq Y;omega
   obtain rfl:s=r:=om;have R:=Mu am D s p I G;refine cw (dB:=ZL i n a t b 14 (a+s) 17 (a+f.length)) (fU:=[.row (ew i) (dg i (A++(f.take f.length++(j::(f.drop f.length++m)))))]) (.same ⟨Z,Z,Z,Z,Z,Z,by rw[<-ae];rfl,tv⟩ (by rw[List.take_length,List.drop_length];rfl)) ?_;refine cd.iter (fun g:Nat=>ZL i n a t b 14 (a+s) 17 (a+g)) (fun g=>[.row (ew i) (dg i (A++(f.take g++(j::(f.drop g++m)))))]) (fun g=>g) (fun g=>s<=g/\g<=f.length) ?_ f.length ⟨p,aeR _⟩;rintro g ⟨aw,ar⟩;apply aZ<;>intro M
   ·have F:s<g:=by have P:a+s<a+g:=ee M;omega
    obtain⟨g,rfl⟩:∃az,g=az+1:=⟨g-1,om⟩;have L:g<f.length:=om;have ai:f.drop g=f[g]::f.drop (g+1):=aeX L;have aj:f.take (g+1)=f.take g++[f[g]]:=by rw[ae3,abL L];rfl
    have T:(f.take g).length=g:=by simp;omega
    have ag:A++(f.take (g+1)++(j::(f.drop (g+1)++m)))=(A++f.take g)++f[g]::([]++j::(f.drop (g+1)++m)):=by rw[aj];simp only[aeu,aeS,aeN]
    have af:A++(f.take g++(j::(f.drop g++m)))=(A++f.take g)++j::([]++f[g]::(f.drop (g+1)++m)):=by rw[ai];simp only[aeu,aeS,aeN]
    have u:a+g=(A++f.take g).length:=by rw[aeO,T];omega
    have J:=sO (A++f.take g) ([]++j::(f.drop (g+1)++m)) f[g] (a+g) u;have H:=za (A++f.take g) [] (f.drop (g+1)++m) f[g] j (a+(g+1)) (by rw[<-u];rfl);have gs:=JS (A++f.take g) [] (f.drop (g+1)++m) f[g] j (a+g) (a+(g+1)) u (by rw[<-u];rfl);rw[<-ag]at J H gs;rw[<-af]at gs;generalize f[g]=k at J H gs;generalize Q:A++(f.take (g+1)++(j::(f.drop (g+1)++m)))=z at J H gs;have o:nth (dg i z) (0+(a+(g+1)))=some ((zb i j).map V.d):=by rw[aev];exact gY H
    have q:nth (dg i z) (0+(a+g))=some ((zb i k).map V.d):=by rw[aev];exact gY J
    have S:nth ((dg i z).set (0+(a+(g+1))) ((zb i k).map V.d)) (0+(a+g))=some ((zb i k).map V.d):=by
     rw[ck,ae1 om,<-ck];exact q
    have l:IntKind.i64.wrap (abK (a+(g+1))-1)=abK (a+g):=by
     have:=fs (a:=a+(g+1)) (b:=1) om om;rw[show a+(g+1)-1=a+g from by omega]at this;exact this
    have w:a+(g+1)<n:=om;have v:a+g<n:=om;subst Q;repeat first
     |refine bZ l ?_
     |refine bZ rfl ?_
     |refine cc _ S ?_
     |refine cc _ o ?_
     |refine cc _ q ?_
     |refine a6 w ?_
     |refine a6 v ?_
     |refine cf ?_
    refine⟨g,⟨om,om⟩,by show g<g+1;omega,.same ⟨Z,Z,Z,Z,Z,Z,int_eq l,tv⟩ ?_,Z,Z⟩;exact R5
   ·have F:g=s:=by have P:a+g<=a+s:=dq M;omega
    subst F;refine⟨?_,Z⟩;rw[R];simp<;>exact⟨rfl,rfl⟩
def Hz(f:Bool)(o:Nat):Prop:=∀(i b a j:List FE),0<b.length->0<a.length->mw FE.n b->mw FE.n a->((b++a).map FE.n).Nodup->∀(h k l m:Nat),h=(i++(b++(a++j))).length->k=i.length->l=k+b.length->m=l+a.length->h<4294967296->b.length+a.length<=o->
  bV C ca (Qe f) [.ms 0 (ew f) 0 h h,bW k,bW l,bW m,(nz f)] [.row (ew f) (dg f (i++(b++(a++j))))] fun n g=>g=[.row (ew f) (dg f (i++(cG FE.n (b++a)++j)))]/\n=.ret (.dS [])
variable{c d e:V}
theorem Dj(g:Bool)(F:Nat)(B:Hz g F)(i a f k:List FE)(y:0<a.length)(w:0<f.length)(x:mw FE.n a)(s:mw FE.n f)(l:((a++f).map FE.n).Nodup)(n p q b:Nat)(G:List FE)(t:G=i++(a++(f++k)))(D:p=i.length)(A:q=p+a.length)(r:b=q+f.length)(z:n=i.length+(a.length+(f.length+k.length))∨n=(i++(a++(f++k))).length)(v:n<4294967296)(E:a.length+f.length<=F)(o:c=bW p)(j:d=bW q)(m:e=bW b){K:cO->VS->Prop}(u:K (.ret (.dS [])) [.row (ew g) (dg g (i++(cG FE.n (a++f)++k)))]):bV C ca (Qe g) [.ms 0 (ew g) 0 n n,c,d,e,(nz g)] [.row (ew g) (dg g G)] K:=by
 subst o j m t;refine(B i a f k y w x s l n p q b ?_ D A r v E).mono (fun I H h=>?_)
 ·rcases z with h|h
  ·rw[h];simp
  ·exact h
 ·rw[h.1,h.2];exact u
theorem JY(a:Bool)(f g h l:List FE)(r:0<g.length)(v:0<h.length)(n m s b:Nat)(x:List FE)(o:x=f++(g++(h++l)))(t:n=f.length+(g.length+(h.length+l.length)))(w:m=f.length)(u:s=f.length+g.length)(A:b=f.length+g.length+h.length)(q:n<4294967296)(k:c=bW m)(i:d=bW s)(j:e=bW b){K:cO->VS->Prop}(p:K (.ret (.dS [])) [.row (ew a) (dg a (f++(h++(g++l))))]):bV C ca (acE a) [.ms 0 (ew a) 0 n n,c,d,e,(nz a)] [.row (ew a) (dg a x)] K:=by
 subst k i j o;refine(Hy a f g h l r v n m s b (by rw[t];simp) w u om q).mono (fun B y z=>?_);rw[z.1,z.2];exact p
def adP:Nat->Bool:=fun a=>Nat.beq a 1000032||Nat.beq a 1000041||Nat.beq a 1000043
def m2T(g:Bool)(n i f b a s h:Nat):Tm:=[(0,.ms 0 (ew g) 0 n n),(1,bW i),(2,bW f),(3,bW b),(4,(nz g)),(18,bW a),(19,bW (a+f)),(20,bW s),(21,bW h)]
def ZM(g:Bool)(n h i b a s f:Nat):Tm:=[(0,.ms 0 (ew g) 0 n n),(1,bW h),(2,bW i),(3,bW b),(4,(nz g)),(18,bW a),(20,bW s),(24,bW f)]
def m3T(g:Bool)(n i f b a s h:Nat):Tm:=[(0,.ms 0 (ew g) 0 n n),(1,bW i),(2,bW f),(3,bW b),(4,(nz g)),(18,bW a),(19,bW (a+f)),(20,bW s),(21,bW h),(22,bW (a+f-1))]
theorem ar1{a f s b:Nat}(i:b=a+f-s)(g:b<=f)(h:s<=f):a-s=0:=om
theorem ar2{a f s b:Nat}(i:b=a+f-s)(g:b<=a)(h:s<=a):f-s=0:=om
theorem ar3{a f s b:Nat}(i:b=a+f-s)(g:f<b)(h:s<=f):0<a-s:=om
theorem ar5{a f s b:Nat}(i:b=a+f-s)(g:a<b)(h:s<=a):0<f-s:=om
abbrev TA(b a:Nat):Int:=IntKind.i64.wrap (ae5 (IntKind.u64.wrap (IntKind.i64.wrap (abK b+abK a))) (2^(min 1 IntKind.u64.bits)))
theorem JZ(k:Bool)(aP:Nat)(aX:Hz k aP)(A g i t:List FE)(bK:1<g.length)(bN:1<i.length)(aI:mw FE.n g)(aF:mw FE.n i)(ab:((g++i).map FE.n).Nodup)(n a j b:Nat)(bJ:n=(A++(g++(i++t))).length)(bH:a=A.length)(bR:j=a+g.length)(bQ:b=j+i.length)(aH:n<4294967296)(bS:g.length+i.length<=aP+1):
  bV C ca (Qe k) [.ms 0 (ew k) 0 n n,bW a,bW j,bW b,(nz k)] [.row (ew k) (dg k (A++(g++(i++t))))] fun O bz=>bz=[.row (ew k) (dg k (A++(cG FE.n (g++i)++t)))]/\O=.ret (.dS []):=by
 have aG:k=k:=rfl;cases k;all_goals
  let k:Bool:=Ba aG
  have bL:n=A.length+(g.length+(i.length+t.length)):=by rw[bJ];simp
  have aK:∀r∈g,∀k∈i,r.n≠k.n:=by
   intro r bC k aG bG;rw[aeQ,aeM]at ab;exact ab.2.2 r.n (aeT bC) k.n (aeT aG) bG
  have aV:IntKind.i64.wrap (abK j-abK a)≠1:=by
   rw[fs om om,show j-a=g.length from by omega];exact Fe
  have aS:IntKind.i64.wrap (abK b-abK j)≠1:=by
   rw[fs om om,show b-j=i.length from by omega];exact Fe
  have bD:∀s (h:s<g.length),(A++(g++(i++t)))[a+s]?=some g[s]:=by
   exact Zr
  have bI:∀s (h:s<i.length),(A++(g++(i++t)))[j+s]?=some i[s]:=by
   intro s h;rw[aeW om,aeW om,show j+s-A.length-g.length=s from om,ae4 h,abL h]
  obtain⟨f,aW⟩:∃f,(a+b)/2=f:=⟨_,rfl⟩;have w:TA a b=abK f:=by rw[<-aW];exact half om
  have c:IntKind.i64.wrap (TA a b+abK j)=abK (f+j):=by rw[w,c4 om]
  have bF:IntKind.i64.wrap (abK (f+j)-1)=abK (f+j-1):=fs (b:=1) om om;refine bV.body adP (fun _=>Z) ?_;refine a7 (decide_eq_false aV) ?_;refine a7 (decide_eq_false aS) ?_;refine bZ Z ?_;apply dH (ι:=Nat×Nat) (T:=fun r=>m2T k n a j b f r.1 r.2) (S:=fun _=>[.row (ew k) (dg k (A++(g++(i++t))))])
   (I:=fun r=>a<=r.1/\r.1<=r.2/\r.2<=j/\r.2<=f/\f+j<=r.1+b/\(r.1=a∨(b<=f+j/\r.1=f+j-b))/\(r.2=j∨r.2=f))
  ·intro L;apply aZ<;>intro ax
   ·have aC:f<j:=by
     have m:decide (TA a b<abK j)=true:=ax;rw[w]at m;exact ee m
    have bB:IntKind.i64.wrap (IntKind.i64.wrap (TA a b+abK j)-abK b)=abK (f+j-b):=by
     rw[c];exact fs om om
    exact cw (dB:=m2T k n a j b f (f+j-b) f) (fU:=[.row (ew k) (dg k (A++(g++(i++t))))]) (.same ⟨Z,Z,Z,Z,Z,int_eq w,int_eq c,int_eq bB,int_eq w,tv⟩ Z) (L (f+j-b,f) ⟨by show a<=f+j-b;omega,by show f+j-b<=f;omega,by show f<=j;omega,aeR _,by show f+j<=f+j-b+b;omega,.inr ⟨om,Z⟩,.inr Z⟩)
   ·have aC:j<=f:=by
     have m:decide (TA a b<abK j)=false:=ax;rw[w]at m;exact dq m
    exact cw (dB:=m2T k n a j b f a j) (fU:=[.row (ew k) (dg k (A++(g++(i++t))))]) (.same ⟨Z,Z,Z,Z,Z,int_eq w,int_eq c,Z,Z,tv⟩ Z) (L (a,j) ⟨aeR _,by show a<=j;omega,aeR _,aC,by show f+j<=a+b;omega,.inl Z,.inl Z⟩)
  ·rintro⟨x,v⟩ ⟨f1,f2,f3,f4,f7,f5,f6⟩;have f1:a<=x:=f1;have f2:x<=v:=f2;have f3:v<=j:=f3;have f4:v<=f:=f4;have f7:f+j<=x+b:=f7;have f5:x=a∨(b<=f+j/\x=f+j-b):=f5;have f6:v=j∨v=f:=f6;refine cw (dB:=m3T k n a j b f x v) (fU:=[.row (ew k) (dg k (A++(g++(i++t))))]) (.same ⟨Z,Z,Z,Z,Z,Z,Z,Z,Z,int_eq bF,tv⟩ Z) ?_;refine cd.iter (fun r:Nat×Nat=>m3T k n a j b f r.1 r.2) (fun _=>[.row (ew k) (dg k (A++(g++(i++t))))]) (fun r=>r.2-r.1)
    (fun r=>x<=r.1/\r.1<=r.2/\r.2<=v/\(∀G J,x<r.1->g[r.1-1-a]?=some G->i[f-r.1]?=some J->cE G.n J.n=true)/\(∀G J,r.2<v->i[f-1-r.2]?=some G->g[r.2-a]?=some J->cE G.n J.n=true)) ?_ (x,v) ⟨aeR _,f2,aeR _,fun G J h=>absurd h (ae2 _),fun G J h=>absurd h (ae2 _)⟩
   rintro⟨s,O⟩ ⟨aN,bs,aO,ak,aj⟩;have aN:x<=s:=aN;have bs:s<=O:=bs;have aO:O<=v:=aO;have ak:∀G J,x<s->g[s-1-a]?=some G->i[f-s]?=some J->cE G.n J.n=true:=ak;have aj:∀G J,O<v->i[f-1-O]?=some G->g[O-a]?=some J->cE G.n J.n=true:=aj;apply aZ<;>intro ba
   ·have bb:s<O:=ee ba;have M:=half (i:=s) (j:=O) om;obtain⟨o,bE⟩:∃o,(s+O)/2=o:=⟨_,rfl⟩;rw[bE]at M;have bi:s<=o:=om;have bA:o<O:=om;have av:f-1-o<i.length:=om;have an:o-a<g.length:=om;have ap:=bI (f-1-o) av;have ao:=bD (o-a) an;have U:i[f-1-o]?=some i[f-1-o]:=abL av;have aa:g[o-a]?=some g[o-a]:=abL an;have S:=aK g[o-a] (aeZ _) i[f-1-o] (aeZ _);generalize g[o-a]=G at ao aa S;generalize i[f-1-o]=J at ap U S;have aw:nth (dg k (A++(g++(i++t)))) (0+(j+(f-1-o)))=some ((zb k J).map V.d):=by rw[aev];exact gY ap
    have ay:nth (dg k (A++(g++(i++t)))) (0+o)=some ((zb k G).map V.d):=by rw[aev,show o=a+(o-a)from by omega];exact gY ao
    have au:j+(f-1-o)<n:=om;have aD:o<n:=om;have aE:IntKind.i64.wrap (abK (f+j-1)-IntKind.i64.wrap (ae5 (IntKind.u64.wrap (IntKind.i64.wrap (abK s+abK O))) (2^(min 1 IntKind.u64.bits))))=abK (j+(f-1-o)):=by
     rw[M,fs om om];congr 1;omega
    repeat first
     |refine bZ aE ?_
     |refine bZ M ?_
     |refine bZ rfl ?_
     |refine cc _ aw ?_
     |refine cc _ ay ?_
     |refine a6 au ?_
     |refine a6 aD ?_
     |refine cf ?_
    refine vP k J G ?_;repeat first
     |refine bZ aE ?_
     |refine bZ M ?_
     |refine bZ rfl ?_
     |refine cc _ aw ?_
     |refine cc _ ay ?_
     |refine a6 au ?_
     |refine a6 aD ?_
     |refine cf ?_
    apply aZ<;>intro bt
    ·have d:cE J.n G.n=false:=by rw[<-Bc];simpa using bt
     have bj:cE G.n J.n=true:=y9 _ _ d (fun h=>S h.symm);refine⟨(o+1,O),⟨by show x<=o+1;omega,bA,aO,fun aM aL _ z p=>?_,aj⟩,by show O-(o+1)<O-s;omega,.same ⟨Z,Z,Z,Z,Z,Z,Z,int_eq ?_,Z,Z,tv⟩ Z,Z,Z⟩
     ·have z:g[o+1-1-a]?=some aM:=z;have p:i[f-(o+1)]?=some aL:=p;rw[show o+1-1-a=o-a from om,aa]at z;rw[show f-(o+1)=f-1-o from om,U]at p;cases z;cases p;exact bj
     ·rw[M];exact cp om
    ·have d:cE J.n G.n=true:=by rw[<-Bc];simpa using bt
     refine⟨(s,o),⟨aN,bi,by show o<=v;omega,ak,fun aM aL _ z p=>?_⟩,by show o-s<O-s;omega,.same ⟨Z,Z,Z,Z,Z,Z,Z,Z,int_eq M,Z,tv⟩ Z,Z,Z⟩;have z:i[f-1-o]?=some aM:=z;have p:g[o-a]?=some aL:=p;rw[U]at z;rw[aa]at p;cases z;cases p;exact d
   ·have bb:O<=s:=dq ba;obtain rfl:s=O:=om;have aJ:=Qd (key:=FE.n) aI aF ab (s-a) (f-s) om om
     (fun G J m z p=>by
      rcases Nat.lt_or_ge x s with h1|h1
      ·exact ak G J h1 (by rw[show s-1-a=s-a-1 from by omega];exact z) p
      ·exfalso;rcases f5 with h2|h2
       ·omega
       ·rw[aeV om]at p;cases p)
     (fun G J m z p=>by
      rcases Nat.lt_or_ge s v with h1|h1
      ·exact aj G J h1 (by rw[show f-1-s=f-s-1 from by omega];exact z) p
      ·exfalso;rcases f6 with h2|h2
       ·rw[aeV om]at p;cases p
       ·omega)
    obtain⟨Q,H,F⟩:=aJ;have az:=aI.take (s-a);have ar:=aI.drop (s-a);have aA:=aF.take (f-s);have aB:=aF.drop (f-s);have E:(g.take (s-a)).length=s-a:=by simp;omega
    have q:(g.drop (s-a)).length=j-s:=by simp;omega
    have u:(i.take (f-s)).length=f-s:=by simp;omega
    have N:(i.drop (f-s)).length=b-(f+j-s):=by simp;omega
    have bg:g=g.take (s-a)++g.drop (s-a):=(ae0 _ _).symm;have bu:i=i.take (f-s)++i.drop (f-s):=(ae0 _ _).symm;have ad:((g.take (s-a)).map FE.n).Nodup:=by rw[aeQ,aeM]at H;exact H.1
    have af:((i.take (f-s)).map FE.n).Nodup:=by rw[aeQ,aeM]at H;exact H.2.1
    have al:((g.drop (s-a)).map FE.n).Nodup:=by rw[aeQ,aeM]at F;exact F.1
    have ag:((i.drop (f-s)).map FE.n).Nodup:=by rw[aeQ,aeM]at F;exact F.2.1
    have P:A++(g++(i++t))=A++(g.take (s-a)++(g.drop (s-a)++(i.take (f-s)++(i.drop (f-s)++t)))):=by
     conv=>lhs;rw[bg,bu]
     exact XS
    obtain⟨l,K⟩:∃l,l=f+j-s:=⟨_,rfl⟩;have y:IntKind.i64.wrap (abK (f+j)-abK s)=abK l:=by rw[fs om om,K]
    have R:(A++(g.take (s-a))).length=s:=by rw[aeO,E];omega
    have aq:((i.drop (f-s))++t).length=b-(f+j-s)+t.length:=by rw[aeO,N]
    have aU:((g.drop (s-a))++((i.drop (f-s))++t)).length=j-s+(b-(f+j-s)+t.length):=by rw[aeO,q,aq]
    have br:(A++cG FE.n ((g.take (s-a))++(i.take (f-s)))).length=f:=by rw[aeO,nx,aeO,E,u];omega
    have aT:s<=f:=om;have bl:s<=j:=om;have aR:s=(A++(g.take (s-a))).length:=R.symm;have bc:j=(A++(g.take (s-a))).length+((g.drop (s-a))).length:=by rw[R,q];omega
    have bv:l=(A++(g.take (s-a))).length+((g.drop (s-a))).length+((i.take (f-s))).length:=by rw[R,q,u];omega
    have bx:n=(A++(g.take (s-a))).length+(((g.drop (s-a))).length+(((i.take (f-s))).length+((i.drop (f-s))++t).length)):=by rw[R,q,u,aq];omega
    have bw:s=a+((g.take (s-a))).length:=by rw[E];omega
    have bf:f=s+((i.take (f-s))).length:=by rw[u];omega
    have bn:n=A.length+(((g.take (s-a))).length+(((i.take (f-s))).length+((g.drop (s-a))++((i.drop (f-s))++t)).length)):=by rw[E,u,aU];omega
    have aQ:((g.take (s-a))).length+((i.take (f-s))).length<=aP:=by rw[E,u];omega
    have bh:f=(A++cG FE.n ((g.take (s-a))++(i.take (f-s)))).length:=br.symm;have bo:l=f+((g.drop (s-a))).length:=by rw[q];omega
    have aY:b=l+((i.drop (f-s))).length:=by rw[N];omega
    have bk:n=(A++cG FE.n ((g.take (s-a))++(i.take (f-s)))).length+(((g.drop (s-a))).length+(((i.drop (f-s))).length+t.length)):=by rw[br,q,N];omega
    have bq:((g.drop (s-a))).length+((i.drop (f-s))).length<=aP:=by rw[q,N];omega
    apply dH (ι:=Unit) (T:=fun _=>ZM k n a j b f s l) (S:=fun _=>[.row (ew k) (dg k (A++((g.take (s-a))++((i.take (f-s))++((g.drop (s-a))++((i.drop (f-s))++t))))))]) (I:=fun _=>True)
    ·intro L;apply aZ<;>intro ah
     ·have e:s<j:=ee ah;repeat refine cg ah ?_
      apply aZ<;>intro ae
      ·have X:j<l:=by rw[y]at ae;exact ee ae
       repeat refine de ?_
       refine JY k (A++(g.take (s-a))) (g.drop (s-a)) (i.take (f-s)) ((i.drop (f-s))++t) (by rw[q];exact aeY e) (by rw[u];exact ar3 K X bl) n s j l _ (by rw[P];simp only[aeu]) bx aR bc bv aH Z Z (vi y) ?_;refine cw (dB:=ZM k n a j b f s l) (fU:=[.row (ew k) (dg k (A++((g.take (s-a))++((i.take (f-s))++((g.drop (s-a))++((i.drop (f-s))++t))))))]) (.same ⟨Z,Z,Z,Z,Z,Z,Z,int_eq y,tv⟩ (by simp only[aeu])) (L () trivial)
      ·have X:l<=j:=by rw[y]at ae;exact dq ae
       repeat refine de ?_
       refine cw (dB:=ZM k n a j b f s l) (fU:=[.row (ew k) (dg k (A++((g.take (s-a))++((i.take (f-s))++((g.drop (s-a))++((i.drop (f-s))++t))))))]) (.same ⟨Z,Z,Z,Z,Z,Z,Z,int_eq y,tv⟩ ?_) (L () trivial);have m:(i.take (f-s))=[]:=aet (by rw[u];exact ar1 K X bl);rw[m]at P⊢;rw[P];rfl
     ·have e:j<=s:=dq ah;repeat refine a7 ah ?_
      refine cw (dB:=ZM k n a j b f s l) (fU:=[.row (ew k) (dg k (A++((g.take (s-a))++((i.take (f-s))++((g.drop (s-a))++((i.drop (f-s))++t))))))]) (.same ⟨Z,Z,Z,Z,Z,Z,Z,int_eq y,tv⟩ ?_) (L () trivial);have m:(g.drop (s-a))=[]:=aet (by rw[q];exact aeU e);rw[m]at P⊢;rw[P];rfl
    ·intro _ _;apply dH (ι:=Unit) (T:=fun _=>ZM k n a j b f s l) (S:=fun _=>[.row (ew k) (dg k (A++(cG FE.n ((g.take (s-a))++(i.take (f-s)))++((g.drop (s-a))++((i.drop (f-s))++t)))))]) (I:=fun _=>True)
     ·intro L;apply aZ<;>intro ai
      ·have ac:a<s:=ee ai;repeat refine cg ai ?_
       apply aZ<;>intro bp
       ·have W:s<f:=ee bp;repeat refine de ?_
        refine Dj k aP aX A (g.take (s-a)) (i.take (f-s)) ((g.drop (s-a))++((i.drop (f-s))++t)) (by rw[E];exact aeY ac) (by rw[u];exact aeY W) az aA H n a s f _ Z bH bw bf (.inl bn) aH aQ Z Z Z ?_;refine cw (dB:=ZM k n a j b f s l) (fU:=[.row (ew k) (dg k (A++(cG FE.n ((g.take (s-a))++(i.take (f-s)))++((g.drop (s-a))++((i.drop (f-s))++t)))))]) .eS (L () trivial)
       ·have W:f<=s:=dq bp;repeat refine de ?_
        refine cw (dB:=ZM k n a j b f s l) (fU:=[.row (ew k) (dg k (A++(cG FE.n ((g.take (s-a))++(i.take (f-s)))++((g.drop (s-a))++((i.drop (f-s))++t)))))]) (.same ⟨Z,Z,Z,Z,Z,Z,Z,Z,tv⟩ ?_) (L () trivial);have m:(i.take (f-s))=[]:=aet (by rw[u];exact aeU W);rw[m,List.append_nil,ny ad (List.Perm.refl _) az];rfl
      ·have ac:s<=a:=dq ai;repeat refine a7 ai ?_
       refine cw (dB:=ZM k n a j b f s l) (fU:=[.row (ew k) (dg k (A++(cG FE.n ((g.take (s-a))++(i.take (f-s)))++((g.drop (s-a))++((i.drop (f-s))++t)))))]) (.same ⟨Z,Z,Z,Z,Z,Z,Z,Z,tv⟩ ?_) (L () trivial);have m:(g.take (s-a))=[]:=aet (by rw[E];exact aeU ac);rw[m];simp only[aeN];rw[ny af (List.Perm.refl _) aA]
     ·intro _ _;apply aZ<;>intro am
      ·have Y:f<l:=ee am;repeat refine cg am ?_
       apply aZ<;>intro bm
       ·have T:l<b:=ee bm;repeat refine de ?_
        refine Dj k aP aX (A++cG FE.n ((g.take (s-a))++(i.take (f-s)))) (g.drop (s-a)) (i.drop (f-s)) t (by rw[q];exact ar5 K Y aT) (by rw[N,<-K];exact aeY T) ar aB F n f l b _ (by simp only[aeu]) bh bo aY (.inl bk) aH bq Z Z Z ?_;refine⟨?_,Z⟩;rw[Q];exact XS
       ·have T:b<=l:=dq bm;repeat refine de ?_
        refine⟨?_,Z⟩;have m:(i.drop (f-s))=[]:=aet (by rw[N,<-K];exact aeU T);rw[Q,m,List.append_nil,ny al (List.Perm.refl _) ar];simp only[aeu,aeN]<;>first|exact rfl|exact⟨rfl,rfl⟩
      ·have Y:l<=f:=dq am;repeat refine a7 am ?_
       refine⟨?_,Z⟩;have m:(g.drop (s-a))=[]:=aet (by rw[q];exact ar2 K Y aT);rw[Q,m];simp only[aeN];rw[ny ag (List.Perm.refl _) aB];exact XS
end Go.Proofs.YtpejealjkmhkgaaGreatDoor
