/- Part of the proof. -/
import Derived.Test.YtpejealjkmhkgaaGreatDoorKAq
set_option linter.all false
set_option maxHeartbeats 16000000
set_option maxRecDepth 100000
open List renaming getElem?_eq_some_iff->abK,getElem?_eq_getElem->abL,length_set->aet,length_take->aev,mem_cons_of_mem->aeM,length_map->aeP,mem_cons->aeQ,mem_of_mem_take->aeR,mem_of_mem_drop->aeS,mem_of_getElem?->aeT,getElem?_of_mem->aeU,map_congr_left->aeV,mem_cons_self->aeW
open Nat renaming le_of_ble_eq_true->aeu,le_refl->aeN
open Bool renaming and_eq_true->aeO
namespace Go.VM
open Go.AM
def Fz.JA(Φ du:Fz):Prop:=∀b a,Φ b=some a->Φ.Eo b->du b=some a/\du.Eo b
theorem xw.th{Φ du:Fz}(m:Φ.JA du){l:D}(d:xw Φ l):xw du l:=by
 induction d with
 |bool b=>exact .bool b
 |int p n=>exact .int p n
 |str o=>exact .str o
 |GQ=>exact .GQ
 |ci=>exact .ci
 |En=>exact .En
 |GR=>exact .GR
 |yx=>exact .yx
 |ps c g k i _ a f=>exact .ps (m _ _ c a).1 g k i f (m _ _ c a).2
theorem e9.th{Φ du:Fz}{m:Nat}(g:Φ.JA du){q:V}(k:e9 Φ m q):e9 du m q:=by
 induction k with
 |d c=>exact .d (c.th g)
 |bp a=>exact .bp a
 |ptr a=>exact .ptr a
 |fp a l p n f=>exact .fp (g _ _ a f).1 l p (fun d c=>(n d c).th g) (g _ _ a f).2
 |ms a=>exact .ms a
 |map a=>exact .map a
 |fn _ _ i o=>exact .fn i o
 |tR a=>exact .tR a
 |iface _ b=>exact .iface b
 |agg _ b=>exact .agg b
 |dS _ b=>exact .dS b
theorem Ig.th{Φ du:Fz}{ρ:Nat->Nat}{m:Nat}{st:St}{o:cN}{b:Nat}(i:Φ.JA du)(d:Ig Φ ρ m st o b):Ig du ρ m st o b:=by
 cases o with
 |box t=>exact⟨d.1,fun g c=>(d.2.1 g c).th i,d.2.2⟩
 |row r s=>exact⟨d.1,d.2.1,fun l f g c=>(d.2.2.1 l f g c).th i,d.2.2.2⟩
 |map r k=>exact⟨d.1,fun l f=>⟨(d.2 l f).1.th i,(d.2 l f).2.th i⟩⟩
 |loop u=>
  obtain⟨q,n,a⟩:=d;exact⟨q,n,a.state,a.pending,a.fn,fun p g c=>⟨(a.tm p g c).1,(a.tm p g c).2.th i⟩,a.nt,a.params,a.assign,a.body,a.defers,a.ee⟩
 |eI p=>exact d
 |gone=>trivial
def jT(a:List Nat)(c b:Nat):Nat:=
 match nth a b with
 |some i=>i
 |none=>c+(b-a.length)
def merge:VS->List Nat->VS->VS
 |σ,[],l=>σ++l
 |σ,_::_,[]=>σ
 |σ,i::a,b::l=>merge (σ.set i b) a l
theorem PW:∀(a:List Nat) (σ l:VS),a.length<=l.length->(merge σ a l).length=σ.length+(l.length-a.length):=by
 intro a;induction a with
 |nil=>intro σ l _;simp[merge]
 |cons i a b=>
  intro σ l c;cases l with
  |nil=>simp at c
  |cons d l=>
   simp only[merge];rw[b _ _ (by simpa using c),aet];simp
theorem C2:∀(a:List Nat) (σ l:VS) (i:Nat),i ∉ a->i<σ.length->(merge σ a l)[i]?=σ[i]?:=by
 intro a;induction a with
 |nil=>intro σ l i _ d;simp only[merge];rw[List.getElem?_append_left d]
 |cons g a c=>
  intro σ l i b d;cases l with
  |nil=>rfl
  |cons k l=>
   simp only[merge];rw[c _ _ _ (fun f=>b (by simp[f])) (by rw[aet];exact d),List.getElem?_set_ne (fun f=>b (by simp[f]))]
theorem yL:∀(a:List Nat) (σ l:VS) (d i:Nat),a.Nodup->(∀i∈a,i<σ.length)->a.length<=l.length->a[d]?=some i->(merge σ a l)[i]?=l[d]?:=by
 intro a;induction a with
 |nil=>intro σ l d i _ _ _ f;simp at f
 |cons o a m=>
  intro σ l d i k b g f;cases l with
  |nil=>simp at g
  |cons p l=>
   simp only[merge];have c:=List.nodup_cons.1 k;cases d with
   |zero=>
    simp at f;subst f;rw[C2 _ _ _ _ c.1 (by rw[aet];exact b _ sm),List.getElem?_set_self (b _ sm)];rfl
   |succ d=>
    rw[m _ _ d i c.2 (fun i n=>by rw[aet];exact b i (by simp[n])) (by simpa using g) (by simpa using f)];rfl
theorem PX:∀(a:List Nat) (σ l:VS) (b:Nat),a.length<=l.length->(merge σ a l)[σ.length+b]?=l[a.length+b]?:=by
 intro a;induction a with
 |nil=>intro σ l b _;simp only[merge,List.length_nil,Nat.zero_add];rw[List.getElem?_append_right om];congr 1;omega
 |cons i a c=>
  intro σ l b d;cases l with
  |nil=>simp at d
  |cons f l=>
   simp only[merge];have:=c (σ.set i f) l b (by simpa using d);rw[aet]at this;rw[this,List.length_cons,show a.length+1+b=(a.length+b)+1 from by omega];rfl
def nZ(a:Nat->Nat):cO->cO
 |.ret b=>.ret (gW a b)
 |.eH b=>.eH (gW a b)
variable{h:List Nat}
section
variable{C:dR} {cF:ql} {Φ:Fz} {ρ:Nat->Nat} {σ:VS} {st:St}
def iq(σ:VS)(ρ:Nat->Nat)(a:List Nat)(c:Nat):Prop:=∃i b,σ[i]?=some b/\live b=true/\i ∉ a/\ρ i=c
open Classical in
noncomputable def sA(Φ:Fz)(σ:VS)(ρ:Nat->Nat)(a:List Nat)(st:St):Fz:=
 ⟨fun b=>if iq σ ρ a b then st.get b else Φ b,fun b=>Φ.Eo b/\¬iq σ ρ a b,fun f=>Φ.ss f∨∃i c,σ[i]?=some (.box c)/\i ∉ a/\ρ i=f⟩
open Classical in
noncomputable def C3(Φ a:Fz)(σ:VS)(ρ:Nat->Nat)(b:List Nat):Fz:=
 ⟨fun c=>if iq σ ρ b c then none else a c,a.Eo,Φ.ss⟩
open Classical in
theorem qJ{a:List Nat}{b:Nat}(c:iq σ ρ a b):(sA Φ σ ρ a st) b=st.get b:=by
 show(if iq σ ρ a b then st.get b else Φ b)=_;rw[if_pos c]
open Classical in
theorem nu{a:List Nat}{b:Nat}(c:¬iq σ ρ a b):(sA Φ σ ρ a st) b=Φ b:=by
 show(if iq σ ρ a b then st.get b else Φ b)=_;rw[if_neg c]
open Classical in
theorem nv{a:Fz}{b:List Nat}{c:Nat}(d:iq σ ρ b c):(C3 Φ a σ ρ b) c=none:=by
 show(if iq σ ρ b c then none else a c)=_;rw[if_pos d]
open Classical in
theorem kF{a:Fz}{b:List Nat}{c:Nat}(d:¬iq σ ρ b c):(C3 Φ a σ ρ b) c=a c:=by
 show(if iq σ ρ b c then none else a c)=_;rw[if_neg d]
def C4(ρ a:Nat->Nat)(b c:Nat):Nat->Nat:=fun i=>if i<b then ρ i else a (c+(i-b))
theorem rU(q:Real Φ ρ σ st){i:Nat}{o:cN}(l:σ[i]?=some o)(c:live o=true):∃n,st.get (ρ i)=some n/\((∃t b f p,n=.cells t b f p)->qD o=true):=by
 have a:=(q.obj i o l c).1;cases o with
 |box r=>exact⟨_,a.1.1,fun _=>rfl⟩
 |row k m=>obtain⟨⟨f,p,g⟩,_⟩:=a;exact⟨_,g,fun _=>rfl⟩
 |map k d=>exact⟨_,a.1,fun⟨_,_,_,_,b⟩=>by cases b⟩
 |loop v=>obtain⟨s,g,_⟩:=a;exact⟨_,g,fun⟨_,_,_,_,b⟩=>by cases b⟩
 |eI u=>exact⟨_,a,fun⟨_,_,_,_,b⟩=>by cases b⟩
 |gone=>cases c
theorem kM{a i:Nat}(b:h[a]?=some i)(c:Nat):jT h c a=i:=by
 unfold jT;rw[ck,b]
theorem Hl{a:Nat}(c:h.length<=a)(b:Nat):jT h b a=b+(a-h.length):=by
 unfold jT;rw[ck,List.getElem?_eq_none c]
theorem bV.frame(a:List Nat){f:FuncId}{J:VS}{dM aL:List V}{br K:cO->VS->Prop}(bO:bV C cF f dM J br)(bn:a.length=J.length)(bi:a.Nodup) 
  (aR:∀k i:Nat,a[k]?=some i->∃o,J[k]?=some o/\σ[i]?=some (dF (jT a σ.length) o)/\fW J.length o=true)
  (aO:fu J.length dM=true) (aB:aL=hU (jT a σ.length) dM)
  (bQ:∀ap ao,br ap ao->J.length<=ao.length->K (nZ (jT a σ.length) ap) (merge σ a (ao.map (dF (jT a σ.length))))):bV C cF f aL σ K:=by
 refine⟨fun Φ ρ st N aU=>?_⟩;have ab:∀i∈a,i<σ.length:=fun i z=>by
  obtain⟨k,v⟩:=aeU z;obtain⟨o,_,d,_⟩:=aR k i v;exact(abK.1 d).1
 have U:∀k o,J[k]?=some o->∃i,a[k]?=some i/\σ[i]?=some (dF (jT a σ.length) o)/\fW J.length o=true:=fun k o v=>by
  have ab:k<a.length:=by rw[bn];exact(abK.1 v).1
  refine⟨a[k],abL ab,?_⟩;obtain⟨j,c,d,l⟩:=aR k _ (abL ab);rw[v]at c;cases c;exact⟨d,l⟩
 have bl:∀k x i,a[k]?=some i->a[x]?=some i->k=x:=fun k x i v s=>by
  have c:=(abK.1 v);have d:=(abK.1 s);obtain⟨aG,aU⟩:=c;obtain⟨b,g⟩:=d;have bE:=List.pairwise_iff_getElem.1 bi;rcases Nat.lt_trichotomy k x with ak|ak|ak
  ·exact absurd (aU.trans g.symm) (bE k x aG b ak)
  ·exact ak
  ·exact absurd (g.trans aU.symm) (bE x k b aG ak)
 have aH:∀O,iq σ ρ a O->Φ O=none:=fun O ⟨i,o,z,u,_,r⟩=>by rw[<-r];exact(N.obj i o z u).2
 have bs:∀{i:Nat} {o:cN},i∈a->σ[i]?=some o->live o=true->¬iq σ ρ a (ρ i):=fun{i o} z Y u ⟨R,j,c,d,l,r⟩=>l (by
  have:=N.inj R i j o c Y d u r;rw[this];exact z)
 have e:Φ.le (sA Φ σ ρ a st):=by
  refine⟨fun b o g=>?_,fun b o g=>?_,fun _ N=>.inl N⟩
  ·have:¬iq σ ρ a b:=fun q=>by rw[aH b q]at g;cases g
   rw[nu this];exact g
  ·have:¬iq σ ρ a b:=fun q=>by rw[aH b q]at g;cases g
   exact⟨fun an=>an.1,fun an=>⟨an,this⟩⟩
 have aM:∀O aA r fm p,(sA Φ σ ρ a st) O=some (.cells aA r fm p)->st.get O=some (.cells aA r fm p)/\((Φ O=some (.cells aA r fm p))∨∃i o,σ[i]?=some o/\qD o=true/\i ∉ a/\ρ i=O):=by
  intro O aA r fm p B;by_cases q:iq σ ρ a O
  ·have bg:=q;rw[qJ q]at B;obtain⟨i,o,c,d,l,X⟩:=q;obtain⟨aG,n,h⟩:=rU N c d;rw[X,B]at n;cases n;exact⟨B,.inr ⟨i,o,c,h ⟨_,_,_,_,Z⟩,l,X⟩⟩
  ·rw[nu q]at B;exact⟨N.fz _ _ B,.inl B⟩
 have bI:∀{o:cN},qD o=true->live o=true:=fun{o} Y=>by cases o<;>first|rfl|cases Y
 have bg:Real (sA Φ σ ρ a st) (fun k=>ρ (jT a σ.length k)) J st:=by
  refine⟨N.wf,N.wm,fun b o g=>?_,fun b g=>?_,fun fm al=>?_,fun O bq aA r fm p ah Q ag B aD=>?_,fun k af ae aA r fm p v E=>?_,fun k o v u=>?_,fun k x bU F v s bw m r=>?_,fun k af ae aA r fm p au O v E W B D=>?_⟩
  ·by_cases q:iq σ ρ a b
   ·rw[qJ q]at g;exact g
   ·rw[nu q]at g;exact N.fz b o g
  ·by_cases q:iq σ ρ a b
   ·rw[qJ q]at g;obtain⟨i,o,c,d,l,X⟩:=q;rw[<-X]at g;have s:=(N.obj i o c d).1;cases o with
    |box aE=>rw[s.1.1]at g;cases g
    |row af ae=>obtain⟨⟨_,_,x⟩,_⟩:=s;rw[x]at g;cases g
    |map af az=>rw[s.1]at g;cases g
    |loop bR=>obtain⟨_,x,_⟩:=s;rw[x]at g;cases g
    |eI bH=>have x:st.get (ρ i)=some (.eI bH):=s;rw[x]at g;cases g
    |gone=>cases d
   ·rw[nu q]at g;exact N.PJ b g
  ·rcases al with al|⟨i,aE,c,_,l⟩
   ·exact N.ss fm al
   ·obtain⟨⟨⟨P,S⟩,_⟩,_⟩:=N.obj i _ c rfl;rw[<-l];exact⟨S,N.lt c Z⟩
  ·obtain⟨bt,aY⟩:=aM O aA r fm p B;obtain⟨bC,aF⟩:=aM bq ah Q fm ag aD;by_cases aC:O=bq
   ·exact aC
   ·exfalso;rcases aY with aY|⟨i,o,c,d,l,X⟩
    ·rcases aF with aF|⟨i,o,c,d,l,X⟩
     ·exact aC (N.PK O bq _ _ _ _ _ _ _ aY aF)
     ·subst X;exact N.ox c d bC bt aC (.inl (by rw[aY];simp)) Z
    ·subst X;refine N.ox c d bt bC (fun r=>aC r.symm) ?_ Z;rcases aF with aF|⟨R,j,P,S,bS,bN⟩
     ·exact .inl (by rw[aF];simp)
     ·exact .inr ⟨R,j,P,bI S,bN⟩
  ·obtain⟨i,c,d,l⟩:=U k _ v;have E:st.get (ρ (jT a σ.length k))=some (.cells aA r fm p):=E;rw[kM c]at E;rintro(aX|⟨R,aE,n,h,bp⟩)
   ·exact N.K2 i _ _ _ _ _ _ d E aX
   ·obtain⟨⟨⟨P,S⟩,_⟩,_⟩:=N.obj R _ n rfl;have D:ρ R≠ρ i:=fun r=>h (by
     have:=N.inj R i _ _ n d rfl rfl r;rw[this];exact aeT c)
    exact N.ox d Z E P D (.inr ⟨R,_,n,Z,Z⟩) bp
  ·obtain⟨i,c,d,l⟩:=U k _ v;have aP:live (dF (jT a σ.length) o)=true:=by rw[iW];exact u
   obtain⟨P,S⟩:=N.obj i _ d aP;show Ig _ _ _ _ _ (ρ (jT a σ.length k))/\(sA Φ σ ρ a st) (ρ (jT a σ.length k))=none;rw[kM c];refine⟨?_,by rw[nu (bs (aeT c) d aP)];exact S⟩;have:=P.S7 l;exact(⟨e,fun _ _=>Z,aeN _⟩:iJ Φ (fun k=>ρ (jT a σ.length k)) J.length (sA Φ σ ρ a st) (fun k=>ρ (jT a σ.length k)) J.length).obj Z (fun _ _ _ _ _ aX=>aX) this
  ·obtain⟨i,c,d,_⟩:=U k _ v;obtain⟨R,L,ad,_⟩:=U x _ s;have r:ρ (jT a σ.length k)=ρ (jT a σ.length x):=r;rw[kM c,kM L]at r;have:=N.inj i R _ _ d ad (by rw[iW];exact bw) (by rw[iW];exact m) r;subst this;exact bl k x i c L
  ·obtain⟨i,c,d,l⟩:=U k _ v;have E:st.get (ρ (jT a σ.length k))=some (.cells aA r fm p):=E;have D:O≠ρ (jT a σ.length k):=D;rw[kM c]at E D;obtain⟨P,S⟩:=N.dP i _ _ _ _ _ _ au O d E W B D;refine⟨?_,fun av j bF bG=>?_⟩
   ·rw[nu]
    ·exact P
    ·rintro⟨R,j,n,h,_,bb⟩;exact S R j n h bb
   ·obtain⟨R,L,ad,_⟩:=U av _ bF;show ρ (jT a σ.length av)≠O;rw[kM L];exact S R _ ad (by rw[iW];exact bG)
 have aQ:eV (sA Φ σ ρ a st) J.length dM:=by
  rw[aB]at aU;exact(kE dM aU aO).mono e (aeN _)
 obtain⟨bT,ap,bz,ac,M,I,y,bL,aa,w,bA,bM⟩:=bO.go _ _ st bg aQ;have aK:a.length<=(y.map (dF (jT a σ.length))).length:=by rw[aeP,bn];exact aa.len
 have G:∀k,(C4 ρ I σ.length a.length) (jT a σ.length k)=I k:=by
  intro k;by_cases v:k<a.length
  ·have c:=abL v;rw[kM c];show(if a[k]<σ.length then _ else _)=_;rw[if_pos (ab _ (List.getElem_mem v))];have:=aa.vA k (by rw[<-bn];exact v);rw[this,kM c]
  ·rw[Hl om];show(if σ.length+(k-a.length)<σ.length then _ else _)=_;rw[if_neg om];congr 1;omega
 have aq:=PW a σ (y.map (dF (jT a σ.length))) aK;rw[aeP]at aq;have aI:∀k,k<y.length->jT a σ.length k<(merge σ a (y.map (dF (jT a σ.length)))).length:=by
  intro k v;rw[aq];by_cases bj:k<a.length
  ·rw[kM (abL bj)];have:=ab _ (List.getElem_mem bj);omega
  ·rw[Hl om];omega
 have H:∀i o,(merge σ a (y.map (dF (jT a σ.length))))[i]?=some o->(∃k A,y[k]?=some A/\o=dF (jT a σ.length) A/\jT a σ.length k=i)∨(i<σ.length/\i ∉ a/\σ[i]?=some o):=by
  intro i o Y;by_cases z:i<σ.length
  ·by_cases W:i∈a
   ·obtain⟨k,v⟩:=aeU W;rw[yL a σ _ k i bi ab aK v,List.getElem?_map]at Y;cases c:y[k]? with
    |none=>rw[c]at Y;cases Y
    |some A=>rw[c]at Y;cases Y;exact .inl ⟨k,A,c,rfl,kM v _⟩
   ·rw[C2 a σ _ i W z]at Y;exact .inr ⟨z,W,Y⟩
  ·have:=PX a σ (y.map (dF (jT a σ.length))) (i-σ.length) aK;rw[show σ.length+(i-σ.length)=i from om,Y,List.getElem?_map]at this;cases c:y[a.length+(i-σ.length)]? with
   |none=>rw[c]at this;cases this
   |some A=>
    rw[c]at this;cases this;exact .inl ⟨_,A,c,Z,by rw[Hl om];omega⟩
 have t:∀{i:Nat} {o:cN},σ[i]?=some o->live o=true->i ∉ a->ac.get (ρ i)=st.get (ρ i)/\M (ρ i)=st.get (ρ i)/\¬M.Eo (ρ i):=by
  intro i o z u W;have q:iq σ ρ a (ρ i):=⟨i,o,z,u,W,rfl⟩;obtain⟨aG,n,_⟩:=rU N z u;have al:(sA Φ σ ρ a st) (ρ i)=some aG:=by rw[qJ q];exact n
  have c:=aa.le.Rv _ _ al;exact⟨by rw[w.fz _ _ c,n],by rw[c,n],fun an=>((aa.le.Eo _ _ al).1 an).2 q⟩
 have ax:M.JA (C3 Φ M σ ρ a):=by
  intro b o g an;have:¬iq σ ρ a b:=fun⟨i,j,c,d,l,X⟩=>(t c d l).2.2 (X▸an);exact⟨by rw[kF this];exact g,an⟩
 have bk:Φ.le (C3 Φ M σ ρ a):=by
  refine⟨fun b o g=>?_,fun b o g=>?_,fun _ N=>N⟩
  ·have:¬iq σ ρ a b:=fun q=>by rw[aH b q]at g;cases g
   rw[kF this];exact aa.le.Rv _ _ (e.Rv _ _ g)
  ·have c:=e.Rv _ _ g;exact(aa.le.Eo _ _ c).trans (e.Eo _ _ g)
 have aV:iJ Φ ρ σ.length (C3 Φ M σ ρ a) (C4 ρ I σ.length a.length) (merge σ a (y.map (dF (jT a σ.length)))).length:=
  ⟨bk,fun i z=>if_pos z,by rw[aq];omega⟩
 have aw:(fun k=>(C4 ρ I σ.length a.length) (jT a σ.length k))=I:=funext G;have ay:∀{k:Nat} {o:cN},y[k]?=some o->live o=true->¬iq σ ρ a (I k):=by
  rintro k o v u ⟨i,j,c,d,l,X⟩;have:=(t c d l).2.1;obtain⟨aG,n,_⟩:=rU N c d;rw[X,(w.obj k o v u).2]at this;rw[X]at n;rw[n]at this;cases this
 have ba:Real (C3 Φ M σ ρ a) (C4 ρ I σ.length a.length) (merge σ a (y.map (dF (jT a σ.length)))) ac:=by
  have T:∀i,i<σ.length->(C4 ρ I σ.length a.length) i=ρ i:=fun i z=>if_pos z;refine⟨w.wf,w.wm,fun b o g=>?_,fun b g=>?_,fun fm al=>w.ss fm (aa.le.ss _ (e.ss _ al)),fun O bq aA r fm p ah Q ag B aD=>?_,fun i af ae aA r fm p z E=>?_,fun i o z u=>?_,fun i x bK F z s am m r=>?_,fun i af ae aA r fm p au O z E W B D=>?_⟩
  ·by_cases q:iq σ ρ a b
   ·rw[nv q]at g;cases g
   ·rw[kF q]at g;exact w.fz b o g
  ·by_cases q:iq σ ρ a b
   ·rw[nv q]at g;cases g
   ·rw[kF q]at g;exact w.PJ b g
  ·by_cases bh:iq σ ρ a O
   ·rw[nv bh]at B;cases B
   ·by_cases be:iq σ ρ a bq
    ·rw[nv be]at aD;cases aD
    ·rw[kF bh]at B;rw[kF be]at aD;exact w.PK O bq _ _ _ _ _ _ _ B aD
  ·rcases H i _ z with⟨k,A,c,d,rfl⟩|⟨c,d,l⟩
   ·cases A with
    |row bu bm=>
     rw[G]at E;intro aX;exact w.K2 k _ _ _ _ _ _ c E (aa.le.ss _ (e.ss _ aX))
    |_=>cases d
   ·rw[T i c,(t l rfl d).1]at E;exact N.K2 i _ _ _ _ _ _ l E
  ·rcases H i _ z with⟨k,A,c,rfl,rfl⟩|⟨c,d,l⟩
   ·rw[iW]at u;obtain⟨P,S⟩:=w.obj k _ c u;rw[G];refine⟨?_,by rw[kF (ay c u)];exact S⟩;refine V7 aI ?_;rw[aw];exact P.th ax
   ·rw[T i c];obtain⟨P,S⟩:=N.obj i _ l u;refine⟨?_,nv ⟨i,o,l,u,d,Z⟩⟩;refine aV.acy (t l u d).1 (fun aE r=>?_) P;subst r;exact(w.ss _ (aa.le.ss _ (.inr ⟨i,aE,l,d,Z⟩))).1
  ·rcases H i _ z with⟨k,A,c,rfl,rfl⟩|⟨c,d,l⟩
   ·rw[iW]at am;rcases H x _ s with⟨av,bv,L,rfl,rfl⟩|⟨L,ad,aS⟩
    ·rw[iW]at m;rw[G,G]at r;rw[w.inj k av _ _ c L am m r]
    ·rw[G,T x L]at r;exact absurd ⟨x,F,aS,m,ad,r.symm⟩ (ay c am)
   ·rcases H x _ s with⟨av,bv,L,rfl,rfl⟩|⟨L,ad,aS⟩
    ·rw[iW]at m;rw[G,T i c]at r;exact absurd ⟨i,bK,l,am,d,r⟩ (ay L m)
    ·rw[T i c,T x L]at r;exact N.inj i x _ _ l aS am m r
  ·
   have bf:∀x F,(merge σ a (y.map (dF (jT a σ.length))))[x]?=some F->live F=true->(∃k A,y[k]?=some A/\live A=true/\(C4 ρ I σ.length a.length) x=I k)∨(iq σ ρ a ((C4 ρ I σ.length a.length) x)/\σ[x]?=some F/\x ∉ a/\x<σ.length):=by
    intro x F s m;rcases H x _ s with⟨k,A,c,rfl,rfl⟩|⟨c,d,l⟩
    ·rw[iW]at m;exact .inl ⟨k,A,c,m,G k⟩
    ·exact .inr ⟨by rw[T x c];exact⟨x,F,l,m,d,rfl⟩,l,d,c⟩
   rcases H i _ z with⟨k,A,c,d,rfl⟩|⟨c,d,l⟩
   ·cases A with
    |row bu bm=>
     rw[G]at E D;obtain⟨P,S⟩:=w.dP k _ _ _ _ _ _ au O c E W B D;have aW:¬iq σ ρ a O:=by
      rintro⟨R,j,n,h,bp,bb⟩;have:=(t n h bp).2.1;obtain⟨aG,q1,_⟩:=rU N n h;rw[bb,P]at this;rw[bb]at q1;rw[q1]at this;cases this
     refine⟨by rw[kF aW];exact P,fun x F s m=>?_⟩;rcases bf x F s m with⟨av,A,q1,q2,q3⟩|⟨q1,_⟩
     ·rw[q3];exact S av A q1 q2
     ·intro r;rw[r]at q1;exact aW q1
    |_=>cases d
   ·rw[T i c]at E D;have aJ:=E;rw[(t l rfl d).1]at aJ;have bJ:∀ah Q bc ag,ac.get O=some (.cells ah Q bc ag)->bc=fm:=fun ah Q bc ag bx=>w.wm.mem fm au O ah Q bc ag W B bx;have ar:M (ρ i)=some (.cells aA r fm p):=by rw[(t l rfl d).2.1];exact aJ
    have aN:∀{x:Nat} {F:cN},σ[x]?=some F->live F=true->st.get (ρ x)≠some .dead:=by
     intro x F s m r;have s:=(N.obj x F s m).1;cases F with
     |box aE=>rw[s.1.1]at r;cases r
     |row af ae=>obtain⟨⟨_,_,aT⟩,_⟩:=s;rw[aT]at r;cases r
     |map af az=>rw[s.1]at r;cases r
     |loop bR=>obtain⟨_,aT,_⟩:=s;rw[aT]at r;cases r
     |eI bH=>have aT:st.get (ρ x)=some (.eI bH):=s;rw[aT]at r;cases r
     |gone=>cases m
    have bD:M O=none:=by
     cases bo:M O with
     |none=>rfl
     |some o=>
      exfalso;rcases w.wm.row fm au O o W B (w.fz _ _ bo)with Q|⟨ah,Q,ag,ai⟩
      ·subst Q;exact w.PJ O bo
      ·subst ai;exact D (w.PK O (ρ i) _ _ _ _ _ _ _ bo ar)
    refine⟨?_,fun x F s m=>?_⟩
    ·by_cases q:iq σ ρ a O
     ·exact nv q
     ·rw[kF q];exact bD
    ·rcases bf x F s m with⟨k,A,q1,q2,q3⟩|⟨q1,q2,q3,q4⟩
     ·rw[q3];intro r;subst r;obtain⟨aG,n,h⟩:=rU w q1 q2;rcases w.wm.row fm au _ aG W B n with Q|⟨ah,Q,ag,ai⟩
      ·subst Q;have aj:=(w.obj k A q1 q2).1;cases A with
       |box aE=>rw[aj.1.1]at n;cases n
       |row af ae=>obtain⟨⟨_,_,aT⟩,_⟩:=aj;rw[aT]at n;cases n
       |map af az=>rw[aj.1]at n;cases n
       |loop bR=>obtain⟨_,aT,_⟩:=aj;rw[aT]at n;cases n
       |eI bH=>have aT:ac.get (I k)=some (.eI bH):=aj;rw[aT]at n;cases n
       |gone=>cases q2
      ·subst ai;exact w.ox q1 (h ⟨_,_,_,_,Z⟩) n (w.fz _ _ ar) (fun r=>D r.symm) (.inl (by rw[ar];simp)) Z
     ·rw[T x q4];intro r;subst r;obtain⟨aG,n,h⟩:=rU N q2 m;have bB:ac.get (ρ x)=some aG:=by rw[(t q2 m q3).1];exact n
      rcases w.wm.row fm au _ aG W B bB with Q|⟨ah,Q,ag,ai⟩
      ·subst Q;exact aN q2 m n
      ·subst ai;exact N.ox l Z aJ n D (.inr ⟨x,F,q2,m,Z⟩) Z
 refine⟨bT,nZ (jT a σ.length) ap,bz,ac,C3 Φ M σ ρ a,_,_,?_,aV,ba,?_,bQ ap y bM aa.len⟩
 ·rw[aB,iE,bL];congr 2;cases ap with
  |ret bP=>simp only[nZ,eG,jH,aw]
  |eH bP=>simp only[nZ,eG,jH,aw]
 ·cases ap with
  |ret bP=>exact Af aI (e9.th ax bA)
  |eH bP=>exact Af aI (e9.th ax bA)
end
mutual
theorem C5:∀v:V,gW (fun i=>i) v=v
 |.d _=>by simp only[gW]
 |.bp _ _=>by simp only[gW]
 |.ptr _ _ _ _=>by simp only[gW]
 |.fp _ _ _=>by simp only[gW]
 |.ms _ _ _ _ _=>by simp only[gW]
 |.map _=>by simp only[gW]
 |.fn _ a c=>by simp only[gW,qK a,qK c]
 |.tR _=>by simp only[gW]
 |.iface _ v=>by simp only[gW,C5 v]
 |.agg l=>by simp only[gW,qK l]
 |.dS l=>by simp only[gW,qK l]
theorem qK:∀l:List V,hU (fun i=>i) l=l
 |[]=>by simp only[hU]
 |v::l=>by simp only[hU,C5 v,qK l]
end
variable{j:cO} {e:List fq}
section
variable{C:dR} {cF:ql} {Φ du:Fz} {ρ dk:Nat->Nat} {σ:VS} {st:St} {m m':Nat}
theorem JB{c M:Nat}{a:V}(f:e9 Φ M a)(b:bd c a=true):e9 Φ c a:=ml (π:=fun i=>i) (M:=M) a (by rw[C5];exact f) b
theorem Mf{b M:Nat}{l:List V}(d:eV Φ M l)(a:fu b l=true):eV Φ b l:=kE (π:=fun i=>i) (M:=M) l (by rw[qK];exact d) a
theorem V8(o:cN):dF (fun i=>i) o=o:=by
 cases o with
 |box m=>simp only[dF,qK]
 |row c d=>simp only[dF];congr 1;rw[aeV (g:=id) (fun f _=>qK f),List.map_id]
 |map c p=>simp only[dF];congr 1;rw[aeV (g:=id) (fun f _=>by simp only[O8,C5];rfl),List.map_id]
 |loop n=>
  simp only[dF];have:∀a:Tm,rT (fun i=>i) a=a:=by
   intro a;induction a with
   |nil=>rfl
   |cons k a b=>obtain⟨l,q⟩:=k;simp only[rT,C5,b]
  rw[this]
 |eI l=>rfl
 |gone=>rfl
def mJ(a:Nat):VS->Nat->Bool
 |_,0=>true
 |[],_+1=>true
 |o::σ,b+1=>fW a o&&mJ a σ b
theorem BZ:∀{σ:VS} {c n:Nat},mJ c σ n=true->∀{i:Nat} {d:cN},i<n->σ[i]?=some d->fW c d=true:=by
 intro σ;induction σ with
 |nil=>intro c n _ i d _ b;simp at b
 |cons k σ f=>
  intro c n a i d g b;cases n with
  |zero=>omega
  |succ n=>
   simp only[mJ,aeO]at a;cases i with
   |zero=>simp at b;subst b;exact a.1
   |succ i=>exact f (n:=n) a.2 (Nat.lt_of_succ_lt_succ g) (by simpa using b)
theorem Real.take(c:Real Φ ρ σ st){n:Nat}(G:n<=σ.length)(w:mJ n σ n=true):Real Φ ρ (σ.take n) st:=by
 have b:∀i l,(σ.take n)[i]?=some l->i<n/\σ[i]?=some l:=fun i l a=>by
  rw[List.getElem?_take]at a;split at a
  ·rename_i c;exact⟨c,a⟩
  ·cases a
 have m:(σ.take n).length=n:=by rw[aev];omega
 refine⟨c.wf,c.wm,c.fz,c.PJ,c.ss,c.PK,fun i q g C D f p a d=>c.K2 i q g C D f p (b _ _ a).2 d,fun i l a o=>?_,fun i x y E a s=>c.inj i x y E (b _ _ a).2 (b _ _ s).2,fun i q g C D f p v F a d B A t=>?_⟩
 ·obtain⟨z,u⟩:=b _ _ a;obtain⟨k,r⟩:=c.obj i l u o;refine⟨?_,r⟩;rw[m];exact Ig.S7 (π:=fun i=>i) (M:=σ.length) (by rw[V8];exact k) (BZ w z u)
 ·obtain⟨k,r⟩:=c.dP i q g C D f p v F (b _ _ a).2 d B A t;exact⟨k,fun x l s o=>r x l (b _ _ s).2 o⟩
structure cU (m:Nat) (r:cO) (σ:VS) (K:cO->VS->Prop):Prop where
 go:∀Φ ρ st,Real Φ ρ σ st->CW Φ σ.length r->∃r' du dk oK,Φ.le du/\(∀i,i<m->dk i=ρ i)/\m<=oK.length/\Real du dk oK st/\CW du oK.length r'/\eG dk r'=eG ρ r/\K r' oK
theorem cU.now{K:cO->VS->Prop}(a:Nat.ble m σ.length=true)(b:K j σ):cU m j σ K:=
 ⟨fun Φ ρ st d c=>⟨j,Φ,ρ,σ,Fz.le_refl _,fun _ _=>rfl,aeu a,d,c,rfl,b⟩⟩
def PY(b:Nat):cO->Bool
 |.ret a=>bd b a
 |.eH a=>bd b a
theorem cU.drop(n:Nat){K:cO->VS->Prop}(b:Nat.ble n σ.length=true)(g:mJ n σ n=true)(c:PY n j=true)(f:cU m j (σ.take n) K):cU m j σ K:=by
 refine⟨fun Φ ρ st i d=>?_⟩;have b:=aeu b;have a:(σ.take n).length=n:=by rw[aev];omega
 refine f.go Φ ρ st (i.take b g) ?_;rw[a];cases j with
 |ret k=>exact JB (M:=σ.length) d c
 |eH k=>exact JB (M:=σ.length) d c
mutual
def o5(i b:Nat)(l:List cH):V->V
 |.ms j es k len cap=>match Nat.beq j i with
  |true=>.d (.ps b (k*es) es cap ((l.drop k).take len))
  |false=>.ms j es k len cap
 |.fn f a c=>.fn f (B0 i b l a) (B0 i b l c)
 |.iface t v=>.iface t (o5 i b l v)
 |.agg vs=>.agg (B0 i b l vs)
 |.dS vs=>.dS (B0 i b l vs)
 |v=>v
def B0(i b:Nat)(l:List cH):List V->List V
 |[]=>[]
 |v::vs=>o5 i b l v::B0 i b l vs
end
mutual
def uG(i Hm n:Nat):V->Prop
 |.ms j es k len _=>j=i->es=Hm/\k+len<=n
 |.fn _ a c=>yM i Hm n a/\yM i Hm n c
 |.iface _ v=>uG i Hm n v
 |.agg vs=>yM i Hm n vs
 |.dS vs=>yM i Hm n vs
 |_=>True
def yM(i Hm n:Nat):List V->Prop
 |[]=>True
 |v::vs=>uG i Hm n v/\yM i Hm n vs
end
section
variable{i b Hm:Nat} {l:List cH} {f p M:Nat}
mutual
theorem po(hb:b=ρ i)(V9:Φ b=some (.cells (l.flatten.map cz) Hm f p))(hd:Φ.Eo b)(hl:∀e∈l,e.length=Hm)(hs:∀e∈l,∀d∈e,xw Φ d):
  ∀v:V,e9 Φ M v->uG i Hm l.length v->e9 Φ M (o5 i b l v)/\erase ρ (o5 i b l v)=erase ρ v
 |.ms j es k len cap,hv,ho=>by
  simp only[uG]at ho;unfold o5;split
  ·rename_i hj;have:=Nat.eq_of_beq_eq_true hj;subst this;obtain⟨rfl,hlen⟩:=ho rfl;have hll:((l.drop k).take len).length=len:=by rw[aev,List.length_drop];omega
   refine⟨.d (.ps V9 (fun e he=>hl e (aeS (aeR he))) ?_ ?_ (fun e he=>hs e (aeS (aeR he))) hd),?_⟩
   ·rw[hll,aeP,rM hl,<-Nat.add_mul];exact Nat.mul_le_mul_right _ hlen
   ·rw[hll,<-List.map_drop,<-List.map_take,Js hl]
   ·simp only[erase,cz,hll,hb]
  ·exact⟨hv,Z⟩
 |.fn f' a c,hv,ho=>by
  simp only[uG]at ho;simp only[o5];cases hv with
  |fn h1 h2=>
   obtain⟨x1,x2⟩:=rV hb V9 hd hl hs a h1 ho.1;obtain⟨y1,y2⟩:=rV hb V9 hd hl hs c h2 ho.2;exact⟨.fn x1 y1,by simp only[erase,x2,y2]⟩
 |.iface t v,hv,ho=>by
  simp only[uG]at ho;simp only[o5];cases hv with
  |iface h1=>
   obtain⟨x1,x2⟩:=po hb V9 hd hl hs v h1 ho;exact⟨.iface x1,by simp only[erase,x2]⟩
 |.agg vs,hv,ho=>by
  simp only[uG]at ho;simp only[o5];cases hv with
  |agg h1=>
   obtain⟨x1,x2⟩:=rV hb V9 hd hl hs vs h1 ho;exact⟨.agg x1,by simp only[erase,x2]⟩
 |.dS vs,hv,ho=>by
  simp only[uG]at ho;simp only[o5];cases hv with
  |dS h1=>
   obtain⟨x1,x2⟩:=rV hb V9 hd hl hs vs h1 ho;exact⟨.dS x1,by simp only[erase,x2]⟩
 |.d _,hv,_=>by simp only[o5];exact⟨hv,tv⟩
 |.bp _ _,hv,_=>by simp only[o5];exact⟨hv,tv⟩
 |.ptr _ _ _ _,hv,_=>by simp only[o5];exact⟨hv,tv⟩
 |.fp _ _ _,hv,_=>by simp only[o5];exact⟨hv,tv⟩
 |.map _,hv,_=>by simp only[o5];exact⟨hv,tv⟩
 |.tR _,hv,_=>by simp only[o5];exact⟨hv,tv⟩
theorem rV(hb:b=ρ i)(V9:Φ b=some (.cells (l.flatten.map cz) Hm f p))(hd:Φ.Eo b)(hl:∀e∈l,e.length=Hm)(hs:∀e∈l,∀d∈e,xw Φ d):
  ∀vs:List V,eV Φ M vs->yM i Hm l.length vs->eV Φ M (B0 i b l vs)/\cl ρ (B0 i b l vs)=cl ρ vs
 |[],_,_=>⟨fun _ h=>by simp[B0]at h,by simp only[B0]⟩
 |v::vs,hv,ho=>by
  simp only[yM]at ho;obtain⟨x1,x2⟩:=po hb V9 hd hl hs v (hv v (aeW ..)) ho.1;obtain⟨y1,y2⟩:=rV hb V9 hd hl hs vs (fun x hx=>hv x (aeM _ hx)) ho.2;simp only[B0];refine⟨fun x hx=>?_,by simp only[cl,x2,y2]⟩;rcases aeQ.1 hx with e|hx
  ·rw[e];exact x1
  ·exact y1 x hx
end
end
def wq(i b:Nat)(l:List cH):cO->cO
 |.ret a=>.ret (o5 i b l a)
 |.eH a=>.eH (o5 i b l a)
def aaK(i Hm n:Nat):cO->Prop
 |.ret a=>uG i Hm n a
 |.eH a=>uG i Hm n a
theorem cU.freeze(i:Nat){n:cO}{K:cO->VS->Prop}{es:Nat}{els:List (List V)}{l:List cH}(k:nth σ i=some (.row es els))(t:qC els=some l)(s:aaK i es l.length n) 
  (E:∀b,cU m (wq i b l n) (σ.set i .gone) K):cU m n σ K:=by
 refine⟨fun Φ ρ st O x=>?_⟩;rw[ck]at k;obtain⟨c,f,p,q⟩:=sf O k;have L:=(O.obj i _ k rfl).2;have u:cl ρ els.flatten=l.flatten.map cz:=by rw[fQ t,uD]
 rw[u]at q;have J:=O.freeze k q;have g:=vI (o:=fX.cells (l.flatten.map cz) es f p) L;rw[fQ t]at c;obtain⟨d1,d2⟩:=c.d;have r:∀R∈l,∀I∈R,xw (oz Φ (ρ i) (.cells (l.flatten.map cz) es f p)) I:=fun R P I y=>(d2 R P I y).mono g;have o:(σ.set i .gone).length=σ.length:=aet;have w:∀a,e9 Φ σ.length a->uG i es l.length a->e9 (oz Φ (ρ i) (.cells (l.flatten.map cz) es f p)) σ.length (o5 i (ρ i) l a)/\erase ρ (o5 i (ρ i) l a)=erase ρ a:=
  fun a G B=>po (Φ:=oz Φ (ρ i) (.cells (l.flatten.map cz) es f p)) (f:=f) (p:=p) rfl (by rw[lf];exact if_pos rfl) (Or.inl rfl) d1 r a (G.mono g (aeN _)) B
 have d:CW (oz Φ (ρ i) (.cells (l.flatten.map cz) es f p)) (σ.set i .gone).length (wq i (ρ i) l n)/\eG ρ (wq i (ρ i) l n)=eG ρ n:=by
  rw[o];cases n with
  |ret a=>obtain⟨D,b⟩:=w a x s;exact⟨D,by simp only[wq,eG,b]⟩
  |eH a=>obtain⟨D,b⟩:=w a x s;exact⟨D,by simp only[wq,eG,b]⟩
 obtain⟨A,du,dk,v,M,H,N,Q,z,F,C⟩:=(E (ρ i)).go _ ρ st J d.1;exact⟨A,du,dk,v,g.trans M,H,N,Q,z,by rw[F];exact d.2,C⟩
theorem cv(s:Nat->Bool){f:FuncId}{a:List V}{K:cO->VS->Prop}(b:∀l,cF f l=none)(t:CY C cF s f a false .none σ fun F _ d=>cU σ.length F d K):bV C cF f a σ K:=by
 refine⟨fun Φ ρ st H B=>?_⟩;obtain⟨G,F,n,du,dk,d,c,z,m,A,D,_,q⟩:=uF t H B trivial;obtain⟨r,k,g,o,x,u,E,w,y,p,v⟩:=q.go du dk c A D;refine⟨G+1,r,c6 dk n,c,k,g,o,?_,⟨m.le.trans x,fun i b=>(u i b).trans (m.vA i b),E⟩,w,y,v⟩;simp only[jN,b];rw[p];exact z
def C6(b:Nat):List fq->Bool
 |[]=>true
 |⟨.GS d,a⟩::l=>Nat.blt d b&&fu b a&&C6 b l
 |⟨.fn _ c,a⟩::l=>fu b c&&fu b a&&C6 b l
theorem Oa{m M:Nat}:∀{l:List fq},C6 m l=true->(∀c∈l,Jh Φ M c)->∀c∈l,Jh Φ m c:=by
 intro l;induction l with
 |nil=>intro _ _ c g;simp at g
 |cons n l i=>
  intro b g c a;obtain⟨o,k⟩:=n;have d:=g _ (aeW ..);cases o with
  |GS q=>
   simp only[C6,aeO]at b;rcases aeQ.1 a with rfl|a
   ·exact⟨gw b.1.1,Mf d.2 b.1.2⟩
   ·exact i b.2 (fun c a=>g c (aeM _ a)) c a
  |fn f p=>
   simp only[C6,aeO]at b;rcases aeQ.1 a with rfl|a
   ·exact⟨Mf (show eV Φ M p from d.1) b.1.1,Mf d.2 b.1.2⟩
   ·exact i b.2 (fun c a=>g c (aeM _ a)) c a
def PZ(a:Nat):lJ->Bool
 |.gg b=>bd a b
 |_=>true
theorem cd.drop(n:Nat){g:uw}{c:Code}{p d:Tm}{f:lJ}{A:Bu->Tm->List fq->lJ->VS->Prop}(z:mP d p)(i:Nat.ble n σ.length=true)(m:Nat.ble g.fl n=true)(u:mJ n σ n=true)(s:Ag n d=true)(l:C6 n e=true)(o:PZ n f=true) 
  (E:cd C cF g c d e f (σ.take n) A):cd C cF g c p e f σ A:=by
 refine⟨fun Φ ρ st v y r k w x=>?_⟩;have i:=aeu i;have a:(σ.take n).length=n:=by rw[aev];omega
 refine E.go Φ ρ st v (y.take i u) (fun B t q=>?_) ⟨k.1,?_⟩ ?_ ⟨x.1,by rw[a];exact aeu m⟩
 ·obtain⟨D,b⟩:=r B t (pP z B t q);rw[a];exact⟨D,JB b (Ah s q)⟩
 ·rw[a];exact Oa l k.2
 ·rw[a];cases f with
  |gg t=>exact JB (M:=σ.length) w o
  |none=>trivial
  |rD=>trivial
theorem Ai:∀(g:List Tmp) (a:List V) (d:Nat) {f:Tm} {n:Tr Value} {o:Tm->Prop},sw g a d f o->gK Φ ρ m f n->eV Φ m a->∃c i,o c/\nh g (cl ρ a) d n=some i/\gK Φ ρ m c i:=by
 intro g;induction g with
 |nil=>
  intro a d f n o b k l;cases a with
  |nil=>exact⟨f,n,b,rfl,k⟩
  |cons _ _=>exact b.elim
 |cons x g u=>
  intro a d f n o b k l;cases a with
  |nil=>exact b.elim
  |cons v a=>
   unfold sw at b;split at b
   ·rename_i q;obtain⟨c,i,r,p,t⟩:=u a d b (k.set (l v sm)) (fun w s=>l w (by simp[s]));exact⟨c,i,r,by simp only[nh,cl,q];exact p,t⟩
   ·exact b.elim
theorem s8{l:Nat}{b:Bool}{s:LoopState}{gg:Option Code}{K:cO->VS->Prop}(c:rQ l b s gg e σ K)(n:Real Φ ρ σ st){g:List Deferred}(m:CN Φ ρ σ.length e g):
  ∃d f,st.get (ρ l)=some (.loop d)/\g=[]/\K (.ret (.d (.bool b))) f/\f.length=σ.length/\Real Φ ρ f (st.put (ρ l) (.loop {d with state:=s,pending:=gg})):=by
 unfold rQ at c;split at c
 ·rename_i p i;rw[ck]at i;obtain⟨⟨d,k,a⟩,_⟩:=n.obj l _ i rfl;obtain⟨_,c⟩:=kD _ _ _ _ c;refine⟨d,_,k,m.1,c,js _ _,n.put i Z Z Z (fun _ _ _ _ o=>by cases o) ⟨{d with state:=s,pending:=gg},by rw[c8,if_pos rfl],⟨Z,Z,a.fn,a.tm,a.nt,a.params,a.assign,a.body,a.defers,a.ee⟩⟩⟩
 ·exact c.elim
theorem iA.intro{l:Nat}{d:List V}{K:cO->VS->Prop}(i:S5 C cF l d σ K):iA C cF l d σ K:=by
 refine⟨fun Φ ρ st ae aj I=>?_⟩;unfold S5 N8 at i;split at i
 ·rename_i p U;rw[ck]at U;obtain⟨⟨c,j,f⟩,_⟩:=ae.obj l _ U rfl;split at i
  ·exact i.elim
  ·rename_i an ac;obtain⟨aw,ar,i,J,ab⟩:=Ai p.params d p.nt i f.tm aj;have E:xB σ.length ⟨p.fn,p.nt,some l,false,p.fz,σ.length⟩:=⟨fun ax am=>by cases am;exact I,aeN _⟩;obtain⟨y,au,ah,Y,r,X,Q,ak,e,O,aq,P,g,M,w,ay,rfl⟩:=rS p.assign i (fr:=⟨ar,[]⟩) ⟨ae,ab,⟨rfl,fun _ ae=>by simp at ae⟩,tv⟩ E;cases ak with
   |norm=>
    simp only at g;split at g
    ·rename_i h s;rw[ck]at s;obtain⟨⟨o,q,b⟩,_⟩:=w.real.obj l _ s rfl;split at g
     ·rename_i u;obtain⟨_,g⟩:=kD _ _ _ _ g;have D:r l=ρ l:=M.vA l I;have N:=w.real.put (o':=.loop {h with state:=.busy}) (a:=.loop {o with state:=.busy}) s rfl rfl rfl (fun _ _ _ _ am=>by cases am)
       ⟨{o with state:=.busy},by rw[c8,if_pos rfl],⟨rfl,b.pending,b.fn,b.tm,b.nt,b.params,b.assign,b.body,b.defers,b.ee⟩⟩
      have S:SR Y r (X.set l (.loop {h with state:=.busy})) (Q.put (r l) (.loop {o with state:=.busy})) e O .none P:=⟨N,by rw[js];exact w.tm,by rw[js];exact w.df,tv⟩;have t:=(M.Mc E);obtain⟨x,av,W,Φ2,Vz,z,B,L,ao,T,ap,A,q1,q2,q3,q4,rfl⟩:=rS p.body g S (by rw[js];exact t.2);rw[t.1]at W;have acn:Vz l=ρ l:=(q2.vA l I).trans D;have xS:iJ Φ ρ σ.length Φ2 Vz z.length:=M.then q2 (aeN _);have n:=gN (hG (C:=C) (cF:=cF) (Nat.le_max_left y x)) _ ah;have k:=gN (hG (C:=C) (cF:=cF) (Nat.le_max_right y x)) _ W;have G:dV ρ ⟨p.fn,p.nt,some l,false,p.fz,σ.length⟩=⟨c.fn,c.nt,some (ρ l),false⟩:=by rw[f.fn,f.nt];rfl
      rw[G]at n k;rw[D]at k q;have ai:p.assign=c.assign:=f.assign.symm;have ag:p.body=c.body:=f.body.symm;rw[ai]at n;rw[ag]at k;have v:nh c.params (cl ρ d) c.nt c.tm=some ar:=by rw[f.params,f.nt];exact J
      have F:C.ff.get c.fn=some an:=by rw[f.fn];exact ac
      have H:o.state=.ready:=by rw[b.state];exact u
      have red:∀ad,(match(generalizing:=false) ek Vz L,A,B with
        |.norm,m,st=>match st.get (ρ l),m.df with
         |some (.loop c),[]=>some (CR.ret (.bool true),st.put (ρ l) (.loop {c with state:=.ready,pending:=none}))
         |_,_=>none
        |.ret,m,st=>match st.get (ρ l),m.df with
         |some (.loop c),[]=>some (.ret (.bool false),st.put (ρ l) (.loop {c with state:=.done,pending:=some .ret}))
         |_,_=>none
        |.exit id,m,st=>match st.get (ρ l),m.df with
         |some (.loop c),[]=>some (.ret (.bool false),st.put (ρ l) (.loop {c with state:=.done,pending:=some (.exit id)}))
         |_,_=>none
        |.panic af,m,st=>match m.df with
         |[]=>some (.eH af,st)
         |_=>none)=some ad->(jN C cF (max y x+1)).round (ρ l) (cl ρ d) st=some ad:=by
       intro ad aa;show ug C (jN C cF (max y x)) (ρ l) (cl ρ d) st=some ad;unfold ug;simp only[c6,ek]at n;simp only[c6]at k;simp only[j,F,v,n,q,H,k];cases L<;>simp only[ek]at aa⊢ <;>exact aa
      cases L with
      |norm=>
       obtain⟨al2,σ3,g1,g2,g3,g4,g5⟩:=s8 q1 q3.real q3.df;rw[acn]at g1 g5;exact⟨_,.ret (.d (.bool true)),_,Φ2,Vz,σ3,red _ (by simp only[ek,g1,g2];rfl),by rw[g4];exact xS,g5,.d (.bool _),g3⟩
      |ret=>
       exact YG
      |exit id=>
       exact YG
      |panic af=>
       simp only at q1;cases T with
       |nil=>
        have R:A.df=[]:=q3.df.1;exact⟨_,.eH af,B,Φ2,Vz,z,red _ (by simp only[ek,R];rfl),xS,q3.real,q4,q1⟩
       |cons _ _=>exact q1.elim
     ·exact g.elim
    ·exact g.elim
   |_=>exact g.elim
 ·exact i.elim
theorem bV.run{f:FuncId}{args:cH}{K:cO->VS->Prop}(a:bV C cF f (args.map V.d) [] K)(x:∀Φ,∀u∈args,xw Φ u):
  ∃v q g d dk k,(jN C cF v).call f (args.map cz) false .none ⟨.nil,0,.nil⟩=some (eG dk q,g,d)/\K q k:=by
 have c:∀m,(⟨.nil,0,.nil⟩:St).get m=none:=fun m=>pF m;have l:∀m,(⟨.nil,0,.nil⟩:St).fm.get m=none:=fun m=>pF m;have w:Real ⟨fun _=>none,fun _=>False,fun _=>False⟩ (fun _=>0) [] ⟨.nil,0,.nil⟩:=by
  refine⟨⟨fun b t a=>?_,fun b F G f p a=>?_,fun f n a=>?_⟩,⟨fun f n m a=>?_,fun f n m t a=>?_⟩,fun b t a=>(by cases a),fun b a=>(by cases a),fun f a=>a.elim,fun m E _ _ _ _ _ _ _ a=>(by cases a),fun i _ _ _ _ _ _ a=>(by simp at a),fun i t a=>(by simp at a),fun i D z A a=>(by simp at a),fun i _ _ _ _ _ _ _ _ a=>(by simp at a)⟩
  ·rw[c]at a;cases a
  ·rw[c]at a;cases a
  ·rw[l]at a;cases a
  ·rw[l]at a;cases a
  ·rw[l]at a;cases a
 obtain⟨v,q,g,d,du,dk,k,o,_,_,_,s⟩:=a.go _ _ _ w (fun B y=>by obtain⟨u,r,rfl⟩:=List.mem_map.1 y;exact .d (x _ u r));rw[nY]at o;exact⟨v,q,g,d,dk,k,o,s⟩
end
end Go.VM
