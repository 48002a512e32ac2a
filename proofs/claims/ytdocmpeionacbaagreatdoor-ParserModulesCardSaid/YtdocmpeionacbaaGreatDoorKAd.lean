/- Part of the proof. -/
import Derived.Test.YtdocmpeionacbaaGreatDoorKAc
set_option linter.all false
set_option maxHeartbeats 16000000
set_option maxRecDepth 100000
open Bool renaming and_eq_true->ais,and_self->aiA,true->A',false->B'
open List renaming mem_map->ait,map_congr_left->aiv,getElem?_eq_some_iff->aiw,length_set->aiB,getElem?_eq_getElem->aiF,mem_cons->aiG,mem_cons_of_mem->aiH,length_map->aiK,mem_cons_self->aiL,range'->aiM,map_cons->aiN,length_take->aiO,length_cons->aiP,all_eq_true->aiQ,mem_of_getElem?->aiT,getElem?_of_mem->aiU,map_id->aiW,length_nil->aiZ,pairwise_iff_getElem->ai0,getElem?_append_left->ai1,mem_of_mem_take->ai4,mem_of_mem_drop->ai5,length->j'
open Nat renaming beq_refl->aiu,le_refl->aiy,le_max_right->aiC,le_of_ble_eq_true->aiD,le_max_left->aiE,eq_of_beq_eq_true->aiI,not_lt_zero->aiJ,le_trans->aiR,blt->aiS,ble->aiV,lt_of_lt_of_le->aiX,lt_of_succ_lt_succ->ai2,zero_add->ai3
open Int renaming ofNat->aix,ofNat_eq_natCast->aiz
open Option renaming map_none->aiY,some->q',none->u'
open Go renaming FuncId->D',Oper->M',Code->T'
namespace Go.VM
open Go.AM
variable{N:Option Tmp} {B:Nat} {W:Nat->Nat} {A:x9} {y:Tm} {t:n_ gR} {X:VS} {u:o9} {F:Fr} {L:VOR->Prop} {Q:M'} {H:Prop} {w:n_ M'} {c:Hy->Tm->n_ gR->o9->VS->Prop}
section
variable{C:eN} {cU:r3} {Φ dV:Fz} {ρ dM:Nat->Nat} {σ:VS} {st:St} {m m':Nat}
theorem pf(d b:Nat)(e:V)(a:Tm):gE ((d,e)::a) b=if b=d then q' e else gE a b:=by
 all_goals grind [gE,Ue]
theorem iU.set{b:Tm}{f:Tr Value}(h:iU Φ ρ m b f){e:Nat}{d:V}(j:gk Φ m d):iU Φ ρ m ((e,d)::b) (f.set e (erase ρ d)):=by
 intro i g a;rw[pf]at a;rw[dx];split at a
 ·grind
 rename_i k;rw[W' k];exact h i g a
def wJ{tm:Tm}{f:V}{k:Tm->Prop}(a:V5 B tm N f k){fr:Fr}(e:iU Φ ρ m tm fr.tm)(g:gk Φ m f):
  ∃d b,k d/\kr B fr N (erase ρ f)=q' b/\iU Φ ρ m d b.tm/\b.df=fr.df:=by
 unfold V5 at a;split at a
 ·exact⟨tm,fr,a,Z,e,Z⟩
 rename_i i;split at a
 ·rename_i h;exact⟨_,{fr with tm:=fr.tm.set i (erase ρ f)},a,by simp only[kr,h],e.set g,Z⟩
 exact a.elim
def jO.ps(d:jO Φ ρ m dV dM m'){a:o9}(b:El Φ m a):dN dM a=dN ρ a/\El dV m' a:=by
 cases a with
 |none=>exact⟨rfl,tv⟩
 |hD e=>exact⟨by simp only[dN,d.erase b],d.ok b⟩
 |tC=>exact⟨rfl,tv⟩
def jO.weaken(b:jO Φ ρ m dV dM m'){k:Nat}(a:k<=m):jO Φ ρ k dV dM m':=⟨b.le,λi d=>b.xO i (aiX d a),aiR a b.len⟩
def jO.then{a:Fz}{d:Nat}(f:jO Φ ρ m dV dM m')(k:jO dV dM B a W d)(b:m<=B):jO Φ ρ m a W d:=
 ⟨f.le.trans k.le,λi e=>(k.xO i (aiX e b)).trans (f.xO i e),aiR b k.len⟩
def jO.Q6(d:jO Φ ρ A.fl dV dM m')(a:AX m A):fj dM A=fj ρ A/\AX m' A:=by
 refine⟨?_,a.1,d.len⟩;unfold fj;cases b:A.round with
 |none=>rfl
 |some l=>simp only[Option.map_some];rw[d.xO l (a.1 l b)]
def jO.fc(d:jO Φ ρ m dV dM m'){a:x9}(b:AX m a):fj dM a=fj ρ a/\AX m' a:=(d.weaken b.2).Q6 b
structure SR (Φ:Fz) (ρ:Nat->Nat) (σ:VS) (st:St) (tm:Tm) (df:List gR) (ps:o9) (fr:Fr):Prop where
 real:Real Φ ρ σ st
 tm:iU Φ ρ (j' σ) tm fr.tm
 df:F0 Φ ρ (j' σ) df fr.df
 ps:El Φ (j' σ) ps
inductive OR' (Φ:Fz) (ρ:Nat->Nat) (m:Nat) (K:VOR->Prop) (r:Ee):Prop
 |next (dV:Fz) (dM:Nat->Nat) (pL:VS) (dy:St) (tm:Tm) (df:List gR) (ps:o9) (fr:Fr) (hk:K (.next tm df ps pL)) (hs:jO Φ ρ m dV dM (j' pL)) (h:SR dV dM pL dy tm df ps fr)
   (hr:r=.next fr (dN dM ps) dy)
 |fJ (v:V) (dV:Fz) (dM:Nat->Nat) (pL:VS) (dy:St) (tm:Tm) (df:List gR) (ps:o9) (fr:Fr) (hk:K (.fJ v tm df ps pL)) (hs:jO Φ ρ m dV dM (j' pL)) (h:SR dV dM pL dy tm df ps fr) (hv:gk dV (j' pL) v)
   (hr:r=.fJ (erase dM v) fr (dN dM ps) dy)
def SR.move(d:SR Φ ρ σ st y t u F){a:St}(b:jO Φ ρ (j' σ) dV dM (j' X))(e:Real dV dM X a):SR dV dM X a y t u F:=
 ⟨e,b.tm d.tm,b.df d.df,(b.ps d.ps).2⟩
def Fm{f:V}{m0:Nat}{Φ0:Fz}{ρ0:Nat->Nat}(k:jO Φ0 ρ0 m0 Φ ρ (j' σ)) 
  (g:V5 A.nt y N f λy=>L (.next y t u σ)) (d:SR Φ ρ σ st y t u F) (l:gk Φ (j' σ) f):∃m,Ee.go A.nt F N (erase ρ f) (dN ρ u) st=q' m/\OR' Φ0 ρ0 m0 L m:=by
 have⟨a,b,i,e,j,h⟩:=wJ g d.tm l;refine⟨_,by simp only[Ee.go,e],.next Φ ρ σ st a t u b i k ⟨d.real,j,?_,d.ps⟩ Z⟩;rw[h];exact d.df
theorem MI{tm:Tm}{df:n_ gR}{ps:o9}(o:R9 C cU A Q tm df ps σ L){fr:Fr}(h:SR Φ ρ σ st tm df ps fr)(z:AX (j' σ) A):
  ∃n r,pM C (kY C cU n) (fj ρ A) Q fr (dN ρ ps) st=q' r/\OR' Φ ρ (j' σ) L r:=by
 unfold R9 at o;have S:=V2 h.real (lc h.tm) o;cases S with
 |val i=>
  have⟨v,pL,dV,dM,dy,a,b,k3,c,P⟩:=i;have h':=h.move b k3;have⟨r,e1,e2⟩:=Fm (Φ0:=Φ) (ρ0:=ρ) (m0:=j' σ) b a h' c;refine⟨0,r,?_,e2⟩;unfold pM;rw[P];simp only;rw[(b.ps h.ps).1]at e1;exact e1
 |fJ v a b k3=>
  refine⟨0,.fJ (erase ρ v) fr (dN ρ ps) st,?_,.fJ v Φ ρ σ st tm df ps fr a (.refl _ _ _) h b Z⟩;unfold pM;rw[k3]
 |enter f e a b k3=>
  have⟨n,r,u,dy,dV,dM,pL,e1,e2,e3,e4,e5⟩:=a.go Φ ρ st h.real b;exact I0
 |yield l e a T b k3=>
  have⟨n,r,dy,dV,dM,pL,e1,e2,e3,e4,e5⟩:=a.go Φ ρ st h.real b T;exact I0
 |recover a k3=>
  dsimp only at a;split at a
  ·exact a.elim
  rename_i g;split at a
  ·rename_i v w;have i:gk Φ (j' σ) v:=h.ps;have h':SR Φ ρ σ st tm df .tC fr:=⟨h.real,h.tm,h.df,tv⟩;have⟨r,g1,g2⟩:=Fm (Φ0:=Φ) (ρ0:=ρ) (m0:=j' σ) (.refl _ _ _) a h' i;refine⟨0,r,?_,g2⟩
   grind [pM,fj,dN]
  rename_i t;have⟨r,g1,g2⟩:=Fm (Φ0:=Φ) (ρ0:=ρ) (m0:=j' σ) (.refl _ _ _) a h (.d .AN);refine⟨0,r,?_,g2⟩;unfold pM;rw[k3];simp only[fj,g,aiY];split
  ·rename_i v e1 e2;exfalso;have:∀x:o9,dN ρ x=.hD v->∃q,x=.hD q:=λx p=>by
    cases x with
    |hD q=>exact⟨q,rfl⟩
    |none=>cases p
    |tC=>cases p
   grind
  exact g1
 |defer s a b k3=>
  dsimp only at a;split at a
  ·exact a.elim
  rename_i g;have⟨j,d,M,D,V,I⟩:=wJ (fr:={fr with df:=ku ρ s::fr.df}) a h.tm (An (Φ:=Φ) (m:=j' σ));have k:F0 Φ ρ (j' σ) (s::df) d.df:=by
   rw[I];refine⟨by simp only[aiN];rw[h.df.1],λy hx=>?_⟩;rcases aiG.1 hx with rfl|hx
   ·exact b
   exact h.df.2 y hx
  refine⟨0,_,?_,.next Φ ρ σ st j (s::df) ps d M (.refl _ _ _) ⟨h.real,V,k,h.ps⟩ Z⟩;unfold pM;rw[k3];simp only[fj,g,aiY,Ee.go];have:kr A.nt {fr with df:=ku ρ s::fr.df} Q.dst mM=q' d:=D;rw[this]
theorem pg{j:Prop}(a:DN w y Q H j)(i:iU Φ ρ m y F.tm):(jd w F Q=q' A'/\H)∨(jd w F Q=q' B'/\j):=by
 unfold DN at a;split at a
 ·grind [jd]
 rename_i p g e;split at a
 ·exact a.elim
 rename_i n f;split at a
 ·exact a.elim
 rename_i o d;split at a
 ·rename_i b h;have k:=(i _ _ h).1;cases g with
  |true=>
   cases b with
   |true=>exact .inl ⟨by simp only[jd,e,f,d,k,erase,cK],a⟩
   |false=>exact .inr ⟨by simp only[jd,e,f,d,k,erase,cK],a⟩
  |false=>
   cases b with
   |true=>exact .inr ⟨by simp only[jd,e,f,d,k,erase,cK],a⟩
   |false=>exact .inl ⟨by simp only[jd,e,f,d,k,erase,cK],a⟩
 ·rename_i l h;have k:=(i _ _ h).1
  grind [jd,erase]
 exact a.elim
theorem za(a:EW C cU A w Q y t u σ L)(h:SR Φ ρ σ st y t u F)(j:AX (j' σ) A):
  ∃k b,mP C (kY C cU k) (fj ρ A) w Q F (dN ρ u) st=q' b/\OR' Φ ρ (j' σ) L b:=by
 unfold EW at a;rcases pg a h.tm with⟨i,a⟩|⟨i,a⟩
 ·grind [mP,MI]
 have⟨b,e,d⟩:=Fm (Φ0:=Φ) (ρ0:=ρ) (m0:=j' σ) (.refl _ _ _) a h An;exact⟨0,b,by simp only[mP,i];exact e,d⟩
def CR'(Φ:Fz)(ρ:Nat->Nat)(m:Nat)(i:Hy->Tm->n_ gR->o9->VS->Prop)(j:Ex×Fr×eM×St):Prop:=
 ∃dV dM a b h f e d g,i h f e d a/\jO Φ ρ m dV dM (j' a)/\SR dV dM a b f e d g/\V4 dV (j' a) h/\j=(gb dM h,g,dN dM d,b)
def CR'.after{a:Fz}{b M:Nat}{p:Ex×Fr×eM×St}(n:jO a W b Φ ρ M)(s:CR' Φ ρ b c p):CR' a W b c p:=by
 have⟨dV,dM,e,d,r,o,f,h,l,j,g,m,i,k⟩:=s;exact⟨dV,dM,e,d,r,o,f,h,l,j,n.then g (aiy _),m,i,k⟩
def H2:∀(l:n_ M') {Φ:Fz} {ρ:Nat->Nat} {σ:VS} {st:St} {k:Tm} {d:n_ gR} {b:o9} {M:Hy->Tm->n_ gR->o9->VS->Prop},
  EX C cU A w l k d b σ M->∀{f:Fr},SR Φ ρ σ st k d b f->AX (j' σ) A->
  ∃x P,ri C (kY C cU x) (fj ρ A) w l f (dN ρ b) st=q' P/\CR' Φ ρ A.fl M P:=by
 intro l;induction l with
 |nil=>
  intro Φ ρ σ st k d b M e f q a;exact⟨0,_,Z,Φ,ρ,σ,st,.norm,k,d,b,f,e,(jO.refl _ _ _).weaken a.2,q,tv,Z⟩
 |cons y l t=>
  intro Φ ρ σ st k d b M e f q a;rw[MC]at e;unfold F8 at e;have⟨x,P,D,T⟩:=za e q a;cases T with
  |next dV dM n g m o h i p j s v=>
   subst v;have⟨r,S,I,V⟩:=t p s (j.fc a).2;refine⟨max x r,S,?_,V.after (j.weaken a.2)⟩;unfold ri;rw[sr (jc (aiE x r)) D];simp only;rw[(j.fc a).1]at I;exact DL (jc (aiC x r)) _ I
  |fJ u dV dM n g m o h i p j s v c=>
   subst c;refine⟨x,(.panic (erase dM u),i,dN dM h,g),?_,dV,dM,n,g,.panic u,m,o,h,i,p,j.weaken a.2,s,v,Z⟩;unfold ri;rw[D]
end
def O8(k:IntKind):v8 k k=A':=by cases k<;>rfl
mutual
theorem ph(ρ:Nat->Nat):∀v:V,qa (erase ρ v) (erase ρ v)=A'
 |.d x=>by
  cases x<;>simp only[erase,cK,qa,addrEq,aiu,aiA]
  ·simp
  ·rw[O8,tN];simp
  rw[CQ];simp
 |.bp i f=>by simp only[erase,qa,addrEq,aiu,aiA]
 |.ptr i es k f=>by simp only[erase,qa,addrEq,aiu,aiA]
 |.fp b off cs=>by simp only[erase,qa,addrEq,aiu,aiA]
 |.ms i es k len cap=>by simp only[erase,qa,addrEq,aiu,aiA]
 |.map i=>by simp only[erase,qa,aiu]
 |.fn f a c=>by simp only[erase,qa,YB,aiu,oU ρ a,oU ρ c,aiA]
 |.wA l=>by simp only[erase,qa,YB,aiu];rfl
 |.iface t v=>by simp only[erase,qa,aiu,ph ρ v,aiA]
 |.agg l=>by simp only[erase,qa,oU ρ l]
 |.dP l=>by simp only[erase,qa,oU ρ l]
theorem oU(ρ:Nat->Nat):∀l:n_ V,CB (cE ρ l) (cE ρ l)=A'
 |[]=>by simp only[cE,CB]
 |v::l=>by simp only[cE,CB,ph ρ v,oU ρ l,aiA]
end
variable{R:n_ (n_ V)} {J:cX} {Y:Bool} {K:n_ Nat}
section
variable{C:eN} {cU:r3} {Φ dV:Fz} {ρ dM:Nat->Nat} {σ:VS} {st:St} {m m':Nat}
def kj.af5(b:kj Φ m B R)(a:jO Φ ρ m dV dM m'):kj dV m' B R:=b.mono a.le a.len
def rv.mono{d:Op}(a:rv Φ m d J)(b:jO Φ ρ m dV dM m'):rv dV m' d J:=by
 unfold rv at a⊢;split at a
 ·exact⟨b.Ub a.1,a.2⟩
 ·exact⟨b.Ub a.1,a.2⟩
 ·exact a
 ·exact⟨a.1.af5 b,a.2⟩
 exact a.elim
def r9{a:Op}(d:rv Φ m a J)(b:jO Φ ρ m dV dM m')(e:Nat):jU a J dM e=jU a J ρ e:=by
 unfold rv at d;split at d
 ·simp only[jU,b.cE d.1]
 ·simp only[jU,b.cE d.1]
 ·rfl
 ·simp only[jU,b.cE (Mu d.1.ok)]
 exact d.elim
inductive mS (Φ:Fz) (ρ:Nat->Nat) (m:Nat) (ops:List M') (st:St):nX->uC->Prop
 |val {i:Nat} {v:V} {o:M'} (ho:nth ops i=q' o) (hm:hZ o.op=B') (hv:gk Φ m v):mS Φ ρ m ops st (.val i v) (.val i (erase ρ v))
 |obj {i:Nat} {v:V} {ob:cX} {j:Option Nat} {o:M'} {bl:Nat} {a:gJ} (ho:nth ops i=q' o) (hm:hZ o.op=A') (hv:gk Φ m v) (hk:rv Φ m o.op ob)
   (hmo:jU o.op ob ρ bl=q' (erase ρ v,a)) (hj:match j with|some j=>j<m/\ρ j=bl/\pa o.op=B'|none=>Φ bl=q' a):mS Φ ρ m ops st (.obj i v ob j) (.obj i (erase ρ v) bl a)
 |skip {i:Nat}:mS Φ ρ m ops st (.skip i) (.skip i)
 |fresh {i:Nat} {v:V} {ob:cX} {j:Nat} {o:M'} {bl:Nat} {a:gJ} (ho:nth ops i=q' o) (hm:hZ o.op=A') (hv:gk Φ m v) (hk:rv Φ m o.op ob)
   (hmo:jU o.op ob ρ bl=q' (erase ρ v,a)) (hg:st.get bl=q' a) (hl:bl<st.n):mS Φ ρ m ops st (.fresh i v ob j) (.obj i (erase ρ v) bl a)
 |never {i:Nat} {c:uC} (h:c.idx=i):mS Φ ρ m ops st (.never i) c
def mS.mono{e:n_ M'}{st d:St}{p:nX}{g:uC}(h:mS Φ ρ m e st p g)(hs:jO Φ ρ m dV dM m')(l:∀b,b<st.n->d.get b=st.get b)(n:st.n<=d.n):mS dV dM m' e d p g:=by
 cases h with
 |val ho hm hv=>rw[<-hs.erase hv];exact .val ho hm (hs.ok hv)
 |obj ho hm hv hk hmo hj=>
  exact Jc
 |skip=>exact .skip
 |fresh ho hm hv hk hmo k f=>
  rw[<-hs.erase hv];exact .fresh ho hm (hs.ok hv) (hk.mono hs) (by rw[r9 hk hs,hmo,hs.erase hv]) (by rw[l _ f];exact k) (aiX f n)
 |never h=>exact .never h
def mS.Sd{st d:St}{f:nX}{b:uC}(e:mS Φ ρ m w st f b)(hs:jO Φ ρ m dV dM m'):mS dV dM m' w d (MD f) b:=by
 cases e with
 |val ho hm hv=>rw[<-hs.erase hv];exact .val ho hm (hs.ok hv)
 |obj ho hm hv hk hmo hj=>
  exact Jc
 |skip=>exact .skip
 |fresh ho hm hv hk hmo h g=>exact .never rfl
 |never e=>exact .never e
theorem uS(b:iU Φ ρ m y F.tm){d:V}(a:V6 y N d):Dz F N (erase ρ d)=A':=by
 unfold V6 at a;split at a
 ·rfl
 simp only[Dz,(b _ _ a).1,ph]
theorem DO{a:Op}{e:Value}{d:gJ}(b:jU a J ρ B=q' (e,d)):As d d=A':=by
 unfold jU at b;split at b<;>first|cases b|skip
 ·exact Cx
 ·exact Cx
 ·rfl
 exact Cx
theorem Se(f:Real Φ ρ σ st){d:Op}{i:Value}{h:gJ}(a:jU d J ρ (ρ B)=q' (i,h))(e:rv Φ m d J)(g:pa d=B')(b:nth σ B=q' J):st.get (ρ B)=q' h:=by
 rw[cx]at b;unfold jU at a;split at a
 ·cases a;exact(f.obj B _ b rfl).1.1.1
 ·cases a;exact(f.obj B _ b rfl).1.1.1
 ·obtain⟨rfl,rfl⟩:=e;cases a;exact(f.obj B _ b Z).1.1
 ·cases g
 cases a
theorem H3(M:Real Φ ρ σ st)(d:iU Φ ρ (j' σ) y F.tm){q:nX}{m:uC}(T:mS Φ ρ (j' σ) w st q m)(a:yd C w y σ q):rj C w F st m=A':=by
 cases T with
 |val b o p=>
  unfold yd at a;simp only[b]at a;rcases pg a d with⟨r,k,h⟩|⟨_,f⟩
  ·obtain⟨E,rfl,_,A⟩:=ru M (lc d) h
   grind [rj,isSome,uS,ph,aiu]
  exact f.elim
 |obj b o p n j P=>
  rename_i i t D v c e V;unfold yd at a;simp only[b]at a;rcases pg a d with⟨r,k,h,I⟩|⟨_,f⟩
  ·have⟨_,g⟩:=sq (lc d) h;have⟨B,x,l,s⟩:=g ⟨.nil,e,.nil⟩;rw[show(⟨.nil,e,.nil⟩:St).n=e from rfl,j]at l;cases l;have S:st.get e=q' V:=by
    cases v with
    |some v=>
     grind [Se]
    |none=>exact M.fz _ _ P
   grind [dT,rj,isSome,uS,ph,DO,aiA]
  exact f.elim
 |fresh b o p n j u z=>
  rename_i i t D v c e V;unfold yd at a;simp only[b]at a;rcases pg a d with⟨r,k,h,I⟩|⟨_,f⟩
  ·have⟨_,g⟩:=sq (lc d) h;have⟨B,x,l,s⟩:=g ⟨.nil,e,.nil⟩;rw[show(⟨.nil,e,.nil⟩:St).n=e from rfl,j]at l
   grind [dT,rj,isSome,uS,ph,DO,aiA]
  exact f.elim
 |never M=>exact a.elim
 |skip=>
  rename_i i;unfold yd at a;cases b:nth w i with
  |none=>simp only[b]at a
  |some c=>
   simp only[b]at a;rcases pg a d with⟨_,f⟩|⟨r,k⟩
   ·exact f.elim
   have:=uS (ρ:=ρ) d k;simp only[rj,b,r,isSome];exact this
inductive nY (Φ:Fz) (ρ:Nat->Nat) (m:Nat) (ops:List M') (st:St):List nX->List uC->Prop
 |nil:nY Φ ρ m ops st [] []
 |cons {c:nX} {c':uC} {l:List nX} {l':List uC} (h:mS Φ ρ m ops st c c') (t:nY Φ ρ m ops st l l'):nY Φ ρ m ops st (c::l) (c'::l')
def nY.mono{d:n_ M'}{st a:St}{l:n_ nX}{e:n_ uC}(f:nY Φ ρ m d st l e)(h:jO Φ ρ m dV dM m')(i:∀b,b<st.n->a.get b=st.get b)(j:st.n<=a.n):nY dV dM m' d a l e:=by
 induction f with
 |nil=>exact .nil
 |cons f _ g=>exact .cons (f.mono h i j) g
def nY.Sd{a:n_ M'}{st d:St}{l:n_ nX}{b:n_ uC}(e:nY Φ ρ m a st l b)(g:jO Φ ρ m dV dM m'):nY dV dM m' a d (AY l) b:=by
 induction e with
 |nil=>exact .nil
 |cons e _ f=>rw[HZ];exact .cons (e.Sd g) f
def ab6{st:St}{b:nX}{a:uC}(d:mS Φ ρ m w st b a):a.idx=b.idx:=by cases d<;>first|rfl|assumption
theorem wK(h:Real Φ ρ σ st)(g:iU Φ ρ (j' σ) y F.tm){b:Nat}{l:n_ nX}{e:n_ uC}(d:nY Φ ρ (j' σ) w st l e)(a:tP C w y σ b l):qG C w F st b e=A':=by
 induction d with
 |nil=>rfl
 |cons d _ f=>
  unfold tP at a;unfold qG;rw[ab6 d];split at a
  ·grind [ME]
  rename_i i;rw[H3 h g d a.1,f a.2,Bool.or_true];rfl
theorem V8(d b:Nat):∀a:Tm,gE (wI d a) b=if b=d then u' else gE a b:=by
 intro a;induction a with
 |nil=>simp[wI,gE]
 |cons f a e=>
  all_goals grind [wI,pf,aiu,aiI]
def iU.del{d:Tr Value}(f:iU Φ ρ m y d)(b:Nat):iU Φ ρ m (wI b y) (d.put b u'):=by
 intro i e a;rw[V8]at a;rw[kt];split at a
 ·cases a
 rename_i g;rw[W' g];exact f i e a
theorem iU.erase(a:n_ M'):∀{b:Tm} {f:Tr Value},iU Φ ρ m b f->iU Φ ρ m (pd a b) (q6 a f):=by
 induction a with
 |nil=>intro b f e;exact e
 |cons g a d=>
  intro b f e;unfold pd;simp only[q6,List.foldl_cons];cases h:g.dst with
  |none=>exact d e
  |some i=>
   simp only;cases j:hY g.op with
   |true=>exact d e
   |false=>exact d (e.del i)
theorem O9(h:Real Φ ρ σ st){z:Operand->Option V}{M:Operand->Option Value}(O:qo Φ ρ (j' σ) z M){i:Nat}(c:nth w i=q' Q)(s:hZ Q.op=A') 
  {k:V->nX->VS->Prop} (b:Sa C Y z Q.op i σ k):
  ∃S X f dV dM x,k S X f/\jO Φ ρ (j' σ) dV dM (j' f)/\Real dV dM f (st.new x)/\gk dV (j' f) S/\kZ C M Q st=q' (.val (erase dM S) (st.new x))/\
   mS dV dM (j' f) w (st.new x) X (.obj i (erase dM S) st.n x):=by
 unfold Sa at b;split at b
 ·rename_i v B;have⟨hm,y⟩:=sq O B;have⟨S,x,h1,u⟩:=y st;have n:=lT Φ ρ (j' σ) st.n;have LM:k0 ρ (j' σ) st.n (j' σ)=st.n:=X' rfl;split at b
  ·rename_i I;have e:=kT b;clear b;have⟨J,h3,T⟩:=cR e;clear e;have a:j' (σ++[v])=j' σ+1:=by simp
   cases kg:Q.op with
   |buildSlice aa m N=>
    cases v with
    |row r g=>
     rw[kg]at h1 h3 hm;cases h1;cases h3;refine⟨_,_,_,Φ,_,_,T,by rw[a];exact n,h.newRow hm.1,by rw[a];exact .ms om,by rw[u];simp only[erase,LM,Nat.zero_mul],?_⟩;have j:rv Φ (j' σ) Q.op (.row r g):=by rw[kg];exact hm
     have D:jU Q.op (.row r g) ρ st.n=q' (.slice (q' ⟨st.n,0,u'⟩) m m,.cells (cE ρ g.flatten) r st.n 0):=by rw[kg];rfl
     refine .fresh c s (by rw[a];exact .ms om) (by rw[a];exact j.mono n) ?_ (by rw[dT,X' rfl]) (Nat.lt_succ_self _);rw[r9 j n,D];simp only[erase,LM,Nat.zero_mul]
    |_=>rw[kg]at h1;cases h1
   |_=>rw[kg]at I;simp[AZ,pa]at I
  split at b
  ·rename_i d;split at b
   ·rename_i r g;split at b
    ·rename_i l q;cases kg:Q.op with
     |buildSlice aa m N=>
      have D:=h1;have j:=hm;rw[kg]at h1 hm;cases h1;have⟨o,p⟩:=hm;have U:=o;rw[gS q]at o;have⟨L,F,t⟩:=h.Uf o;have R:j' l=m:=by rw[<-p,gS q,aiK]
      have W:cE ρ g.flatten=l.flatten.map cK:=by rw[gS q,wH]
      refine⟨_,_,σ,_,ρ,.cells (l.flatten.map cK) r st.n 0,b st.n,F,L,.d (t _),?_,.obj c s (.d (t _)) (j.mono F) ?_ (X' Z)⟩
      ·grind [erase,cK]
      grind [erase,cK]
     |_=>rw[kg]at d;cases d
    exact b.elim
   exact b.elim
  rename_i d;have e:=kT b;clear b;have⟨J,h3,T⟩:=cR e;clear e;have a:∀Q:cX,j' (σ++[Q])=j' σ+1:=λQ=>by simp
  have P:k0 ρ (j' σ) st.n (j' σ)=st.n:=LM;have H:jU Q.op v (k0 ρ (j' σ) st.n) st.n=q' (S,x):=by rw[r9 hm n];exact h1
  have E:Real Φ (k0 ρ (j' σ) st.n) (σ++[v]) (st.new x)/\gk Φ (j' σ+1) J/\erase (k0 ρ (j' σ) st.n) J=S:=by
   unfold jU at h1;split at h1
   ·exact Kk
   ·exact Kk
   ·rename_i kg;rw[kg]at h3 hm;obtain⟨rfl,rfl⟩:=hm;cases h1;cases h3;exact⟨h.new trivial ⟨by rw[dT,X' rfl];rfl,λ_ h=>by simp at h⟩,.map om,by simp only[erase,LM]⟩
   ·rename_i kg;rw[kg]at d;cases d
   cases h1
  have⟨K,G,A⟩:=E;have p:=hm.mono n;refine⟨J,_,_,Φ,_,x,T,by rw[a];exact n,K,by rw[a];exact G,by rw[u,A],?_⟩;rw[a];exact .obj c s G p (by rw[H,A]) ⟨om,P,by simpa using d⟩
 exact b.elim
theorem Ga:∀(l:n_ Nat) {b:Nat} {p:n_ nX} {g:n_ uC} {Φ:Fz} {ρ:Nat->Nat} {σ:VS} {st:St} {tm:Tm} {s:n_ gR} {n:o9} {R:Hy->Tm->n_ gR->o9->VS->Prop},
  A0 C cU A w K l b p tm s n σ R->∀{r:Fr},SR Φ ρ σ st tm s n r->AX (j' σ) A->nY Φ ρ (j' σ) w st p g->
  ∃N W,gg C (kY C cU N) (fj ρ A) w K l b g r (dN ρ n) st=q' W/\CR' Φ ρ A.fl R W:=by
 intro l;induction l with
 |nil=>
  intro b p g Φ ρ σ st tm s n R d r k f T;refine⟨0,(.norm,r,dN ρ n,st),?_,Φ,ρ,σ,st,.norm,tm,s,n,r,d.2,(jO.refl _ _ _).weaken f.2,k,tv,Z⟩;unfold gg;rw[wK k.real k.tm T d.1]
 |cons i l F=>
  intro b p g Φ ρ σ st tm s n R d r k f T;rw[H0]at d;unfold CX at d;split at d
  ·rename_i aa ae q V;split at d
   ·rename_i z;have O:=wK k.real k.tm T d.1;have⟨N,W,ab,X⟩:=za d.2 k f;cases X with
    |next dV dM c u h G y a M e j B=>
     subst B;have⟨o,P,D,S⟩:=F M j (e.fc f).2 (T.Sd e);refine⟨max N o,P,?_,S.after (e.weaken f.2)⟩;unfold gg;simp only[q,V,z,O];rw[sr (jc (aiE N o)) ab];simp only;rw[(e.fc f).1]at D;exact AV (jc (aiC N o)) _ D
    |fJ L dV dM c u h G y a M e j B J=>
     subst J;refine⟨N,(.panic (erase dM L),{a with tm:=q6 w a.tm},dN dM y,u),?_,dV,dM,c,u,.panic L,_,G,y,{a with tm:=q6 w a.tm},M,e.weaken f.2,⟨j.real,j.tm.erase w,j.df,j.ps⟩,B,Z⟩
     grind [gg]
   rename_i z;rcases pg d k.tm with⟨U,d⟩|⟨U,d⟩
   ·split at d
    ·rename_i I;have⟨L,af,c,dV,dM,Y,M,e,j,B,J,ac⟩:=O9 k.real (lc k.tm) q I d;have H:=k.move e j;have⟨h,a,D,S,E,t⟩:=wJ M H.tm B;have v:SR dV dM c (st.new Y) h s n a:=⟨j,E,by rw[t];exact H.df,H.ps⟩;obtain⟨o,P,q1,q2⟩:=F D v (e.fc f).2 (.cons ac (T.mono e (λb ad=>by rw[dT,W' om]) (Nat.le_succ _)));refine⟨o,P,?_,q2.after (e.weaken f.2)⟩;unfold gg;have Q:(st.new Y).get st.n=q' Y:=by rw[dT,X' rfl]
     rw[(e.fc f).1,(e.ps k.ps).1]at q1;simp only[q,V,z,U,J];have x:kr (fj ρ A).nt r aa.dst (erase dM L)=q' a:=S;simp only[x,I,Q];exact q1
    rename_i I;have⟨L,M,e,j⟩:=ru k.real (lc k.tm) d;have⟨h,a,D,S,E,t⟩:=wJ M k.tm e;have v:SR Φ ρ σ st h s n a:=⟨k.real,E,by rw[t];exact k.df,k.ps⟩;have⟨o,P,q1,q2⟩:=F D v f (.cons (.val q I e) T);refine⟨o,P,?_,q2⟩;unfold gg;have x:kr (fj ρ A).nt r aa.dst (erase ρ L)=q' a:=S;simp only[q,V,z,U,j,x,I,aiu];exact q1
   have⟨h,a,D,S,E,t⟩:=wJ d k.tm (An (Φ:=Φ) (m:=j' σ));have v:SR Φ ρ σ st h s n a:=⟨k.real,E,by rw[t];exact k.df,k.ps⟩;have⟨o,P,q1,q2⟩:=F D v f (.cons .skip T);refine⟨o,P,?_,q2⟩;unfold gg;have x:kr (fj ρ A).nt r aa.dst mM=q' a:=S;simp only[q,V,z,U,x];exact q1
  exact d.elim
end
variable{U:Option M'}
section
variable{C:eN} {cU:r3} {Φ dV:Fz} {ρ dM:Nat->Nat} {σ:VS} {st:St} {m m':Nat}
def ab7{e:TypeId}{d i f:Value}{st:St}(a:iT C e d i st=q' (.val f st))(b:St):iT C e d i b=q' (.val f b):=by
 unfold iT at a⊢;split at a
 ·split at a
  ·split at a
   ·split at a
    ·cases a;rfl
    cases a
   cases a
  cases a
 cases a
def MJ{e:Nat}{k:Tm->Tm->Prop}(a:Sb C B e U y σ k)(n:Real Φ ρ σ st)(o:iU Φ ρ (j' σ) y F.tm):
  ∃f0 ff t0 j,KZ C B e U F st=q' (f0,ff)/\iU Φ ρ (j' σ) t0 f0.tm/\iU Φ ρ (j' σ) j ff.tm/\f0.df=F.df/\ff.df=F.df/\k t0 j:=by
 unfold Sb at a;split at a
 ·exact⟨⟨_,F.df⟩,⟨_,F.df⟩,_,_,Z,o.del e,o.del e,Z,Z,a⟩
 rename_i f;split at a
 ·rename_i v M D I r i;split at a
  ·rename_i h g;have d:iU Φ ρ (j' σ) (wI e (wI v y)) (⟨(F.tm.put v u').put e u',F.df⟩:Fr).tm:=(o.del v).del e;have⟨x,s,l,b⟩:=ru n (lc d) a;refine⟨⟨_,F.df⟩,⟨_,F.df⟩,_,_,?_,d,d.set l,Z,Z,s⟩;simp only[kZ,i]at b;split at b
   ·rename_i p m;unfold KZ;simp only[r,i,h,g,m,b];rfl
   cases b
  exact a.elim
 exact a.elim
theorem DP{fc:x9}{ap av:M'}(f:Uh C fc.nt Q ap U av y t u σ c)(l:SR Φ ρ σ st y t u F)(aC:AX (j' σ) fc):
  ∃ba,K0 C (fj ρ fc) Q ap U av F (dN ρ u) st=q' ba/\CR' Φ ρ fc.fl c ba:=by
 unfold Uh at f;split at f
 ·rename_i G t1 bn bl t2 bk bo aI an W ao ah n;split at f;rotate_left
  ·exact f.elim
  rename_i X;have⟨f0,ff,t0,aH,m,L,A,bh,ay,f⟩:=MJ f l.real l.tm;have⟨ar,aa,Y,p⟩:=ru l.real (lc L) f;have ac:iU Φ ρ (j' σ) ((G,ar)::t0) (⟨f0.tm.set G (erase ρ ar),f0.df⟩:Fr).tm:=L.set Y;have⟨bq,az,ad⟩:=cR aa;have⟨bj,aF,R⟩:=cR ad;have⟨bi,aN,N⟩:=cR R;have⟨bp,aJ,B⟩:=cR N;clear aa ad R N;have⟨f1,af⟩:=lc ac _ _ az;have⟨f2,ae⟩:=lc ac _ _ aF;have⟨f3,O⟩:=lc A _ _ aN;have⟨f4,aw⟩:=lc A _ _ aJ;split at B
  ·rename_i r aR aX bg g aY;have⟨b,d⟩:=B;have⟨aV,bb,q1,q2,q3,q4,bm⟩:=nW l.real af ae d;obtain⟨aq,M,aK,E,aB,aj,bs⟩:=nW q3 (by rw[q2];exact O) (by rw[q2];exact aw) q1;have⟨aM,j,ab,T,J,I,bf⟩:=nW l.real O aw b;obtain⟨aD,aG,aS,bc,aP,P,aT⟩:=nW J (by rw[T];exact af) (by rw[T];exact ae) ab;have x:∃ag V,σ[r]?=q' (.row ag V):=by
    unfold uI at d;split at d
    ·split at d
     ·dsimp only at d;split at d
      ·grind [cx]
      exact d.elim
     exact d.elim
    exact d.elim
   have v:∃am,σ[g]?=q' (.box am):=by
    unfold uI at b;split at b
    ·split at b
     ·dsimp only at b;split at b
      ·grind [cx]
      exact b.elim
     exact b.elim
    exact b.elim
   have⟨ag,V,e⟩:=x;have⟨am,a⟩:=v;have H:r≠g:=λh=>by subst h;rw[e]at a;cases a
   have k:ρ r≠ρ g:=λh=>H (l.real.inj _ _ _ _ e a rfl rfl h);have⟨_,D,aW,o⟩:=uO l.real e;have⟨⟨⟨S,ax⟩,_⟩,_⟩:=l.real.obj g _ a rfl;have q:ρ g≠D:=λh=>by
    have w:=l.real.qd e rfl o S (λh=>k h.symm) (.inr ⟨g,_,a,rfl,rfl⟩);exact w h
   have al:apart st (ρ r) (ρ g)=A':=by
    unfold apart;rw[o,S];simp only[uM k,uM (λh=>q h.symm),ax];cases ai:st.fm.get D with
    |none=>rfl
    |some aA=>
     simp only[Bool.not_false,Bool.true_and];rw[Bool.not_eq_true'];refine List.any_eq_false.2 λbe w=>?_;intro h;have h:=aiI h;subst h;exact(l.real.et r _ _ _ _ _ _ aA _ e o ai w (λh=>k h.symm)).2 g _ a Z Z
   have s:kZ C (nR f0) Q j=q' (.val (erase ρ ar) j):=by
    have⟨aE,z,aQ,aO,aL,aU⟩:=Q;cases z with
    |indexAddr br be i=>
     simp only[kZ]at p⊢;split at p
     ·exact ab7 p j
     cases p
    |_=>cases n
   have K:(hY Q.op||hZ Q.op)=B':=by
    cases au:Q.op with
    |indexAddr br be i=>rfl
    |_=>rw[au]at n;cases n
   have ak:aiS G (fj ρ fc).nt=A':=X;have m:KZ C (fj ρ fc).nt G U F st=q' (f0,ff):=m;refine⟨(.norm,⟨ff.tm.set G (erase ρ ar),ff.df⟩,dN ρ u,M),?_,Φ,ρ,aq,M,.norm,(G,ar)::aH,t,u,_,aK,⟨Fz.le_refl _,λ_ _=>Z,by have:=aC.2;omega⟩,⟨aB,?_,?_,?_⟩,tv,Z⟩
   ·unfold K0;simp only[aI,an,W,ao,ah,K,m,ak,p,aiu,f1,f2,f3,f4,erase];simp only[erase]at q4 aj I P;simp only[al,q4,I,s,ph,aiu,aiA,aj,P]
   ·rw[E,q2];exact A.set Y
   ·rw[E,q2,ay];exact l.df
   rw[E,q2];exact l.ps
  exact B.elim
 exact f.elim
theorem H4{r:Array M'}(p:MF C cU A r Y y t u σ c)(H:SR Φ ρ σ st y t u F)(o:AX (j' σ) A):
  ∃D I,region C (kY C cU D) (fj ρ A) r Y F (dN ρ u) st=q' I/\CR' Φ ρ A.fl c I:=by
 unfold MF at p;split at p
 ·exact H2 _ p H o
 split at p;rename_i L m q T;have⟨D,I,S,z⟩:=Ga _ p H o .nil;obtain⟨dV,dM,i,g,O,e,k,h,j,a,d,n,G,rfl⟩:=z;cases O with
 |norm=>
  simp only at a;cases x:Nat.beq m (j' r.toList) with
  |true=>
   rw[x]at a;refine⟨D,_,?_,dV,dM,i,g,.norm,e,k,h,j,a,d,n,tv,Z⟩
   grind [region,gb]
  |false=>
   rw[x]at a;simp only at a;split at a
   ·rename_i J E B w v M;split at a
    ·rename_i b;rw[ME]at b;have⟨I,s,P⟩:=DP (fc:=A) a n (d.Q6 o).2;refine⟨D,I,?_,P.after d⟩;rw[(d.Q6 o).1]at s;unfold region;simp only[T,S,gb,x,v,M,b,s]
    exact a.elim
   ·rename_i J E f B w v M;split at a
    ·rename_i N b V;split at a
     ·rename_i l;rw[ME]at b l;have⟨I,s,P⟩:=DP (fc:=A) a n (d.Q6 o).2;refine⟨D,I,?_,P.after d⟩;rw[(d.Q6 o).1]at s;unfold region;simp only[T,S,gb,x,v,M,b,V,l,s]
     exact a.elim
    exact a.elim
   exact a.elim
 |exit id=>
  refine⟨D,_,?_,dV,dM,i,g,.exit id,e,k,h,j,a,d,n,tv,Z⟩
  grind [region,gb]
 |ret=>
  refine⟨D,_,?_,dV,dM,i,g,.ret,e,k,h,j,a,d,n,tv,Z⟩
  grind [region,gb]
 |panic K=>
  refine⟨D,_,?_,dV,dM,i,g,.panic K,e,k,h,j,a,d,n,G,Z⟩
  grind [region,gb]
theorem A2{fc:x9}{O:D'}{first f:n_ V}(l:MG C cU O first f B y t u σ c)(N:SR Φ ρ σ st y t u F) 
  (z:AX (j' σ) fc) (x:B<j' σ) (k:fW Φ (j' σ) first) (n:fW Φ (j' σ) f):
  ∃r L K,C.ff.get O=q' r/\(match(kY C cU L).call O (cE ρ first++[.func (.yield (ρ B)) #[] #[]]++cE ρ f) B' .none st with
    |some (.ret _,_,st)=>match st.get (ρ B)with
     |some (.loop g)=>match g.state with
      |.busy=>u'
      |_=>match LQ g.pending with
       |some s=>q' (s,F,dN ρ u,st.put (ρ B) (.loop {g with state:=.exhausted}))
       |none=>u'
     |_=>u'
    |some (.fJ T,_,st)=>q' (.panic T,F,dN ρ u,st)
    |none=>u')=q' K/\CR' Φ ρ fc.fl c K:=by
 unfold MG at l;split at l
 ·exact l.elim
 rename_i r D;have o:fW Φ (j' σ) (first++[.wA B]++f):=(k.append (λT E=>by simp at E;subst E;exact .wA x)).append n;have⟨L,K,R,i,dV,dM,j,p,h,P,Q,d⟩:=l.go Φ ρ st N.real o;have m:=N.move h P;rw[gD,gD]at p;simp only[cE,erase]at p;cases K with
 |ret T=>
  simp only at d;split at d
  ·rename_i q I;rw[cx]at I;have⟨⟨g,G,b⟩,_⟩:=P.obj B _ I rfl;have w:q.state≠.busy/\ed (Za q.pending) λs=>Ej j B (.loop {q with state:=.exhausted}) λM=>c s y t u M:=by
    grind
   have⟨H,d⟩:=w;have⟨s,hx,d⟩:=cR d;have⟨_,d⟩:=lU _ _ _ _ d;have S:=P.put (o':=.loop {q with state:=.exhausted}) (a:=.loop {g with state:=.exhausted}) I rfl rfl rfl (λ_ _ _ _ e=>by cases e)
    ⟨{g with state:=.exhausted},by rw[dH,X' rfl],⟨rfl,b.pending,b.fn,b.tm,b.nt,b.params,b.assign,b.body,b.defers,b.eK⟩⟩
   have v:LQ g.pending=q' (gb dM s)/\V4 dV (j' j) s:=by
    rw[b.pending];unfold Za at hx;split at hx
    ·exact Cy
    ·exact Cy
    ·exact Cy
    cases hx
   have A:ρ B=dM B:=(h.xO B x).symm;refine⟨r,L,(gb dM s,F,dN dM u,i.put (dM B) (.loop {g with state:=.exhausted})),D,?_,dV,dM,_,_,s,y,t,u,F,d,by rw[kw];exact h.weaken z.2,⟨S,by rw[kw];exact m.tm,by rw[kw];exact m.df,by rw[kw];exact m.ps⟩,by rw[kw];exact v.2,Z⟩;rw[p];simp only[fI];rw[A,G];simp only;rw[b.state];cases J:q.state with
   |busy=>exact Y' J H
   |_=>simp only[v.1,(h.ps N.ps).1]
  exact d.elim
 |fJ T=>
  refine⟨r,L,(.panic (erase dM T),F,dN dM u,i),D,?_,dV,dM,j,i,.panic T,y,t,u,F,d,h.weaken z.2,m,Q,Z⟩;rw[p];simp only[fI,(h.ps N.ps).1]
theorem tS:∀(ax:T') {Φ:Fz} {ρ:Nat->Nat} {σ:VS} {st:St} {h:Tm} {df:n_ gR} {i:o9} {t:Hy->Tm->n_ gR->o9->VS->Prop},
  vc C cU A ax h df i σ t->∀{fr:Fr},SR Φ ρ σ st h df i fr->AX (j' σ) A->
  ∃S E,code C (kY C cU S) (fj ρ A) ax fr (dN ρ i) st=q' E/\CR' Φ ρ A.fl t E:=by
 intro ax;induction ax with
 |skip=>intro Φ ρ σ st h df i t a fr v d;exact⟨0,_,rfl,Φ,ρ,σ,st,.norm,h,df,i,fr,a,(jO.refl _ _ _).weaken d.2,v,tv,rfl⟩
 |region id aT aL=>intro Φ ρ σ st h df i t a fr v d;exact H4 a v d
 |seq aU b B y=>
  intro Φ ρ σ st h df i t a fr v d;rw[aeJ]at a;unfold Zb at a;obtain⟨S,E,j,dV,dM,o,k,aE,n,r,m,p,s,I,P,w,rfl⟩:=B a v d;cases aE with
  |norm=>
   cases ab:cutAt A b with
   |false=>
    rw[ab]at s;have⟨u,aK,aF,an⟩:=y s P (I.Q6 d).2;refine⟨max S u,aK,?_,an.after I⟩;unfold code;rw[iI (jc (aiE S u)) _ j];simp only[gb];rw[(I.Q6 d).1]at aF;exact iI (jc (aiC S u)) _ aF
   |true=>
    rw[ab]at s;have s:ck C cU A b n r m o t:=s;have⟨u,au,W,aD,az,X,aa,ar,K,aC,Q,ah,aq,ak,ag,ae,ad,ap⟩:=s.go dV dM k p P.real P.tm P.df P.ps (I.Q6 d).2;have an:CR' dV dM A.fl t (gb K au,W,dN K X,aa):=⟨ar,K,aC,aa,au,aD,az,X,W,ap,ah,⟨aq,ak,ag,ae⟩,ad,rfl⟩;refine⟨max S u,_,?_,an.after I⟩;unfold code;rw[iI (jc (aiE S u)) _ j];simp only[gb];rw[(I.Q6 d).1]at Q;exact iI (jc (aiC S u)) _ Q
  |exit id=>exact⟨S,_,by unfold code;rw[j];rfl,dV,dM,o,k,.exit id,n,r,m,p,s,I,P,w,rfl⟩
  |ret=>exact⟨S,_,by unfold code;rw[j];rfl,dV,dM,o,k,.ret,n,r,m,p,s,I,P,w,rfl⟩
  |panic aP=>exact⟨S,_,by unfold code;rw[j];rfl,dV,dM,o,k,.panic aP,n,r,m,p,s,I,P,w,rfl⟩
 |cond ax aU b B y=>
  intro Φ ρ σ st h df i t a fr v d;rw[ab5]at a;unfold Sc at a;split at a
  ·rename_i aW aH;have ay:=(lc v.tm _ _ aH).1;cases aW with
   |true=>
    have⟨S,E,j,q⟩:=B a v d;exact⟨S,E,by unfold code;simp only[ay,erase,cK];exact j,q⟩
   |false=>
    have⟨S,E,j,q⟩:=y a v d;exact⟨S,E,by unfold code;simp only[ay,erase,cK];exact j,q⟩
  exact a.elim
 |block id b ac=>
  intro Φ ρ σ st h df i t a fr v d;obtain⟨S,E,j,dV,dM,o,k,aE,n,r,m,p,s,I,P,w,rfl⟩:=ac a v d;cases aE with
  |exit Y=>
   simp only at s;cases N:Nat.beq Y id with
   |true=>
    rw[N]at s;exact⟨S,_,by unfold code;rw[j];simp only[gb,N],dV,dM,o,k,.norm,n,r,m,p,s,I,P,tv,Z⟩
   |false=>
    rw[N]at s;exact⟨S,_,by unfold code;rw[j];simp only[gb,N],dV,dM,o,k,.exit Y,n,r,m,p,s,I,P,tv,Z⟩
  |norm=>exact⟨S,_,by unfold code;rw[j];rfl,dV,dM,o,k,.norm,n,r,m,p,s,I,P,w,rfl⟩
  |ret=>exact⟨S,_,by unfold code;rw[j];rfl,dV,dM,o,k,.ret,n,r,m,p,s,I,P,w,rfl⟩
  |panic aP=>exact⟨S,_,by unfold code;rw[j];rfl,dV,dM,o,k,.panic aP,n,r,m,p,s,I,P,w,rfl⟩
 |loop b ac=>
  intro Φ ρ σ st h df i t a fr v d;have a:ck C cU A (.loop b) h df i σ t:=a;have⟨S,aE,p,n,r,m,k,dV,dM,o,Q,ah,aq,ak,ag,ae,ad,ap⟩:=a.go Φ ρ st fr v.real v.tm v.df v.ps d;exact⟨S,_,Q,dV,dM,o,k,aE,n,r,m,p,ap,ah,⟨aq,ak,ag,ae⟩,ad,Z⟩
 |rangeFunc f g e x B y=>
  intro Φ ρ σ st h df i t a fr v d;rw[Zc]at a;unfold MH at a;split at a
  ·rename_i aX first aQ aO
   have⟨ay,av⟩:=lc v.tm _ _ aO;cases av with
   |fn M V=>
   have D:∀(σ:VS) (aR:cX),j' (σ++[aR])=j' σ+1:=λσ aR=>by simp
   split at a
   ·rename_i l aj;split at a
    ·rename_i aS aA;rw[cx]at aA;have⟨⟨aG,aw,G⟩,_⟩:=v.real.obj l _ aA rfl;have a:=kT a;have af:=lT Φ ρ (j' σ) st.n;have ai:k0 ρ (j' σ) st.n (j' σ)=st.n:=X' rfl;have ao:Real Φ (k0 ρ (j' σ) st.n) (σ++[.loop ⟨.ready,u',A.fn,h,A.nt,g.toList,e,x,aS.defers,A.fz⟩]) (st.new (.loop ⟨.ready,u',A.fn,fr.tm,A.nt,g.toList,e,x,aG.defers⟩)):=
      v.real.new trivial ⟨_,by rw[dT,X' rfl],⟨rfl,rfl,rfl,af.tm v.tm,rfl,rfl,rfl,rfl,by show aG.defers=_;rw[G.defers];exact(af.xO _ G.eK).symm,Nat.lt_succ_of_lt G.eK⟩⟩
     have T:jO Φ ρ (j' σ) Φ (k0 ρ (j' σ) st.n) (j' (σ++[cX.loop ⟨.ready,u',A.fn,h,A.nt,g.toList,e,x,aS.defers,A.fz⟩])):=by rw[D];exact af
     have aN:=v.move T ao;obtain⟨aM,S,E,q1,q2,q3⟩:=A2 (fc:=A) a aN (T.fc d).2 (by rw[D];omega) (T.Ub M) (T.Ub V);refine⟨S,E,?_,q3.after (T.weaken d.2)⟩;unfold code;rw[T.cE M,T.cE V,ai,(T.ps v.ps).1]at q2;simp only[ay,erase,fj,rk,aj,Option.map_some,aw,q1];exact q2
    exact a.elim
   rename_i aj;have a:=kT (kT a);have aB:=lT Φ ρ (j' σ) st.n;have z:k0 ρ (j' σ) st.n (j' σ)=st.n:=X' rfl;have U:Real Φ (k0 ρ (j' σ) st.n) (σ++[.fP B']) (st.new (.fP B')):=v.real.new trivial (by show(st.new (.fP B')).get st.n=_;rw[dT,X' rfl]);have H:jO Φ ρ (j' σ) Φ (k0 ρ (j' σ) st.n) (j' (σ++[cX.fP B'])):=by rw[D];exact aB
   have j:=v.move H U;have F:=lT Φ (k0 ρ (j' σ) st.n) (j' (σ++[cX.fP B'])) (st.new (.fP B')).n;have O:k0 (k0 ρ (j' σ) st.n) (j' (σ++[cX.fP B'])) (st.new (.fP B')).n (j' (σ++[cX.fP B']))=(st.new (.fP B')).n:=X' rfl;have J:j' σ<j' (σ++[cX.fP B']):=by rw[D];omega
   have R:Real Φ (k0 (k0 ρ (j' σ) st.n) (j' (σ++[cX.fP B'])) (st.new (.fP B')).n) ((σ++[cX.fP B'])++[cX.loop ⟨.ready,u',A.fn,h,A.nt,g.toList,e,x,j' σ,A.fz⟩])
     ((st.new (.fP B')).new (.loop ⟨.ready,u',A.fn,fr.tm,A.nt,g.toList,e,x,st.n⟩)):=
    j.real.new trivial ⟨_,by rw[dT,X' rfl],⟨rfl,rfl,rfl,F.tm j.tm,rfl,rfl,rfl,rfl,by show st.n=_;rw[F.xO _ J,z],Nat.lt_succ_of_lt J⟩⟩
   have L:jO Φ (k0 ρ (j' σ) st.n) (j' (σ++[cX.fP B'])) Φ (k0 (k0 ρ (j' σ) st.n) (j' (σ++[cX.fP B'])) (st.new (.fP B')).n) ((σ++[cX.fP B'])++[cX.loop ⟨.ready,u',A.fn,h,A.nt,g.toList,e,x,j' σ,A.fz⟩]).length:=by
    grind
   have q:=j.move L R;have c:=H.trans L;have aI:SR Φ (k0 (k0 ρ (j' σ) st.n) (j' (σ++[cX.fP B'])) (st.new (.fP B')).n) ((σ++[cX.fP B'])++[cX.loop ⟨.ready,u',A.fn,h,A.nt,g.toList,e,x,j' σ,A.fz⟩])
     ((st.new (.fP B')).new (.loop ⟨.ready,u',A.fn,fr.tm,A.nt,g.toList,e,x,st.n⟩)) h (⟨.Ml (j' σ),[]⟩::df) i {fr with df:={target:=.collected st.n,args:= #[]}::fr.df}:=by
    refine⟨q.real,q.tm,⟨?_,λaV am=>?_⟩,q.ps⟩
    ·have aJ:=q.df.1;simp only[aiN];rw[<-aJ];congr 1;simp only[ku,F.xO _ J,z,cE]
    rcases aiG.1 am with rfl|am
    ·exact⟨by show (j' σ)<_;rw[D (σ++[cX.fP B']),D];omega,λ_ v=>by simp at v⟩
    exact q.df.2 aV am
   obtain⟨aM,S,E,q1,q2,q3⟩:=A2 (fc:=A) a aI (c.fc d).2 (by rw[D (σ++[cX.fP B'])];omega) (c.Ub M) (c.Ub V);refine⟨S,E,?_,q3.after (c.weaken d.2)⟩;unfold code;rw[c.cE M,c.cE V,O,(c.ps v.ps).1]at q2;simp only[ay,erase,fj,rk,aj,aiY,q1];exact q2
  exact a.elim
 |exit id=>intro Φ ρ σ st h df i t a fr v d;exact⟨0,_,rfl,Φ,ρ,σ,st,.exit id,h,df,i,fr,a,(jO.refl _ _ _).weaken d.2,v,tv,rfl⟩
 |ret=>intro Φ ρ σ st h df i t a fr v d;exact⟨0,_,rfl,Φ,ρ,σ,st,.ret,h,df,i,fr,a,(jO.refl _ _ _).weaken d.2,v,tv,rfl⟩
 |scope b ac=>intro Φ ρ σ st h df i t a fr v d;exact a.elim
 |label l=>intro Φ ρ σ st h df i t a fr v d;exact a.elim
 |goto l=>intro Φ ρ σ st h df i t a fr v d;exact a.elim
 |refuse aY=>intro Φ ρ σ st h df i t a fr v d;exact a.elim
end
variable{z:n_ V} {O q:dt->VS->Prop} {E:dt->o9->VS->Prop} {G:T'}
section
variable{C:eN} {cU:r3} {Φ dV:Fz} {ρ dM:Nat->Nat} {σ:VS} {st:St} {m m':Nat}
def pi(ρ:Nat->Nat):tQ->AM.Mode
 |.returning=>.returning
 |.panicking a=>.panicking (erase ρ a)
def MOk(Φ:Fz)(m:Nat):tQ->Prop
 |.returning=>True
 |.panicking a=>gk Φ m a
def jO.mode(d:jO Φ ρ m dV dM m'){a:tQ}(b:MOk Φ m a):pi dM a=pi ρ a/\MOk dV m' a:=by
 cases a with
 |returning=>exact⟨rfl,tv⟩
 |panicking e=>exact⟨by simp only[pi,d.erase b],d.ok b⟩
theorem H5:∀(l:n_ gR) {e:tQ} {Φ:Fz} {ρ:Nat->Nat} {σ:VS} {st:St} {k:tQ->VS->Prop},uP C cU l e σ k->Real Φ ρ σ st->(∀r∈l,OS Φ (j' σ) r)->MOk Φ (j' σ) e->
  ∃M h dV dM b j,mB C (kY C cU M) (l.map (ku ρ)) (pi ρ e) st=q' (pi dM h,j)/\jO Φ ρ (j' σ) dV dM (j' b)/\Real dV dM b j/\MOk dV (j' b) h/\k h b:=by
 intro l;induction l with
 |nil=>intro e Φ ρ σ st k d V _ m;exact⟨0,e,Φ,ρ,σ,st,rfl,.refl _ _ _,V,m,d⟩
 |cons r l F=>
  intro e Φ ρ σ st k d V o m;have⟨ab,L⟩:=r;have J:=o _ (aiL ..);have s:∀r∈l,OS Φ (j' σ) r:=λr V=>o r (aiH _ V);cases ab with
  |Ml q=>
   unfold uP at d;split at d
   ·rename_i P;rw[cx]at P;have⟨_,d⟩:=lU _ _ _ _ d;have Q:=(V.obj q _ P rfl).1;have c:=V.put (o':=.fP A') (a:=.fP A') P rfl rfl rfl (λ_ _ _ _ ac=>by cases ac) (by show(st.put (ρ q) (.fP A')).get (ρ q)=_;rw[dH,X' rfl]);obtain⟨M,h,dV,dM,b,j,S,i,T,H,t⟩:=F d c (by rw[kw];exact s) (by rw[kw];exact m);rw[kw]at i;refine⟨M,h,dV,dM,b,j,?_,i,T,H,t⟩;have z:st.get (ρ q)=q' (.fP B'):=Q;simp only[aiN,ku,mB,z];exact S
   exact d.elim
  |fn f D=>
   unfold uP at d;split at d
   ·rename_i ad K;have⟨I,N⟩:=J;have I:fW Φ (j' σ) D:=I;have E:El Φ (j' σ) (VO e):=by
     cases e with
     |returning=>trivial
     |panicking O=>exact m
    have⟨M,q,n,j,dV,dM,b,S,i,T,H,t,v⟩:=d.go Φ ρ st V (N.append I) E;cases q with
    |fJ O=>exact v.elim
    |ret O=>
     have u:MOk dV (j' b) (q7 e n):=by
      cases e with
      |returning=>trivial
      |panicking O=>
       cases n with
       |tC=>trivial
       |none=>exact i.ok m
       |hD aa=>exact i.ok m
     have v:uP C cU l (q7 e n) b k:=v;have⟨x,h,A,w,G,y,B,R,Y,U,X⟩:=F v T (λr o=>(i.df1 (s r o)).2) u;refine⟨max M x,h,A,w,G,y,?_,i.trans R,Y,U,X⟩;have W:l.map (ku dM)=l.map (ku ρ):=aiv λr o=>(i.df1 (s r o)).1;rw[W]at B;have p:=(jc (C:=C) (cU:=cU) (aiE M x)).call _ _ _ _ _ _ S;have g:=AW (jc (C:=C) (cU:=cU) (aiC M x)) _ B;rw[gD]at p;unfold mB;simp only[aiN,ku,K];cases e with
     |returning=>
      grind [VO,dN,q7,pi,fI]
     |panicking aa=>
      simp only[VO,dN]at p;simp only[pi];rw[p];simp only[fI];cases n with
      |tC=>exact g
      |none=>
       simp only[q7,pi]at g;rw[i.erase m]at g;exact g
      |hD ae=>
       simp only[q7,pi]at g;rw[i.erase m]at g;exact g
   exact d.elim
def Gb(I:Real Φ ρ σ st){M:Tr Value}(m:iU Φ ρ (j' σ) y M):∀(l:n_ ResultVar) {k:n_ V->Prop},A1 C y σ l k->∃a,k a/\fW Φ (j' σ) a/\se C M st l=q' (cE ρ a):=by
 intro l;induction l with
 |nil=>intro k d;exact⟨[],d,λ_ I=>by simp at I,rfl⟩
 |cons P l n=>
  intro k d;cases P with
  |tmp i=>
   have⟨r,g,e⟩:=cR d;have⟨a,j,f,h⟩:=n e;have⟨o,b⟩:=m _ _ g;refine⟨r::a,j,λs hx=>?_,by simp only[se,Fw,o,h,cE]⟩;rcases aiG.1 hx with rfl|hx
   ·exact b
   exact f s hx
  |cell i S=>
   have⟨p,g,e⟩:=cR d;have⟨o,b⟩:=m _ _ g;have⟨r,j,f,h⟩:=DH I b e;have⟨a,D,v,x⟩:=n j;refine⟨r::a,D,λs hx=>?_,by simp only[se,Fw,o,h,x,cE]⟩;rcases aiG.1 hx with rfl|hx
   ·exact f
   exact v s hx
def Gc(ρ:Nat->Nat)(a:n_ V):xZ (cE ρ a)=erase ρ (ry a):=by
 cases a with
 |nil=>simp[ry,xZ,cE,erase]
 |cons d a=>
  cases a with
  |nil=>simp[ry,xZ,cE]
  |cons b a=>simp[ry,xZ,cE,erase,List.toArray]
def Pa(a:fW Φ m z):gk Φ m (ry z):=by
 cases z with
 |nil=>exact .dP a
 |cons b z=>
  cases z with
  |nil=>exact a b sm
  |cons d z=>exact .dP a
def H6{fi:FI}{e:tQ}(i:ye C cU fi.B1 e y t σ q)(g:SR Φ ρ σ st y t u F)(s:MOk Φ (j' σ) e):
  ∃l m dV dM a b,finish C (kY C cU l) fi (pi ρ e) F (dN ρ u) st=q' (fI dM m,dN dM u,b)/\jO Φ ρ (j' σ) dV dM (j' a)/\Real dV dM a b/\F7 dV (j' a) m/\q m a:=by
 unfold ye at i;have⟨l,j,dV,dM,a,b,k,d,f,v,h⟩:=H5 t i g.real g.df.2 s;cases j with
 |panicking x=>
  refine⟨l,.fJ x,dV,dM,a,b,?_,d,f,v,h⟩;unfold finish;rw[g.df.1,k];simp only[pi,fI,(d.ps g.ps).1]
 |returning=>
  have⟨o,p,n,r⟩:=Gb f (d.tm g.tm) fi.B1 h;refine⟨l,.ret (ry o),dV,dM,a,b,?_,d,f,Pa n,p⟩;unfold finish;rw[g.df.1,k];simp only[pi,r,fI,(d.ps g.ps).1,Gc]
theorem MK(a:n_ V):∀(i b:Nat),gE (uQ i a) b=if i<=b/\b<i+j' a then a[b-i]? else u':=by
 induction a with
 |nil=>
  intro i b;simp only[uQ,gE,aiZ,Nat.add_zero];rw[W' om]
 |cons e a d=>
  intro i b;simp only[uQ,pf,d,aiP];all_goals grind
theorem wL{P:Nat->Bool}{f:D'}(g:F9 C cU P f z Y u σ E)(W:Real Φ ρ σ st)(X:fW Φ (j' σ) z)(L:El Φ (j' σ) u):
  ∃s i b dV dM a d,Au C (kY C cU s) f (cE ρ z) Y (dN ρ u) st=q' (fI dM i,dN dM b,d)/\jO Φ ρ (j' σ) dV dM (j' a)/\Real dV dM a d/\F7 dV (j' a) i/\El dV (j' a) b/\E i b a:=by
 unfold F9 at g;split at g
 ·exact g.elim
 rename_i e H;split at g
 ·exact g.elim
 rename_i R;have G:iU Φ ρ (j' σ) (uQ 0 z) (⟨gC 0 (cE ρ z) .nil,[]⟩:Fr).tm:=by
  intro ak D m;rw[MK]at m;split at m
  ·rename_i ac;refine⟨?_,X D (aiT m)⟩
   grind [sh,dD,fs]
  cases m
 have S:SR Φ ρ σ st (uQ 0 z) [] u ⟨gC 0 (cE ρ z) .nil,[]⟩:=⟨W,G,⟨rfl,λ_ W=>by simp at W⟩,L⟩;obtain⟨s,i,K,w,n,o,ae,af,y,x,p,ad,j,B,c,aa,rfl⟩:=tS e.body g S ⟨λl Q=>(by cases Q),aiy _⟩;have t:aiV (j' (cE ρ z)) e.nt=A':=by rw[dD];exact R
 have h:∀k:tQ,MOk w (j' o) k->(match(generalizing:=false) gb n af with|.norm=>q' AM.Mode.returning|.ret=>q' .returning|.panic D=>q' (.panicking D)|.exit _=>u')=q' (pi n k)->
   ye C cU e.B1 k y x o (λi σ=>E i p σ)->
   ∃s i b dV dM a d,Au C (kY C cU s) f (cE ρ z) Y (dN ρ u) st=q' (fI dM i,dN dM b,d)/\jO Φ ρ (j' σ) dV dM (j' a)/\Real dV dM a d/\F7 dV (j' a) i/\El dV (j' a) b/\E i b a:=by
  intro k A aj v;have⟨r,J,q,I,F,M,O,T,ab,N,U⟩:=H6 (fi:=e) v c A;refine⟨max s r,J,p,q,I,F,M,?_,B.then T B.len,ab,N,(T.ps c.ps).2,U⟩;have ah:=iI (jc (C:=C) (cU:=cU) (aiE s r)) _ K;have ai:=DM (jc (C:=C) (cU:=cU) (aiC s r)) O;unfold Au;simp only[H,t];have ag:fj ρ ⟨f,e.nt,u',Y,P,j' σ⟩=⟨f,e.nt,u',Y⟩:=rfl
  grind
 cases af with
 |norm=>exact h .returning trivial rfl j
 |ret=>exact h .returning trivial rfl j
 |panic D=>exact h (.panicking D) aa rfl j
 |exit id=>exact j.elim
def b7.body(e:Nat->Bool){f:D'}(p:∀l,cU f l=u')(g:F9 C cU e f z B' .none σ λh _ σ=>q h σ):b7 C cU f z σ q:=by
 refine⟨λΦ ρ st s j=>?_⟩;have⟨r,h,b,dV,dM,d,a,i,o,k,n,_,m⟩:=wL g s j trivial;refine⟨r+1,h,dN dM b,a,dV,dM,d,?_,o,k,n,m⟩;simp only[kY,p];exact i
def CW.body(g:Nat->Bool){f:D'}(h:F9 C cU g f z A' u σ E):CW C cU f z u σ E:=by
 refine⟨λΦ ρ st s n k=>?_⟩;have⟨r,p,b,dV,dM,d,a,l,j,m,o,e,i⟩:=wL h s n k;exact⟨r+1,p,b,a,dV,dM,d,l,j,m,o,e,i⟩
def ei{f:D'}{args:cP}{x:D}(b:cU f (args.map cK)=q' (cK x))(d:flat (cK x)=A')(a:q (.ret (.d x)) σ):b7 C cU f (args.map V.d) σ q:=by
 refine⟨λΦ ρ st e g=>⟨1,.ret (.d x),.none,st,Φ,ρ,σ,?_,.refl _ _ _,e,.d ?_,a⟩⟩
 ·rw[pS];simp only[kY,b,fI,erase];cases x<;>rfl
 cases x<;>first|(cases d;done)|constructor
def b7.mono{f:D'}(p:b7 C cU f z σ q)(i:∀e a,q e a->O e a):b7 C cU f z σ O:=by
 refine⟨λΦ ρ st h l=>?_⟩;have⟨o,e,d,b,dV,dM,a,j,n,k,m,g⟩:=p.go Φ ρ st h l;exact⟨o,e,d,b,dV,dM,a,j,n,k,m,i _ _ g⟩
def ck.loop{p:x9}{b:T'}{r:Tm}{n:n_ gR}{o:o9}{u:Hy->Tm->n_ gR->o9->VS->Prop} 
  (B:vc C cU p b r n o σ λx r n o σ=>match x with
   |.norm=>ck C cU p (.loop b) r n o σ u
   |x=>u x r n o σ):ck C cU p (.loop b) r n o σ u:=by
 refine⟨λΦ ρ st V U A w H P=>?_⟩;obtain⟨S,W,v,j,d,i,f,x,k,h,g,e,l,m,a,Q,rfl⟩:=tS b B (fr:=V) ⟨U,A,w,H⟩ P;cases x with
 |norm=>
  have l:ck C cU p (.loop b) k h g i u:=l;have⟨s,x,M,T,t,I,D,dV,dM,q,L,F,N,O,y,E,z,K⟩:=l.go j d f e a.real a.tm a.df a.ps (m.Q6 P).2;refine⟨max S (s+1),x,M,T,t,I,D,dV,dM,q,?_,m.then F (aiy _),N,O,y,E,z,K⟩;have G:=iI (jc (C:=C) (cU:=cU) (aiE S (s+1))) _ v;have J:(kY C cU (s+1)).code (fj d p) (.loop b) e (dN d g) f=q' (gb dM x,M,dN dM I,D):=L;have c:=(jc (C:=C) (cU:=cU) (aiC S (s+1))).code _ _ _ _ _ _ J;unfold code;rw[G];simp only[gb];rw[(m.Q6 P).1]at c;exact c
 |exit id=>exact⟨S,.exit id,e,k,h,g,f,j,d,i,by unfold code;rw[v];rfl,m,a.real,a.tm,a.df,a.ps,tv,l⟩
 |ret=>exact⟨S,.ret,e,k,h,g,f,j,d,i,by unfold code;rw[v];rfl,m,a.real,a.tm,a.df,a.ps,tv,l⟩
 |panic R=>exact⟨S,.panic R,e,k,h,g,f,j,d,i,by unfold code;rw[v];rfl,m,a.real,a.tm,a.df,a.ps,Q,l⟩
def gU(o:vc C cU A G y t u σ c):ck C cU A G y t u σ c:=by
 refine⟨λΦ ρ st g M n l r s=>?_⟩;obtain⟨I,P,p,i,f,h,e,D,j,b,k,d,m,v,a,x,rfl⟩:=tS G o (fr:=g) ⟨M,n,l,r⟩ s;exact⟨I,D,d,j,b,k,e,i,f,h,p,v,a.real,a.tm,a.df,a.ps,x,m⟩
def de{ι:Type}(T:ι->Tm)(S:ι->VS)(I:ι->Prop) 
  (a:(∀i,I i->ck C cU A G (T i) t u (S i) c)->H) (b:∀i,I i->vc C cU A G (T i) t u (S i) c):H:=a λi d=>gU (b i d)
def ck.mono{g:Hy->Tm->n_ gR->o9->VS->Prop}(T:ck C cU A G y t u σ c)(n:∀i y t u σ,c i y t u σ->g i y t u σ):ck C cU A G y t u σ g:=by
 refine⟨λΦ ρ st r x m j s v=>?_⟩;have⟨S,i,e,a,h,d,b,dV,dM,f,I,p,M,P,k,o,l,D⟩:=T.go Φ ρ st r x m j s v;exact⟨S,i,e,a,h,d,b,dV,dM,f,I,p,M,P,k,o,l,n _ _ _ _ _ D⟩
def np:Tm->Tm->Prop
 |[],_=>True
 |(b,d)::e,a=>gE a b=q' d/\np e a
def rz:∀{e b:Tm},np e b->∀d f,gE e d=q' f->gE b d=q' f:=by
 intro e;induction e with
 |nil=>intro b _ d f g;cases g
 |cons i e h=>
  intro b g d f a;have⟨k,l⟩:=i;rw[pf]at a;split at a
  ·rename_i j;cases a;rw[j];exact g.1
  exact h g.2 d f a
def ck.less{a fx:Tm}(i:np fx a)(m:ck C cU A G fx t u σ c):ck C cU A G a t u σ c:=by
 refine⟨λΦ ρ st j g h b d e=>m.go Φ ρ st j g (λk l f=>h k l (rz i k l f)) b d e⟩
end
mutual
def iN(π:Nat->Nat):V->V
 |.d x=>.d x
 |.bp i f=>.bp (π i) f
 |.ptr i es k f=>.ptr (π i) es k f
 |.fp b off cs=>.fp b off cs
 |.ms i es k len cap=>.ms (π i) es k len cap
 |.map i=>.map (π i)
 |.fn f a c=>.fn f (jh π a) (jh π c)
 |.wA l=>.wA (π l)
 |.iface t v=>.iface t (iN π v)
 |.agg l=>.agg (jh π l)
 |.dP l=>.dP (jh π l)
def jh(π:Nat->Nat):n_ V->n_ V
 |[]=>[]
 |v::l=>iN π v::jh π l
end
mutual
def bd(k:Nat):V->Bool
 |.d _=>A'
 |.bp i _=>aiS i k
 |.ptr i _ _ _=>aiS i k
 |.fp _ _ _=>A'
 |.ms i _ _ _ _=>aiS i k
 |.map i=>aiS i k
 |.fn _ a c=>hP k a&&hP k c
 |.wA l=>aiS l k
 |.iface _ v=>bd k v
 |.agg l=>hP k l
 |.dP l=>hP k l
def hP(k:Nat):n_ V->Bool
 |[]=>A'
 |v::l=>bd k v&&hP k l
end
theorem pI(π:Nat->Nat):∀l:n_ V,jh π l=l.map (iN π):=by
 intro l;induction l with
 |nil=>simp[jh]
 |cons b l a=>simp[jh,a]
mutual
theorem j0(ρ π:Nat->Nat):∀v:V,erase ρ (iN π v)=erase (λj=>ρ (π j)) v
 |.d _=>by simp only[iN,erase]
 |.bp _ _=>by simp only[iN,erase]
 |.ptr _ _ _ _=>by simp only[iN,erase]
 |.fp _ _ _=>by simp only[iN,erase]
 |.ms _ _ _ _ _=>by simp only[iN,erase]
 |.map _=>by simp only[iN,erase]
 |.fn _ a c=>by simp only[iN,erase,jJ ρ π a,jJ ρ π c]
 |.wA _=>by simp only[iN,erase]
 |.iface _ v=>by simp only[iN,erase,j0 ρ π v]
 |.agg l=>by simp only[iN,erase,jJ ρ π l]
 |.dP l=>by simp only[iN,erase,jJ ρ π l]
theorem jJ(ρ π:Nat->Nat):∀l:n_ V,cE ρ (jh π l)=cE (λj=>ρ (π j)) l
 |[]=>by simp only[jh,cE]
 |v::l=>by simp only[jh,cE,j0 ρ π v,jJ ρ π l]
end
def ie{a b:Nat}(d:aiS a b=A'):a<b:=aiD d
section
variable{Φ:Fz} {k M:Nat} {π:Nat->Nat}
mutual
theorem nZ:∀v:V,gk Φ M (iN π v)->bd k v=A'->gk Φ k v
 |.d _,h,_=>by simp only[iN]at h;cases h with|d h=>exact .d h
 |.bp _ _,_,hb=>.bp (ie (by simpa only[bd]using hb))
 |.ptr _ _ _ _,_,hb=>.ptr (ie (by simpa only[bd]using hb))
 |.fp _ _ _,h,_=>by simp only[iN]at h;cases h with|fp h1 h2 h3 h4 h5=>exact .fp h1 h2 h3 h4 h5
 |.ms _ _ _ _ _,_,hb=>.ms (ie (by simpa only[bd]using hb))
 |.map _,_,hb=>.map (ie (by simpa only[bd]using hb))
 |.fn _ a c,h,hb=>by
  simp only[iN]at h;simp only[bd,ais]at hb;cases h with
  |fn h1 h2=>exact .fn (lV a h1 hb.1) (lV c h2 hb.2)
 |.wA _,_,hb=>.wA (ie (by simpa only[bd]using hb))
 |.iface _ v,h,hb=>by
  simp only[iN]at h;simp only[bd]at hb;cases h with
  |iface h=>exact .iface (nZ v h hb)
 |.agg l,h,hb=>by
  simp only[iN]at h;simp only[bd]at hb;cases h with
  |agg h=>exact .agg (lV l h hb)
 |.dP l,h,hb=>by
  simp only[iN]at h;simp only[bd]at hb;cases h with
  |dP h=>exact .dP (lV l h hb)
theorem lV:∀l:n_ V,fW Φ M (jh π l)->hP k l=A'->fW Φ k l
 |[],_,_=>λ_ h=>by simp at h
 |v::l,h,hb=>by
  simp only[jh]at h;simp only[hP,ais]at hb;have h1:=nZ v (h _ (aiL ..)) hb.1;have h2:=lV l (λy hy=>h y (aiH _ hy)) hb.2;intro x hx;rcases aiG.1 hx with e|hx
  ·rw[e];exact h1
  exact h2 x hx
end
theorem CY(a:∀s,s<k->π s<M):∀{i:V},gk Φ k i->gk Φ M (iN π i):=by
 intro i f;induction f with
 |d f=>simp only[iN];exact .d f
 |bp f=>simp only[iN];exact .bp (a _ f)
 |ptr f=>simp only[iN];exact .ptr (a _ f)
 |fp n l r m p=>simp only[iN];exact .fp n l r m p
 |ms f=>simp only[iN];exact .ms (a _ f)
 |map f=>simp only[iN];exact .map (a _ f)
 |fn _ _ j o=>
  simp only[iN,pI];exact .fn (λi b=>by obtain⟨h,e,rfl⟩:=ait.1 b;exact j h e) λi b=>by obtain⟨h,e,rfl⟩:=ait.1 b;exact o h e
 |wA f=>simp only[iN];exact .wA (a _ f)
 |iface _ g=>simp only[iN];exact .iface g
 |agg _ g=>simp only[iN,pI];exact .agg λi b=>by obtain⟨h,e,rfl⟩:=ait.1 b;exact g h e
 |dP _ g=>simp only[iN,pI];exact .dP λi b=>by obtain⟨h,e,rfl⟩:=ait.1 b;exact g h e
theorem Uj(b:∀e,e<k->π e<M){l:n_ V}(g:fW Φ k l):fW Φ M (jh π l):=λh a=>by
 rw[pI]at a;obtain⟨f,d,rfl⟩:=ait.1 a;exact CY b (g f d)
theorem uT(a:V):iy (iN π a)=iy a:=by cases a<;>simp only[iN,iy]
end
def tT(π:Nat->Nat):Tm->Tm
 |[]=>[]
 |(a,b)::d=>(a,iN π b)::tT π d
theorem zH(π:Nat->Nat):∀(a:Tm) (b:Nat),gE (tT π a) b=(gE a b).map (iN π):=by
 intro a;induction a with
 |nil=>intro b;rfl
 |cons e a d=>
  grind [tT,pf]
def CZ(k:Nat):Tm->Bool
 |[]=>A'
 |(_,a)::b=>bd k a&&CZ k b
theorem C0{k:Nat}:∀{a:Tm},CZ k a=A'->∀{d:Nat} {b:V},gE a d=q' b->bd k b=A':=by
 intro a;induction a with
 |nil=>intro _ d b f;cases f
 |cons g a h=>
  intro e d b f;have⟨i,j⟩:=g;simp only[CZ,ais]at e;all_goals grind [pf]
def Sf(π:Nat->Nat)(a:tK):tK:=⟨iN π a.key,iN π a.val,a.born⟩
def eb(π:Nat->Nat):cX->cX
 |.box d=>.box (jh π d)
 |.row a b=>.row a (b.map (jh π))
 |.map a g=>.map (a.map (Sf π)) g
 |.loop e=>.loop {e with tm:=tT π e.tm,defers:=π e.defers}
 |.fP f=>.fP f
 |.gone=>.gone
def gP(k:Nat):cX->Bool
 |.box b=>hP k b
 |.row _ a=>a.all (hP k)
 |.map d _=>d.all λf=>bd k f.key&&bd k f.val
 |.loop e=>CZ k e.tm&&aiS e.defers k
 |.fP _=>A'
 |.gone=>A'
theorem j1(π:Nat->Nat)(a:cX):live (eb π a)=live a:=by cases a<;>rfl
def Lc(π:Nat->Nat)(a:n_ (n_ V)):(a.map (jh π)).flatten=jh π a.flatten:=by
 induction a with
 |nil=>rfl
 |cons d a b=>simp only[aiN,List.flatten_cons,b,pI,List.map_append]
theorem A3(π:Nat->Nat)(l:n_ V):j' (jh π l)=j' l:=by rw[pI,aiK]
theorem NY.Ze{Φ:Fz}{ρ π:Nat->Nat}{M k:Nat}{st:St}{b:Nat}(r:NY Φ ρ M st (eb π J) b)(d:gP k J=A'):NY Φ (λI=>ρ (π I)) k st J b:=by
 cases J with
 |box x=>
  have⟨⟨h,a⟩,l,m⟩:=r;refine⟨⟨by rw[h,jJ,A3],a⟩,lV x l d,λs j=>?_⟩;rw[<-uT (π:=π)]
  grind [pI,ait.2]
 |row n o=>
  have⟨⟨f,p,h⟩,a,l,m⟩:=r;have d:o.all (hP k)=A':=d;rw[aiQ]at d;refine⟨⟨f,p,by rw[h,Lc,jJ]⟩,λg e=>?_,λg e=>?_,λg e s j=>?_⟩
  ·rw[<-a (jh π g) (ait.2 ⟨g,e,rfl⟩),A3]
  ·exact lV g (l _ (ait.2 ⟨g,e,Z⟩)) (d g e)
  rw[<-uT (π:=π)];exact m _ (ait.2 ⟨g,e,Z⟩) _ (by rw[pI];exact ait.2 ⟨s,j,rfl⟩)
 |map n P=>
  have⟨h,a⟩:=r;have d:(n.all λg=>bd k g.key&&bd k g.val)=A':=d;rw[aiQ]at d;refine⟨?_,λg e=>?_⟩
  ·grind [List.map_map,pb,Sf,j0,aiv]
  have:=a (Sf π g) (ait.2 ⟨g,e,rfl⟩);have i:=d g e;rw[ais]at i;exact⟨nZ _ this.1 i.1,nZ _ this.2 i.2⟩
 |loop v=>
  have⟨C,h,a⟩:=r;have d:(CZ k v.tm&&aiS v.defers k)=A':=d;rw[ais]at d;refine⟨C,h,a.state,a.pending,a.fn,λD s j=>?_,a.nt,a.params,a.assign,a.body,a.defers,ie d.2⟩;have:=a.tm D (iN π s) (by show gE (tT π v.tm) D=_;rw[zH,j];rfl)
  grind [j0,nZ,C0]
 |fP D=>exact r
 |gone=>trivial
theorem ab8{Φ:Fz}{ρ π:Nat->Nat}{M k:Nat}{st:St}{b:Nat}(e:∀n,n<k->π n<M)(m:NY Φ (λn=>ρ (π n)) k st J b):NY Φ ρ M st (eb π J) b:=by
 cases J with
 |box S=>
  have⟨⟨g,a⟩,j,s⟩:=m;refine⟨⟨by rw[g,jJ,A3],a⟩,Uj e j,λr d=>?_⟩
  grind [pI,uT,ait.1]
 |row x P=>
  have⟨⟨f,p,g⟩,a,j,s⟩:=m;refine⟨⟨f,p,by rw[g,Lc,jJ]⟩,λC h=>?_,λC h=>?_,λC h r d=>?_⟩
  ·grind [A3,ait.1]
  ·grind [ait.1,Uj]
  grind [pI,uT,ait.1]
 |map x T=>
  have⟨g,a⟩:=m;refine⟨?_,λC h=>?_⟩
  ·grind [List.map_map,pb,Sf,j0,aiv]
  obtain⟨I,l,rfl⟩:=ait.1 h;exact⟨CY e (a I l).1,CY e (a I l).2⟩
 |loop D=>
  have⟨v,g,a⟩:=m;refine⟨v,g,a.state,a.pending,a.fn,λo r d=>?_,a.nt,a.params,a.assign,a.body,a.defers,e _ a.eK⟩;have d:gE (tT π D.tm) o=q' r:=d;rw[zH]at d;cases i:gE D.tm o with
  |none=>rw[i]at d;cases d
  |some V=>
   rw[i]at d;cases d;have⟨c,T⟩:=a.tm o V i
   grind [j0,CY]
 |fP o=>exact m
 |gone=>trivial
def Fz.ML(Φ dV:Fz):Prop:=∀b a,Φ b=q' a->Φ.HT b->dV b=q' a/\dV.HT b
def zC.vw{Φ dV:Fz}(l:Φ.ML dV){j:D}(e:zC Φ j):zC dV j:=by
 induction e with
 |bool b=>exact .bool b
 |int k n=>exact .int k n
 |str m=>exact .str m
 |OO=>exact .OO
 |cu=>exact .cu
 |Mk=>exact .Mk
 |OP=>exact .OP
 |AN=>exact .AN
 |ps d g i h _ a f=>exact .ps (l _ _ d a).1 g i h f (l _ _ d a).2
def gk.vw{Φ dV:Fz}{m:Nat}(g:Φ.ML dV){o:V}(i:gk Φ m o):gk dV m o:=by
 induction i with
 |d e=>exact .d (e.vw g)
 |bp a=>exact .bp a
 |ptr a=>exact .ptr a
 |fp a j n k f=>exact .fp (g _ _ a f).1 j n (λd e=>(k d e).vw g) (g _ _ a f).2
 |ms a=>exact .ms a
 |map a=>exact .map a
 |fn _ _ h l=>exact .fn h l
 |wA a=>exact .wA a
 |iface _ b=>exact .iface b
 |agg _ b=>exact .agg b
 |dP _ b=>exact .dP b
def NY.vw{Φ dV:Fz}{ρ:Nat->Nat}{m:Nat}{st:St}{p:cX}{b:Nat}(g:Φ.ML dV)(k:NY Φ ρ m st p b):NY dV ρ m st p b:=by
 cases p with
 |box s=>exact⟨k.1,λf d=>(k.2.1 f d).vw g,k.2.2⟩
 |row o r=>exact⟨k.1,k.2.1,λi e f d=>(k.2.2.1 i e f d).vw g,k.2.2.2⟩
 |map o h=>exact⟨k.1,λi e=>⟨(k.2 i e).1.vw g,(k.2 i e).2.vw g⟩⟩
 |loop v=>
  have⟨n,j,a⟩:=k;exact⟨n,j,a.state,a.pending,a.fn,λl f d=>⟨(a.tm l f d).1,(a.tm l f d).2.vw g⟩,a.nt,a.params,a.assign,a.body,a.defers,a.eK⟩
 |fP l=>exact k
 |gone=>trivial
def kU(a:n_ Nat)(d b:Nat):Nat:=
 match nth a b with
 |some i=>i
 |none=>d+(b-j' a)
def merge:VS->n_ Nat->VS->VS
 |σ,[],l=>σ++l
 |σ,_::_,[]=>σ
 |σ,i::a,b::l=>merge (σ.set i b) a l
theorem V9:∀(a:n_ Nat) (σ l:VS),j' a<=j' l->j' (merge σ a l)=j' σ+(j' l-j' a):=by
 intro a;induction a with
 |nil=>intro σ l _;simp[merge]
 |cons i a b=>
  intro σ l d;cases l with
  |nil=>simp at d
  |cons e l=>
   grind [merge,aiB]
theorem Gd:∀(a:n_ Nat) (σ l:VS) (i:Nat),i ∉ a->i<j' σ->(merge σ a l)[i]?=σ[i]?:=by
 intro a;induction a with
 |nil=>intro σ l i _ b;simp only[merge];rw[ai1 b]
 |cons d a e=>
  intro σ l i f b;cases l with
  |nil=>rfl
  |cons g l=>
   grind [merge,aiB]
theorem A4:∀(a:n_ Nat) (σ l:VS) (b i:Nat),a.Nodup->(∀i∈a,i<j' σ)->j' a<=j' l->a[b]?=q' i->(merge σ a l)[i]?=l[b]?:=by
 intro a;induction a with
 |nil=>intro σ l b i _ _ _ h;simp at h
 |cons j a k=>
  intro σ l b i d g f h;cases l with
  |nil=>simp at f
  |cons m l=>
   simp only[merge];have e:=List.nodup_cons.1 d;cases b with
   |zero=>
    grind [Gd,aiB]
   |succ b=>
    grind
theorem Wa:∀(a:n_ Nat) (σ l:VS) (b:Nat),j' a<=j' l->(merge σ a l)[j' σ+b]?=l[j' a+b]?:=by
 intro a;induction a with
 |nil=>intro σ l b _;simp only[merge,aiZ,ai3];rw[List.getElem?_append_right om];congr 1;omega
 |cons i a d=>
  intro σ l b e;cases l with
  |nil=>simp at e
  |cons f l=>
   grind [merge,aiB,aiP]
def pT(π:Nat->Nat):dt->dt
 |.ret a=>.ret (iN π a)
 |.fJ a=>.fJ (iN π a)
section
variable{C:eN} {cU:r3} {Φ:Fz} {ρ:Nat->Nat} {σ:VS} {st:St}
def jv(σ:VS)(ρ:Nat->Nat)(a:n_ Nat)(d:Nat):Prop:=∃i b,σ[i]?=q' b/\live b=A'/\i ∉ a/\ρ i=d
open Classical in
noncomputable def uU(Φ:Fz)(σ:VS)(ρ:Nat->Nat)(a:n_ Nat)(st:St):Fz:=
 ⟨λb=>if jv σ ρ a b then st.get b else Φ b,λb=>Φ.HT b/\¬jv σ ρ a b,λf=>Φ.uL f∨∃i d,σ[i]?=q' (.box d)/\i ∉ a/\ρ i=f⟩
open Classical in
noncomputable def Ge(Φ a:Fz)(σ:VS)(ρ:Nat->Nat)(b:n_ Nat):Fz:=
 ⟨λd=>if jv σ ρ b d then u' else a d,a.HT,Φ.uL⟩
open Classical in
def ss{a:n_ Nat}{b:Nat}(d:jv σ ρ a b):(uU Φ σ ρ a st) b=st.get b:=by
 show(if jv σ ρ a b then st.get b else Φ b)=_;rw[X' d]
open Classical in
def pj{a:n_ Nat}{b:Nat}(d:¬jv σ ρ a b):(uU Φ σ ρ a st) b=Φ b:=by
 show(if jv σ ρ a b then st.get b else Φ b)=_;rw[W' d]
open Classical in
def pk{a:Fz}{b:n_ Nat}{d:Nat}(e:jv σ ρ b d):(Ge Φ a σ ρ b) d=u':=by
 show(if jv σ ρ b d then u' else a d)=_;rw[X' e]
open Classical in
def lW{a:Fz}{b:n_ Nat}{d:Nat}(e:¬jv σ ρ b d):(Ge Φ a σ ρ b) d=a d:=by
 show(if jv σ ρ b d then u' else a d)=_;rw[W' e]
def Gg(ρ a:Nat->Nat)(b k:Nat):Nat->Nat:=λi=>if i<b then ρ i else a (k+(i-b))
def tU(m:Real Φ ρ σ st){i:Nat}(h:σ[i]?=q' J)(d:live J=A'):∃l,st.get (ρ i)=q' l/\((∃r b f p,l=.cells r b f p)->so J=A'):=by
 have a:=(m.obj i J h d).1;cases J with
 |box n=>exact⟨_,a.1.1,λ_=>rfl⟩
 |row g j=>have⟨⟨f,p,k⟩,_⟩:=a;exact⟨_,k,λ_=>rfl⟩
 |map g e=>exact⟨_,a.1,λ⟨_,_,_,_,b⟩=>by cases b⟩
 |loop v=>have⟨o,k,_⟩:=a;exact⟨_,k,λ⟨_,_,_,_,b⟩=>by cases b⟩
 |fP s=>exact⟨_,a,λ⟨_,_,_,_,b⟩=>by cases b⟩
 |gone=>cases d
def me{a i:Nat}(b:K[a]?=q' i)(d:Nat):kU K d a=i:=by
 unfold kU;rw[cx,b]
theorem MM(b:j' K<=B)(a:Nat):kU K a B=a+(B-j' K):=by
 grind [kU,cx]
def b7.frame(a:n_ Nat){f:D'}{aN:n_ V}(bQ:b7 C cU f z X q)(bp:j' a=j' X)(bk:a.Nodup) 
  (aT:∀h i:Nat,a[h]?=q' i->∃n,X[h]?=q' n/\σ[i]?=q' (eb (kU a (j' σ)) n)/\gP (j' X) n=A')
  (aQ:hP (j' X) z=A') (aD:aN=jh (kU a (j' σ)) z)
  (bS:∀ar aq,q ar aq->j' X<=j' aq->O (pT (kU a (j' σ)) ar) (merge σ a (aq.map (eb (kU a (j' σ)))))):b7 C cU f aN σ O:=by
 refine⟨λΦ ρ st F aW=>?_⟩;have ad:∀i∈a,i<j' σ:=λi P=>by
  have⟨h,D⟩:=aiU P;have⟨n,_,e,_⟩:=aT h i D;exact(aiw.1 e).1
 have Q:∀h n,X[h]?=q' n->∃i,a[h]?=q' i/\σ[i]?=q' (eb (kU a (j' σ)) n)/\gP (j' X) n=A':=λh n D=>by
  have ad:h<j' a:=by rw[bp];exact(aiw.1 D).1
  refine⟨a[h],aiF ad,?_⟩;have⟨ab,d,e,j⟩:=aT h _ (aiF ad);rw[D]at d;cases d;exact⟨e,j⟩
 have bn:∀h k i,a[h]?=q' i->a[k]?=q' i->h=k:=λh k i D s=>by
  have d:=(aiw.1 D);have e:=(aiw.1 s);have⟨aI,aW⟩:=d;have⟨b,g⟩:=e;have bG:=ai0.1 bk;rcases Nat.lt_trichotomy h k with am|am|am
  ·exact Y' (aW.trans g.symm) (bG h k aI b am)
  ·exact am
  exact Y' (g.trans aW.symm) (bG k h b aI am)
 have aJ:∀G,jv σ ρ a G->Φ G=u':=λG ⟨i,n,P,x,_,r⟩=>by rw[<-r];exact(F.obj i n P x).2
 have bt:∀{i:Nat} {n:cX},i∈a->σ[i]?=q' n->live n=A'->¬jv σ ρ a (ρ i):=fun{i n} P W x ⟨K,ab,d,e,j,r⟩=>j (by
  have:=F.inj K i ab n d W e x r;rw[this];exact P)
 have Y:Φ.le (uU Φ σ ρ a st):=by
  refine⟨λb n g=>?_,λb n g=>?_,λ_ F=>.inl F⟩
  ·have:¬jv σ ρ a b:=λo=>by rw[aJ b o]at g;cases g
   rw[pj this];exact g
  have:¬jv σ ρ a b:=λo=>by rw[aJ b o]at g;cases g
  exact⟨λap=>ap.1,λap=>⟨ap,this⟩⟩
 have aO:∀G aC r fm p,(uU Φ σ ρ a st) G=q' (.cells aC r fm p)->st.get G=q' (.cells aC r fm p)/\((Φ G=q' (.cells aC r fm p))∨∃i n,σ[i]?=q' n/\so n=A'/\i ∉ a/\ρ i=G):=by
  intro G aC r fm p T;by_cases o:jv σ ρ a G
  ·have bi:=o;rw[ss o]at T;have⟨i,n,d,e,j,U⟩:=o;have⟨aI,m,aa⟩:=tU F d e;rw[U,T]at m;cases m;exact⟨T,.inr ⟨i,n,d,aa ⟨_,_,_,_,Z⟩,j,U⟩⟩
  rw[pj o]at T;exact⟨F.fz _ _ T,.inl T⟩
 have bK:∀{n:cX},so n=A'->live n=A':=fun{n} W=>by cases n<;>first|rfl|cases W
 have bi:Real (uU Φ σ ρ a st) (λh=>ρ (kU a (j' σ) h)) X st:=by
  refine⟨F.wf,F.wm,λb n g=>?_,λb g=>?_,λfm an=>?_,λG bs aC r fm p aj J ai T aF=>?_,λh ah ag aC r fm p D t=>?_,λh n D x=>?_,λh k bX u D s bx l r=>?_,λh ah ag aC r fm p aw G D t R T c=>?_⟩
  ·by_cases o:jv σ ρ a b
   ·rw[ss o]at g;exact g
   rw[pj o]at g;exact F.fz b n g
  ·by_cases o:jv σ ρ a b
   ·rw[ss o]at g;have⟨i,n,d,e,j,U⟩:=o;rw[<-U]at g;have s:=(F.obj i n d e).1;cases n with
    |box aG=>rw[s.1.1]at g;cases g
    |row ah ag=>have⟨⟨_,_,k⟩,_⟩:=s;rw[k]at g;cases g
    |map ah aB=>rw[s.1]at g;cases g
    |loop bU=>have⟨_,k,_⟩:=s;rw[k]at g;cases g
    |fP bJ=>have k:st.get (ρ i)=q' (.fP bJ):=s;rw[k]at g;cases g
    |gone=>cases e
   rw[pj o]at g;exact F.VV b g
  ·rcases an with an|⟨i,aG,d,_,j⟩
   ·exact F.uL fm an
   have⟨⟨⟨H,L⟩,_⟩,_⟩:=F.obj i _ d rfl;rw[<-j];exact⟨L,F.lt d Z⟩
  ·have⟨bu,bb⟩:=aO G aC r fm p T;have⟨bD,aH⟩:=aO bs aj J fm ai aF;by_cases aE:G=bs
   ·exact aE
   exfalso;rcases bb with bb|⟨i,n,d,e,j,U⟩
   ·rcases aH with aH|⟨i,n,d,e,j,U⟩
    ·exact aE (F.VW G bs _ _ _ _ _ _ _ bb aH)
    subst U;exact F.qd d e bD bu aE (.inl (by rw[bb];simp)) Z
   subst U;refine F.qd d e bu bD (λr=>aE r.symm) ?_ Z;rcases aH with aH|⟨K,ab,H,L,bV,bP⟩
   ·exact .inl (by rw[aH];simp)
   exact .inr ⟨K,ab,H,bK L,bP⟩
  ·have⟨i,d,e,j⟩:=Q h _ D;have t:st.get (ρ (kU a (j' σ) h))=q' (.cells aC r fm p):=t;rw[me d]at t;rintro(ba|⟨K,aG,m,aa,br⟩)
   ·exact F.Q9 i _ _ _ _ _ _ e t ba
   have⟨⟨⟨H,L⟩,_⟩,_⟩:=F.obj K _ m rfl;have c:ρ K≠ρ i:=λr=>aa (by
    have:=F.inj K i _ _ m e rfl rfl r;rw[this];exact aiT d)
   exact F.qd e Z t H c (.inr ⟨K,_,m,Z,Z⟩) br
  ·have⟨i,d,e,j⟩:=Q h _ D;have aR:live (eb (kU a (j' σ)) n)=A':=by rw[j1];exact x
   have⟨H,L⟩:=F.obj i _ e aR;show NY _ _ _ _ _ (ρ (kU a (j' σ) h))/\(uU Φ σ ρ a st) (ρ (kU a (j' σ) h))=u';rw[me d];refine⟨?_,by rw[pj (bt (aiT d) e aR)];exact L⟩;have:=H.Ze j;exact(⟨Y,λ_ _=>Z,aiy _⟩:jO Φ (λh=>ρ (kU a (j' σ) h)) (j' X) (uU Φ σ ρ a st) (λh=>ρ (kU a (j' σ) h)) (j' X)).obj Z (λ_ _ _ _ _ ba=>ba) this
  ·have⟨i,d,e,_⟩:=Q h _ D;have⟨K,B,af,_⟩:=Q k _ s;have r:ρ (kU a (j' σ) h)=ρ (kU a (j' σ) k):=r;rw[me d,me B]at r;have:=F.inj i K _ _ e af (by rw[j1];exact bx) (by rw[j1];exact l) r;subst this;exact bn h k i d B
  have⟨i,d,e,j⟩:=Q h _ D;have t:st.get (ρ (kU a (j' σ) h))=q' (.cells aC r fm p):=t;have c:G≠ρ (kU a (j' σ) h):=c;rw[me d]at t c;have⟨H,L⟩:=F.et i _ _ _ _ _ _ aw G e t R T c;refine⟨?_,λax ab bH bI=>?_⟩
  ·rw[pj]
   ·exact H
   rintro⟨K,ab,m,aa,_,be⟩;exact L K ab m aa be
  have⟨K,B,af,_⟩:=Q ax _ bH;show ρ (kU a (j' σ) ax)≠G;rw[me B];exact L K _ af (by rw[j1];exact bI)
 have aS:fW (uU Φ σ ρ a st) (j' X) z:=by
  rw[aD]at aW;exact(lV z aW aQ).mono Y (aiy _)
 have⟨bW,ar,bA,ae,E,A,M,bN,ac,I,bB,bO⟩:=bQ.go _ _ st bi aS;have aM:j' a<=(M.map (eb (kU a (j' σ)))).length:=by rw[aiK,bp];exact ac.len
 have w:∀h,(Gg ρ A (j' σ) (j' a)) (kU a (j' σ) h)=A h:=by
  intro h;by_cases D:h<j' a
  ·have d:=aiF D;rw[me d];show(if a[h]<j' σ then _ else _)=_;rw[X' (ad _ (List.getElem_mem D))];have:=ac.xO h (by rw[<-bp];exact D);rw[this,me d]
  rw[MM om];show(if (j' σ)+(h-j' a)<j' σ then _ else _)=_;rw[W' om];congr 1;omega
 have au:=V9 a σ (M.map (eb (kU a (j' σ)))) aM;rw[aiK]at au;have aK:∀h,h<j' M->kU a (j' σ) h<(merge σ a (M.map (eb (kU a (j' σ))))).length:=by
  intro h D;rw[au];by_cases bl:h<j' a
  ·rw[me (aiF bl)];have:=ad _ (List.getElem_mem bl);omega
  rw[MM om];omega
 have y:∀i n,(merge σ a (M.map (eb (kU a (j' σ)))))[i]?=q' n->(∃h S,M[h]?=q' S/\n=eb (kU a (j' σ)) S/\kU a (j' σ) h=i)∨(i<j' σ/\i ∉ a/\σ[i]?=q' n):=by
  intro i n W;by_cases P:i<j' σ
  ·by_cases R:i∈a
   ·have⟨h,D⟩:=aiU R;rw[A4 a σ _ h i bk ad aM D,List.getElem?_map]at W;cases d:M[h]? with
    |none=>rw[d]at W;cases W
    |some S=>rw[d]at W;cases W;exact .inl ⟨h,S,d,rfl,me D _⟩
   rw[Gd a σ _ i R P]at W;exact .inr ⟨P,R,W⟩
  have:=Wa a σ (M.map (eb (kU a (j' σ)))) (i-j' σ) aM;rw[show (j' σ)+(i-j' σ)=i from om,W,List.getElem?_map]at this;cases d:M[j' a+(i-j' σ)]? with
  |none=>rw[d]at this;cases this
  |some S=>
   rw[d]at this;cases this;exact .inl ⟨_,S,d,Z,by rw[MM om];omega⟩
 have v:∀{i:Nat} {n:cX},σ[i]?=q' n->live n=A'->i ∉ a->ae.get (ρ i)=st.get (ρ i)/\E (ρ i)=st.get (ρ i)/\¬E.HT (ρ i):=by
  intro i n P x R;have o:jv σ ρ a (ρ i):=⟨i,n,P,x,R,rfl⟩;have⟨aI,m,_⟩:=tU F P x;have an:(uU Φ σ ρ a st) (ρ i)=q' aI:=by rw[ss o];exact m
  have d:=ac.le.Ye _ _ an;exact⟨by rw[I.fz _ _ d,m],by rw[d,m],λap=>((ac.le.HT _ _ an).1 ap).2 o⟩
 have az:E.ML (Ge Φ E σ ρ a):=by
  intro b n g ap;have:¬jv σ ρ a b:=λ⟨i,ab,d,e,j,U⟩=>(v d e j).2.2 (U▸ap);exact⟨by rw[lW this];exact g,ap⟩
 have bm:Φ.le (Ge Φ E σ ρ a):=by
  refine⟨λb n g=>?_,λb n g=>?_,λ_ F=>F⟩
  ·have:¬jv σ ρ a b:=λo=>by rw[aJ b o]at g;cases g
   rw[lW this];exact ac.le.Ye _ _ (Y.Ye _ _ g)
  have d:=Y.Ye _ _ g;exact(ac.le.HT _ _ d).trans (Y.HT _ _ g)
 have aX:jO Φ ρ (j' σ) (Ge Φ E σ ρ a) (Gg ρ A (j' σ) (j' a)) (merge σ a (M.map (eb (kU a (j' σ))))).length:=
  ⟨bm,λi P=>X' P,by rw[au];omega⟩
 have ay:(λh=>(Gg ρ A (j' σ) (j' a)) (kU a (j' σ) h))=A:=funext w;have aA:∀{h:Nat} {n:cX},M[h]?=q' n->live n=A'->¬jv σ ρ a (A h):=by
  rintro h n D x ⟨i,ab,d,e,j,U⟩;have:=(v d e j).2.1;have⟨aI,m,_⟩:=tU F d e;rw[U,(I.obj h n D x).2]at this;rw[U]at m;rw[m]at this;cases this
 have bc:Real (Ge Φ E σ ρ a) (Gg ρ A (j' σ) (j' a)) (merge σ a (M.map (eb (kU a (j' σ))))) ae:=by
  have N:∀i,i<j' σ->(Gg ρ A (j' σ) (j' a)) i=ρ i:=λi P=>X' P;refine⟨I.wf,I.wm,λb n g=>?_,λb g=>?_,λfm an=>I.uL fm (ac.le.uL _ (Y.uL _ an)),λG bs aC r fm p aj J ai T aF=>?_,λi ah ag aC r fm p P t=>?_,λi n P x=>?_,λi k bM u P s ao l r=>?_,λi ah ag aC r fm p aw G P t R T c=>?_⟩
  ·by_cases o:jv σ ρ a b
   ·rw[pk o]at g;cases g
   rw[lW o]at g;exact I.fz b n g
  ·by_cases o:jv σ ρ a b
   ·rw[pk o]at g;cases g
   rw[lW o]at g;exact I.VV b g
  ·by_cases bj:jv σ ρ a G
   ·rw[pk bj]at T;cases T
   by_cases bg:jv σ ρ a bs
   ·rw[pk bg]at aF;cases aF
   rw[lW bj]at T;rw[lW bg]at aF;exact I.VW G bs _ _ _ _ _ _ _ T aF
  ·rcases y i _ P with⟨h,S,d,e,rfl⟩|⟨d,e,j⟩
   ·cases S with
    |row bv bo=>
     rw[w]at t;intro ba;exact I.Q9 h _ _ _ _ _ _ d t (ac.le.uL _ (Y.uL _ ba))
    |_=>cases e
   rw[N i d,(v j rfl e).1]at t;exact F.Q9 i _ _ _ _ _ _ j t
  ·rcases y i _ P with⟨h,S,d,rfl,rfl⟩|⟨d,e,j⟩
   ·rw[j1]at x;have⟨H,L⟩:=I.obj h _ d x;rw[w];refine⟨?_,by rw[lW (aA d x)];exact L⟩;refine ab8 aK ?_;rw[ay];exact H.vw az
   rw[N i d];have⟨H,L⟩:=F.obj i _ j x;refine⟨?_,pk ⟨i,n,j,x,e,Z⟩⟩;refine aX.af3 (v j x e).1 (λaG r=>?_) H;subst r;exact(I.uL _ (ac.le.uL _ (.inr ⟨i,aG,j,e,Z⟩))).1
  ·rcases y i _ P with⟨h,S,d,rfl,rfl⟩|⟨d,e,j⟩
   ·rw[j1]at ao;rcases y k _ s with⟨ax,bw,B,rfl,rfl⟩|⟨B,af,aU⟩
    ·rw[j1]at l;rw[w,w]at r;rw[I.inj h ax _ _ d B ao l r]
    rw[w,N k B]at r;exact Y' ⟨k,u,aU,l,af,r.symm⟩ (aA d ao)
   rcases y k _ s with⟨ax,bw,B,rfl,rfl⟩|⟨B,af,aU⟩
   ·rw[j1]at l;rw[w,N i d]at r;exact Y' ⟨i,bM,j,ao,e,r⟩ (aA B l)
   rw[N i d,N k B]at r;exact F.inj i k _ _ j aU ao l r
  
  have bh:∀k u,(merge σ a (M.map (eb (kU a (j' σ)))))[k]?=q' u->live u=A'->(∃h S,M[h]?=q' S/\live S=A'/\(Gg ρ A (j' σ) (j' a)) k=A h)∨(jv σ ρ a ((Gg ρ A (j' σ) (j' a)) k)/\σ[k]?=q' u/\k ∉ a/\k<j' σ):=by
   intro k u s l;rcases y k _ s with⟨h,S,d,rfl,rfl⟩|⟨d,e,j⟩
   ·rw[j1]at l;exact .inl ⟨h,S,d,l,w h⟩
   exact .inr ⟨by rw[N k d];exact⟨k,u,j,l,e,rfl⟩,j,e,d⟩
  rcases y i _ P with⟨h,S,d,e,rfl⟩|⟨d,e,j⟩
  ·cases S with
   |row bv bo=>
    rw[w]at t c;have⟨H,L⟩:=I.et h _ _ _ _ _ _ aw G d t R T c;have aY:¬jv σ ρ a G:=by
     rintro⟨K,ab,m,aa,br,be⟩;have:=(v m aa br).2.1;have⟨aI,q1,_⟩:=tU F m aa;rw[be,H]at this;rw[be]at q1;rw[q1]at this;cases this
    refine⟨by rw[lW aY];exact H,λk u s l=>?_⟩;rcases bh k u s l with⟨ax,S,q1,q2,q3⟩|⟨q1,_⟩
    ·rw[q3];exact L ax S q1 q2
    intro r;rw[r]at q1;exact aY q1
   |_=>cases e
  rw[N i d]at t c;have aL:=t;rw[(v j rfl e).1]at aL;have bL:∀aj J bf ai,ae.get G=q' (.cells aj J bf ai)->bf=fm:=λaj J bf ai bz=>I.wm.mem fm aw G aj J bf ai R T bz;have av:E (ρ i)=q' (.cells aC r fm p):=by rw[(v j rfl e).2.1];exact aL
  have aP:∀{k:Nat} {u:cX},σ[k]?=q' u->live u=A'->st.get (ρ k)≠q' .dead:=by
   intro k u s l r;have s:=(F.obj k u s l).1;cases u with
   |box aG=>rw[s.1.1]at r;cases r
   |row ah ag=>have⟨⟨_,_,aV⟩,_⟩:=s;rw[aV]at r;cases r
   |map ah aB=>rw[s.1]at r;cases r
   |loop bU=>have⟨_,aV,_⟩:=s;rw[aV]at r;cases r
   |fP bJ=>have aV:st.get (ρ k)=q' (.fP bJ):=s;rw[aV]at r;cases r
   |gone=>cases l
  have bE:E G=u':=by
   cases bq:E G with
   |none=>rfl
   |some n=>
    exfalso;rcases I.wm.row fm aw G n R T (I.fz _ _ bq)with J|⟨aj,J,ai,ak⟩
    ·subst J;exact I.VV G bq
    subst ak;exact c (I.VW G (ρ i) _ _ _ _ _ _ _ bq av)
  refine⟨?_,λk u s l=>?_⟩
  ·by_cases o:jv σ ρ a G
   ·exact pk o
   rw[lW o];exact bE
  rcases bh k u s l with⟨h,S,q1,q2,q3⟩|⟨q1,q2,q3,q4⟩
  ·rw[q3];intro r;subst r;have⟨aI,m,aa⟩:=tU I q1 q2;rcases I.wm.row fm aw _ aI R T m with J|⟨aj,J,ai,ak⟩
   ·subst J;have al:=(I.obj h S q1 q2).1;cases S with
    |box aG=>rw[al.1.1]at m;cases m
    |row ah ag=>have⟨⟨_,_,aV⟩,_⟩:=al;rw[aV]at m;cases m
    |map ah aB=>rw[al.1]at m;cases m
    |loop bU=>have⟨_,aV,_⟩:=al;rw[aV]at m;cases m
    |fP bJ=>have aV:ae.get (A h)=q' (.fP bJ):=al;rw[aV]at m;cases m
    |gone=>cases q2
   subst ak;exact I.qd q1 (aa ⟨_,_,_,_,Z⟩) m (I.fz _ _ av) (λr=>c r.symm) (.inl (by rw[av];simp)) Z
  rw[N k q4];intro r;subst r;have⟨aI,m,aa⟩:=tU F q2 l;have bC:ae.get (ρ k)=q' aI:=by rw[(v q2 l q3).1];exact m
  rcases I.wm.row fm aw _ aI R T bC with J|⟨aj,J,ai,ak⟩
  ·subst J;exact aP q2 l m
  subst ak;exact F.qd j Z aL m c (.inr ⟨k,u,q2,l,Z⟩) Z
 refine⟨bW,pT (kU a (j' σ)) ar,bA,ae,Ge Φ E σ ρ a,_,_,?_,aX,bc,?_,bS ar M bO ac.len⟩
 ·rw[aD,jJ,bN];congr 2;cases ar with
  |ret bR=>simp only[pT,fI,j0,ay]
  |fJ bR=>simp only[pT,fI,j0,ay]
 cases ar with
 |ret bR=>exact CY aK (gk.vw az bB)
 |fJ bR=>exact CY aK (gk.vw az bB)
end
mutual
def Gh:∀v:V,iN (λi=>i) v=v
 |.d _=>by simp only[iN]
 |.bp _ _=>by simp only[iN]
 |.ptr _ _ _ _=>by simp only[iN]
 |.fp _ _ _=>by simp only[iN]
 |.ms _ _ _ _ _=>by simp only[iN]
 |.map _=>by simp only[iN]
 |.fn _ a c=>by simp only[iN,su a,su c]
 |.wA _=>by simp only[iN]
 |.iface _ v=>by simp only[iN,Gh v]
 |.agg l=>by simp only[iN,su l]
 |.dP l=>by simp only[iN,su l]
def su:∀l:n_ V,jh (λi=>i) l=l
 |[]=>by simp only[jh]
 |v::l=>by simp only[jh,Gh v,su l]
end
section
variable{C:eN} {cU:r3} {Φ dV:Fz} {ρ dM:Nat->Nat} {σ:VS} {st:St} {m m':Nat}
def Pb{k M:Nat}{a:V}(d:gk Φ M a)(b:bd k a=A'):gk Φ k a:=nZ (π:=λi=>i) (M:=M) a (by rw[Gh];exact d) b
def Sg{k M:Nat}{l:n_ V}(b:fW Φ M l)(a:hP k l=A'):fW Φ k l:=lV (π:=λi=>i) (M:=M) l (by rw[su];exact b) a
def ab9(e:cX):eb (λi=>i) e=e:=by
 cases e with
 |box l=>simp only[eb,su]
 |row d f=>simp only[eb];congr 1;rw[aiv (g:=id) (λh _=>su h),aiW]
 |map d n=>simp only[eb];congr 1;rw[aiv (g:=id) (λh _=>by simp only[Sf,Gh];rfl),aiW]
 |loop m=>
  simp only[eb];have:∀a:Tm,tT (λi=>i) a=a:=by
   intro a;induction a with
   |nil=>rfl
   |cons j a b=>have⟨k,o⟩:=j;simp only[tT,Gh,b]
  rw[this]
 |fP k=>rfl
 |gone=>rfl
def ml(k:Nat):VS->Nat->Bool
 |_,0=>A'
 |[],_+1=>A'
 |o::σ,a+1=>gP k o&&ml k σ a
theorem EY:∀{σ:VS} {k n:Nat},ml k σ n=A'->∀{i:Nat} {d:cX},i<n->σ[i]?=q' d->gP k d=A':=by
 intro σ;induction σ with
 |nil=>intro k n _ i d _ b;simp at b
 |cons g σ e=>
  intro k n a i d f b;cases n with
  |zero=>omega
  |succ n=>
   simp only[ml,ais]at a;cases i with
   |zero=>simp at b;subst b;exact a.1
   |succ i=>exact e (n:=n) a.2 (ai2 f) (by simpa using b)
theorem Real.take(g:Real Φ ρ σ st){h:Nat}(u:h<=j' σ)(v:ml h σ h=A'):Real Φ ρ (σ.take h) st:=by
 have b:∀i o,(σ.take h)[i]?=q' o->i<h/\σ[i]?=q' o:=λi o a=>by
  all_goals grind
 have j:j' (σ.take h)=h:=by rw[aiO];omega
 refine⟨g.wf,g.wm,g.fz,g.VV,g.uL,g.VW,λi k e T V f p a d=>g.Q9 i k e T V f p (b _ _ a).2 d,λi o a D=>?_,λi q x c a S=>g.inj i q x c (b _ _ a).2 (b _ _ S).2,λi k e T V f p s t a d P I m=>?_⟩
 ·have⟨C,n⟩:=b _ _ a;have⟨l,r⟩:=g.obj i o n D;refine⟨?_,r⟩;rw[j];exact NY.Ze (π:=λi=>i) (M:=j' σ) (by rw[ab9];exact l) (EY v C n)
 have⟨l,r⟩:=g.et i k e T V f p s t (b _ _ a).2 d P I m
 grind
structure cV (m:Nat) (r:dt) (σ:VS) (K:dt->VS->Prop):Prop where
 go:∀Φ ρ st,Real Φ ρ σ st->F7 Φ (j' σ) r->∃r' dV dM pL,Φ.le dV/\(∀i,i<m->dM i=ρ i)/\m<=j' pL/\Real dV dM pL st/\F7 dV (j' pL) r'/\fI dM r'=fI ρ r/\K r' pL
def cV.now{d:dt}(a:aiV m (j' σ)=A')(b:q d σ):cV m d σ q:=
 ⟨λΦ ρ st f e=>⟨d,Φ,ρ,σ,Fz.le_refl _,λ_ _=>rfl,aiD a,f,e,rfl,b⟩⟩
def Wb(k:Nat):dt->Bool
 |.ret a=>bd k a
 |.fJ a=>bd k a
def cV.drop(a:Nat){g:dt}(d:aiV a (j' σ)=A')(i:ml a σ a=A')(e:Wb a g=A')(h:cV m g (σ.take a) q):cV m g σ q:=by
 refine⟨λΦ ρ st j f=>?_⟩;have d:=aiD d;have b:j' (σ.take a)=a:=by rw[aiO];omega
 refine h.go Φ ρ st (j.take d i) ?_;rw[b];cases g with
 |ret k=>exact Pb (M:=j' σ) f e
 |fJ k=>exact Pb (M:=j' σ) f e
mutual
def jN(i b:Nat)(l:n_ cP):V->V
 |.ms j es k len cap=>match Nat.beq j i with
  |true=>.d (.ps b (k*es) es cap ((l.drop k).take len))
  |false=>.ms j es k len cap
 |.fn f a c=>.fn f (A5 i b l a) (A5 i b l c)
 |.iface t v=>.iface t (jN i b l v)
 |.agg vs=>.agg (A5 i b l vs)
 |.dP vs=>.dP (A5 i b l vs)
 |v=>v
def A5(i b:Nat)(l:n_ cP):n_ V->n_ V
 |[]=>[]
 |v::vs=>jN i b l v::A5 i b l vs
end
mutual
def r4(i Hz n:Nat):V->Prop
 |.ms j es k len _=>j=i->es=Hz/\k+len<=n
 |.fn _ a c=>sv i Hz n a/\sv i Hz n c
 |.iface _ v=>r4 i Hz n v
 |.agg vs=>sv i Hz n vs
 |.dP vs=>sv i Hz n vs
 |_=>True
def sv(i Hz n:Nat):n_ V->Prop
 |[]=>True
 |v::vs=>r4 i Hz n v/\sv i Hz n vs
end
section
variable{i b Hz:Nat} {l:n_ cP} {f p M:Nat}
mutual
def q8(hb:b=ρ i)(hΦ:Φ b=q' (.cells (l.flatten.map cK) Hz f p))(hd:Φ.HT b)(hl:∀e∈l,j' e=Hz)(hs:∀e∈l,∀d∈e,zC Φ d):
  ∀v:V,gk Φ M v->r4 i Hz (j' l) v->gk Φ M (jN i b l v)/\erase ρ (jN i b l v)=erase ρ v
 |.ms j es k len cap,hv,ho=>by
  simp only[r4]at ho;unfold jN;split
  ·rename_i hj;have:=aiI hj;subst this;obtain⟨rfl,hlen⟩:=ho rfl;have hll:j' ((l.drop k).take len)=len:=by rw[aiO,List.length_drop];omega
   refine⟨.d (.ps hΦ (λe he=>hl e (ai5 (ai4 he))) ?_ ?_ (λe he=>hs e (ai5 (ai4 he))) hd),?_⟩
   ·rw[hll,aiK,tM hl,<-Nat.add_mul];exact Nat.mul_le_mul_right _ hlen
   ·rw[hll,<-List.map_drop,<-List.map_take,O3 hl]
   simp only[erase,cK,hll,hb]
  exact⟨hv,Z⟩
 |.fn f' a c,hv,ho=>by
  simp only[r4]at ho;simp only[jN];cases hv with
  |fn h1 h2=>
   have⟨x1,x2⟩:=tV hb hΦ hd hl hs a h1 ho.1;have⟨y1,y2⟩:=tV hb hΦ hd hl hs c h2 ho.2;exact⟨.fn x1 y1,by simp only[erase,x2,y2]⟩
 |.iface t v,hv,ho=>by
  simp only[r4]at ho;simp only[jN];cases hv with
  |iface h1=>
   have⟨x1,x2⟩:=q8 hb hΦ hd hl hs v h1 ho;exact⟨.iface x1,by simp only[erase,x2]⟩
 |.agg vs,hv,ho=>by
  simp only[r4]at ho;simp only[jN];cases hv with
  |agg h1=>
   have⟨x1,x2⟩:=tV hb hΦ hd hl hs vs h1 ho;exact⟨.agg x1,by simp only[erase,x2]⟩
 |.dP vs,hv,ho=>by
  simp only[r4]at ho;simp only[jN];cases hv with
  |dP h1=>
   have⟨x1,x2⟩:=tV hb hΦ hd hl hs vs h1 ho;exact⟨.dP x1,by simp only[erase,x2]⟩
 |.d _,hv,_=>by simp only[jN];exact⟨hv,tv⟩
 |.bp _ _,hv,_=>by simp only[jN];exact⟨hv,tv⟩
 |.ptr _ _ _ _,hv,_=>by simp only[jN];exact⟨hv,tv⟩
 |.fp _ _ _,hv,_=>by simp only[jN];exact⟨hv,tv⟩
 |.map _,hv,_=>by simp only[jN];exact⟨hv,tv⟩
 |.wA _,hv,_=>by simp only[jN];exact⟨hv,tv⟩
def tV(hb:b=ρ i)(hΦ:Φ b=q' (.cells (l.flatten.map cK) Hz f p))(hd:Φ.HT b)(hl:∀e∈l,j' e=Hz)(hs:∀e∈l,∀d∈e,zC Φ d):
  ∀vs:n_ V,fW Φ M vs->sv i Hz (j' l) vs->fW Φ M (A5 i b l vs)/\cE ρ (A5 i b l vs)=cE ρ vs
 |[],_,_=>⟨λ_ h=>by simp[A5]at h,by simp only[A5]⟩
 |v::vs,hv,ho=>by
  simp only[sv]at ho;have⟨x1,x2⟩:=q8 hb hΦ hd hl hs v (hv v (aiL ..)) ho.1;have⟨y1,y2⟩:=tV hb hΦ hd hl hs vs (λx hx=>hv x (aiH _ hx)) ho.2;simp only[A5];refine⟨λx hx=>?_,by simp only[cE,x2,y2]⟩;rcases aiG.1 hx with e|hx
  ·rw[e];exact x1
  exact y1 x hx
end
end
def qL(i b:Nat)(l:n_ cP):dt->dt
 |.ret a=>.ret (jN i b l a)
 |.fJ a=>.fJ (jN i b l a)
def C1(i Hz b:Nat):dt->Prop
 |.ret a=>r4 i Hz b a
 |.fJ a=>r4 i Hz b a
def cV.freeze(i:Nat){j:dt}{K:dt->VS->Prop}{es:Nat}{els:n_ (n_ V)}{l:n_ cP}(h:nth σ i=q' (.row es els))(s:sn els=q' l)(r:C1 i es (j' l) j) 
  (q:∀b,cV m (qL i b l j) (σ.set i .gone) K):cV m j σ K:=by
 refine⟨λΦ ρ st F D=>?_⟩;rw[cx]at h;have⟨d,f,p,n⟩:=uO F h;have A:=(F.obj i _ h rfl).2;have v:cE ρ els.flatten=l.flatten.map cK:=by rw[gS s,wH]
 rw[v]at n;have z:=F.freeze h n;have g:=yb (o:=gJ.cells (l.flatten.map cK) es f p) A;rw[gS s]at d;have⟨d1,d2⟩:=d.d;have o:∀J∈l,∀y∈J,zC (qe Φ (ρ i) (.cells (l.flatten.map cK) es f p)) y:=λJ G y I=>(d2 J G y I).mono g;have k:j' (σ.set i .gone)=j' σ:=aiB;have C:∀a,gk Φ (j' σ) a->r4 i es (j' l) a->gk (qe Φ (ρ i) (.cells (l.flatten.map cK) es f p)) (j' σ) (jN i (ρ i) l a)/\erase ρ (jN i (ρ i) l a)=erase ρ a:=
  λa u S=>q8 (Φ:=qe Φ (ρ i) (.cells (l.flatten.map cK) es f p)) (f:=f) (p:=p) rfl (by rw[mD];exact X' rfl) (Or.inl rfl) d1 o a (u.mono g (aiy _)) S
 have e:F7 (qe Φ (ρ i) (.cells (l.flatten.map cK) es f p)) (j' (σ.set i .gone)) (qL i (ρ i) l j)/\fI ρ (qL i (ρ i) l j)=fI ρ j:=by
  rw[k];cases j with
  |ret a=>have⟨c,b⟩:=C a D r;exact⟨c,by simp only[qL,fI,b]⟩
  |fJ a=>have⟨c,b⟩:=C a D r;exact⟨c,by simp only[qL,fI,b]⟩
 have⟨P,dV,dM,x,B,w,E,H,M,t,T⟩:=(q (ρ i)).go _ ρ st z e.1;exact⟨P,dV,dM,x,g.trans B,w,E,H,M,by rw[t];exact e.2,T⟩
def cB(p:Nat->Bool){f:D'}(a:∀l,cU f l=u')(r:F9 C cU p f z B' .none σ λt _ d=>cV (j' σ) t d q):b7 C cU f z σ q:=by
 refine⟨λΦ ρ st w S=>?_⟩;have⟨u,t,j,dV,dM,d,b,M,h,P,T,_,n⟩:=wL r w S trivial;have⟨o,g,e,k,D,s,c,x,I,m,v⟩:=n.go dV dM b P T;refine⟨u+1,o,dN dM j,b,g,e,k,?_,⟨h.le.trans D,λi a=>(s i a).trans (h.xO i a),c⟩,x,I,v⟩;simp only[kY,a];rw[m];exact M
def Gi(k:Nat):n_ gR->Bool
 |[]=>A'
 |⟨.Ml d,a⟩::l=>aiS d k&&hP k a&&Gi k l
 |⟨.fn _ b,a⟩::l=>hP k b&&hP k a&&Gi k l
theorem Uk{k M:Nat}:∀{l:n_ gR},Gi k l=A'->(∀e∈l,OS Φ M e)->∀e∈l,OS Φ k e:=by
 intro l;induction l with
 |nil=>intro _ _ e g;simp at g
 |cons i l j=>
  intro a g e b;have⟨m,h⟩:=i;have d:=g _ (aiL ..);cases m with
  |Ml o=>
   simp only[Gi,ais]at a;rcases aiG.1 b with rfl|b
   ·exact⟨ie a.1.1,Sg d.2 a.1.2⟩
   grind [aiH]
  |fn f n=>
   simp only[Gi,ais]at a;rcases aiG.1 b with rfl|b
   ·exact⟨Sg (show fW Φ M n from d.1) a.1.1,Sg d.2 a.1.2⟩
   grind [aiH]
def Wc(k:Nat):o9->Bool
 |.hD a=>bd k a
 |_=>A'
def ck.drop(e:Nat){d:Tm}(x:np d y)(f:aiV e (j' σ)=A')(i:aiV A.fl e=A')(o:ml e σ e=A')(m:CZ e d=A')(h:Gi e t=A')(j:Wc e u=A') 
  (P:ck C cU A G d t u (σ.take e) c):ck C cU A G y t u σ c:=by
 refine⟨λΦ ρ st p v l g r s=>?_⟩;have f:=aiD f;have a:j' (σ.take e)=e:=by rw[aiO];omega
 refine P.go Φ ρ st p (v.take f o) (λD n k=>?_) ⟨g.1,?_⟩ ?_ ⟨s.1,by rw[a];exact aiD i⟩
 ·have⟨I,b⟩:=l D n (rz x D n k);rw[a];exact⟨I,Pb b (C0 m k)⟩
 ·rw[a];exact Uk h g.2
 rw[a];cases u with
 |hD n=>exact Pb (M:=j' σ) r j
 |none=>trivial
 |tC=>trivial
theorem C2:∀(g:n_ Tmp) (a:n_ V) (e:Nat) {f:Tm} {l:Tr Value} {k:Tm->Prop},uR g a e f k->iU Φ ρ m f l->fW Φ m a->∃d h,k d/\o6 g (cE ρ a) e l=q' h/\iU Φ ρ m d h:=by
 intro g;induction g with
 |nil=>
  intro a e f l k b i j;cases a with
  |nil=>exact⟨f,l,b,rfl,i⟩
  |cons _ _=>exact b.elim
 |cons D g o=>
  intro a e f l k b i j;cases a with
  |nil=>exact b.elim
  |cons r a=>
   unfold uR at b;split at b
   ·rename_i s;obtain⟨d,h,v,p,C⟩:=o a e b (i.set (j r sm)) (λx n=>j x (by simp[n]))
    grind [o6,cE]
   exact b.elim
def vu{l:Nat}{b:Bool}{s:LoopState}{hD:Option T'}(d:tR l b s hD t σ q)(k:Real Φ ρ σ st){g:n_ Deferred}(j:F0 Φ ρ (j' σ) t g):
  ∃e f,st.get (ρ l)=q' (.loop e)/\g=[]/\q (.ret (.d (.bool b))) f/\j' f=j' σ/\Real Φ ρ f (st.put (ρ l) (.loop {e with state:=s,pending:=hD})):=by
 unfold tR at d;split at d
 ·rename_i n h;rw[cx]at h;have⟨⟨e,i,a⟩,_⟩:=k.obj l _ h rfl;have⟨_,d⟩:=lU _ _ _ _ d;refine⟨e,_,i,j.1,d,kw _ _,k.put h Z Z Z (λ_ _ _ _ m=>by cases m) ⟨{e with state:=s,pending:=hD},by rw[dH,X' rfl],⟨Z,Z,a.fn,a.tm,a.nt,a.params,a.assign,a.body,a.defers,a.eK⟩⟩⟩
 exact d.elim
theorem jF.intro{l:Nat}{e:n_ V}{ak:dt->VS->Prop}(h:Zd C cU l e σ ak):jF C cU l e σ ak:=by
 refine⟨λΦ ρ st Y ag t=>?_⟩;unfold Zd Ui at h;split at h
 ·rename_i k H;rw[cx]at H;have⟨⟨d,aq,f⟩,_⟩:=Y.obj l _ H rfl;split at h
  ·exact h.elim
  rename_i aj U;have⟨av,ap,h,u,R⟩:=C2 k.params e k.nt h f.tm ag;have T:AX (j' σ) ⟨k.fn,k.nt,q' l,B',k.fz,j' σ⟩:=⟨λaw ai=>by cases ai;exact t,aiy _⟩;obtain⟨x,ar,ad,L,m,K,B,ah,N,z,ao,A,g,w,s,ay,rfl⟩:=tS k.assign h (fr:=⟨ap,[]⟩) ⟨Y,R,⟨rfl,λ_ Y=>by simp at Y⟩,tv⟩ T;cases ah with
  |norm=>
   simp only at g;split at g
   ·rename_i Q o;rw[cx]at o;have⟨⟨j,c,b⟩,_⟩:=s.real.obj l _ o rfl;split at g
    ·rename_i r;have⟨_,g⟩:=lU _ _ _ _ g;have S:m l=ρ l:=w.xO l t;have y:=s.real.put (o':=.loop {Q with state:=.busy}) (a:=.loop {j with state:=.busy}) o rfl rfl rfl (λ_ _ _ _ ai=>by cases ai)
      ⟨{j with state:=.busy},by rw[dH,X' rfl],⟨rfl,b.pending,b.fn,b.tm,b.nt,b.params,b.assign,b.body,b.defers,b.eK⟩⟩
     have F:SR L m (K.set l (.loop {Q with state:=.busy})) (B.put (m l) (.loop {j with state:=.busy})) N z .none A:=⟨y,by rw[kw];exact s.tm,by rw[kw];exact s.df,tv⟩;have p:=(w.Q6 T);obtain⟨v,au,J,Φ2,ρ2,D,P,O,am,G,an,M,q1,q2,q3,q4,rfl⟩:=tS k.body g F (by rw[kw];exact p.2);rw[p.1]at J;have af0:ρ2 l=ρ l:=(q2.xO l t).trans S;have Fj:jO Φ ρ (j' σ) Φ2 ρ2 (j' D):=w.then q2 (aiy _);have I:=iI (jc (C:=C) (cU:=cU) (aiE x v)) _ ad;have n:=iI (jc (C:=C) (cU:=cU) (aiC x v)) _ J;have q:fj ρ ⟨k.fn,k.nt,q' l,B',k.fz,j' σ⟩=⟨d.fn,d.nt,q' (ρ l),B'⟩:=by rw[f.fn,f.nt];rfl
     rw[q]at I n;rw[S]at n c;have af:k.assign=d.assign:=f.assign.symm;have ac:k.body=d.body:=f.body.symm;rw[af]at I;rw[ac]at n;have W:o6 d.params (cE ρ e) d.nt d.tm=q' ap:=by rw[f.params,f.nt];exact u
     have ab:C.ff.get d.fn=q' aj:=by rw[f.fn];exact U
     have ae:j.state=.ready:=by rw[b.state];exact r
     have red:∀X,(match(generalizing:=false) gb ρ2 O,M,P with
       |.norm,i,st=>match st.get (ρ l),i.df with
        |some (.loop d),[]=>q' (CR.ret (.bool A'),st.put (ρ l) (.loop {d with state:=.ready,pending:=u'}))
        |_,_=>u'
       |.ret,i,st=>match st.get (ρ l),i.df with
        |some (.loop d),[]=>q' (.ret (.bool B'),st.put (ρ l) (.loop {d with state:=.done,pending:=q' .ret}))
        |_,_=>u'
       |.exit id,i,st=>match st.get (ρ l),i.df with
        |some (.loop d),[]=>q' (.ret (.bool B'),st.put (ρ l) (.loop {d with state:=.done,pending:=q' (.exit id)}))
        |_,_=>u'
       |.panic aa,i,st=>match i.df with
        |[]=>q' (.fJ aa,st)
        |_=>u')=q' X->(kY C cU (max x v+1)).round (ρ l) (cE ρ e) st=q' X:=by
      intro X ax;show wg C (kY C cU (max x v)) (ρ l) (cE ρ e) st=q' X
      grind [wg,dN,gb]
     cases O with
     |norm=>
      have⟨al2,σ3,g1,g2,g3,g4,g5⟩:=vu q1 q3.real q3.df;rw[af0]at g1 g5;exact⟨_,.ret (.d (.bool A')),_,Φ2,ρ2,σ3,red _ (by simp only[gb,g1,g2];rfl),by rw[g4];exact Fj,g5,.d (.bool _),g3⟩
     |ret=>
      exact Ji
     |exit id=>
      exact Ji
     |panic aa=>
      simp only at q1;cases G with
      |nil=>
       have E:M.df=[]:=q3.df.1;exact⟨_,.fJ aa,P,Φ2,ρ2,D,red _ (by simp only[gb,E];rfl),Fj,q3.real,q4,q1⟩
      |cons _ _=>exact q1.elim
    exact g.elim
   exact g.elim
  |_=>exact g.elim
 exact h.elim
def b7.run{f:D'}{args:cP}(a:b7 C cU f (args.map V.d) [] q)(I:∀Φ,∀v∈args,zC Φ v):
  ∃x n g e dM h,(kY C cU x).call f (args.map cK) B' .none ⟨.nil,0,.nil⟩=q' (fI dM n,g,e)/\q n h:=by
 have d:∀k,(⟨.nil,0,.nil⟩:St).get k=u':=λk=>rl k;have j:∀k,(⟨.nil,0,.nil⟩:St).fm.get k=u':=λk=>rl k;have D:Real ⟨λ_=>u',λ_=>False,λ_=>False⟩ (λ_=>0) [] ⟨.nil,0,.nil⟩:=by
  refine⟨⟨λb s a=>?_,λb u w f p a=>?_,λf l a=>?_⟩,⟨λf l k a=>?_,λf l k s a=>?_⟩,λb s a=>(by cases a),λb a=>(by cases a),λf a=>a.elim,λk t _ _ _ _ _ _ _ a=>(by cases a),λi _ _ _ _ _ _ a=>(by simp at a),λi s a=>(by simp at a),λi c P S a=>(by simp at a),λi _ _ _ _ _ _ _ _ a=>(by simp at a)⟩
  ·rw[d]at a;cases a
  ·rw[d]at a;cases a
  ·rw[j]at a;cases a
  ·rw[j]at a;cases a
  rw[j]at a;cases a
 obtain⟨x,n,g,e,dV,dM,h,m,_,_,_,r⟩:=a.go _ _ _ D (λT M=>by obtain⟨v,o,rfl⟩:=ait.1 M;exact .d (I _ v o));rw[pS]at m;exact⟨x,n,g,e,dM,h,m,r⟩
end
def Sh:Nat->Bool:=λ_=>B'
def aZ{b:Bool}{p e:Prop}(a:b=A'->p)(d:b=B'->e):kE p e b:=by
 cases b
 ·exact d Z
 exact a Z
def b9{b:Bool}{p e:Prop}(d:b=A')(a:p):kE p e b:=by rw[d];exact a
def a7{b:Bool}{p d:Prop}(e:b=B')(a:d):kE p d b:=by rw[e];exact a
def a6{p k:Prop}(b:p)(a:k):l3 p k:=⟨b,a⟩
def bZ{b:Int}{m:Nat}{k:Nat->Prop}(d:b=aix m)(a:k m):OQ b k:=⟨m,d,a⟩
def Si{p k:Prop}(a:k)(b:p:=by repeat' (first|exact tv|exact rfl|refine bZ rfl ?_|refine And.intro ?_ ?_)):l3 p k:=⟨b,a⟩
def cp{a:Type}{p:a->Prop}{e:a->Prop}(b:a)(f:p b)(d:e b):∃b,p b/\e b:=⟨b,f,d⟩
def Ag(a:H:=by simp only[List.length_map,List.length_take,List.length_drop,List.length_append,List.length_cons,List.length_nil,tL];omega):H:=a
def hW(a:H:=by simp only[List.length_map,List.length_take,List.length_drop,List.length_append,List.length_cons,List.length_nil,kG,tL];omega):H:=a
def cO{p k:Prop}(a:k)(b:p:=by repeat' (first|exact tv|exact rfl|refine bZ rfl ?_|with_reducible assumption|exact Nat.zero_le _|exact Nat.le_refl _|exact Nat.le_of_ble_eq_true rfl|refine bZ (by with_reducible assumption) ?_|refine cp _ rfl ?_|refine cp _ (by with_reducible assumption) ?_|refine b9 (by with_reducible assumption) ?_|refine a7 (by with_reducible assumption) ?_|refine a6 ?_ ?_|refine And.intro ?_ ?_|refine af6 ?_ (Nat.le_of_ble_eq_true rfl)|refine af7 ?_|refine cp _ (by assumption) ?_|refine bZ (by assumption) ?_|assumption|exact Ag|omega)):l3 p k:=⟨b,a⟩
def Ae{b:Bool}{p e d:Prop}(a:d)(f:(b=A'/\d=p)∨(b=B'/\d=e):=by first|exact .inl ⟨by with_reducible assumption,rfl⟩|exact .inr ⟨by with_reducible assumption,rfl⟩):kE p e b:=by
 rcases f with⟨rfl,rfl⟩|⟨rfl,rfl⟩<;>exact a
def kf{b:Bool}{p e d:Prop}(a:d)(f:(b=A'/\d=p)∨(b=B'/\d=e):=by first|exact .inl ⟨rfl,rfl⟩|exact .inr ⟨rfl,rfl⟩|exact .inl ⟨n0 Ag,rfl⟩|exact .inr ⟨qM Ag,rfl⟩|exact .inr ⟨A6 Ag,rfl⟩):kE p e b:=Ae a f
structure Hid (p:Prop):Prop where
 out:p
def cN{b:Prop}(a:b)(d:Hid b->H:=by intro k;(repeat refine Ae ?_);exact k.out):H:=d ⟨a⟩
def cy{b:Prop}(a:b)(d:Hid b->H:=by intro k;(repeat refine Si ?_);exact k.out):H:=d ⟨a⟩
def db{b:Prop}(a:b)(d:Hid b->H:=by intro k;(repeat refine cO ?_);exact k.out):H:=d ⟨a⟩
def zI{b:Type}{p f g:b->Prop}(a:b)(h:p a)(e:f a)(d:g a):∃a,p a/\f a/\g a:=⟨a,h,e,d⟩
def k6{a b:V}{σ:VS}(e:a=b)(d:q (.ret b) σ):q (.ret a) σ:=e▸d
def fK{a:Bool}{σ:VS}(d:Y=a)(b:q (.ret (cj a)) σ):q (.ret (cj Y)) σ:=d▸b
def nO{k:IntKind}{a b:Int}{σ:VS}(e:a=b)(d:q (.ret (.d (.int k b))) σ):q (.ret (.d (.int k a))) σ:=e▸d
def cl(a:Nat):V:=.d (.int .i64 (aix a))
def cv(a:cC):V:=.d (.str a)
def int_eq{k:IntKind}{a b:Int}(d:a=b):q' (V.d (.int k a))=q' (V.d (.int k b)):=by rw[d]
theorem wrap64{n:Int}(b: -9223372036854775808<=n)(a:n<9223372036854775808):IntKind.i64.wrap n=n:=by
 exact Ci
theorem dk{a b:Nat}(d:a+b<9223372036854775808):IntKind.i64.wrap (aix a+aix b)=aix (a+b):=by
 grind [aiz,wrap64]
theorem cF{a:Nat}(d:a<9223372036854775807):IntKind.i64.wrap (aix a+1)=aix (a+1):=dk (b:=1) om
theorem ML{a b:Nat}(d:decide (aix a<=aix b)=A'):a<=b:=by
 grind [aiz]
theorem eK{a b:Nat}(d:decide (aix a<aix b)=A'):a<b:=by
 grind [aiz]
theorem Dw{a b:Nat}(d:decide (aix a=aix b)=A'):a=b:=by
 grind [aiz]
theorem Fs{a b:Nat}(d:decide (aix a<=aix b)=B'):b<a:=by
 grind [aiz]
theorem dK{a b:Nat}(d:decide (aix a<aix b)=B'):b<=a:=by
 grind [aiz]
theorem A7{a b:Nat}(d:decide (aix a=aix b)=B'):a≠b:=by
 grind [aiz]
section
variable{C:eN} {cU:r3}
def cA{f:D'}{σ:VS}(a:F9 C cU Sh f z B' .none σ λd _ σ=>q d σ)(b:∀l,cU f l=u':=by exact λ_=>rfl):b7 C cU f z σ q:=b7.body Sh b a
def cD{f:D'}{σ:VS}(b:F9 C cU Sh f z B' .none σ λe _ a=>cV (j' σ) e a q)(d:∀l,cU f l=u':=by exact λ_=>rfl):b7 C cU f z σ q:=cB Sh d b
def DQ:Nat->n_ Nat->Nat->Bool
 |0,_,_=>A'
 |_+1,[],_=>B'
 |p+1,i::a,b=>Nat.beq i b&&DQ p a (b+1)
theorem tW:∀{p:Nat} {a:n_ Nat} {d k:Nat},DQ p a d=A'->k<p->a[k]?=q' (d+k):=by
 intro p;induction p with
 |zero=>intro a d k _ b;omega
 |succ p f=>
  intro a d k b e;cases a with
  |nil=>cases b
  |cons i a=>
   simp only[DQ,ais]at b;cases k with
   |zero=>simp[aiI b.1]
   |succ k=>
    grind [ai2]
def wM(π:Nat->Nat)(k:Nat)(σ:VS):n_ Nat->VS->Prop
 |[],[]=>True
 |i::b,d::a=>nth σ i=q' (eb π d)/\gP k d=A'/\wM π k σ b a
 |_,_=>False
theorem Gj{π:Nat->Nat}{k:Nat}{σ:VS}:∀{b:n_ Nat} {a:VS},wM π k σ b a->j' b=j' a/\∀(g:Nat) (d:cX),a[g]?=q' d->∃i,b[g]?=q' i/\σ[i]?=q' (eb π d)/\gP k d=A':=by
 intro b;induction b with
 |nil=>
  intro a e;cases a with
  |nil=>exact⟨rfl,λg d f=>by simp at f⟩
  |cons _ _=>exact e.elim
 |cons i b h=>
  intro a e;cases a with
  |nil=>exact e.elim
  |cons d a=>
   have⟨l,j,m⟩:=e
   grind [cx]
theorem Real.pick{Φ:Fz}{ρ:Nat->Nat}{σ gA:VS}{st:St}(j:Real Φ ρ σ st)(u:K.Nodup)(S:wM (kU K (j' σ)) (j' gA) σ K gA):Real Φ (λg=>ρ (kU K (j' σ) g)) gA st:=by
 have⟨z,h⟩:=Gj S;have a:∀{g i:Nat},K[g]?=q' i->ρ (kU K (j' σ) g)=ρ i:=fun{g i} d=>by rw[me d]
 refine⟨j.wf,j.wm,j.fz,j.VV,j.uL,j.VW,λg T r t C f p d e=>?_,λg B d x=>?_,λg k A y d M v o C=>?_,λg T r t C f p D w d e c V l=>?_⟩
 ·have⟨i,m,b,_⟩:=h g _ d;rw[a m]at e;exact j.Q9 i _ _ _ _ _ _ b e
 ·have⟨i,m,b,t⟩:=h g _ d;obtain⟨n,s⟩:=j.obj i _ b (by rw[j1];exact x);rw[a m];exact⟨n.Ze t,s⟩
 ·have⟨i,m,b,_⟩:=h g _ d;have⟨q,P,I,_⟩:=h k _ M;rw[a m,a P]at C;have:=j.inj i q _ _ b I (by rw[j1];exact v) (by rw[j1];exact o) C;all_goals grind [ai0.1,Nat.lt_trichotomy]
 have⟨i,m,b,_⟩:=h g _ d;rw[a m]at e l;have⟨n,s⟩:=j.et i _ _ _ _ _ _ D w b e c V l
 grind [j1]
theorem ck.pick(p:Nat)(d:n_ Nat){h:x9}{ab:T'}{u fx:Tm}{σ gA:VS}{l:n_ gR}{g:o9}{W:Hy->Tm->n_ gR->o9->VS->Prop}(N:np (tT (kU d (j' σ)) fx) u)(x:CZ (j' gA) fx=A')(e:aiV h.fl p=A')(hid:DQ p d 0=A') 
  (v:Gi p l=A') (t:Wc p g=A') (T:d.Nodup) (D:wM (kU d (j' σ)) (j' gA) σ d gA) (af:ck C cU h ab fx l g gA W):ck C cU h ab u l g σ W:=by
 refine⟨λΦ ρ st J K A r B I=>?_⟩;have⟨ae,_⟩:=Gj D;have e:=aiD e;have o:∀j,j<p->kU d (j' σ) j=j:=λj R=>by
  have:=tW hid R;rw[me this];omega
 have k:p<=j' gA:=by
  rcases Nat.lt_or_ge (j' gA) p with h1|h1
  ·have:=tW hid h1
   grind
  exact h1
 have a:jO Φ ρ p Φ (λj=>ρ (kU d (j' σ) j)) (j' gA):=⟨Fz.le_refl _,λi O=>by show ρ (kU d (j' σ) i)=_;rw[o i O],k⟩;have n:=Uk v r.2;have f:El Φ p g:=by
  cases g with
  |hD Y=>exact Pb (M:=j' σ) B t
  |none=>trivial
  |tC=>trivial
 have V:fj (λj=>ρ (kU d (j' σ) j)) h=fj ρ h:=((a.weaken e).Q6 (m:=j' σ) I).1;obtain⟨ad,ac,c,s,y,S,P,dV,dM,q,w,H,Q,U,E,G,F,L⟩:=af.go Φ (λj=>ρ (kU d (j' σ) j)) st J (K.pick T D) (λaa Y z=>by
   obtain⟨X,b⟩:=A aa (iN (kU d (j' σ)) Y) (rz N aa _ (by rw[zH,z];rfl));rw[j0]at X;exact⟨X,nZ _ b (C0 x z)⟩) (a.df ⟨r.1,n⟩) (a.ps f).2 ⟨I.1,aiR e k⟩
 refine⟨ad,ac,c,s,y,S,P,dV,dM,q,?_,?_,Q,U,E,G,F,L⟩
 ·rw[V,(a.ps f).1]at w;exact w
 exact(a.weaken e).then H (aiy _)
inductive Hx (fl:Nat) (fx:Tm) (gA:VS) (df:List gR) (ps:o9) (tm:Tm) (σ:VS):Prop
 |same (hs:np fx tm) (h:σ=gA)
 |drop (n:Nat) (hs:np fx tm) (hn:aiV n (j' σ)=A') (hfl:aiV fl n=A') (hb:ml n σ n=A') (ht:CZ n fx=A') (hdf:Gi n df=A') (Ya:Wc n ps=A') (h:σ.take n=gA)
 |pick (p:Nat) (ix:List Nat) (hs:np (tT (kU ix (j' σ)) fx) tm) (hbt:CZ (j' gA) fx=A') (hfl:aiV fl p=A') (hid:DQ p ix 0=A') (hdf:Gi p df=A') (Ya:Wc p ps=A') (hnd:ix.Nodup) (hp:wM (kU ix (j' σ)) (j' gA) σ ix gA)
def ck.arr{h fx:Tm}{σ gA:VS}(o:Hx A.fl fx gA t u h σ)(n:ck C cU A G fx t u gA c):ck C cU A G h t u σ c:=by
 cases o with
 |same d r=>subst r;exact n.less d
 |drop s d m b j i a e r=>subst r;exact ck.drop s d m b j i a e n
 |pick p l d f b hid a e g k=>exact ck.pick p l d f b hid a e g k n
def Hx.eS{a:Tm}{σ:VS}(d:σ=X:=by exact rfl)(b:np y a:=by repeat' (first|exact tv|with_reducible exact rfl|exact int_eq (cF om)|exact rfl|refine And.intro ?_ ?_)):Hx B y X t u a σ:=.same b d
def Hx.eP{d:Tm}{σ:VS}(p:Nat)(a:n_ Nat)(j:np (tT (kU a (j' σ)) y) d:=by repeat' (first|exact tv|with_reducible exact rfl|exact int_eq (cF om)|exact rfl|refine And.intro ?_ ?_))(i:wM (kU a (j' σ)) (j' X) σ a X:=by repeat' (first|exact tv|exact rfl|refine And.intro ?_ ?_))(g:CZ (j' X) y=A':=by exact rfl)(f:Nat.ble B p=A':=by exact rfl)(hid:DQ p a 0=A':=by exact rfl)(b:Gi p t=A':=by exact rfl)(e:Wc p u=A':=by exact rfl)(h:a.Nodup:=by decide):Hx B y X t u d σ:=.pick p a j g f hid b e h i
def Hx.eD{e:Tm}{σ:VS}(a:Nat)(i:np y e:=by repeat' (first|exact tv|with_reducible exact rfl|exact int_eq (cF om)|exact rfl|refine And.intro ?_ ?_))(j:Nat.ble a (j' σ)=A':=by exact rfl)(f:Nat.ble B a=A':=by exact rfl)(h:ml a σ a=A':=by exact rfl)(g:CZ a y=A':=by exact rfl)(b:Gi a t=A':=by exact rfl)(d:Wc a u=A':=by exact rfl)(k:σ.take a=X:=by exact rfl):Hx B y X t u e σ:=.drop a i j f h g b d k
def iV{a fx:Tm}{σ:VS}(d:ck C cU A G fx t u σ c)(b:np fx a:=by repeat' (first|exact tv|with_reducible exact rfl|exact int_eq (cF om)|exact rfl|refine And.intro ?_ ?_)):ck C cU A G a t u σ c:=d.less b
def ik{a i:Nat}(b:i<a:=by first|assumption|omega):a-(i+1)<a-i:=om
def ck.iter{l:Type}(d:l->Tm)(e:l->VS)(n:l->Nat)(I:l->Prop){fc:x9}{b:T'}{σ:VS} 
  (B:∀f,I f->vc C cU fc b (d f) t u (e f) λx y HB ps' σ=>match x with
   |.norm=>∃g,I g/\n g<n f/\Hx fc.fl (d g) (e g) t u y σ/\HB=t/\ps'=u
   |x=>c x y HB ps' σ) (f:l) (p:I f) (o:Hx fc.fl (d f) (e f) t u y σ:=by exact .eS):ck C cU fc (.loop b) y t u σ c:=by
 have s:∀v f,n f=v->I f->ck C cU fc (.loop b) (d f) t u (e f) c:=by
  intro v;induction v using Nat.strongRecOn with
  |_ v w=>
   intro f V p;refine⟨λΦ ρ st r o P D S hf=>?_⟩;obtain⟨n1,E,h1,h,Yp,k,st1,x,m,j,ps1,p7,i,k2,a,z,rfl⟩:=tS b (B f p) (fr:=r) ⟨o,P,D,S⟩ hf;cases x with
   |norm=>
    obtain⟨g,q,M,T,rfl,rfl⟩:=i;have i:=ck.arr T (w (n g) (V▸M) g rfl q);have⟨n',x,fr',Yd,HB,ps',dy,dV,dM,pL,e1,e2,e3,e4,e5,e6,e7,e8⟩:=i.go h Yp st1 p7 a.real a.tm a.df a.ps (k2.Q6 hf).2;exact IU
   |exit id=>exact⟨n1,.exit id,p7,m,j,ps1,st1,h,Yp,k,by unfold code;rw[h1];rfl,k2,a.real,a.tm,a.df,a.ps,tv,i⟩
   |ret=>exact⟨n1,.ret,p7,m,j,ps1,st1,h,Yp,k,by unfold code;rw[h1];rfl,k2,a.real,a.tm,a.df,a.ps,tv,i⟩
   |panic A=>exact⟨n1,.panic A,p7,m,j,ps1,st1,h,Yp,k,by unfold code;rw[h1];rfl,k2,a.real,a.tm,a.df,a.ps,z,i⟩
 exact .arr o (s _ f Z p)
def yB{d:Type}(a:d->Tm)(h:d->Nat)(I:d->Prop){b:T'}{σ:VS} 
  (m:∀j,I j->vc C cU A b (a j) t u σ λx y e f g=>match x with
   |.norm=>∃i,I i/\h i<h j/\Hx A.fl (a i) σ t u y g/\e=t/\f=u
   |x=>c x y e f g) (j:d) (k:I j) (l:np (a j) y:=by repeat' (first|exact tv|with_reducible exact rfl|exact int_eq (cF om)|exact rfl|refine And.intro ?_ ?_)):ck C cU A (.loop b) y t u σ c:=.iter a (λ_=>σ) h I m j k (.same l rfl)
mutual
theorem lu(π:Nat->Nat):∀v:V,bd 0 v=A'->iN π v=v
 |.d _,_=>by simp only[iN]
 |.bp _ _,h=>by simp only[bd]at h;exact Y' (ie h) (aiJ _)
 |.ptr _ _ _ _,h=>by simp only[bd]at h;exact Y' (ie h) (aiJ _)
 |.fp _ _ _,_=>by simp only[iN]
 |.ms _ _ _ _ _,h=>by simp only[bd]at h;exact Y' (ie h) (aiJ _)
 |.map _,h=>by simp only[bd]at h;exact Y' (ie h) (aiJ _)
 |.fn _ a c,h=>by simp only[bd,ais]at h;simp only[iN,gu π a h.1,gu π c h.2]
 |.wA _,h=>by simp only[bd]at h;exact Y' (ie h) (aiJ _)
 |.iface _ v,h=>by simp only[bd]at h;simp only[iN,lu π v h]
 |.agg l,h=>by simp only[bd]at h;simp only[iN,gu π l h]
 |.dP l,h=>by simp only[bd]at h;simp only[iN,gu π l h]
theorem gu(π:Nat->Nat):∀l:n_ V,hP 0 l=A'->jh π l=l
 |[],_=>by simp only[jh]
 |v::l,h=>by simp only[hP,ais]at h;simp only[jh,lu π v h.1,gu π l h.2]
end
def da:dt->Bool
 |.ret a=>bd 0 a
 |.fJ a=>bd 0 a
def a8{m:Nat}{e:dt}{σ:VS}(a:Nat)(d:q e (σ.take a))(h:Nat.ble a (j' σ)=A':=by exact rfl)(g:ml a σ a=A':=by exact rfl)(f:Wb a e=A':=by exact rfl)(b:Nat.ble m (j' (σ.take a))=A':=by exact rfl):cV m e σ q:=
 cV.drop a h g f (cV.now b d)
def b7.closed{f:D'}{args:n_ V}{P:dt->Prop}(l:b7 C cU f args [] λb g=>g=[]/\da b=A'/\P b)(d:hP 0 args=A'){σ:VS}(h:∀b,P b->q b σ):b7 C cU f args σ q:=by
 refine l.frame [] Z List.nodup_nil (λo i k=>by simp at k) d (gu _ args d).symm (λa j k _=>?_);obtain⟨rfl,e,m⟩:=k;have:pT (kU [] (j' σ)) a=a:=by
  cases a with
  |ret n=>simp only[pT];rw[lu _ n e]
  |fJ n=>simp only[pT];rw[lu _ n e]
 rw[this];simp only[List.map_nil,merge,List.append_nil];exact h a m
def cI{f:D'}{v:V}(i:b7 C cU f z [] λb a=>a=[]/\b=.ret v)(h:hP 0 z=A')(g:bd 0 v=A'){σ:VS}(e:q (.ret v) σ):b7 C cU f z σ q:=
 b7.closed (P:=λb=>b=.ret v) (i.mono λb a d=>⟨d.1,by rw[d.2];exact g,d.2⟩) h λb d=>by rw[d];exact e
end
mutual
theorem yf(π:Nat->Nat)(k:Nat)(h:∀i,i<k->π i=i):∀v:V,bd k v=A'->iN π v=v
 |.d _,_=>by simp only[iN]
 |.bp _ _,hb=>by simp only[bd]at hb;simp only[iN,h _ (ie hb)]
 |.ptr _ _ _ _,hb=>by simp only[bd]at hb;simp only[iN,h _ (ie hb)]
 |.fp _ _ _,_=>by simp only[iN]
 |.ms _ _ _ _ _,hb=>by simp only[bd]at hb;simp only[iN,h _ (ie hb)]
 |.map _,hb=>by simp only[bd]at hb;simp only[iN,h _ (ie hb)]
 |.fn _ a c,hb=>by simp only[bd,ais]at hb;simp only[iN,pU π k h a hb.1,pU π k h c hb.2]
 |.wA _,hb=>by simp only[bd]at hb;simp only[iN,h _ (ie hb)]
 |.iface _ v,hb=>by simp only[bd]at hb;simp only[iN,yf π k h v hb]
 |.agg l,hb=>by simp only[bd]at hb;simp only[iN,pU π k h l hb]
 |.dP l,hb=>by simp only[bd]at hb;simp only[iN,pU π k h l hb]
theorem pU(π:Nat->Nat)(k:Nat)(h:∀i,i<k->π i=i):∀l:n_ V,hP k l=A'->jh π l=l
 |[],_=>by simp only[jh]
 |v::l,hb=>by simp only[hP,ais]at hb;simp only[jh,yf π k h v hb.1,pU π k h l hb.2]
end
theorem Wd(π:Nat->Nat)(k:Nat)(e:∀i,i<k->π i=i):∀l:Tm,CZ k l=A'->tT π l=l:=by
 intro l;induction l with
 |nil=>intro _;rfl
 |cons b l d=>
  have⟨f,g⟩:=b;intro a;simp only[CZ,ais]at a
  grind [tT,yf]
theorem Zf(π:Nat->Nat)(k:Nat)(g:∀i,i<k->π i=i)(f:cX)(a:gP k f=A'):eb π f=f:=by
 cases f with
 |box h=>simp only[eb];rw[pU π k g h a]
 |row e d=>
  simp only[eb];congr 1;simp only[gP,aiQ]at a;conv=>rhs;rw[<-aiW d]
  grind [aiv,pU]
 |map e p=>
  simp only[eb];congr 1;simp only[gP,aiQ,ais]at a;conv=>rhs;rw[<-aiW e]
  exact aiv λm j=>by
   have⟨n,r,b⟩:=m
   grind [Sf,yf]
 |loop l=>
  simp only[gP,ais]at a;simp only[eb,Wd π k g l.tm a.1,g _ (ie a.2)]
 |fP o=>rfl
 |gone=>rfl
theorem aca(a:VS)(e b:cX)(d:VS):(a++e::d).set (j' a) b=a++b::d:=by
 grind
theorem We:∀(l a d ext:VS),j' l=j' a->merge (d++(a++ext)) (aiM (j' d) (j' a)) l=d++(l++ext):=by
 intro l;induction l with
 |nil=>
  intro a d ext f
  grind [merge,List.eq_nil_of_length_eq_zero]
 |cons b l e=>
  intro a d ext f;cases a with
  |nil=>simp at f
  |cons g a=>
   simp only[aiP,List.range'_succ,merge];rw[List.cons_append,aca];have:=e a (d++[b]) ext (by simpa using f)
   grind
section
variable{C:eN} {cU:r3}
theorem b7.pre{f:D'}(r:b7 C cU f z X q)(ext:VS)(k:ml (j' X) X (j' X)=A')(o:hP (j' X) z=A') 
  (x:∀p d,q p d->j' d=j' X/\ml (j' X) d (j' d)=A'/\Wb (j' X) p=A'/\O p (d++ext)):b7 C cU f z (X++ext) O:=by
 have hid:∀S i,i<j' X->kU (aiM 0 (j' X)) S i=i:=λS i n=>by
  rw[me (i:=i) (by rw[List.getElem?_range' n];simp)]
 have h:∀j,gP (j' X) j=A'->eb (kU (aiM 0 (j' X)) (j' (X++ext))) j=j:=λj b=>Zf _ _ (hid _) j b;refine r.frame (aiM 0 (j' X)) sm (List.nodup_range') (λu i P=>?_) o (pU _ _ (hid _) _ o).symm (λg a P t=>?_)
 ·have⟨e,T⟩:=aiw.1 P;simp only[List.length_range']at e;simp only[List.getElem_range',Nat.one_mul,ai3]at T;subst T;have b:=aiF (l:=X) e;refine⟨_,b,?_,EY k e b⟩;rw[h _ (EY k e b),ai1 e,b]
 have⟨D,c,m,v⟩:=x g a P;have M:pT (kU (aiM 0 (j' X)) (j' (X++ext))) g=g:=by
  cases g with
  |ret s=>simp only[pT];rw[yf _ _ (hid _) s m]
  |fJ s=>simp only[pT];rw[yf _ _ (hid _) s m]
 have I:a.map (eb (kU (aiM 0 (j' X)) (j' (X++ext))))=a:=by
  conv=>rhs;rw[<-aiW a]
  refine aiv λj b=>?_;have⟨i,n⟩:=aiU b
  grind [EY]
 rw[M,I];have:=We a X [] ext D;simp only[List.nil_append,aiZ]at this;rw[this];exact v
end
section
variable{C:eN} {cU:r3} {Φ:Fz} {ρ:Nat->Nat} {σ:VS} {st:St}
theorem Real.gone(i:Real Φ ρ σ st):Real Φ ρ (σ++[.gone]) st:=by
 have I:jO Φ ρ (j' σ) Φ ρ (j' (σ++[cX.gone])):=⟨Fz.le_refl _,λ_ _=>rfl,by simp⟩;have e:∀(g:Nat) (d:cX),(σ++[cX.gone]:VS)[g]?=q' d->live d=A'->σ[g]?=q' d:=by
  intro g d a j;rw[lr]at a;by_cases n:g=j' σ
  ·rw[X' n]at a;cases a;cases j
  rw[W' n]at a;exact a
 refine⟨i.wf,i.wm,i.fz,i.VV,i.uL,i.VW,λg r h T n f p a o=>i.Q9 g r h T n f p (e g _ a Z) o,λg d a j=>?_,λg k d D a C m l n=>i.inj g k d D (e g _ a m) (e k _ C l) m l n,λg r h T n f p v V a o P M s=>?_⟩
 ·have⟨x,S⟩:=i.obj g d (e g d a j) j;exact⟨I.obj (st:=st) (dy:=st) Z (λ_ _ _ _ _ s=>s) x,S⟩
 have⟨c,b⟩:=i.et g r h T n f p v V (e g _ a rfl) o P M s
 grind
def ck.gone{g:x9}{u:T'}{m:Tm}{d:n_ gR}{f:o9}{c:Hy->Tm->n_ gR->o9->VS->Prop}(z:ck C cU g u m d f (σ++[.gone]) c):ck C cU g u m d f σ c:=by
 refine⟨λΦ ρ st I M a r p h=>?_⟩;have b:jO Φ ρ (j' σ) Φ ρ (j' (σ++[cX.gone])):=⟨Fz.le_refl _,λ_ _=>rfl,by simp⟩;have⟨y,w,k,e,n,j,i,dV,dM,l,S,D,T,V,s,x,v,P⟩:=z.go Φ ρ st I M.gone (λt q o=>⟨(a t q o).1,(a t q o).2.mono (Fz.le_refl _) Ag⟩) (b.df r) (b.ps p).2 ⟨h.1,aiR h.2 b.len⟩;exact⟨y,w,k,e,n,j,i,dV,dM,l,S,D,T,V,s,x,v,P⟩
def b7.gone{f:D'}{a:n_ V}{p:dt->VS->Prop}(D:b7 C cU f a (σ++[.gone]) p):b7 C cU f a σ p:=by
 refine⟨λΦ ρ st j m=>?_⟩;have⟨r,s,e,d,dV,dM,g,k,b,l,o,h⟩:=D.go Φ ρ st j.gone (λv n=>(m v n).mono (Fz.le_refl _) Ag);exact⟨r,s,e,d,dV,dM,g,k,⟨b.le,λi x=>b.xO i Ag,aiR Ag b.len⟩,l,o,h⟩
def cV.pick{m:Nat}(a:n_ Nat){I r0:dt}{gA:VS}{D:dt->VS->Prop}(s:I=pT (kU a (j' σ)) r0)(d:Wb (j' gA) r0=A')(hid:DQ m a 0=A')(e:a.Nodup)(r:wM (kU a (j' σ)) (j' gA) σ a gA)(n:cV m r0 gA D):cV m I σ D:=by
 subst s;refine⟨λΦ ρ st P h=>?_⟩;obtain⟨k,dV,dM,f,v,p,x,C,j,o,l⟩:=n.go Φ (λM=>ρ (kU a (j' σ) M)) st (P.pick e r) (by
  cases r0 with
  |ret b=>exact nZ b h d
  |fJ b=>exact nZ b h d)
 refine⟨k,dV,dM,f,v,λi g=>(p i g).trans ?_,x,C,j,o.trans ?_,l⟩
 ·have:=tW hid g;show ρ (kU a (j' σ) i)=ρ i;rw[me this,ai3]
 cases r0 with
 |ret b=>simp only[pT,fI,j0]
 |fJ b=>simp only[pT,fI,j0]
def Zg{a:D}(b:flat (cK a)=A'):zC Φ a:=by
 cases a<;>first|(cases b;done)|constructor
def C3{f:D'}{args xs:cP}(g:cU f (args.map cK)=q' (.tuple ⟨xs.map cK⟩))(h:∀d∈xs,flat (cK d)=A')(b:q (.ret (.dP (xs.map V.d))) σ):b7 C cU f (args.map V.d) σ q:=by
 refine⟨λΦ ρ st i j=>⟨1,.ret (.dP (xs.map V.d)),.none,st,Φ,ρ,σ,?_,.refl _ _ _,i,.dP ?_,b⟩⟩
 ·rw[pS];simp only[kY,g,fI,erase,pS];rfl
 intro k e;obtain⟨d,a,rfl⟩:=ait.1 e;exact .d (Zg (h d a))
end
section
variable{C:eN} {cU:r3} {σ:VS}
def Zh(i b:Nat)(l:n_ cP):Tm->Tm
 |[]=>[]
 |(a,d)::e=>(a,jN i b l d)::Zh i b l e
def MN(i a b:Nat):Tm->Prop
 |[]=>True
 |(_,d)::e=>r4 i a b d/\MN i a b e
theorem Ld{i b:Nat}{l:n_ cP}:∀{a:Tm} {e:Nat} {f:V},gE (Zh i b l a) e=q' f->∃d,gE a e=q' d/\f=jN i b l d:=by
 intro a;induction a with
 |nil=>intro e f g;cases g
 |cons j k h=>
  all_goals grind [Zh,gE]
def DR{i e j:Nat}:∀{a:Tm},MN i e j a->∀{h:Nat} {f:V},gE a h=q' f->r4 i e j f:=by
 intro a;induction a with
 |nil=>intro _ h f b;cases b
 |cons k m g=>
  intro d h f b;have⟨l,n⟩:=k;simp only[gE]at b;split at b
  ·cases b;exact d.1
  exact g d.2 b
def ck.freeze(i:Nat)(e:Tm){D:x9}{R:T'}{S:Tm}{m:n_ gR}{v:o9}{O:Hy->Tm->n_ gR->o9->VS->Prop}{es:Nat}{els:n_ (n_ V)}{l:n_ cP}(h:nth σ i=q' (.row es els))(M:sn els=q' l)(G:np e S)(E:MN i es (j' l) e) 
  (t:∀b,ck C cU D R (Zh i b l e) m v (σ.set i .gone) O):ck C cU D R S m v σ O:=by
 refine⟨λΦ ρ st y J c k A hf=>?_⟩;rw[cx]at h;have⟨d,f,p,o⟩:=uO J h;have H:=(J.obj i _ h rfl).2;have P:cE ρ els.flatten=l.flatten.map cK:=by rw[gS M,wH]
 rw[P]at o;have F:=J.freeze h o;have g:=yb (o:=gJ.cells (l.flatten.map cK) es f p) H;rw[gS M]at d;have⟨d1,d2⟩:=d.d;have r:∀N∈l,∀z∈N,zC (qe Φ (ρ i) (.cells (l.flatten.map cK) es f p)) z:=λN K z k=>(d2 N K z k).mono g;have a:j' (σ.set i .gone)=j' σ:=aiB;have L:∀j,gk Φ (j' σ) j->r4 i es (j' l) j->gk (qe Φ (ρ i) (.cells (l.flatten.map cK) es f p)) (j' σ) (jN i (ρ i) l j)/\erase ρ (jN i (ρ i) l j)=erase ρ j:=
  λj u q=>q8 (Φ:=qe Φ (ρ i) (.cells (l.flatten.map cK) es f p)) (f:=f) (p:=p) rfl (by rw[mD];exact X' rfl) (Or.inl rfl) d1 r j (u.mono g (aiy _)) q
 have Vi:jO Φ ρ (j' σ) (qe Φ (ρ i) (.cells (l.flatten.map cK) es f p)) ρ (j' (σ.set i .gone)):=⟨g,λ_ _=>rfl,by rw[a];exact aiy _⟩;obtain⟨n,x,fr',Yd,HB,ps',dy,dV,dM,pL,e1,e2,e3,e4,e5,e6,e7,e8⟩:=(t (ρ i)).go _ ρ st y F (λQ j s=>by
  obtain⟨T,I,rfl⟩:=Ld s;have⟨U,b⟩:=c Q T (rz G Q _ I);have⟨w,B⟩:=L T b (DR E I);rw[a];exact⟨by rw[B];exact U,w⟩) (Vi.df k) (Vi.ps A).2 ⟨hf.1,by rw[a];exact hf.2⟩
 exact J9
end
section
variable{C:eN} {cU:r3} {σ:VS}
theorem Zi(i b:Nat)(l:n_ cP)(d:V)(e:iy d=A'):iy (jN i b l d)=A':=by
 cases d with
 |ms j h k g f=>
  unfold jN;split<;>rfl
 |agg a=>cases e
 |dP a=>cases e
 |_=>rfl
def Sj{Φ:Fz}{ρ:Nat->Nat}{i b Hz r M:Nat}{l:n_ cP}(j:∀d,gk Φ M d->r4 i Hz r d->gk Φ M (jN i b l d)/\erase ρ (jN i b l d)=erase ρ d):
  ∀a:n_ V,fW Φ M a->sv i Hz r a->fW Φ M (A5 i b l a)/\cE ρ (A5 i b l a)=cE ρ a/\j' (A5 i b l a)=j' a:=by
 intro a;induction a with
 |nil=>intro _ _;exact⟨λd f=>(by simp[A5]at f),rfl,rfl⟩
 |cons d s k=>
  intro f e;have⟨o,m⟩:=j d (f d sm) e.1;obtain⟨g,p,n⟩:=k (λh hu=>f h (by simp[hu])) e.2;refine⟨λh hu=>?_,?_,?_⟩
  ·simp only[A5,aiG]at hu;rcases hu with rfl|hu
   ·exact o
   exact g h hu
  ·simp only[A5,cE,m,p]
  simp only[A5,aiP,n]
theorem Zj{i b:Nat}{l:n_ cP}:∀a:n_ V,(∀d∈a,iy d=A')->∀d∈A5 i b l a,iy d=A':=by
 intro a;induction a with
 |nil=>intro _ d f;simp[A5]at f
 |cons h e g=>
  all_goals grind [A5,Zi]
theorem Real.af8{Φ:Fz}{ρ:Nat->Nat}{st:St}(l:Real Φ ρ σ st){j:Nat}{cs cs':n_ V}(r:σ[j]?=q' (.box cs))(E:cE ρ cs'=cE ρ cs)(z:j' cs'=j' cs)(F:fW Φ (j' σ) cs')(K:∀N∈cs',iy N=A'):
  Real Φ ρ (σ.set j (.box cs')) st:=by
 have L:j<j' σ:=(aiw.1 r).1;have d:∀i g,(σ.set j (.box cs'))[i]?=q' g->(i=j/\g=.box cs')∨(i≠j/\σ[i]?=q' g):=λi g b=>by
  all_goals grind [Option.some.inj]
 have e:∀i g,(σ.set j (.box cs'))[i]?=q' g->live g=A'->∃D,σ[i]?=q' D/\live D=A':=λi g b m=>by
  rcases d i g b with⟨rfl,rfl⟩|⟨_,a⟩
  ·exact⟨_,r,Z⟩
  exact⟨_,a,m⟩
 refine⟨l.wf,l.wm,l.fz,l.VV,l.uL,l.VW,λi o h J M f p b n=>?_,λi g b m=>?_,λi k c y b S G H M=>?_,λi o h J M f p P O b n B A s=>?_⟩
 ·rcases d i _ b with⟨_,a⟩|⟨_,a⟩
  ·cases a
  exact l.Q9 i o h J M f p a n
 ·rw[aiB];rcases d i g b with⟨rfl,rfl⟩|⟨_,a⟩
  ·have⟨⟨⟨C,x⟩,T,Q⟩,w⟩:=l.obj i _ r rfl;exact⟨⟨⟨by rw[E,z];exact C,x⟩,F,K⟩,w⟩
  exact l.obj i g a m
 ·have⟨u,q,v⟩:=e i c b G;have⟨t,a,I⟩:=e k y S H;exact l.inj i k u t q a v I M
 rcases d i _ b with⟨_,a⟩|⟨_,a⟩
 ·cases a
 have⟨C,T⟩:=l.et i o h J M f p P O a n B A s
 grind
def kN(i j:Nat)(o:Tm){es:Nat}{l:n_ cP}{cs:n_ V}(r:nth σ i=q' (.row es R))(s:nth σ j=q' (.box cs))(B:sn R=q' l)(ae:np o y)(ab:MN i es (j' l) o)(N:sv i es (j' l) cs) 
  (Q:∀b,ck C cU A G (Zh i b l o) t u ((σ.set i .gone).set j (.box (A5 i b l cs))) c):ck C cU A G y t u σ c:=by
 refine⟨λΦ ρ st W K H D Y hf=>?_⟩;rw[cx]at r s;have w:i≠j:=λJ=>by subst J;rw[r]at s;cases s
 have⟨g,f,p,q⟩:=uO K r;have af:=(K.obj i _ r rfl).2;have E:cE ρ R.flatten=l.flatten.map cK:=by rw[gS B,wH]
 rw[E]at q;have ac:=K.freeze r q;have e:=yb (o:=gJ.cells (l.flatten.map cK) es f p) af;rw[gS B]at g;have⟨d1,d2⟩:=g.d;have v:∀J∈l,∀X∈J,zC (qe Φ (ρ i) (.cells (l.flatten.map cK) es f p)) X:=λJ ag X D=>(d2 J ag X D).mono e;have m:j' (σ.set i .gone)=j' σ:=aiB;have P:∀d,gk Φ (j' σ) d->r4 i es (j' l) d->gk (qe Φ (ρ i) (.cells (l.flatten.map cK) es f p)) (j' σ) (jN i (ρ i) l d)/\erase ρ (jN i (ρ i) l d)=erase ρ d:=
  λd M I=>q8 (Φ:=qe Φ (ρ i) (.cells (l.flatten.map cK) es f p)) (f:=f) (p:=p) rfl (by rw[mD];exact X' rfl) (Or.inl rfl) d1 v d (M.mono e (aiy _)) I
 have k:=(K.obj j _ s rfl).1;have T:fW (qe Φ (ρ i) (.cells (l.flatten.map cK) es f p)) (j' σ) cs:=λd P=>(k.2.1 d P).mono e (aiy _);have h:∀d,gk (qe Φ (ρ i) (.cells (l.flatten.map cK) es f p)) (j' σ) d->r4 i es (j' l) d->gk (qe Φ (ρ i) (.cells (l.flatten.map cK) es f p)) (j' σ) (jN i (ρ i) l d)/\erase ρ (jN i (ρ i) l d)=erase ρ d:=
  λd M I=>q8 (Φ:=qe Φ (ρ i) (.cells (l.flatten.map cK) es f p)) (f:=f) (p:=p) rfl (by rw[mD];exact X' rfl) (Or.inl rfl) d1 v d M I
 have⟨L,ad,O⟩:=Sj h cs T N;have S:=ac.af8 (j:=j) (cs:=cs) (cs':=A5 i (ρ i) l cs) (by rw[List.getElem?_set_ne w];exact s) ad O (by rw[m];exact L) (Zj cs k.2.2);have a:j' ((σ.set i .gone).set j (.box (A5 i (ρ i) l cs)))=j' σ:=by rw[aiB,m]
 have Vi:jO Φ ρ (j' σ) (qe Φ (ρ i) (.cells (l.flatten.map cK) es f p)) ρ (j' ((σ.set i .gone).set j (.box (A5 i (ρ i) l cs)))):=⟨e,λ_ _=>rfl,by rw[a];exact aiy _⟩;obtain⟨n,x,fr',Yd,HB,ps',dy,dV,dM,pL,e1,e2,e3,e4,e5,e6,e7,e8⟩:=(Q (ρ i)).go _ ρ st W S (λah d h=>by
  obtain⟨F,z,rfl⟩:=Ld h;have⟨ai,b⟩:=H ah F (rz ae ah _ z);have⟨U,aa⟩:=P F b (DR ab z);rw[a];exact⟨by rw[aa];exact ai,U⟩) (Vi.df D) (Vi.ps Y).2 ⟨hf.1,by rw[a];exact hf.2⟩
 exact J9
def Pc{o:Type}(a:o->Tm)(d:o->VS)(r:o->Nat)(I:o->Prop){fc:x9}{b:T'} 
  (G:∀e,I e->ck C cU fc b (a e) t u (d e) λx D HB ps' σ=>match x with
   |.norm=>∃f,I f/\r f<r e/\Hx fc.fl (a f) (d f) t u D σ/\HB=t/\ps'=u
   |x=>c x D HB ps' σ) (e:o) (s:I e):ck C cU fc (.loop b) (a e) t u (d e) c:=by
 have v:∀M e,r e=M->I e->ck C cU fc (.loop b) (a e) t u (d e) c:=by
  intro M;induction M using Nat.strongRecOn with
  |_ M B=>
   intro e z s;refine⟨λΦ ρ st V y T P q hf=>?_⟩;have⟨n1,x,p7,p,m,ps1,st1,i,Yp,n,h1,k2,j,g,h,k,E,l⟩:=(G e s).go Φ ρ st V y T P q hf;cases x with
   |norm=>
    obtain⟨f,A,S,w,rfl,rfl⟩:=l;have l:=ck.arr w (B (r f) (z▸S) f rfl A);have⟨n',x,fr',Yd,HB,ps',dy,dV,dM,pL,e1,e2,e3,e4,e5,e6,e7,e8⟩:=l.go i Yp st1 p7 j g h k (k2.Q6 hf).2;exact IU
   |exit id=>exact⟨n1,.exit id,p7,p,m,ps1,st1,i,Yp,n,by unfold code;rw[h1];rfl,k2,j,g,h,k,tv,l⟩
   |ret=>exact⟨n1,.ret,p7,p,m,ps1,st1,i,Yp,n,by unfold code;rw[h1];rfl,k2,j,g,h,k,tv,l⟩
   |panic F=>exact⟨n1,.panic F,p7,p,m,ps1,st1,i,Yp,n,by unfold code;rw[h1];rfl,k2,j,g,h,k,E,l⟩
 exact v _ e Z s
end
end Go.VM
