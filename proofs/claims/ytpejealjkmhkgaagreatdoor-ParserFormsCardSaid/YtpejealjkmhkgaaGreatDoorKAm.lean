/- Part of the proof. -/
import Derived.Test.YtpejealjkmhkgaaGreatDoorKAl
set_option linter.all false
set_option maxHeartbeats 16000000
set_option maxRecDepth 100000
open Nat renaming ne_of_lt->abK,lt_succ_of_lt->aeu,eq_of_beq_eq_true->aeS,ble_eq_true_of_le->aeT
open List renaming length_append->abL,getElem?_eq_some_iff->aet,mem_cons->aev,length_cons->aeM,mem_of_mem_take->aeN,flatten_cons->aeO,cons_append->aeP,map_take->aeQ,map_cons->aeR,getElem?_eq_none->aeU,mem_of_mem_drop->aeV,take_succ_cons->aeW,drop_succ_cons->aeX
namespace Go.VM
open Go.AM
theorem LZ(b lo hi:Nat):∀(d:List Nat) (a:Tr fX) (e:Nat),e ∉ d->(eh b lo hi d a).1.get e=a.get e:=by
 intro d;induction d with
 |nil=>intro a e _;rfl
 |cons m d f=>
  intro a e i;have h:e≠m:=fun j=>i (by simp[j]);have c:e ∉ d:=fun j=>i (by simp[j]);unfold eh;split
  ·exact f a e c
  ·split
   ·split
    ·rw[f _ e c,cB,if_neg h]
    ·exact f a e c
   ·exact f a e c
theorem L0(b lo hi:Nat):∀(a:List Nat) (c:Tr fX) (x:Nat),x∈(eh b lo hi a c).2->x∈a:=by
 intro a;induction a with
 |nil=>intro c x h;simp[eh]at h
 |cons m a ih=>
  intro c x hx;unfold eh at hx;split at hx
  ·exact XZ
  ·split at hx
   ·split at hx
    ·simp[ih _ x hx]
    ·exact XZ
   ·exact XZ
variable{u:Nat}
section
variable{st:St} {dP b lo hi:Nat}
theorem Ji(c:∀a,st.fm.get dP=some a->u ∉ a):(st.kill dP b lo hi).get u=st.get u:=by
 unfold St.kill;split
 ·rfl
 ·rename_i a d;exact LZ b lo hi a st.hp u (c a d)
theorem vG(f:Nat):(f≠dP->(st.kill dP b lo hi).fm.get f=st.fm.get f)/\(st.fm.get dP=none->(st.kill dP b lo hi).fm.get f=st.fm.get f)/\
  (∀a,st.fm.get dP=some a->∃c,(st.kill dP b lo hi).fm.get dP=some c/\∀i∈c,i∈a):=by
 cases d:st.fm.get dP with
 |none=>rw[gD d];exact⟨fun _=>rfl,fun _=>rfl,fun a e=>by cases e⟩
 |some a=>
  rw[ik d];refine⟨fun h=>(by show(st.fm.set dP _).get f=_;rw[cB,if_neg h]),fun e=>(by cases e),fun c e=>?_⟩;cases e;refine⟨_,by show(st.fm.set dP _).get dP=_;rw[cB,if_pos rfl],fun i j=>L0 b lo hi a st.hp i j⟩
end
theorem WM.BR{st:St}(i:WM st){b:Nat}{c j:List Value}{m f p:Nat}(k:st.get b=some (.cells c m f p)):WM (st.put b (.cells j m f p)):=by
 refine⟨i.lt,fun t d n o e h a=>?_⟩;rw[c8]at a;split at a
 ·rename_i l;cases a;have:=i.mem t d n c m f p e h (l▸k);subst this;exact .inr ⟨_,_,_,Z⟩
 ·exact i.row t d n o e h a
theorem WM.z1{st:St}(l:WM st){b:Nat}{y d:fX}(m:st.get b=some d)(k:d≠.dead)(h:∀c i x z,d≠.cells c i x z):WM (st.put b y):=by
 refine⟨l.lt,fun t e p o f j a=>?_⟩;rw[c8]at a;split at a
 ·rename_i n;rcases l.row t e p d f j (n▸m)with i|⟨_,_,_,i⟩
  ·exact absurd i k
  ·exact absurd i (h _ _ _ _)
 ·exact l.row t e p o f j a
theorem WM.new{st:St}(i:WM st){k:fX}:WM (st.new k):=by
 refine⟨fun j a e f c=>aeu (i.lt j a e f c),fun h a e o b c d=>?_⟩;have b:st.fm.get h=some a:=b;rw[dm,if_neg (abK (i.lt h a e b c))]at d;exact i.row h a e o b c d
theorem WM.kill{st:St}(y:WM st){dP b lo hi:Nat}:WM (st.kill dP b lo hi):=by
 have l:∀h d m,(st.kill dP b lo hi).fm.get h=some d->m∈d->∃a,st.fm.get h=some a/\m∈a:=by
  intro h d m c f;have t:=vG (st:=st) (dP:=dP) (b:=b) (lo:=lo) (hi:=hi) h;by_cases n:h=dP
  ·subst n;cases i:st.fm.get h with
   |none=>rw[t.2.1 i,i]at c;cases c
   |some a=>
    obtain⟨z,j,k⟩:=t.2.2 a i;rw[j]at c;cases c;exact⟨a,Z,k m f⟩
  ·rw[t.1 n]at c;exact⟨d,c,f⟩
 refine⟨fun h d m p f=>?_,fun h d m o p f x=>?_⟩
 ·obtain⟨a,j,k⟩:=l h d m p f;rw[gM];exact y.lt h a m j k
 ·obtain⟨a,j,k⟩:=l h d m p f;rcases kh x with e|e
  ·exact .inl e
  ·exact y.row h a m o j k e
def qD:cN->Bool
 |.box _=>true
 |.row _ _=>true
 |_=>false
variable{r:cN}
section
variable{Φ:Fz} {ρ:Nat->Nat} {σ:VS} {st:St}
theorem Real.lt(b:Real Φ ρ σ st){i:Nat}{o:cN}(hi:σ[i]?=some o)(c:live o=true):ρ i<st.n:=by
 have a:=(b.obj i o hi c).1;cases o with
 |box f=>obtain⟨⟨d,_⟩,_⟩:=a;exact b.wf.lt _ _ d
 |row es els=>obtain⟨⟨_,_,d⟩,_⟩:=a;exact b.wf.lt _ _ d
 |map es e=>exact b.wf.lt _ _ a.1
 |loop j=>obtain⟨_,d,_⟩:=a;exact b.wf.lt _ _ d
 |eI h=>exact b.wf.lt _ _ a
 |gone=>cases c
theorem Real.flt(c:Real Φ ρ σ st){b:Nat}{o:fX}(a:Φ b=some o):b<st.n:=c.wf.lt _ _ (c.fz _ _ a)
theorem Real.apart(k:Real Φ ρ σ st){i:Nat}(hi:σ[i]?=some r)(h:qD r=true){c:List Value}{n f p:Nat}(e:st.get (ρ i)=some (.cells c n f p)) 
  {ms:List Nat} (a:st.fm.get f=some ms) (j:u∈ms) (b:u≠ρ i):Φ u=none/\∀m o,σ[m]?=some o->live o=true->ρ m≠u:=by
 cases r with
 |box t=>
  obtain⟨⟨⟨l,d⟩,_⟩,_⟩:=k.obj i _ hi rfl;rw[e]at l;cases l;rw[a]at d;cases d
 |row es els=>exact k.dP i es els c n f p ms u hi e a j b
 |_=>cases h
theorem Real.ox(z:Real Φ ρ σ st){i:Nat}(hi:σ[i]?=some r)(C:qD r=true){c:List Value}{e f p:Nat}(n:st.get (ρ i)=some (.cells c e f p)){x:List Value}{B k A:Nat}(y:st.get u=some (.cells x B k A))(h:u≠ρ i)(Iy:Φ u≠none∨∃j o,σ[j]?=some o/\live o=true/\ρ j=u):k≠f:=by
 intro t;subst t;have l:=(z.wf.dP _ _ _ _ _ n).2;have d:=(z.wf.dP _ _ _ _ _ y).2;unfold uh at l d;cases m:st.fm.get k with
 |none=>
  rw[m]at l d;exact h (d.trans l.symm)
 |some D=>
  rw[m]at d;obtain⟨a,b⟩:=z.apart hi C n m d h;exact XO
theorem vH{σ:VS}{i:Nat}{o a:cN}(hi:σ[i]?=some o)(b:Nat):(σ.set i a)[b]?=if b=i then some a else σ[b]?:=by
 rw[List.getElem?_set];have:i<σ.length:=(aet.1 hi).1;by_cases c:i=b
 ·subst c;simp[this]
 ·rw[if_neg c,if_neg (fun d=>c d.symm)]
theorem Real.upd(H:Real Φ ρ σ st){i:Nat}{D:cN}(hi:σ[i]?=some r)(E:live r=true){dC:St}(T:WF dC)(S:WM dC) 
  (n:∀l,l≠ρ i->(Φ l≠none∨∃d o,σ[d]?=some o/\live o=true/\ρ d=l)->dC.get l=st.get l)
  (I:∀l c f m t,l≠ρ i->(Φ l≠none∨∃d o,σ[d]?=some o/\live o=true/\ρ d=l)->st.get l=some (.cells c f m t)->dC.fm.get m=st.fm.get m)
  (P:∀m,Φ.ss m->dC.fm.get m=none/\m<dC.n)
  (M:∀es els c f m t,D=.row es els->dC.get (ρ i)=some (.cells c f m t)->¬Φ.ss m)
  (Q:Ig Φ ρ σ.length dC D (ρ i))
  (N:∀es els c f m t B l,D=.row es els->dC.get (ρ i)=some (.cells c f m t)->dC.fm.get m=some B->l∈B->l≠ρ i->Φ l=none/\∀d o,σ[d]?=some o->live o=true->ρ d≠l):
  Real Φ ρ (σ.set i D) dC:=by
 have p:=(H.obj i r hi E).2;have k:∀d o,d≠i->σ[d]?=some o->live o=true->ρ d≠ρ i:=fun d o a Q A f=>a (H.inj d i o r Q hi A E f);refine⟨T,S,fun b o F=>?_,H.PJ,P,H.PK,fun d es els c f m t a y=>?_,fun d o a A=>?_,fun d O V G a h K x f=>?_,fun d es els c f m t B l a y R U j=>?_⟩
 ·have j:b≠ρ i:=fun f=>by rw[f,p]at F;cases F
  rw[n b j (.inl (by rw[F];simp))];exact H.fz b o F
 ·rw[vH hi]at a;by_cases e:d=i
  ·subst e;rw[if_pos rfl]at a;cases a;exact M es els c f m t Z y
  ·rw[if_neg e]at a;rw[n _ (k d _ e a rfl) (.inr ⟨d,_,a,rfl,rfl⟩)]at y;exact H.K2 d es els c f m t a y
 ·rw[vH hi]at a;by_cases f:d=i
  ·subst f;rw[if_pos rfl]at a;cases a;exact⟨by simpa using Q,p⟩
  ·rw[if_neg f]at a;have h:=H.obj d o a A;have j:=k d o f a A;refine⟨?_,h.2⟩;have:=(iJ.refl Φ ρ σ.length).obj (st:=st) (dC:=dC) (n _ j (.inr ⟨d,o,a,A,rfl⟩)) (fun c f m t X W=>by rw[I _ c f m t j (.inr ⟨d,o,a,A,rfl⟩) X];exact W) h.1;simpa using this
 ·rw[vH hi]at a h;by_cases e:d=i
  ·by_cases z:O=i
   ·rw[e,z]
   ·rw[if_neg z]at h;subst e;exact absurd f.symm (k O G z h x)
  ·by_cases z:O=i
   ·rw[if_neg e]at a;subst z;exact absurd f (k d V e a K)
   ·rw[if_neg e]at a;rw[if_neg z]at h;exact H.inj d O V G a h K x f
 ·have J:(Φ l=none/\∀d o,σ[d]?=some o->live o=true->ρ d≠l)->Φ l=none/\∀d o,(σ.set i D)[d]?=some o->live o=true->ρ d≠l:=by
   rintro⟨Y,b⟩;refine⟨Y,fun O G h x=>?_⟩;rw[vH hi]at h;by_cases e:O=i
   ·rw[e];exact b i r hi E
   ·rw[if_neg e]at h;exact b O G h x
  rw[vH hi]at a;by_cases e:d=i
  ·subst e;rw[if_pos rfl]at a;cases a;exact J (N es els c f m t B l Z y R U j)
  ·rw[if_neg e]at a;have L:=k d _ e a rfl;have C:=y;rw[n _ L (.inr ⟨d,_,a,rfl,rfl⟩)]at C;rw[I _ c f m t L (.inr ⟨d,_,a,rfl,rfl⟩) C]at R;exact J (H.dP d es els c f m t B l a C R U j)
theorem Real.write(J:Real Φ ρ σ st){i:Nat}{z o':cN}(hi:σ[i]?=some z)(R:qD z=true){c c':List Value}{e f p lo hi':Nat} 
  (y:st.get (ρ i)=some (.cells c e f p))
  (N:(∃G h,z=.box G/\o'=.box h/\h.length=G.length/\c'=cl ρ h/\eV Φ σ.length h/\∀g∈h,gE g=true)∨
   (∃els d,z=.row e els/\o'=.row e d/\c'=cl ρ d.flatten/\(∀m∈d,m.length=e)/\(∀m∈d,eV Φ σ.length m)/\∀m∈d,∀g∈m,gE g=true)):
  Real Φ ρ (σ.set i o') ((st.put (ρ i) (.cells c' e f p)).kill f (ρ i) lo hi'):=by
 have hl:live z=true:=by cases z<;>first|rfl|cases R
 have L:∀m,(st.put (ρ i) (.cells c' e f p)).get m=if m=ρ i then some (.cells c' e f p)else st.get m:=fun m=>c8 _ _ _ _
 have O:∀m,m≠ρ i->(Φ m≠none∨∃j o,σ[j]?=some o/\live o=true/\ρ j=m)->((st.put (ρ i) (.cells c' e f p)).kill f (ρ i) lo hi').get m=st.get m:=by
  intro m A Iy;rw[Ji,L,if_neg A];intro M B X;obtain⟨a,b⟩:=J.apart hi R y (ms:=M) B X A;exact XO
 have l:((st.put (ρ i) (.cells c' e f p)).kill f (ρ i) lo hi').get (ρ i)=some (.cells c' e f p):=by rw[Gn,L,if_pos rfl]
 have n:∀S,(st.put (ρ i) (.cells c' e f p)).fm.get S=st.fm.get S:=fun _=>rfl;have F:st.fm.get f=none->((st.put (ρ i) (.cells c' e f p)).kill f (ρ i) lo hi').fm.get f=none:=fun W=>by
  rw[(vG (st:=st.put (ρ i) (.cells c' e f p)) f).2.1 W,n,W]
 have P:WM ((st.put (ρ i) (.cells c' e f p)).kill f (ρ i) lo hi'):=(J.wm.BR y).kill;refine J.upd hi hl (WF.kill (J.wf.BR y)) P O (fun m U I f1 V A Iy Y=>?_) ?_ ?_ ?_ ?_
 ·have D:=J.ox hi R y Y A Iy;rw[(vG f1).1 D,n]
 ·intro S T;obtain⟨a,b⟩:=J.ss S T;refine⟨?_,by rw[gM];exact b⟩;by_cases I:S=f
  ·subst I;exact F a
  ·rw[(vG (st:=st.put (ρ i) (.cells c' e f p)) S).1 I,n];exact a
 ·intro es els U I f1 V Q t;rw[l]at t;cases t;rcases N with⟨G,h,_,rfl,_⟩|⟨x,d,rfl,rfl,_⟩
  ·cases Q
  ·exact J.K2 i _ x _ _ _ _ hi y
 ·rcases N with⟨G,h,rfl,rfl,hl,rfl,H,E⟩|⟨els,d,rfl,rfl,rfl,H,E,r⟩
  ·obtain⟨⟨⟨k,q⟩,_⟩,_⟩:=J.obj i _ hi rfl;rw[y]at k;cases k;exact⟨⟨by rw[l,hl],F q⟩,H,E⟩
  ·exact⟨⟨_,_,l⟩,H,E,r⟩
 ·intro es els U I f1 V M m Q t B A D;rw[l]at t;cases t;rcases N with⟨G,h,_,rfl,_,_⟩|⟨x,d,rfl,rfl,_⟩
  ·cases Q
  ·cases C:st.fm.get f with
   |none=>rw[F C]at B;cases B
   |some K=>
    obtain⟨s,H,E⟩:=(vG (st:=st.put (ρ i) (.cells c' e f p)) (dP:=f) (b:=ρ i) (lo:=lo) (hi:=hi') f).2.2 K C;rw[H]at B;cases B;exact J.dP i _ x c e f p K m hi y C (E m A) D
theorem Real.put(j:Real Φ ρ σ st){i:Nat}{f o':cN}(hi:σ[i]?=some f)(k:live f=true)(z:qD f=false)(l:qD o'=false){a:fX}(D:∀c e p x,a≠.cells c e p x) 
  (B:Ig Φ ρ σ.length (st.put (ρ i) a) o' (ρ i)):Real Φ ρ (σ.set i o') (st.put (ρ i) a):=by
 have h:∀t,(st.put (ρ i) a).get t=if t=ρ i then some a else st.get t:=fun t=>c8 _ _ _ _
 have y:WM (st.put (ρ i) a):=by
  have m:=(j.obj i f hi k).1;cases f with
  |box G=>cases z
  |row es els=>cases z
  |map es A=>exact j.wm.z1 m.1 (fun e=>by cases e) (fun _ _ _ _ e=>by cases e)
  |loop I=>obtain⟨H,F,_⟩:=m;exact j.wm.z1 F (fun e=>by cases e) (fun _ _ _ _ e=>by cases e)
  |eI J=>exact j.wm.z1 m (fun e=>by cases e) (fun _ _ _ _ e=>by cases e)
  |gone=>cases k
 refine j.upd hi k ⟨fun b o d=>?_,fun b c e p x d=>?_,j.wf.NN⟩ y (fun t C _=>by rw[h,if_neg C]) (fun _ _ _ _ _ _ _ _=>Z) j.ss (fun es els c e p x n=>by subst n;cases l) B ?_
 ·rw[h]at d;split at d
  ·rename_i e;rw[e];exact j.lt hi k
  ·exact j.wf.lt b o d
 ·rw[h]at d;split at d
  ·injection d with d;exact absurd d (D c e p x)
  ·exact j.wf.dP b c e p x d
 ·intro es els c e p x E t n;subst n;cases l
def jM(ρ:Nat->Nat)(i b:Nat):Nat->Nat:=fun a=>if a=i then b else ρ a
theorem la(Φ:Fz)(ρ:Nat->Nat)(m b:Nat):iJ Φ ρ m Φ (jM ρ m b) (m+1):=
 ⟨Fz.le_refl _,fun i hi=>if_neg om,om⟩
theorem kj(σ:VS)(o:cN)(a:Nat):(σ++[o])[a]?=if a=σ.length then some o else σ[a]?:=by
 rw[List.getElem?_append];by_cases b:a<σ.length
 ·rw[if_pos b,if_neg om]
 ·rw[if_neg b];by_cases c:a=σ.length
  ·subst c;simp
  ·rw[if_neg c,aeU (by simp;omega),aeU om]
theorem Real.new(h:Real Φ ρ σ st){o:cN}{p:fX}(x:ui st p)(H:Ig Φ (jM ρ σ.length st.n) (σ.length+1) (st.new p) o st.n):
  Real Φ (jM ρ σ.length st.n) (σ++[o]) (st.new p):=by
 have i:∀l,(st.new p).get l=if l=st.n then some p else st.get l:=fun l=>dm _ _ _
 have hs:=la Φ ρ σ.length st.n;have hold:∀j oj,σ[j]?=some oj->j<σ.length:=fun j oj hj=>(aet.1 hj).1;have a:jM ρ σ.length st.n σ.length=st.n:=if_pos rfl;have I:Φ st.n=none:=by
  exact R0
 have A:(st.new p).fm=st.fm:=rfl;refine⟨h.wf.new x,h.wm.new,fun b o hb=>?_,h.PJ,fun n D=>⟨(h.ss n D).1,aeu (h.ss n D).2⟩,h.PK,fun j es els c e n K hj f=>?_,fun j oj hj F=>?_,fun j k oj ok hj hk hlj Ld e=>?_,fun j es els c e n K z l hj f m G t=>?_⟩
 ·rw[i,if_neg (abK (h.flt hb))];exact h.fz b o hb
 ·rw[kj]at hj;by_cases d:j=σ.length
  ·subst d;rw[a,i,if_pos rfl]at f;cases f;have M:n=st.n:=by simpa [ui]using x
   intro y;have:=(h.ss n y).2;omega
  ·rw[if_neg d]at hj;rw[hs.vA j (hold j _ hj),i,if_neg (abK (h.lt hj rfl))]at f;exact h.K2 j es els c e n K hj f
 ·rw[kj]at hj;by_cases e:j=σ.length
  ·subst e;rw[if_pos rfl]at hj;cases hj;rw[a];exact⟨by simpa using H,I⟩
  ·rw[if_neg e]at hj;obtain⟨J,L⟩:=h.obj j oj hj F;rw[hs.vA j (hold j oj hj)];refine⟨?_,L⟩;have:=hs.obj (st:=st) (dC:=st.new p) (by rw[i,if_neg (abK (h.lt hj F))]) (fun _ _ _ _ _ y=>y) J;simpa using this
 ·rw[kj]at hj hk;by_cases d:j=σ.length
  ·by_cases e2:k=σ.length
   ·rw[d,e2]
   ·rw[if_neg e2]at hk;subst d;rw[a,hs.vA k (hold k ok hk)]at e;have:=h.lt hk Ld;omega
  ·rw[if_neg d]at hj;by_cases e2:k=σ.length
   ·subst e2;rw[a,hs.vA j (hold j oj hj)]at e;have:=h.lt hj hlj;omega
   ·exact ab5
 ·rw[A]at m;have C:(Φ l=none/\∀j o,σ[j]?=some o->live o=true->ρ j≠l)->l≠st.n->Φ l=none/\∀j oj,(σ++[o])[j]?=some oj->live oj=true->jM ρ σ.length st.n j≠l:=by
   rintro⟨p,b⟩ E;refine⟨p,fun k ok hk Ld=>?_⟩;rw[kj]at hk;by_cases d:k=σ.length
   ·subst d;rw[a];exact E.symm
   ·rw[if_neg d]at hk;rw[hs.vA k (hold k ok hk)];exact b k ok hk Ld
  rw[kj]at hj;by_cases d:j=σ.length
  ·
   subst d;rw[a,i,if_pos rfl]at f;cases f;have:n=st.n/\True:=⟨by simpa [ui]using x,tv⟩;rw[this.1]at m;exact absurd (h.wf.NN _ _ m) (Nat.lt_irrefl _)
  ·rw[if_neg d]at hj;rw[hs.vA j (hold j _ hj)]at f t;have B:=h.lt hj rfl;rw[i,if_neg (abK B)]at f;have k:=h.dP j es els c e n K z l hj f m G t;exact C k (abK (h.wm.lt n z l m G))
theorem Real.Sr(e:Real Φ ρ σ st){a:fX}(z:ui st a):Real Φ ρ σ (st.new a):=by
 have f:∀i,(st.new a).get i=if i=st.n then some a else st.get i:=fun i=>dm _ _ _
 refine⟨e.wf.new z,e.wm.new,fun b o l=>?_,e.PJ,fun j n=>⟨(e.ss j n).1,aeu (e.ss j n).2⟩,e.PK,fun m es els c E j y d h=>?_,fun m F d p=>?_,e.inj,fun m es els c E j y t i d h C A k=>?_⟩
 ·rw[f,if_neg (abK (e.flt l))];exact e.fz b o l
 ·rw[f,if_neg (abK (e.lt d rfl))]at h;exact e.K2 m es els c E j y d h
 ·obtain⟨x,D⟩:=e.obj m F d p;exact⟨(iJ.refl Φ ρ _).obj (st:=st) (dC:=st.new a) (by rw[f,if_neg (abK (e.lt d p))]) (fun _ _ _ _ _ B=>B) x,D⟩
 ·rw[f,if_neg (abK (e.lt d rfl))]at h;exact e.dP m es els c E j y t i d h C A k
def oz(Φ:Fz)(b:Nat)(o:fX):Fz:=⟨fun a=>if a=b then some o else Φ a,fun a=>a=b∨Φ.Eo a,Φ.ss⟩
theorem lf(Φ:Fz)(b:Nat)(o:fX)(a:Nat):(oz Φ b o) a=if a=b then some o else Φ a:=rfl
theorem vI{Φ:Fz}{b:Nat}{o:fX}(c:Φ b=none):Φ.le (oz Φ b o):=⟨fun h f a=>by
 rw[lf];split
 ·rename_i e;rw[e,c]at a;cases a
 ·exact a,fun h f a=>⟨fun d=>d.elim (fun e=>by rw[e,c]at a;cases a) id,.inr⟩,fun _ c=>c⟩
theorem Real.SX(f:Real Φ ρ σ st){b:Nat}{c:List Value}{es dP p:Nat}(B:st.get b=some (.cells c es dP p))(E:Φ b=none) 
  (y:∀e o,σ[e]?=some o->live o=true->ρ e≠b) (D:∀e es els c k t p,σ[e]?=some (.row es els)->st.get (ρ e)=some (.cells c k t p)->t≠dP)
  (l:∀L c k p,Φ L≠some (.cells c k dP p)):
  Real (oz Φ b (.cells c es dP p)) ρ σ st:=by
 have M:iJ Φ ρ σ.length (oz Φ b (.cells c es dP p)) ρ σ.length:=⟨vI E,fun _ _=>rfl,Nat.le_refl _⟩;refine⟨f.wf,f.wm,fun i o a=>?_,fun i a=>?_,f.ss,fun i L R H f1 T S Q P a d=>?_,f.K2,fun e J h F=>?_,f.inj,fun e j els A k t I x i h C G a z=>?_⟩
 ·rw[lf]at a;split at a
  ·rename_i k;cases a;rw[k];exact B
  ·exact f.fz i o a
 ·rw[lf]at a;split at a
  ·cases a
  ·exact f.PJ i a
 ·rw[lf]at a d;split at a
  ·rename_i K;cases a;split at d
   ·rename_i O;rw[K,O]
   ·exact absurd d (l _ _ _ _)
  ·split at d
   ·cases d;exact absurd a (l _ _ _ _)
   ·exact f.PK i L _ _ _ _ _ _ _ a d
 ·obtain⟨m,n⟩:=f.obj e J h F;refine⟨M.obj Z (fun _ _ _ _ _ N=>N) m,?_⟩;rw[lf,if_neg (y e J h F)];exact n
 ·obtain⟨m,n⟩:=f.dP e j els A k t I x i h C G a z;refine⟨?_,n⟩;rw[lf];split
  ·rename_i H;subst H;exact absurd (f.wm.mem t x i c es dP p G a B).symm (D e j els A k t I h C)
  ·exact m
theorem Real.SY(h:Real Φ ρ σ st){b:Nat}{es dP p:Nat}{els:List (List V)}(y:st.get b=some (.cells (cl ρ els.flatten) es dP p))(J:Φ b=none) 
  (A:∀j o,σ[j]?=some o->live o=true->ρ j≠b) (H:∀j es els c e C p,σ[j]?=some (.row es els)->st.get (ρ j)=some (.cells c e C p)->C≠dP)
  (O:∀t m,st.fm.get dP=some t->m∈t->m≠b->Φ m=none/\∀j o,σ[j]?=some o->live o=true->ρ j≠m) (G:¬Φ.ss dP)
  (L:∀e∈els,e.length=es) (F:∀e∈els,eV Φ σ.length e) (M:∀e∈els,∀S∈e,gE S=true):
  Real Φ (jM ρ σ.length b) (σ++[.row es els]) st:=by
 have hs:=la Φ ρ σ.length b;have hold:∀j oj,σ[j]?=some oj->j<σ.length:=fun j oj hj=>(aet.1 hj).1;have a:jM ρ σ.length b σ.length=b:=if_pos rfl;have B:∀m,(Φ m=none/\∀j o,σ[j]?=some o->live o=true->ρ j≠m)->m≠b->Φ m=none/\∀j oj,(σ++[.row es els])[j]?=some oj->live oj=true->jM ρ σ.length b j≠m:=by
  rintro m ⟨R,k⟩ I;refine⟨R,fun j oj hj D=>?_⟩;rw[kj]at hj;by_cases d:j=σ.length
  ·subst d;rw[a];exact I.symm
  ·rw[if_neg d]at hj;rw[hs.vA j (hold j oj hj)];exact k j oj hj D
 refine⟨h.wf,h.wm,h.fz,h.PJ,h.ss,h.PK,fun j n i c e C z hj f=>?_,fun j oj hj D=>?_,fun j k oj ok hj hk hlj Ld e=>?_,fun j n i c e C z t m hj f x E l=>?_⟩
 ·rw[kj]at hj;by_cases d:j=σ.length
  ·subst d;rw[a,y]at f;cases f;exact G
  ·rw[if_neg d]at hj;rw[hs.vA j (hold j _ hj)]at f;exact h.K2 j n i c e C z hj f
 ·rw[kj]at hj;by_cases e:j=σ.length
  ·subst e;rw[if_pos rfl]at hj;cases hj;rw[a];refine⟨⟨⟨dP,p,?_⟩,L,fun e Q=>?_,M⟩,J⟩
   ·rw[y,hs.cl (G3 F)]
   ·have:=hs.N1 (F e Q);simpa using this
  ·rw[if_neg e]at hj;obtain⟨K,P⟩:=h.obj j oj hj D;rw[hs.vA j (hold j oj hj)];refine⟨?_,P⟩;have:=hs.obj (st:=st) (dC:=st) rfl (fun _ _ _ _ _ N=>N) K;simpa using this
 ·rw[kj]at hj hk;by_cases d:j=σ.length
  ·by_cases e2:k=σ.length
   ·rw[d,e2]
   ·rw[if_neg e2]at hk;subst d;rw[a,hs.vA k (hold k ok hk)]at e;exact absurd e.symm (A k ok hk Ld)
  ·rw[if_neg d]at hj;by_cases e2:k=σ.length
   ·subst e2;rw[a,hs.vA j (hold j oj hj)]at e;exact absurd e (A j oj hj hlj)
   ·exact ab5
 ·rw[kj]at hj;by_cases d:j=σ.length
  ·subst d;rw[a]at f l;rw[y]at f;cases f;exact B m (O t m x E l) l
  ·rw[if_neg d]at hj;rw[hs.vA j (hold j _ hj)]at f l;have k:=h.dP j n i c e C z t m hj f x E l;refine B m k fun e2=>?_;subst e2;exact absurd (h.wm.mem C t m _ es dP p x E y).symm (H j n i c e C z hj f)
theorem Real.drop(b:Real Φ ρ σ st){i:Nat}(hi:σ[i]?=some r)(c:live r=true):Real Φ ρ (σ.set i .gone) st:=
 b.upd hi c b.wf b.wm (fun _ _ _=>rfl) (fun _ _ _ _ _ _ _ _=>rfl) b.ss (fun _ _ _ _ _ _ a=>by cases a) trivial (fun _ _ _ _ _ _ _ _ a=>by cases a)
theorem rC{i:Nat}(hi:σ[i]?=some r){o:cN}(a:(σ.set i .gone)[u]?=some o)(b:live o=true):u≠i/\σ[u]?=some o:=by
 rw[vH hi]at a;by_cases c:u=i
 ·rw[if_pos c]at a;cases a;cases b
 ·rw[if_neg c]at a;exact⟨c,a⟩
theorem Real.freeze(k:Real Φ ρ σ st){i es:Nat}{els:List (List V)}(hi:σ[i]?=some (.row es els)){c:List Value}{e f p:Nat}(h:st.get (ρ i)=some (.cells c e f p)):
  Real (oz Φ (ρ i) (.cells c e f p)) ρ (σ.set i .gone) st:=by
 have x:=(k.obj i _ hi rfl).2;refine(k.drop hi Z).SX h x (fun m o l t=>?_) (fun m C A y z E B l n=>?_) (fun D y z B d=>?_)
 ·obtain⟨j,b⟩:=rC hi l t;exact fun e=>j (k.inj m i o _ b hi t Z e)
 ·obtain⟨j,b⟩:=rC hi l rfl;have a:ρ m≠ρ i:=fun e=>j (k.inj m i _ _ b hi rfl rfl e);exact k.ox hi Z h n a (.inr ⟨m,_,b,Z,Z⟩)
 ·have a:D≠ρ i:=fun e=>by rw[e,x]at d;cases d
  exact k.ox hi Z h (k.fz _ _ d) a (.inl (by rw[d];simp)) Z
theorem Real.acz(h:Real Φ ρ σ st){c:List Value}{es:Nat}:Real (oz Φ st.n (.cells c es st.n 0)) ρ σ (st.new (.cells c es st.n 0)):=by
 have e:Φ st.n=none:=by
  exact R0
 have b:∀i,(st.new (.cells c es st.n 0)).get i=if i=st.n then some (.cells c es st.n 0)else st.get i:=fun i=>dm _ _ _
 refine(h.Sr (a:=.cells c es st.n 0) Z).SX (by rw[b,if_pos rfl]) e (fun y o d k=>abK (h.lt d k)) (fun y t j n p x m d f=>?_) (fun z n p m l=>?_)
 ·rw[b,if_neg (abK (h.lt d rfl))]at f;exact abK (h.wf.dP _ _ _ _ _ f).1
 ·exact Nat.lt_irrefl _ (h.wf.dP _ _ _ _ _ (h.fz _ _ l)).1
section
variable{es dP fo o len n i:Nat} {c old xs:List Value} {els:List (List V)} {e0:Nat}
theorem SZ(b:Nat)(f:Nat):(f≠dP->(grown st es dP fo b o len n c old xs).fm.get f=st.fm.get f)/\
  (∀i k,(grown st es dP fo b o len n c old xs).fm.get dP=some i->k∈i->k=st.n∨k=b∨∃a,st.fm.get dP=some a/\k∈a):=by
 have j:=vG (st:=st) (dP:=dP) (b:=st.n) (lo:=fo+o+len*es) (hi:=fo+o+(len+n)*es) f;unfold grown;dsimp only;refine⟨fun e=>?_,fun i k l hx=>?_⟩
 ·rw[cB,if_neg e];split
  ·exact j.1 e
  ·exact j.1 e
 ·rw[cB,if_pos rfl]at l;cases l;rcases aev.1 hx with y|hx
  ·exact .inl y
  ·right;split at hx
   ·rename_i x h;right;cases d:st.fm.get dP with
    |none=>rw[gD d,d]at h;cases h
    |some a=>
     obtain⟨t,m,p⟩:=j.2.2 a d;rw[m]at h;cases h;exact⟨a,Z,p k hx⟩
   ·split at hx
    ·left;simpa using hx
    ·simp at hx
theorem Real.grow(h:Real Φ ρ σ st)(hi:σ[i]?=some (.row e0 els))(A:st.get (ρ i)=some (.cells c es dP fo)):
  Real Φ ρ (σ.set i .gone) (grown st es dP fo (ρ i) o len n c old xs)/\
  (∀j H G N R K V,(σ.set i .gone)[j]?=some (.row H G)->(grown st es dP fo (ρ i) o len n c old xs).get (ρ j)=some (.cells N R K V)->K≠dP)/\
  (∀d f,(grown st es dP fo (ρ i) o len n c old xs).fm.get dP=some d->f∈d->f≠st.n->Φ f=none/\∀j o,(σ.set i .gone)[j]?=some o->live o=true->ρ j≠f):=by
 have Y:=h.lt hi rfl;have E:∀f,f≠ρ i->(Φ f≠none∨∃j o,σ[j]?=some o/\live o=true/\ρ j=f)->(grown st es dP fo (ρ i) o len n c old xs).get f=st.get f:=by
  intro f l Iy;have D:f≠st.n:=by
   rcases Iy with k|⟨j,o,hj,hl,e⟩
   ·cases O:Φ f with
    |none=>exact absurd O k
    |some o=>exact abK (h.flt O)
   ·rw[<-e];exact abK (h.lt hj hl)
  rw[kC,if_neg D];have Q:(st.kill dP st.n (fo+o+len*es) (fo+o+(len+n)*es)).get f=st.get f:=by
   refine Ji fun d p U=>?_;obtain⟨a,b⟩:=h.apart hi rfl A (ms:=d) p U l;exact XO
  unfold iU;dsimp only;split
  ·exact Q
  ·rw[c8,if_neg l,Q]
 have P:=ym (o:=o) (len:=len) (n:=n) (old:=old) (xs:=xs) h.wf A;have t:=fun b x=>SZ (st:=st) (es:=es) (dP:=dP) (fo:=fo) (o:=o) (len:=len) (n:=n) (c:=c) (old:=old) (xs:=xs) b x;have S:WM (grown st es dP fo (ρ i) o len n c old xs):=by
  have X:(grown st es dP fo (ρ i) o len n c old xs).n=st.n+1:=rfl;refine⟨fun x d f p l=>?_,fun x d f g p l m=>?_⟩
  ·rw[X];by_cases y:x=dP
   ·subst y;rcases(t (ρ i) x).2 d f p l with e|e|⟨z,C,F⟩
    ·omega
    ·omega
    ·have:=h.wm.lt x z f C F;omega
   ·rw[(t (ρ i) x).1 y]at p;have:=h.wm.lt x d f p l;omega
  ·by_cases y:x=dP
   ·subst y;rw[kC]at m;split at m
    ·cases m;exact .inr ⟨_,_,_,rfl⟩
    ·rename_i D;rcases lq m with e0|hold
     ·exact .inl e0
     ·rcases(t (ρ i) x).2 d f p l with e|e|⟨z,C,F⟩
      ·exact absurd e D
      ·rw[e,A]at hold;cases hold;exact .inr ⟨_,_,_,rfl⟩
      ·exact h.wm.row x z f _ C F hold
   ·rw[(t (ρ i) x).1 y]at p;have M:=h.wm.lt x d f p l;rw[kC,if_neg (abK M)]at m;rcases lq m with e0|hold
    ·exact .inl e0
    ·exact h.wm.row x d f _ p l hold
 have W:Real Φ ρ (σ.set i .gone) (grown st es dP fo (ρ i) o len n c old xs):=
  h.upd hi rfl P S E (fun f q s f1 r l Iy m=>(t (ρ i) f1).1 (h.ox hi rfl A m l Iy))
   (fun x y=>⟨by
    have T:x≠dP:=fun e=>h.K2 i _ _ _ _ _ _ hi A (e▸y);rw[(t (ρ i) x).1 T];exact(h.ss x y).1,aeu (h.ss x y).2⟩) (fun _ _ _ _ _ _ L=>by cases L) trivial (fun _ _ _ _ _ _ _ _ L=>by cases L)
 refine⟨W,fun j H G N R K V hj I=>?_,fun d f p l B=>?_⟩
 ·obtain⟨h1,h2⟩:=rC hi hj rfl;have B:ρ j≠ρ i:=fun e=>h1 (h.inj j i _ _ h2 hi rfl rfl e);rw[E _ B (.inr ⟨j,_,h2,rfl,rfl⟩)]at I;exact h.ox hi Z A I B (.inr ⟨j,_,h2,Z,Z⟩)
 ·rcases(t (ρ i) dP).2 d f p l with e|e|⟨z,C,F⟩
  ·exact absurd e B
  ·subst e;exact aas
  ·by_cases J:f=ρ i
   ·subst J;exact aas
   ·obtain⟨a,b⟩:=h.dP i _ _ _ _ _ _ z f hi A C F J;exact⟨a,fun j o hj hl=>b j o (rC hi hj hl).2 hl⟩
end
end
theorem CO:∀(n:Nat) (e:List V) (k:List V->Prop),SM n e k->n<=e.length/\k (e.take n):=by
 exact Sl
theorem z6:∀(f:List V) (b n:Nat) (d:List V->Prop),SN f b n d->b+n<=f.length/\d ((f.drop b).take n):=by
 intro f;induction f with
 |nil=>
  intro b n d e;cases b with
  |zero=>obtain⟨c,a⟩:=CO n [] d e;exact⟨by simpa using c,a⟩
  |succ b=>exact e.elim
 |cons i j h=>
  intro b n d e;cases b with
  |zero=>obtain⟨c,a⟩:=CO n (i::j) d e;exact⟨by simpa using c,a⟩
  |succ b=>
   obtain⟨c,a⟩:=h b n d e;exact⟨by simp only[aeM];omega,a⟩
theorem Jj:∀(n:Nat) (e:cH) (k:List V->Prop),LR n e k->n<=e.length/\k ((e.take n).map V.d):=by
 exact Sl
theorem Jk:∀(n:Nat) (e:cH) (k:cH->Prop),LS n e k->n<=e.length/\k (e.drop n):=by
 exact Sl
def lay{a:Type}(c:List a)(f:Nat)(b:List a):List a:=c.take f++b++c.drop (f+b.length)
theorem xy:∀(c:List V) (b:Nat) (a:List V) (i:List V->Prop),CG c b a i->b+a.length<=c.length/\i (lay c b a):=by
 intro c;induction c with
 |nil=>
  intro b a i d;cases b with
  |zero=>cases a with
   |nil=>exact⟨by simp,by simp[lay];exact d⟩
   |cons _ _=>exact d.elim
  |succ b=>cases a<;>exact d.elim
 |cons j c h=>
  intro b a i d;cases b with
  |zero=>cases a with
   |nil=>exact⟨by simp,by simp[lay];exact d⟩
   |cons m a=>
    obtain⟨f,e⟩:=h 0 a _ d;refine⟨by simp at f⊢;exact f,?_⟩;simpa [lay]using e
  |succ b=>
   have d:CG c b a fun k=>i (j::k):=by cases a<;>exact d
   obtain⟨f,e⟩:=h b a _ d;refine⟨by simp only[aeM];omega,?_⟩;have l:lay (j::c) (b+1) a=j::lay c b a:=by
    simp only[lay,aeW,show b+1+a.length=(b+a.length)+1 from om,aeX,aeP]
   rw[l];exact e
theorem qE:∀(c:List Value) (b:Nat) (a:List Value),b+a.length<=c.length->dw c b a=lay c b a:=by
 intro c;induction c with
 |nil=>
  intro b a d;cases a with
  |nil=>simp[dw,lay]
  |cons _ _=>simp at d
 |cons h c e=>
  intro b a d;cases a with
  |nil=>simp[dw,lay]
  |cons f a=>
   cases b with
   |zero=>
    rw[dw,e 0 a (by simp at d⊢;exact d)];simp[lay]
   |succ b=>
    rw[dw,e b (f::a) (by simp at d⊢;omega)];simp only[lay,aeW,show b+1+(f::a).length=(b+(f::a).length)+1 from om,aeX,aeP]
theorem CP{a:Type}{c:List a}{f:Nat}{b:List a}(d:f+b.length<=c.length):(lay c f b).length=c.length:=by
 simp only[lay,abL,List.length_take,List.length_drop];omega
theorem BV{a d:Type}(e:a->d)(c:List a)(f:Nat)(b:List a):(lay c f b).map e=lay (c.map e) f (b.map e):=by
 simp[lay,aeQ,List.map_drop]
theorem yz{a:Type}{c:List a}{f:Nat}{b:List a}{d:a}(h:d∈lay c f b):d∈c∨d∈b:=by
 simp only[lay,List.mem_append]at h;rcases h with(h|h)|h
 ·exact .inl (aeN h)
 ·exact .inr h
 ·exact .inl (aeV h)
theorem L1:∀(σ:VS) (o:cN) (i:Nat) (a:Nat->VS->Prop),SO σ o i a->a (i+σ.length) (σ++[o]):=by
 intro σ;induction σ with
 |nil=>intro o i a c;exact c
 |cons e d b=>
  intro o i a c;have:=b o (i+1) _ c;simp only[aeM,aeP];rw[show i+(d.length+1)=i+1+d.length from by omega];exact this
theorem vJ{a:Type}(n:Nat)(b:Nat->a):uf n b=b n:=by cases n<;>rfl
theorem jK{σ:VS}{o:cN}{a:Nat->VS->Prop}(b:CH σ o a):a σ.length (σ++[o]):=by
 have:=L1 _ _ _ _ b;rw[vJ]at this;simpa using this
theorem kD:∀(σ:VS) (i:Nat) (o:cN) (b:VS->Prop),Bv σ i o b->i<σ.length/\b (σ.set i o):=by
 intro σ;induction σ with
 |nil=>intro i o b a;cases i<;>exact a.elim
 |cons f h c=>
  intro i o b a;cases i with
  |zero=>exact⟨by simp,a⟩
  |succ i=>
   obtain⟨e,d⟩:=c i o _ a;exact⟨by simpa using e,d⟩
theorem cA{a:Type}{o:Option a}{d:a->Prop}(c:dn o d):∃b,o=some b/\d b:=by
 cases o with
 |none=>exact c.elim
 |some b=>exact⟨b,rfl,c⟩
theorem mh(ρ:Nat->Nat)(a:V):cellsOf (erase ρ a)=cl ρ (dG a):=by
 cases a with
 |d b=>cases b<;>simp[erase,cz,cellsOf,dG,cl]
 |agg c=>simp[erase,cellsOf,dG]
 |_=>simp[erase,cellsOf,dG,cl]
variable{s:V}
theorem vK{Φ:Fz}{m:Nat}(b:e9 Φ m s):eV Φ m (dG s):=by
 cases b with
 |agg b=>exact b
 |d b=>intro c a;simp[dG]at a;subst a;exact .d b
 |bp b=>intro c a;simp[dG]at a;subst a;exact .bp b
 |ptr b=>intro c a;simp[dG]at a;subst a;exact .ptr b
 |fp f e j h i=>intro c a;simp[dG]at a;subst a;exact .fp f e j h i
 |ms b=>intro c a;simp[dG]at a;subst a;exact .ms b
 |map b=>intro c a;simp[dG]at a;subst a;exact .map b
 |fn f e=>intro c a;simp[dG]at a;subst a;exact .fn f e
 |tR b=>intro c a;simp[dG]at a;subst a;exact .tR b
 |iface b=>intro c a;simp[dG]at a;subst a;exact .iface b
 |dS b=>intro c a;simp[dG]at a;subst a;exact .dS b
theorem nY(ρ:Nat->Nat)(l:cH):cl ρ (l.map V.d)=l.map cz:=by
 induction l with
 |nil=>rfl
 |cons b l a=>simp only[aeR,cl,erase,a]
variable{w:D} {q:Value}
theorem Ft(a:ZD q=some w):cz w=q:=by
 unfold ZD at a;split at a<;>first|(cases a;rfl)|cases a
theorem S0(a:ZD q=some w)(Φ:Fz):xw Φ w:=by
 unfold ZD at a;split at a<;>first|(cases a;constructor)|cases a
theorem jk(ρ:Nat->Nat):∀{b:List Value} {c:List V},ux b=some c->cl ρ c=b:=by
 intro b;induction b with
 |nil=>intro c a;cases a;rfl
 |cons j b d=>
  intro c a;unfold ux at a;split at a
  ·rename_i h i f e;cases a;simp only[cl,erase];rw[Ft f,d e]
  ·cases a
theorem qo(Φ:Fz)(m:Nat):∀{c:List Value} {b:List V},ux c=some b->eV Φ m b/\∀k∈b,gE k=true:=by
 intro c;induction c with
 |nil=>intro b a;cases a;exact⟨fun _ a=>by simp at a,fun _ a=>by simp at a⟩
 |cons k c f=>
  intro b a;unfold ux at a;split at a
  ·rename_i l n i h;cases a;obtain⟨d,j⟩:=f h;refine⟨fun e hx=>?_,fun e hx=>?_⟩
   ·rcases aev.1 hx with rfl|hx
    ·exact .d (S0 i Φ)
    ·exact d e hx
   ·rcases aev.1 hx with rfl|hx
    ·rfl
    ·exact j e hx
  ·cases a
theorem PL{ρ:Nat->Nat}(a:ZE q=some s):erase ρ s=q:=by
 unfold ZE at a;split at a
 ·split at a
  ·rename_i d b;cases a;simp only[erase];rw[jk ρ b]
  ·cases a
 ·split at a
  ·rename_i c b;cases a;simp only[erase];exact Ft b
  ·cases a
theorem aaI(a:ZE q=some s)(Φ:Fz)(m:Nat):e9 Φ m s:=by
 unfold ZE at a;split at a
 ·split at a
  ·rename_i d b;cases a;exact .agg (qo Φ m b).1
  ·cases a
 ·split at a
  ·rename_i c b;cases a;exact .d (S0 b Φ)
  ·cases a
theorem Jl(a:ZD q=some w):flat q=true:=by
 unfold ZD at a;split at a<;>first|rfl|cases a
theorem PM:∀{a:List Value} {c:List V},ux a=some c->a.all flat=true:=by
 intro a;induction a with
 |nil=>intro c b;rfl
 |cons j a d=>
  intro c b;unfold ux at b;split at b
  ·rename_i h i f e;simp only[List.all_cons,Jl f,d e,Bool.and_self]
  ·cases b
theorem PN(b:ZE q=some s):rG q=true:=by
 unfold ZE at b;split at b
 ·split at b
  ·rename_i f a;exact PM a
  ·cases b
 ·rename_i q c;split at b
  ·rename_i e a;have:=Jl a;unfold rG;split
   ·rename_i d;exact absurd rfl (c d)
   ·exact this
  ·cases b
def oL(Φ:Fz)(ρ:Nat->Nat)(m:Nat)(ev:Operand->Option V)(mK:Operand->Option Value):Prop:=
 ∀b a,ev b=some a->mK b=some (erase ρ a)/\e9 Φ m a
theorem gF{Φ:Fz}{ρ:Nat->Nat}{m:Nat}{l:List (Nat×V)}{d:Fr}(b:gK Φ ρ m l d.tm):oL Φ ρ m (Fq l) (jy d):=by
 intro f e a;cases f with
 |tmp h=>exact b h e a
 |const c=>
  have a:ZE c=some e:=a;refine⟨?_,aaI a Φ m⟩;simp only[jy,PN a];rw[PL a]
 |global j=>cases a
 |func i=>
  cases a;exact⟨by simp[jy,erase,cl],.fn (fun _ b=>by simp at b) (fun _ b=>by simp at b)⟩
variable{g:V->Prop} {v:Bool}
section
variable{C:dR} {Φ:Fz} {ρ:Nat->Nat} {σ:VS} {st:St} {m:Nat} {ev:Operand->Option V} {mK:Operand->Option Value}
theorem nl(h:oL Φ ρ m ev mK):∀{f:List Operand} {e:List V},wL ev f=some e->nf mK f=some (cl ρ e)/\eV Φ m e:=by
 intro f;induction f with
 |nil=>intro e a;cases a;exact⟨rfl,fun _ a=>by simp at a⟩
 |cons p f i=>
  intro e a;unfold wL at a;split at a
  ·rename_i x t k j;cases a;obtain⟨o,b⟩:=h _ _ k;obtain⟨c,l⟩:=i j;refine⟨by simp only[nf,o,c,cl],fun n d=>?_⟩;rcases aev.1 d with rfl|d
   ·exact b
   ·exact l n d
  ·cases a
theorem CQ(j:oL Φ ρ m ev mK):∀{h:List (Nat×Operand)} {f:List (Nat×V)},CI ev h=some f->l9 mK h=some (f.map fun d=>(d.1,erase ρ d.2))/\∀d∈f,e9 Φ m d.2:=by
 intro h;induction h with
 |nil=>intro f a;cases a;exact⟨rfl,fun _ a=>by simp at a⟩
 |cons d h k=>
  intro f a;obtain⟨i,d⟩:=d;unfold CI at a;split at a
  ·rename_i y x n l;cases a;obtain⟨t,b⟩:=j _ _ n;obtain⟨c,o⟩:=k l;refine⟨by simp only[l9,t,c,aeR],fun p e=>?_⟩;rcases aev.1 e with rfl|e
   ·exact b
   ·exact o p e
  ·cases a
theorem N2{c:Type}:∀{els:List (List c)} {es kk f n:Nat} {e:List c},(∀d∈els,d.length=es)->els[kk]?=some e->f+n<=es->
  (els.flatten.drop (kk*es+f)).take n=(e.drop f).take n/\kk*es+f+n<=els.flatten.length:=by
 intro els;induction els with
 |nil=>intro es kk f n e _ a;simp at a
 |cons d els h=>
  intro es kk f n e b a j;have l:=b d sm;cases kk with
  |zero=>
   simp at a;subst a;simp only[Nat.zero_mul,Nat.zero_add,aeO,abL];refine⟨?_,om⟩;rw[List.drop_append_of_le_length om,List.take_append_of_le_length (by rw[List.length_drop];omega)]
  |succ kk=>
   have:=h (fun k i=>b k (by simp[i])) (kk:=kk) (f:=f) (n:=n) (e:=e) (by simpa using a) j;simp only[aeO,abL];rw[Nat.succ_mul];refine⟨?_,om⟩;rw[<-this.1,show kk*es+es+f=d.length+(kk*es+f)from om,List.drop_length_add_append]
theorem rM{d:Type}{els:List (List d)}{es:Nat}(e:∀a∈els,a.length=es):els.flatten.length=els.length*es:=by
 induction els with
 |nil=>simp
 |cons a els b=>
  rw[aeO,abL,e a sm,b fun f c=>e f (by simp[c]),aeM,Nat.succ_mul];omega
theorem yA{c:List V}(a:V1 v c g)(ρ:Nat->Nat)(d:eV Φ m c):∃b,g b/\e9 Φ m b/\Iz v (cl ρ c)=some (erase ρ b):=by
 cases v with
 |true=>exact⟨_,a,.agg d,by simp[Iz,erase,List.toArray]⟩
 |false=>
  unfold V1 at a;dsimp only at a;split at a
  ·rename_i b;exact⟨b,a,d b sm,by simp[Iz,cl]⟩
  ·exact a.elim
theorem L2{b:List V}(c:eV Φ m b)(f n:Nat):eV Φ m ((b.drop f).take n):=fun d a=>c d (aeV (aeN a))
theorem pM(ρ:Nat->Nat)(a:List V)(f n:Nat):cl ρ ((a.drop f).take n)=((cl ρ a).drop f).take n:=by
 simp[dL,aeQ,List.map_drop]
theorem jr{b o n:Nat}{c:List Value}{es f p:Nat}(a:st.get b=some (.cells c es f p))(d:o+n<=c.length):gq st b o n=some ((c.drop o).take n):=by
 unfold gq;rw[a];simp only[aeT d]
theorem Jm(I:Real Φ ρ σ st)(J:e9 Φ σ.length s){n:Nat}(a:SP n v s σ g):
  ∃t b o c,g t/\e9 Φ σ.length t/\erase ρ s=.pointer (some ⟨b,o,none⟩)/\gq st b o n=some c/\Iz v c=some (erase ρ t):=by
 unfold SP at a;split at a
 ·rename_i i A;split at a
  ·rename_i C d;rw[ck]at d;obtain⟨⟨⟨h,_⟩,f,_⟩,_⟩:=I.obj i _ d rfl;obtain⟨l,e⟩:=z6 _ _ _ _ a;obtain⟨t,k,p,j⟩:=yA e ρ (L2 f A n);exact⟨t,_,_,_,k,p,Z,jr h (by rw[cW];exact l),by rw[<-pM];exact j⟩
  ·exact a.elim
 ·rename_i i es N A;split at a
  ·rename_i L els d;rw[ck]at d;split at a
   ·rename_i F;have:=aeS F;subst this;obtain⟨⟨⟨Q,O,h⟩,f,l,_⟩,_⟩:=I.obj i _ d rfl;obtain⟨G,e,k⟩:=a;rw[ck]at e;obtain⟨p,j⟩:=z6 _ _ _ _ k;have E:G∈els:=List.mem_of_getElem? e;obtain⟨t,y,z,B⟩:=yA j ρ (L2 (l G E) A n);have D:=N2 f e (f:=A) (n:=n) (by rw[<-f G E];exact p);refine⟨t,_,_,_,y,z,Z,jr h (by rw[cW];exact D.2),?_⟩;rw[<-pM,D.1];exact B
   ·exact a.elim
  ·exact a.elim
 ·rename_i b x C;cases J with
  |fp h f l e M=>
   rename_i c G A O;obtain⟨k,p⟩:=Jj _ _ _ a;obtain⟨t,j,y,z⟩:=yA (Φ:=Φ) (m:=σ.length) p ρ (fun t K=>by
    obtain⟨P,H,rfl⟩:=List.mem_map.1 K;exact .d (e P (aeN H)))
   refine⟨t,_,_,_,j,y,Z,jr (I.fz _ _ h) om,?_⟩;rw[<-z];have:(c.drop x).take n=((c.drop x).take C.length).take n:=by rw[List.take_take,Nat.min_eq_left k]
   rw[this,l,nY,aeQ]
 ·exact a.elim
theorem AV(p:Real Φ ρ σ st){t:TypeId}(f:e9 Φ σ.length s)(a:NX C t s σ g):
  ∃e,g e/\e9 Φ σ.length e/\ye C t (erase ρ s) st=some (.val (erase ρ e) st):=by
 unfold NX at a;split at a
 ·rename_i n d;split at a
  ·rename_i l;obtain⟨e,b,o,c,j,h,m,i,k⟩:=Jm p f a;refine⟨e,j,h,?_⟩;unfold ye;rw[d,m];simp only[l,i,k];rfl
  ·exact a.elim
 ·exact a.elim
theorem Lb(ρ:Nat->Nat)(b:Nat->Option (Nat×Nat)):∀(d:List (Nat×V)) (a:List V) (x:List V->Prop),eV Φ m a->(∀k∈d,e9 Φ m k.2)->Jf b a d x->
  ∃c,x c/\eV Φ m c/\qq b (cl ρ a) (d.map fun k=>(k.1,erase ρ k.2))=some (cl ρ c):=by
 intro d;induction d with
 |nil=>intro a x j _ f;exact⟨a,f,j,rfl⟩
 |cons k d F=>
  intro a x j p f;obtain⟨i,H⟩:=k;unfold Jf at f;split at f
  ·exact f.elim
  ·rename_i t A l;split at f
   ·rename_i E;obtain⟨o,z⟩:=xy _ _ _ _ f;have G:=vK (p _ (List.mem_cons_self ..));have n:eV Φ m (lay a t (dG H)):=fun y h=>(yz h).elim (j y) (G y);obtain⟨c,D,B,C⟩:=F _ _ n (fun y h=>p y (by simp[h])) z;refine⟨c,D,B,?_⟩;have e:=aeS E;simp only[aeR,qq,l,mh,cW];rw[e,Nat.beq_refl,aeT (by rw[<-e];exact o)];simp only[Bool.and_self];rw[qE _ _ _ (by rw[cW,cW];exact o),dL,dL,<-BV,<-dL];exact C
   ·exact f.elim
theorem G4{t:TypeId}{ps:List (Nat×V)}(hp:∀b∈ps,e9 Φ m b.2)(hk:LU C t ps g)(ρ:Nat->Nat)(st:St):
  ∃c,g c/\e9 Φ m c/\xc C t (ps.map fun b=>(b.1,erase ρ b.2)) st=some (.val (erase ρ c) st):=by
 unfold LU at hk;split at hk
 ·rename_i e hti;split at hk
  ·rename_i a hd;split at hk
   ·rename_i z h1 h2 h3;exact YP
   ·exact hk.elim
  ·rename_i n d hd;split at hk
   ·rename_i f z h1 h2 h3;exact YP
   ·exact hk.elim
  ·exact hk.elim
 ·exact hk.elim
theorem Bw(c:e9 Φ m s)(a:zZ s g)(ρ:Nat->Nat)(st:St):
  ∃b,g b/\e9 Φ m b/\ng (erase ρ s) st=some (.val (erase ρ b) st):=by
 unfold zZ at a;split at a<;>first|exact a.elim|exact⟨_,a,c,by simp[erase,ng,val]⟩
end
end Go.VM
