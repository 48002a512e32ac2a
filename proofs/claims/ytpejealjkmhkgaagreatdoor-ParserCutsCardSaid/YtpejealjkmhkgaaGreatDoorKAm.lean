/- Part of the proof. -/
import Derived.Test.YtpejealjkmhkgaaGreatDoorKAl
set_option linter.all false
set_option maxHeartbeats 16000000
set_option maxRecDepth 100000
open Nat renaming ne_of_lt->YL,lt_succ_of_lt->YP,lt_irrefl->YS,succ_le_succ->YU,eq_of_beq_eq_true->YY,ble_eq_true_of_le->YZ,zero_le->Y3
open List renaming mem_cons->YM,length_append->YN,getElem?_eq_some_iff->YO,length_cons->YQ,mem_of_mem_take->YR,flatten_cons->YT,cons_append->YV,map_take->YW,map_cons->YX,toArray->Y0,getElem?_eq_none->Y1,mem_of_mem_drop->Y2,take_succ_cons->Y4,drop_succ_cons->Y5
namespace Go.VM
open Go.AM
theorem IM(b lo hi:Nat):∀(d:List Nat) (a:Tr fH) (e:Nat),e ∉ d->(ep b lo hi d a).1.get e=a.get e:=by
 intro d;induction d with
 |nil=>intro a e _;rfl
 |cons m d f=>
  intro a e i;have h:e≠m:=fun l=>i (by simp[l]);have c:e ∉ d:=fun l=>i (by simp[l]);unfold ep;split
  ·exact f a e c
  ·split
   ·split
    ·rw[f _ e c,cw,if_neg h]
    ·exact f a e c
   ·exact f a e c
theorem IN(b lo hi:Nat):∀(c:List Nat) (f:Tr fH) (e:Nat),e∈(ep b lo hi c f).2->e∈c:=by
 intro c;induction c with
 |nil=>intro f e h;simp[ep]at h
 |cons m c d=>
  intro f e a;unfold ep at a;split at a
  ·rcases YM.1 a with rfl|h
   ·simp
   ·simp[d _ e h]
  ·split at a
   ·split at a
    ·simp[d _ e a]
    ·rcases YM.1 a with rfl|h
     ·simp
     ·simp[d _ e h]
   ·rcases YM.1 a with rfl|h
    ·simp
    ·simp[d _ e h]
variable{q:Nat}
section
variable{st:St} {dS b lo hi:Nat}
theorem F8(c:∀a,st.fm.get dS=some a->q ∉ a):(st.kill dS b lo hi).get q=st.get q:=by
 unfold St.kill;split
 ·rfl
 ·rename_i a d;exact IM b lo hi a st.hp q (c a d)
theorem s8(f:Nat):(f≠dS->(st.kill dS b lo hi).fm.get f=st.fm.get f)/\(st.fm.get dS=none->(st.kill dS b lo hi).fm.get f=st.fm.get f)/\
  (∀a,st.fm.get dS=some a->∃c,(st.kill dS b lo hi).fm.get dS=some c/\∀i∈c,i∈a):=by
 cases d:st.fm.get dS with
 |none=>rw[gx d];exact⟨fun _=>rfl,fun _=>rfl,fun a e=>by cases e⟩
 |some a=>
  rw[gZ d];refine⟨fun h=>(by show(st.fm.set dS _).get f=_;rw[cw,if_neg h]),fun e=>(by cases e),fun c e=>?_⟩;cases e;refine⟨_,by show(st.fm.set dS _).get dS=_;rw[cw,if_pos rfl],fun i l=>IN b lo hi a st.hp i l⟩
end
theorem WM.zg{st:St}(i:WM st){b:Nat}{c l:List Value}{t f p:Nat}(m:st.get b=some (.cells c t f p)):WM (st.put b (.cells l t f p)):=by
 refine⟨i.lt,fun w d v o e h a=>?_⟩;rw[cW]at a;split at a
 ·rename_i n;cases a;have:=i.mem w d v c t f p e h (n▸m);subst this;exact .inr ⟨_,_,_,Z⟩
 ·exact i.row w d v o e h a
theorem WM.xv{st:St}(n:WM st){b:Nat}{y d:fH}(p:st.get b=some d)(m:d≠.dead)(h:∀c i x z,d≠.cells c i x z):WM (st.put b y):=by
 refine⟨n.lt,fun w e v o f l a=>?_⟩;rw[cW]at a;split at a
 ·rename_i t;rcases n.row w e v d f l (t▸p)with i|⟨_,_,_,i⟩
  ·exact absurd i m
  ·exact absurd i (h _ _ _ _)
 ·exact n.row w e v o f l a
theorem WM.new{st:St}(i:WM st){m:fH}:WM (st.new m):=by
 refine⟨fun l a e f c=>YP (i.lt l a e f c),fun h a e o b c d=>?_⟩;have b:st.fm.get h=some a:=b;rw[dl,if_neg (YL (i.lt h a e b c))]at d;exact i.row h a e o b c d
theorem WM.kill{st:St}(y:WM st){dS b lo hi:Nat}:WM (st.kill dS b lo hi):=by
 have n:∀h d p,(st.kill dS b lo hi).fm.get h=some d->p∈d->∃a,st.fm.get h=some a/\p∈a:=by
  intro h d p c f;have w:=s8 (st:=st) (dS:=dS) (b:=b) (lo:=lo) (hi:=hi) h;by_cases t:h=dS
  ·subst t;cases i:st.fm.get h with
   |none=>rw[w.2.1 i,i]at c;cases c
   |some a=>
    obtain⟨z,l,m⟩:=w.2.2 a i;rw[l]at c;cases c;exact⟨a,Z,m p f⟩
  ·rw[w.1 t]at c;exact⟨d,c,f⟩
 refine⟨fun h d p v f=>?_,fun h d p o v f x=>?_⟩
 ·obtain⟨a,l,m⟩:=n h d p v f;rw[gF];exact y.lt h a p l m
 ·obtain⟨a,l,m⟩:=n h d p v f;rcases jj x with e|e
  ·exact .inl e
  ·exact y.row h a p o l m e
def oL:cL->Bool
 |.box _=>true
 |.row _ _=>true
 |_=>false
variable{k:cL}
section
variable{Φ:Fz} {ρ:Nat->Nat} {σ:VS} {st:St}
theorem Real.lt(b:Real Φ ρ σ st){i:Nat}{o:cL}(hi:σ[i]?=some o)(c:live o=true):ρ i<st.n:=by
 have a:=(b.obj i o hi c).1;cases o with
 |box f=>obtain⟨⟨d,_⟩,_⟩:=a;exact b.wf.lt _ _ d
 |row es els=>obtain⟨⟨_,_,d⟩,_⟩:=a;exact b.wf.lt _ _ d
 |map es e=>exact b.wf.lt _ _ a.1
 |loop l=>obtain⟨_,d,_⟩:=a;exact b.wf.lt _ _ d
 |eG h=>exact b.wf.lt _ _ a
 |gone=>cases c
theorem Real.Ub(c:Real Φ ρ σ st){b:Nat}{o:fH}(a:Φ b=some o):b<st.n:=c.wf.lt _ _ (c.fz _ _ a)
theorem Real.apart(m:Real Φ ρ σ st){i:Nat}(hi:σ[i]?=some k)(l:oL k=true){c:List Value}{e f p:Nat}(h:st.get (ρ i)=some (.cells c e f p)) 
  {ms:List Nat} (a:st.fm.get f=some ms) (hx:q∈ms) (b:q≠ρ i):Φ q=none/\∀t o,σ[t]?=some o->live o=true->ρ t≠q:=by
 cases k with
 |box v=>
  obtain⟨⟨⟨n,d⟩,_⟩,_⟩:=m.obj i _ hi rfl;rw[h]at n;cases n;rw[a]at d;cases d
 |row es els=>exact m.dS i es els c e f p ms q hi h a hx b
 |_=>cases l
theorem Real.lJ(A:Real Φ ρ σ st){i:Nat}(hi:σ[i]?=some k)(E:oL k=true){c:List Value}{D f p:Nat}(n:st.get (ρ i)=some (.cells c D f p)){w:List Value}{x h C:Nat}(z:st.get q=some (.cells w x h C))(d:q≠ρ i)(e:Φ q≠none∨∃v o,σ[v]?=some o/\live o=true/\ρ v=q):h≠f:=by
 intro t;subst t;have l:=(A.wf.dS _ _ _ _ _ n).2;have a:=(A.wf.dS _ _ _ _ _ z).2;unfold rY at l a;cases m:st.fm.get h with
 |none=>
  rw[m]at l a;exact d (a.trans l.symm)
 |some F=>
  rw[m]at a;obtain⟨G,b⟩:=A.apart hi E n m a d;rcases e with H|⟨v,o,B,y,D⟩
  ·exact H G
  ·exact b v o B y D
theorem s9{σ:VS}{i:Nat}{o a:cL}(hi:σ[i]?=some o)(b:Nat):(σ.set i a)[b]?=if b=i then some a else σ[b]?:=by
 rw[List.getElem?_set];have:i<σ.length:=(YO.1 hi).1;by_cases c:i=b
 ·subst c;simp[this]
 ·rw[if_neg c,if_neg (fun d=>c d.symm)]
theorem Real.WI(H:Real Φ ρ σ st){i:Nat}{D:cL}(hi:σ[i]?=some k)(E:live k=true){dI:St}(T:WF dI)(S:WM dI) 
  (t:∀n,n≠ρ i->(Φ n≠none∨∃d o,σ[d]?=some o/\live o=true/\ρ d=n)->dI.get n=st.get n)
  (I:∀n c f p w,n≠ρ i->(Φ n≠none∨∃d o,σ[d]?=some o/\live o=true/\ρ d=n)->st.get n=some (.cells c f p w)->dI.fm.get p=st.fm.get p)
  (P:∀p,Φ.qu p->dI.fm.get p=none/\p<dI.n)
  (M:∀es els c f p w,D=.row es els->dI.get (ρ i)=some (.cells c f p w)->¬Φ.qu p)
  (Q:Fg Φ ρ σ.length dI D (ρ i))
  (N:∀es els c f p w B n,D=.row es els->dI.get (ρ i)=some (.cells c f p w)->dI.fm.get p=some B->n∈B->n≠ρ i->Φ n=none/\∀d o,σ[d]?=some o->live o=true->ρ d≠n):
  Real Φ ρ (σ.set i D) dI:=by
 have v:=(H.obj i k hi E).2;have m:∀d o,d≠i->σ[d]?=some o->live o=true->ρ d≠ρ i:=fun d o a Q A f=>a (H.inj d i o k Q hi A E f);refine⟨T,S,fun b o F=>?_,H.Ma,P,H.Mb,fun d es els c f p w a y=>?_,fun d o a A=>?_,fun d O V G a h K x f=>?_,fun d es els c f p w B n a y R U l=>?_⟩
 ·have l:b≠ρ i:=fun f=>by rw[f,v]at F;cases F
  rw[t b l (.inl (by rw[F];simp))];exact H.fz b o F
 ·rw[s9 hi]at a;by_cases e:d=i
  ·subst e;rw[if_pos rfl]at a;cases a;exact M es els c f p w Z y
  ·rw[if_neg e]at a;rw[t _ (m d _ e a rfl) (.inr ⟨d,_,a,rfl,rfl⟩)]at y;exact H.H0 d es els c f p w a y
 ·rw[s9 hi]at a;by_cases f:d=i
  ·subst f;rw[if_pos rfl]at a;cases a;exact⟨by simpa using Q,v⟩
  ·rw[if_neg f]at a;have h:=H.obj d o a A;have l:=m d o f a A;refine⟨?_,h.2⟩;have:=(hU.refl Φ ρ σ.length).obj (st:=st) (dI:=dI) (t _ l (.inr ⟨d,o,a,A,rfl⟩)) (fun c f p w X W=>by rw[I _ c f p w l (.inr ⟨d,o,a,A,rfl⟩) X];exact W) h.1;simpa using this
 ·rw[s9 hi]at a h;by_cases e:d=i
  ·by_cases z:O=i
   ·rw[e,z]
   ·rw[if_neg z]at h;subst e;exact absurd f.symm (m O G z h x)
  ·by_cases z:O=i
   ·rw[if_neg e]at a;subst z;exact absurd f (m d V e a K)
   ·rw[if_neg e]at a;rw[if_neg z]at h;exact H.inj d O V G a h K x f
 ·have J:(Φ n=none/\∀d o,σ[d]?=some o->live o=true->ρ d≠n)->Φ n=none/\∀d o,(σ.set i D)[d]?=some o->live o=true->ρ d≠n:=by
   rintro⟨Y,b⟩;refine⟨Y,fun O G h x=>?_⟩;rw[s9 hi]at h;by_cases e:O=i
   ·rw[e];exact b i k hi E
   ·rw[if_neg e]at h;exact b O G h x
  rw[s9 hi]at a;by_cases e:d=i
  ·subst e;rw[if_pos rfl]at a;cases a;exact J (N es els c f p w B n Z y R U l)
  ·rw[if_neg e]at a;have L:=m d _ e a rfl;have C:=y;rw[t _ L (.inr ⟨d,_,a,rfl,rfl⟩)]at C;rw[I _ c f p w L (.inr ⟨d,_,a,rfl,rfl⟩) C]at R;exact J (H.dS d es els c f p w B n a C R U l)
theorem Real.write(I:Real Φ ρ σ st){i:Nat}{y o':cL}(hi:σ[i]?=some y)(Q:oL y=true){c c':List Value}{e f p lo hi':Nat} 
  (x:st.get (ρ i)=some (.cells c e f p))
  (M:(∃E h,y=.box E/\o'=.box h/\h.length=E.length/\c'=cm ρ h/\eP Φ σ.length h/\∀j∈h,gy j=true)∨
   (∃els d,y=.row e els/\o'=.row e d/\c'=cm ρ d.flatten/\(∀m∈d,m.length=e)/\(∀m∈d,eP Φ σ.length m)/\∀m∈d,∀j∈m,gy j=true)):
  Real Φ ρ (σ.set i o') ((st.put (ρ i) (.cells c' e f p)).kill f (ρ i) lo hi'):=by
 have G:live y=true:=by cases y<;>first|rfl|cases Q
 have K:∀m,(st.put (ρ i) (.cells c' e f p)).get m=if m=ρ i then some (.cells c' e f p)else st.get m:=fun m=>cW _ _ _ _
 have N:∀m,m≠ρ i->(Φ m≠none∨∃Y o,σ[Y]?=some o/\live o=true/\ρ Y=m)->((st.put (ρ i) (.cells c' e f p)).kill f (ρ i) lo hi').get m=st.get m:=by
  intro m hx v;rw[F8,K,if_neg hx];intro L z W;obtain⟨a,b⟩:=I.apart hi Q x (ms:=L) z W hx;rcases v with g|⟨Y,o,r,G,e⟩
  ·exact g a
  ·exact b Y o r G e
 have l:((st.put (ρ i) (.cells c' e f p)).kill f (ρ i) lo hi').get (ρ i)=some (.cells c' e f p):=by rw[Dq,K,if_pos rfl]
 have n:∀R,(st.put (ρ i) (.cells c' e f p)).fm.get R=st.fm.get R:=fun _=>rfl;have D:st.fm.get f=none->((st.put (ρ i) (.cells c' e f p)).kill f (ρ i) lo hi').fm.get f=none:=fun V=>by
  rw[(s8 (st:=st.put (ρ i) (.cells c' e f p)) f).2.1 V,n,V]
 have O:WM ((st.put (ρ i) (.cells c' e f p)).kill f (ρ i) lo hi'):=(I.wm.zg x).kill;refine I.WI hi G (WF.kill (I.wf.zg x)) O N (fun m T H f1 U hx v X=>?_) ?_ ?_ ?_ ?_
 ·have B:=I.lJ hi Q x X hx v;rw[(s8 f1).1 B,n]
 ·intro R S;obtain⟨a,b⟩:=I.qu R S;refine⟨?_,by rw[gF];exact b⟩;by_cases H:R=f
  ·subst H;exact D a
  ·rw[(s8 (st:=st.put (ρ i) (.cells c' e f p)) R).1 H,n];exact a
 ·intro es els T H f1 U P t;rw[l]at t;cases t;rcases M with⟨E,h,_,rfl,_⟩|⟨w,d,rfl,rfl,_⟩
  ·cases P
  ·exact I.H0 i _ w _ _ _ _ hi x
 ·rcases M with⟨E,h,rfl,rfl,G,rfl,F,C⟩|⟨els,d,rfl,rfl,rfl,F,C,q⟩
  ·obtain⟨⟨⟨g,k⟩,_⟩,_⟩:=I.obj i _ hi rfl;rw[x]at g;cases g;exact⟨⟨by rw[l,G],D k⟩,F,C⟩
  ·exact⟨⟨_,_,l⟩,F,C,q⟩
 ·intro es els T H f1 U L m P t z hx B;rw[l]at t;cases t;rcases M with⟨E,h,_,rfl,_,_⟩|⟨w,d,rfl,rfl,_⟩
  ·cases P
  ·cases A:st.fm.get f with
   |none=>rw[D A]at z;cases z
   |some J=>
    obtain⟨s,F,C⟩:=(s8 (st:=st.put (ρ i) (.cells c' e f p)) (dS:=f) (b:=ρ i) (lo:=lo) (hi:=hi') f).2.2 J A;rw[F]at z;cases z;exact I.dS i _ w c e f p J m hi x A (C m hx) B
theorem Real.put(l:Real Φ ρ σ st){i:Nat}{f o':cL}(hi:σ[i]?=some f)(m:live f=true)(z:oL f=false)(n:oL o'=false){a:fH}(C:∀c e v x,a≠.cells c e v x) 
  (B:Fg Φ ρ σ.length (st.put (ρ i) a) o' (ρ i)):Real Φ ρ (σ.set i o') (st.put (ρ i) a):=by
 have h:∀w,(st.put (ρ i) a).get w=if w=ρ i then some a else st.get w:=fun w=>cW _ _ _ _
 have y:WM (st.put (ρ i) a):=by
  have p:=(l.obj i f hi m).1;cases f with
  |box F=>cases z
  |row es els=>cases z
  |map es A=>exact l.wm.xv p.1 (fun e=>by cases e) (fun _ _ _ _ e=>by cases e)
  |loop H=>obtain⟨G,E,_⟩:=p;exact l.wm.xv E (fun e=>by cases e) (fun _ _ _ _ e=>by cases e)
  |eG I=>exact l.wm.xv p (fun e=>by cases e) (fun _ _ _ _ e=>by cases e)
  |gone=>cases m
 refine l.WI hi m ⟨fun b o d=>?_,fun b c e v x d=>?_,l.wf.Kt⟩ y (fun w hx _=>by rw[h,if_neg hx]) (fun _ _ _ _ _ _ _ _=>rfl) l.qu (fun es els c e v x t=>by subst t;cases n) B ?_
 ·rw[h]at d;split at d
  ·rename_i e;rw[e];exact l.lt hi m
  ·exact l.wf.lt b o d
 ·rw[h]at d;split at d
  ·injection d with d;exact absurd d (C c e v x)
  ·exact l.wf.dS b c e v x d
 ·intro es els c e v x D w t;subst t;cases n
def iH(ρ:Nat->Nat)(i b:Nat):Nat->Nat:=fun a=>if a=i then b else ρ a
theorem jL(Φ:Fz)(ρ:Nat->Nat)(m b:Nat):hU Φ ρ m Φ (iH ρ m b) (m+1):=
 ⟨Fz.le_refl _,fun i hi=>if_neg om,om⟩
theorem jm(σ:VS)(o:cL)(a:Nat):(σ++[o])[a]?=if a=σ.length then some o else σ[a]?:=by
 rw[List.getElem?_append];by_cases b:a<σ.length
 ·rw[if_pos b,if_neg om]
 ·rw[if_neg b];by_cases c:a=σ.length
  ·subst c;simp
  ·rw[if_neg c,Y1 (by simp;omega),Y1 om]
theorem Real.new(n:Real Φ ρ σ st){o:cL}{D:fH}(H:rZ st D)(R:Fg Φ (iH ρ σ.length st.n) (σ.length+1) (st.new D) o st.n):
  Real Φ (iH ρ σ.length st.n) (σ++[o]) (st.new D):=by
 have p:∀y,(st.new D).get y=if y=st.n then some D else st.get y:=fun y=>dl _ _ _
 have t:=jL Φ ρ σ.length st.n;have d:∀e l,σ[e]?=some l->e<σ.length:=fun e l a=>(YO.1 a).1;have f:iH ρ σ.length st.n σ.length=st.n:=if_pos rfl;have S:Φ st.n=none:=by
  cases E:Φ st.n with
  |none=>rfl
  |some o=>exact absurd (n.Ub E) (YS _)
 have K:(st.new D).fm=st.fm:=rfl;refine⟨n.wf.new H,n.wm.new,fun b o E=>?_,n.Ma,fun C N=>⟨(n.qu C N).1,YP (n.qu C N).2⟩,n.Mb,fun e es els c B C U a m=>?_,fun e l a P=>?_,fun e v l x a h G w B=>?_,fun e es els c B C U J y a m A Q F=>?_⟩
 ·rw[p,if_neg (YL (n.Ub E))];exact n.fz b o E
 ·rw[jm]at a;by_cases i:e=σ.length
  ·subst i;rw[f,p,if_pos rfl]at m;cases m;have W:C=st.n:=by simpa [rZ]using H
   intro I;have:=(n.qu C I).2;omega
  ·rw[if_neg i]at a;rw[t.rG e (d e _ a),p,if_neg (YL (n.lt a rfl))]at m;exact n.H0 e es els c B C U a m
 ·rw[jm]at a;by_cases B:e=σ.length
  ·subst B;rw[if_pos rfl]at a;cases a;rw[f];exact⟨by simpa using R,S⟩
  ·rw[if_neg B]at a;obtain⟨T,V⟩:=n.obj e l a P;rw[t.rG e (d e l a)];refine⟨?_,V⟩;have:=t.obj (st:=st) (dI:=st.new D) (by rw[p,if_neg (YL (n.lt a P))]) (fun _ _ _ _ _ I=>I) T;simpa using this
 ·rw[jm]at a h;by_cases i:e=σ.length
  ·by_cases z:v=σ.length
   ·rw[i,z]
   ·rw[if_neg z]at h;subst i;rw[f,t.rG v (d v x h)]at B;have:=n.lt h w;omega
  ·rw[if_neg i]at a;by_cases z:v=σ.length
   ·subst z;rw[f,t.rG e (d e l a)]at B;have:=n.lt a G;omega
   ·rw[if_neg z]at h;rw[t.rG v (d v x h),t.rG e (d e l a)]at B;exact n.inj e v l x a h G w B
 ·rw[K]at A;have M:(Φ y=none/\∀e o,σ[e]?=some o->live o=true->ρ e≠y)->y≠st.n->Φ y=none/\∀e l,(σ++[o])[e]?=some l->live l=true->iH ρ σ.length st.n e≠y:=by
   rintro⟨D,b⟩ O;refine⟨D,fun v x h w=>?_⟩;rw[jm]at h;by_cases i:v=σ.length
   ·subst i;rw[f];exact O.symm
   ·rw[if_neg i]at h;rw[t.rG v (d v x h)];exact b v x h w
  rw[jm]at a;by_cases i:e=σ.length
  ·
   subst i;rw[f,p,if_pos rfl]at m;cases m;have:C=st.n/\True:=⟨by simpa [rZ]using H,tv⟩;rw[this.1]at A;exact absurd (n.wf.Kt _ _ A) (YS _)
  ·rw[if_neg i]at a;rw[t.rG e (d e _ a)]at m F;have L:=n.lt a rfl;rw[p,if_neg (YL L)]at m;have v:=n.dS e es els c B C U J y a m A Q F;exact M v (YL (n.wm.lt C J y A Q))
theorem Real.Oj(e:Real Φ ρ σ st){a:fH}(z:rZ st a):Real Φ ρ σ (st.new a):=by
 have f:∀i,(st.new a).get i=if i=st.n then some a else st.get i:=fun i=>dl _ _ _
 refine⟨e.wf.new z,e.wm.new,fun b o n=>?_,e.Ma,fun l t=>⟨(e.qu l t).1,YP (e.qu l t).2⟩,e.Mb,fun p es els c E l y d h=>?_,fun p F d v=>?_,e.inj,fun p es els c E l y w i d h C A m=>?_⟩
 ·rw[f,if_neg (YL (e.Ub n))];exact e.fz b o n
 ·rw[f,if_neg (YL (e.lt d rfl))]at h;exact e.H0 p es els c E l y d h
 ·obtain⟨x,D⟩:=e.obj p F d v;exact⟨(hU.refl Φ ρ _).obj (st:=st) (dI:=st.new a) (by rw[f,if_neg (YL (e.lt d v))]) (fun _ _ _ _ _ B=>B) x,D⟩
 ·rw[f,if_neg (YL (e.lt d rfl))]at h;exact e.dS p es els c E l y w i d h C A m
def mw(Φ:Fz)(b:Nat)(o:fH):Fz:=⟨fun a=>if a=b then some o else Φ a,fun a=>a=b∨Φ.BR a,Φ.qu⟩
theorem kh(Φ:Fz)(b:Nat)(o:fH)(a:Nat):(mw Φ b o) a=if a=b then some o else Φ a:=rfl
theorem tb{Φ:Fz}{b:Nat}{o:fH}(c:Φ b=none):Φ.le (mw Φ b o):=⟨fun h f a=>by
 rw[kh];split
 ·rename_i e;rw[e,c]at a;cases a
 ·exact a,fun h f a=>⟨fun d=>d.elim (fun e=>by rw[e,c]at a;cases a) id,.inr⟩,fun _ c=>c⟩
theorem Real.OP(f:Real Φ ρ σ st){b:Nat}{c:List Value}{es dS p:Nat}(B:st.get b=some (.cells c es dS p))(E:Φ b=none) 
  (y:∀e o,σ[e]?=some o->live o=true->ρ e≠b) (D:∀e es els c m w p,σ[e]?=some (.row es els)->st.get (ρ e)=some (.cells c m w p)->w≠dS)
  (n:∀L c m p,Φ L≠some (.cells c m dS p)):
  Real (mw Φ b (.cells c es dS p)) ρ σ st:=by
 have M:hU Φ ρ σ.length (mw Φ b (.cells c es dS p)) ρ σ.length:=⟨tb E,fun _ _=>rfl,Nat.le_refl _⟩;refine⟨f.wf,f.wm,fun i o a=>?_,fun i a=>?_,f.qu,fun i L R H f1 T S Q P a d=>?_,f.H0,fun e J h F=>?_,f.inj,fun e l els A m w I x i h C G a z=>?_⟩
 ·rw[kh]at a;split at a
  ·rename_i m;cases a;rw[m];exact B
  ·exact f.fz i o a
 ·rw[kh]at a;split at a
  ·cases a
  ·exact f.Ma i a
 ·rw[kh]at a d;split at a
  ·rename_i K;cases a;split at d
   ·rename_i O;rw[K,O]
   ·exact absurd d (n _ _ _ _)
  ·split at d
   ·cases d;exact absurd a (n _ _ _ _)
   ·exact f.Mb i L _ _ _ _ _ _ _ a d
 ·obtain⟨t,v⟩:=f.obj e J h F;refine⟨M.obj Z (fun _ _ _ _ _ N=>N) t,?_⟩;rw[kh,if_neg (y e J h F)];exact v
 ·obtain⟨t,v⟩:=f.dS e l els A m w I x i h C G a z;refine⟨?_,v⟩;rw[kh];split
  ·rename_i H;subst H;exact absurd (f.wm.mem w x i c es dS p G a B).symm (D e l els A m w I h C)
  ·exact t
theorem Real.OQ(D:Real Φ ρ σ st){b:Nat}{es dS p:Nat}{els:List (List V)}(E:st.get b=some (.cells (cm ρ els.flatten) es dS p))(S:Φ b=none) 
  (H:∀d o,σ[d]?=some o->live o=true->ρ d≠b) (Q:∀d es els c l J p,σ[d]?=some (.row es els)->st.get (ρ d)=some (.cells c l J p)->J≠dS)
  (Y:∀A w,st.fm.get dS=some A->w∈A->w≠b->Φ w=none/\∀d o,σ[d]?=some o->live o=true->ρ d≠w) (P:¬Φ.qu dS)
  (U:∀l∈els,l.length=es) (O:∀l∈els,eP Φ σ.length l) (W:∀l∈els,∀q∈l,gy q=true):
  Real Φ (iH ρ σ.length b) (σ++[.row es els]) st:=by
 have n:=jL Φ ρ σ.length b;have e:∀d f,σ[d]?=some f->d<σ.length:=fun d f a=>(YO.1 a).1;have h:iH ρ σ.length b σ.length=b:=if_pos rfl;have I:∀w,(Φ w=none/\∀d o,σ[d]?=some o->live o=true->ρ d≠w)->w≠b->Φ w=none/\∀d f,(σ++[.row es els])[d]?=some f->live f=true->iH ρ σ.length b d≠w:=by
  rintro w ⟨k,B⟩ R;refine⟨k,fun d f a M=>?_⟩;rw[jm]at a;by_cases i:d=σ.length
  ·subst i;rw[h];exact R.symm
  ·rw[if_neg i]at a;rw[n.rG d (e d f a)];exact B d f a M
 refine⟨D.wf,D.wm,D.fz,D.Ma,D.qu,D.Mb,fun d z t c l J G a m=>?_,fun d f a M=>?_,fun d B f F a x L K l=>?_,fun d z t c l J G A w a m C N v=>?_⟩
 ·rw[jm]at a;by_cases i:d=σ.length
  ·subst i;rw[h,E]at m;cases m;exact P
  ·rw[if_neg i]at a;rw[n.rG d (e d _ a)]at m;exact D.H0 d z t c l J G a m
 ·rw[jm]at a;by_cases l:d=σ.length
  ·subst l;rw[if_pos rfl]at a;cases a;rw[h];refine⟨⟨⟨dS,p,?_⟩,U,fun l j=>?_,W⟩,S⟩
   ·rw[E,n.cm (D3 O)]
   ·have:=n.KG (O l j);simpa using this
  ·rw[if_neg l]at a;obtain⟨T,g⟩:=D.obj d f a M;rw[n.rG d (e d f a)];refine⟨?_,g⟩;have:=n.obj (st:=st) (dI:=st) rfl (fun _ _ _ _ _ X=>X) T;simpa using this
 ·rw[jm]at a x;by_cases i:d=σ.length
  ·by_cases y:B=σ.length
   ·rw[i,y]
   ·rw[if_neg y]at x;subst i;rw[h,n.rG B (e B F x)]at l;exact absurd l.symm (H B F x K)
  ·rw[if_neg i]at a;by_cases y:B=σ.length
   ·subst y;rw[h,n.rG d (e d f a)]at l;exact absurd l (H d f a L)
   ·rw[if_neg y]at x;rw[n.rG B (e B F x),n.rG d (e d f a)]at l;exact D.inj d B f F a x L K l
 ·rw[jm]at a;by_cases i:d=σ.length
  ·subst i;rw[h]at m v;rw[E]at m;cases m;exact I w (Y A w C N v) v
  ·rw[if_neg i]at a;rw[n.rG d (e d _ a)]at m v;have B:=D.dS d z t c l J G A w a m C N v;refine I w B fun y=>?_;subst y;exact absurd (D.wm.mem J A w _ es dS p C N E).symm (Q d z t c l J G a m)
theorem Real.drop(b:Real Φ ρ σ st){i:Nat}(hi:σ[i]?=some k)(c:live k=true):Real Φ ρ (σ.set i .gone) st:=
 b.WI hi c b.wf b.wm (fun _ _ _=>rfl) (fun _ _ _ _ _ _ _ _=>rfl) b.qu (fun _ _ _ _ _ _ a=>by cases a) trivial (fun _ _ _ _ _ _ _ _ a=>by cases a)
theorem nP{i:Nat}(hi:σ[i]?=some k){o:cL}(a:(σ.set i .gone)[q]?=some o)(b:live o=true):q≠i/\σ[q]?=some o:=by
 rw[s9 hi]at a;by_cases c:q=i
 ·rw[if_pos c]at a;cases a;cases b
 ·rw[if_neg c]at a;exact⟨c,a⟩
theorem Real.freeze(m:Real Φ ρ σ st){i es:Nat}{els:List (List V)}(hi:σ[i]?=some (.row es els)){c:List Value}{e f p:Nat}(h:st.get (ρ i)=some (.cells c e f p)):
  Real (mw Φ (ρ i) (.cells c e f p)) ρ (σ.set i .gone) st:=by
 have x:=(m.obj i _ hi rfl).2;refine(m.drop hi Z).OP h x (fun t o n w=>?_) (fun t C A y z E B n v=>?_) (fun D y z B d=>?_)
 ·obtain⟨l,b⟩:=nP hi n w;exact fun e=>l (m.inj t i o _ b hi w Z e)
 ·obtain⟨l,b⟩:=nP hi n rfl;have a:ρ t≠ρ i:=fun e=>l (m.inj t i _ _ b hi rfl rfl e);exact m.lJ hi Z h v a (.inr ⟨t,_,b,Z,Z⟩)
 ·have a:D≠ρ i:=fun e=>by rw[e,x]at d;cases d
  exact m.lJ hi Z h (m.fz _ _ d) a (.inl (by rw[d];simp)) rfl
theorem Real.VA(d:Real Φ ρ σ st){c:List Value}{es:Nat}:Real (mw Φ st.n (.cells c es st.n 0)) ρ σ (st.new (.cells c es st.n 0)):=by
 have f:Φ st.n=none:=by
  cases v:Φ st.n with
  |none=>rfl
  |some o=>exact absurd (d.Ub v) (YS _)
 have b:∀i,(st.new (.cells c es st.n 0)).get i=if i=st.n then some (.cells c es st.n 0)else st.get i:=fun i=>dl _ _ _
 refine(d.Oj (a:=.cells c es st.n 0) Z).OP (by rw[b,if_pos rfl]) f (fun z o e m=>YL (d.lt e m)) (fun z x l t w y p e h=>?_) (fun A t w p n=>?_)
 ·rw[b,if_neg (YL (d.lt e rfl))]at h;exact YL (d.wf.dS _ _ _ _ _ h).1
 ·exact YS _ (d.wf.dS _ _ _ _ _ (d.fz _ _ n)).1
section
variable{es dS fo o len n i:Nat} {c old xs:List Value} {els:List (List V)} {e0:Nat}
theorem OR(b:Nat)(f:Nat):(f≠dS->(grown st es dS fo b o len n c old xs).fm.get f=st.fm.get f)/\
  (∀i m,(grown st es dS fo b o len n c old xs).fm.get dS=some i->m∈i->m=st.n∨m=b∨∃a,st.fm.get dS=some a/\m∈a):=by
 have l:=s8 (st:=st) (dS:=dS) (b:=st.n) (lo:=fo+o+len*es) (hi:=fo+o+(len+n)*es) f;unfold grown;dsimp only;refine⟨fun e=>?_,fun i m p hx=>?_⟩
 ·rw[cw,if_neg e];split
  ·exact l.1 e
  ·exact l.1 e
 ·rw[cw,if_pos rfl]at p;cases p;rcases YM.1 hx with y|hx
  ·exact .inl y
  ·right;split at hx
   ·rename_i x h;right;cases d:st.fm.get dS with
    |none=>rw[gx d,d]at h;cases h
    |some a=>
     obtain⟨w,t,v⟩:=l.2.2 a d;rw[t]at h;cases h;exact⟨a,Z,v m hx⟩
   ·split at hx
    ·left;simpa using hx
    ·simp at hx
theorem Real.grow(w:Real Φ ρ σ st)(hi:σ[i]?=some (.row e0 els))(C:st.get (ρ i)=some (.cells c es dS fo)):
  Real Φ ρ (σ.set i .gone) (grown st es dS fo (ρ i) o len n c old xs)/\
  (∀v K J Q U N Y,(σ.set i .gone)[v]?=some (.row K J)->(grown st es dS fo (ρ i) o len n c old xs).get (ρ v)=some (.cells Q U N Y)->N≠dS)/\
  (∀a d,(grown st es dS fo (ρ i) o len n c old xs).fm.get dS=some a->d∈a->d≠st.n->Φ d=none/\∀v o,(σ.set i .gone)[v]?=some o->live o=true->ρ v≠d):=by
 have r:=w.lt hi rfl;have H:∀d,d≠ρ i->(Φ d≠none∨∃v o,σ[v]?=some o/\live o=true/\ρ v=d)->(grown st es dS fo (ρ i) o len n c old xs).get d=st.get d:=by
  intro d f x;have G:d≠st.n:=by
   rcases x with j|⟨v,o,t,l,e⟩
   ·cases R:Φ d with
    |none=>exact absurd R j
    |some o=>exact YL (w.Ub R)
   ·rw[<-e];exact YL (w.lt t l)
  rw[jJ,if_neg G];have T:(st.kill dS st.n (fo+o+len*es) (fo+o+(len+n)*es)).get d=st.get d:=by
   refine F8 fun a m X=>?_;obtain⟨g,b⟩:=w.apart hi rfl C (ms:=a) m X f;rcases x with j|⟨v,o,t,l,e⟩
   ·exact j g
   ·exact b v o t l e
  unfold h6;dsimp only;split
  ·exact T
  ·rw[cW,if_neg f,T]
 have S:=vC (o:=o) (len:=len) (n:=n) (old:=old) (xs:=xs) w.wf C;have p:=fun b y=>OR (st:=st) (es:=es) (dS:=dS) (fo:=fo) (o:=o) (len:=len) (n:=n) (c:=c) (old:=old) (xs:=xs) b y;have V:WM (grown st es dS fo (ρ i) o len n c old xs):=by
  have q:(grown st es dS fo (ρ i) o len n c old xs).n=st.n+1:=rfl;refine⟨fun y a d m f=>?_,fun y a d s m f h=>?_⟩
  ·rw[q];by_cases z:y=dS
   ·subst z;rcases(p (ρ i) y).2 a d m f with e|e|⟨A,E,I⟩
    ·omega
    ·omega
    ·have:=w.wm.lt y A d E I;omega
   ·rw[(p (ρ i) y).1 z]at m;have:=w.wm.lt y a d m f;omega
  ·by_cases z:y=dS
   ·subst z;rw[jJ]at h;split at h
    ·cases h;exact .inr ⟨_,_,_,rfl⟩
    ·rename_i G;rcases jk h with e0|hold
     ·exact .inl e0
     ·rcases(p (ρ i) y).2 a d m f with e|e|⟨A,E,I⟩
      ·exact absurd e G
      ·rw[e,C]at hold;cases hold;exact .inr ⟨_,_,_,rfl⟩
      ·exact w.wm.row y A d _ E I hold
   ·rw[(p (ρ i) y).1 z]at m;have P:=w.wm.lt y a d m f;rw[jJ,if_neg (YL P)]at h;rcases jk h with e0|hold
    ·exact .inl e0
    ·exact w.wm.row y a d _ m f hold
 have k:Real Φ ρ (σ.set i .gone) (grown st es dS fo (ρ i) o len n c old xs):=
  w.WI hi rfl S V H (fun d u ab f1 aa f x h=>(p (ρ i) f1).1 (w.lJ hi rfl C h f x))
   (fun y z=>⟨by
    have W:y≠dS:=fun e=>w.H0 i _ _ _ _ _ _ hi C (e▸z);rw[(p (ρ i) y).1 W];exact(w.qu y z).1,YP (w.qu y z).2⟩) (fun _ _ _ _ _ _ O=>by cases O) trivial (fun _ _ _ _ _ _ _ _ O=>by cases O)
 refine⟨k,fun v K J Q U N Y t L=>?_,fun a d m f D=>?_⟩
 ·obtain⟨F,B⟩:=nP hi t rfl;have D:ρ v≠ρ i:=fun e=>F (w.inj v i _ _ B hi rfl rfl e);rw[H _ D (.inr ⟨v,_,B,rfl,rfl⟩)]at L;exact w.lJ hi Z C L D (.inr ⟨v,_,B,Z,Z⟩)
 ·rcases(p (ρ i) dS).2 a d m f with e|e|⟨A,E,I⟩
  ·exact absurd e D
  ·subst e;refine⟨(w.obj i _ hi Z).2,fun v o t l e=>?_⟩;obtain⟨F,B⟩:=nP hi t l;exact F (w.inj v i o _ B hi l Z e)
  ·by_cases M:d=ρ i
   ·subst M;refine⟨(w.obj i _ hi Z).2,fun v o t l e=>?_⟩;obtain⟨F,B⟩:=nP hi t l;exact F (w.inj v i o _ B hi l Z e)
   ·obtain⟨g,b⟩:=w.dS i _ _ _ _ _ _ A d hi C E I M;exact⟨g,fun v o t l=>b v o (nP hi t l).2 l⟩
end
end
theorem Af:∀(n:Nat) (a:List V) (c:List V->Prop),OG n a c->n<=a.length/\c (a.take n):=by
 intro n;induction n with
 |zero=>intro a c b;cases a<;>exact⟨Y3 _,b⟩
 |succ n d=>
  intro a c b;cases a with
  |nil=>exact b.elim
  |cons i h=>
   obtain⟨f,e⟩:=d h _ b;exact⟨YU f,e⟩
theorem xw:∀(f:List V) (b n:Nat) (d:List V->Prop),OH f b n d->b+n<=f.length/\d ((f.drop b).take n):=by
 intro f;induction f with
 |nil=>
  intro b n d e;cases b with
  |zero=>obtain⟨c,a⟩:=Af n [] d e;exact⟨by simpa using c,a⟩
  |succ b=>exact e.elim
 |cons i l h=>
  intro b n d e;cases b with
  |zero=>obtain⟨c,a⟩:=Af n (i::l) d e;exact⟨by simpa using c,a⟩
  |succ b=>
   obtain⟨c,a⟩:=h b n d e;exact⟨by simp only[YQ];omega,a⟩
theorem F9:∀(n:Nat) (a:List D) (c:List V->Prop),IF n a c->n<=a.length/\c ((a.take n).map V.d):=by
 intro n;induction n with
 |zero=>intro a c b;cases a<;>exact⟨Y3 _,b⟩
 |succ n d=>
  intro a c b;cases a with
  |nil=>exact b.elim
  |cons i h=>
   obtain⟨f,e⟩:=d h _ b;exact⟨YU f,e⟩
theorem Ga:∀(n:Nat) (a:List D) (c:List D->Prop),IG n a c->n<=a.length/\c (a.drop n):=by
 intro n;induction n with
 |zero=>intro a c b;cases a<;>exact⟨Y3 _,b⟩
 |succ n d=>
  intro a c b;cases a with
  |nil=>exact b.elim
  |cons i h=>
   obtain⟨f,e⟩:=d h _ b;exact⟨YU f,e⟩
def lay{a:Type}(c:List a)(f:Nat)(b:List a):List a:=c.take f++b++c.drop (f+b.length)
theorem uT:∀(c:List V) (b:Nat) (a:List V) (i:List V->Prop),z1 c b a i->b+a.length<=c.length/\i (lay c b a):=by
 intro c;induction c with
 |nil=>
  intro b a i d;cases b with
  |zero=>cases a with
   |nil=>exact⟨by simp,by simp[lay];exact d⟩
   |cons _ _=>exact d.elim
  |succ b=>cases a<;>exact d.elim
 |cons l c h=>
  intro b a i d;cases b with
  |zero=>cases a with
   |nil=>exact⟨by simp,by simp[lay];exact d⟩
   |cons o a=>
    obtain⟨f,e⟩:=h 0 a _ d;refine⟨by simp at f⊢;exact f,?_⟩;simpa [lay]using e
  |succ b=>
   have d:z1 c b a fun m=>i (l::m):=by cases a<;>exact d
   obtain⟨f,e⟩:=h b a _ d;refine⟨by simp only[YQ];omega,?_⟩;have n:lay (l::c) (b+1) a=l::lay c b a:=by
    simp only[lay,Y4,show b+1+a.length=(b+a.length)+1 from om,Y5,YV]
   rw[n];exact e
theorem oM:∀(c:List Value) (b:Nat) (a:List Value),b+a.length<=c.length->dw c b a=lay c b a:=by
 intro c;induction c with
 |nil=>
  intro b a d;cases a with
  |nil=>simp[dw,lay]
  |cons _ _=>simp at d
 |cons h c e=>
  intro b a d;cases a with
  |nil=>simp[dw,lay]
  |cons f a=>
   cases b with
   |zero=>
    rw[dw,e 0 a (by simp at d⊢;exact d)];simp[lay]
   |succ b=>
    rw[dw,e b (f::a) (by simp at d⊢;omega)];simp only[lay,Y4,show b+1+(f::a).length=(b+(f::a).length)+1 from om,Y5,YV]
theorem Ag{a:Type}{c:List a}{f:Nat}{b:List a}(d:f+b.length<=c.length):(lay c f b).length=c.length:=by
 simp only[lay,YN,List.length_take,List.length_drop];omega
theorem zl{a d:Type}(e:a->d)(c:List a)(f:Nat)(b:List a):(lay c f b).map e=lay (c.map e) f (b.map e):=by
 simp[lay,YW,List.map_drop]
theorem vQ{a:Type}{c:List a}{f:Nat}{b:List a}{d:a}(h:d∈lay c f b):d∈c∨d∈b:=by
 simp only[lay,List.mem_append]at h;rcases h with(h|h)|h
 ·exact .inl (YR h)
 ·exact .inr h
 ·exact .inl (Y2 h)
theorem IP:∀(σ:VS) (o:cL) (i:Nat) (a:Nat->VS->Prop),OI σ o i a->a (i+σ.length) (σ++[o]):=by
 intro σ;induction σ with
 |nil=>intro o i a c;exact c
 |cons e d b=>
  intro o i a c;have:=b o (i+1) _ c;simp only[YQ,YV];rw[show i+(d.length+1)=i+1+d.length from by omega];exact this
theorem tc{a:Type}(n:Nat)(b:Nat->a):rV n b=b n:=by cases n<;>rfl
theorem iQ{σ:VS}{o:cL}{a:Nat->VS->Prop}(b:z6 σ o a):a σ.length (σ++[o]):=by
 have:=IP _ _ _ _ b;rw[tc]at this;simpa using this
theorem jM:∀(σ:VS) (i:Nat) (o:cL) (b:VS->Prop),yR σ i o b->i<σ.length/\b (σ.set i o):=by
 intro σ;induction σ with
 |nil=>intro i o b a;cases i<;>exact a.elim
 |cons f h c=>
  intro i o b a;cases i with
  |zero=>exact⟨by simp,a⟩
  |succ i=>
   obtain⟨e,d⟩:=c i o _ a;exact⟨by simpa using e,d⟩
theorem cy{a:Type}{o:Option a}{d:a->Prop}(c:dn o d):∃b,o=some b/\d b:=by
 cases o with
 |none=>exact c.elim
 |some b=>exact⟨b,rfl,c⟩
theorem kY(ρ:Nat->Nat)(a:V):cellsOf (erase ρ a)=cm ρ (dJ a):=by
 cases a with
 |d b=>cases b<;>simp[erase,cx,cellsOf,dJ,cm]
 |agg c=>simp[erase,cellsOf,dJ]
 |_=>simp[erase,cellsOf,dJ,cm]
variable{r:V}
theorem td{Φ:Fz}{m:Nat}(b:eV Φ m r):eP Φ m (dJ r):=by
 cases b with
 |agg b=>exact b
 |d b=>intro c a;simp[dJ]at a;subst a;exact .d b
 |bp b=>intro c a;simp[dJ]at a;subst a;exact .bp b
 |ptr b=>intro c a;simp[dJ]at a;subst a;exact .ptr b
 |fp f e l h i=>intro c a;simp[dJ]at a;subst a;exact .fp f e l h i
 |ms b=>intro c a;simp[dJ]at a;subst a;exact .ms b
 |map b=>intro c a;simp[dJ]at a;subst a;exact .map b
 |fn f e=>intro c a;simp[dJ]at a;subst a;exact .fn f e
 |rN b=>intro c a;simp[dJ]at a;subst a;exact .rN b
 |iface b=>intro c a;simp[dJ]at a;subst a;exact .iface b
 |dV b=>intro c a;simp[dJ]at a;subst a;exact .dV b
theorem mc(ρ:Nat->Nat)(l:List D):cm ρ (l.map V.d)=l.map cx:=by
 induction l with
 |nil=>rfl
 |cons b l a=>simp only[YX,cm,erase,a]
variable{u:D} {j:Value}
theorem CD(a:Tv j=some u):cx u=j:=by
 unfold Tv at a;split at a<;>first|(cases a;rfl)|cases a
theorem OS(a:Tv j=some u)(Φ:Fz):uS Φ u:=by
 unfold Tv at a;split at a<;>first|(cases a;constructor)|cases a
theorem hJ(ρ:Nat->Nat):∀{b:List Value} {c:List V},sb b=some c->cm ρ c=b:=by
 intro b;induction b with
 |nil=>intro c a;cases a;rfl
 |cons l b d=>
  intro c a;unfold sb at a;split at a
  ·rename_i h i f e;cases a;simp only[cm,erase];rw[CD f,d e]
  ·cases a
theorem nb(Φ:Fz)(m:Nat):∀{c:List Value} {b:List V},sb c=some b->eP Φ m b/\∀n∈b,gy n=true:=by
 intro c;induction c with
 |nil=>intro b a;cases a;exact⟨fun _ a=>by simp at a,fun _ a=>by simp at a⟩
 |cons n c f=>
  intro b a;unfold sb at a;split at a
  ·rename_i o p i h;cases a;obtain⟨d,l⟩:=f h;refine⟨fun e hx=>?_,fun e hx=>?_⟩
   ·rcases YM.1 hx with rfl|hx
    ·exact .d (OS i Φ)
    ·exact d e hx
   ·rcases YM.1 hx with rfl|hx
    ·rfl
    ·exact l e hx
  ·cases a
theorem Mc{ρ:Nat->Nat}(a:Tw j=some r):erase ρ r=j:=by
 unfold Tw at a;split at a
 ·split at a
  ·rename_i d b;cases a;simp only[erase];rw[hJ ρ b]
  ·cases a
 ·split at a
  ·rename_i c b;cases a;simp only[erase];exact CD b
  ·cases a
theorem Uc(a:Tw j=some r)(Φ:Fz)(m:Nat):eV Φ m r:=by
 unfold Tw at a;split at a
 ·split at a
  ·rename_i d b;cases a;exact .agg (nb Φ m b).1
  ·cases a
 ·split at a
  ·rename_i c b;cases a;exact .d (OS b Φ)
  ·cases a
theorem Gb(a:Tv j=some u):flat j=true:=by
 unfold Tv at a;split at a<;>first|rfl|cases a
theorem Md:∀{a:List Value} {c:List V},sb a=some c->a.all flat=true:=by
 intro a;induction a with
 |nil=>intro c b;rfl
 |cons l a d=>
  intro c b;unfold sb at b;split at b
  ·rename_i h i f e;simp only[List.all_cons,Gb f,d e,Bool.and_self]
  ·cases b
theorem Me(b:Tw j=some r):pJ j=true:=by
 unfold Tw at b;split at b
 ·split at b
  ·rename_i f a;exact Md a
  ·cases b
 ·rename_i j c;split at b
  ·rename_i e a;have:=Gb a;unfold pJ;split
   ·rename_i d;exact absurd rfl (c d)
   ·exact this
  ·cases b
def mJ(Φ:Fz)(ρ:Nat->Nat)(m:Nat)(ev:Operand->Option V)(lq:Operand->Option Value):Prop:=
 ∀b a,ev b=some a->lq b=some (erase ρ a)/\eV Φ m a
theorem gz{Φ:Fz}{ρ:Nat->Nat}{m:Nat}{l:List (Nat×V)}{d:Fr}(b:gD Φ ρ m l d.tm):mJ Φ ρ m (CB l) (iF d):=by
 intro f e a;cases f with
 |tmp h=>exact b h e a
 |const c=>
  have a:Tw c=some e:=a;refine⟨?_,Uc a Φ m⟩;simp only[iF,Me a];rw[Mc a]
 |global n=>cases a
 |func i=>
  cases a;exact⟨by simp[iF,erase,cm],.fn (fun _ b=>by simp at b) (fun _ b=>by simp at b)⟩
variable{g:V->Prop} {s:Bool}
section
variable{C:dU} {Φ:Fz} {ρ:Nat->Nat} {σ:VS} {st:St} {m:Nat} {ev:Operand->Option V} {lq:Operand->Option Value}
theorem lK(h:mJ Φ ρ m ev lq):∀{f:List Operand} {e:List V},uj ev f=some e->lD lq f=some (cm ρ e)/\eP Φ m e:=by
 intro f;induction f with
 |nil=>intro e a;cases a;exact⟨rfl,fun _ a=>by simp at a⟩
 |cons v f i=>
  intro e a;unfold uj at a;split at a
  ·rename_i x w n l;cases a;obtain⟨t,b⟩:=h _ _ n;obtain⟨c,o⟩:=i l;refine⟨by simp only[lD,t,c,cm],fun p d=>?_⟩;rcases YM.1 d with rfl|d
   ·exact b
   ·exact o p d
  ·cases a
theorem Ah(l:mJ Φ ρ m ev lq):∀{h:List (Nat×Operand)} {f:List (Nat×V)},z7 ev h=some f->kQ lq h=some (f.map fun d=>(d.1,erase ρ d.2))/\∀d∈f,eV Φ m d.2:=by
 intro h;induction h with
 |nil=>intro f a;cases a;exact⟨rfl,fun _ a=>by simp at a⟩
 |cons d h n=>
  intro f a;obtain⟨i,d⟩:=d;unfold z7 at a;split at a
  ·rename_i y x p o;cases a;obtain⟨w,b⟩:=l _ _ p;obtain⟨c,t⟩:=n o;refine⟨by simp only[kQ,w,c,YX],fun v e=>?_⟩;rcases YM.1 e with rfl|e
   ·exact b
   ·exact t v e
  ·cases a
theorem KH{c:Type}:∀{els:List (List c)} {es kk f n:Nat} {e:List c},(∀d∈els,d.length=es)->els[kk]?=some e->f+n<=es->
  (els.flatten.drop (kk*es+f)).take n=(e.drop f).take n/\kk*es+f+n<=els.flatten.length:=by
 intro els;induction els with
 |nil=>intro es kk f n e _ a;simp at a
 |cons d els h=>
  intro es kk f n e b a l;have o:=b d sm;cases kk with
  |zero=>
   simp at a;subst a;simp only[Nat.zero_mul,Nat.zero_add,YT,YN];refine⟨?_,om⟩;rw[List.drop_append_of_le_length om,List.take_append_of_le_length (by rw[List.length_drop];omega)]
  |succ kk=>
   have:=h (fun m i=>b m (by simp[i])) (kk:=kk) (f:=f) (n:=n) (e:=e) (by simpa using a) l;simp only[YT,YN];rw[Nat.succ_mul];refine⟨?_,om⟩;rw[<-this.1,show kk*es+es+f=d.length+(kk*es+f)from om,List.drop_length_add_append]
theorem pQ{d:Type}{els:List (List d)}{es:Nat}(e:∀a∈els,a.length=es):els.flatten.length=els.length*es:=by
 induction els with
 |nil=>simp
 |cons a els b=>
  rw[YT,YN,e a sm,b fun f c=>e f (by simp[c]),YQ,Nat.succ_mul];omega
theorem vR{c:List V}(a:RG s c g)(ρ:Nat->Nat)(d:eP Φ m c):∃b,g b/\eV Φ m b/\Fi s (cm ρ c)=some (erase ρ b):=by
 cases s with
 |true=>exact⟨_,a,.agg d,by simp[Fi,erase,Y0]⟩
 |false=>
  unfold RG at a;dsimp only at a;split at a
  ·rename_i b;exact⟨b,a,d b sm,by simp[Fi,cm]⟩
  ·exact a.elim
theorem IQ{b:List V}(c:eP Φ m b)(f n:Nat):eP Φ m ((b.drop f).take n):=fun d a=>c d (Y2 (YR a))
theorem nQ(ρ:Nat->Nat)(a:List V)(f n:Nat):cm ρ ((a.drop f).take n)=((cm ρ a).drop f).take n:=by
 simp[dM,YW,List.map_drop]
theorem iw{b o n:Nat}{c:List Value}{es f p:Nat}(a:st.get b=some (.cells c es f p))(d:o+n<=c.length):fY st b o n=some ((c.drop o).take n):=by
 unfold fY;rw[a];simp only[YZ d]
theorem Gc(J:Real Φ ρ σ st){a:V}(K:eV Φ σ.length a){n:Nat}(d:OJ n s a σ g):
  ∃y b o c,g y/\eV Φ σ.length y/\erase ρ a=.pointer (some ⟨b,o,none⟩)/\fY st b o n=some c/\Fi s c=some (erase ρ y):=by
 unfold OJ at d;split at d
 ·rename_i i C;split at d
  ·rename_i E f;rw[cv]at f;obtain⟨⟨⟨p,_⟩,l,_⟩,_⟩:=J.obj i _ f rfl;obtain⟨w,h⟩:=xw _ _ _ _ d;obtain⟨y,v,x,t⟩:=vR h ρ (IQ l C n);exact⟨y,_,_,_,v,x,Z,iw p (by rw[cX];exact w),by rw[<-nQ];exact t⟩
  ·exact d.elim
 ·rename_i i es O C;split at d
  ·rename_i M els f;rw[cv]at f;split at d
   ·rename_i H;have:=YY H;subst this;obtain⟨⟨⟨R,P,p⟩,l,w,_⟩,_⟩:=J.obj i _ f rfl;obtain⟨e,h,v⟩:=d;rw[cv]at h;obtain⟨x,t⟩:=xw _ _ _ _ v;have G:e∈els:=List.mem_of_getElem? h;obtain⟨y,A,B,D⟩:=vR t ρ (IQ (w e G) C n);have F:=KH l h (f:=C) (n:=n) (by rw[<-l e G];exact x);refine⟨y,_,_,_,A,B,Z,iw p (by rw[cX];exact F.2),?_⟩;rw[<-nQ,F.1];exact D
   ·exact d.elim
  ·exact d.elim
 ·rename_i b z E;cases K with
  |fp p l w h N=>
   rename_i c e C P;obtain⟨v,x⟩:=F9 _ _ _ d;obtain⟨y,t,A,B⟩:=vR (Φ:=Φ) (m:=σ.length) x ρ (fun y L=>by
    obtain⟨Q,I,rfl⟩:=List.mem_map.1 L;exact .d (h Q (YR I)))
   refine⟨y,_,_,_,t,A,Z,iw (J.fz _ _ p) om,?_⟩;rw[<-B];have:(c.drop z).take n=((c.drop z).take E.length).take n:=by rw[List.take_take,Nat.min_eq_left v]
   rw[this,w,mc,YW]
 ·exact d.elim
theorem yk(w:Real Φ ρ σ st){t:TypeId}(f:eV Φ σ.length r)(a:KD C t r σ g):
  ∃e,g e/\eV Φ σ.length e/\vv C t (erase ρ r) st=some (.val (erase ρ e) st):=by
 unfold KD at a;split at a
 ·rename_i v d;split at a
  ·rename_i n;obtain⟨e,b,o,c,l,h,p,i,m⟩:=Gc w f a;refine⟨e,l,h,?_⟩;unfold vv;rw[d,p];simp only[n,i,m];rfl
  ·exact a.elim
 ·exact a.elim
theorem Ai(ρ:Nat->Nat)(b:Nat->Option (Nat×Nat)):∀(d:List (Nat×V)) (a:List V) (x:List V->Prop),eP Φ m a->(∀n∈d,eV Φ m n.2)->F5 b a d x->
  ∃c,x c/\eP Φ m c/\oz b (cm ρ a) (d.map fun n=>(n.1,erase ρ n.2))=some (cm ρ c):=by
 intro d;induction d with
 |nil=>intro a x l _ f;exact⟨a,f,l,rfl⟩
 |cons n d F=>
  intro a x l v f;obtain⟨i,H⟩:=n;unfold F5 at f;split at f
  ·exact f.elim
  ·rename_i w A o;split at f
   ·rename_i E;obtain⟨t,z⟩:=uT _ _ _ _ f;have G:=td (v _ (List.mem_cons_self ..));have p:eP Φ m (lay a w (dJ H)):=fun y h=>(vQ h).elim (l y) (G y);obtain⟨c,D,B,C⟩:=F _ _ p (fun y h=>v y (by simp[h])) z;refine⟨c,D,B,?_⟩;have e:=YY E;simp only[YX,oz,o,kY,cX];rw[e,Nat.beq_refl,YZ (by rw[<-e];exact t)];simp only[Bool.and_self];rw[oM _ _ _ (by rw[cX,cX];exact t),dM,dM,<-zl,<-dM];exact C
   ·exact f.elim
theorem D4{t:TypeId}{b:List (Nat×V)}(w:∀x∈b,eV Φ m x.2)(a:IH C t b g)(ρ:Nat->Nat)(st:St):
  ∃z,g z/\eV Φ m z/\rQ C t (b.map fun x=>(x.1,erase ρ x.2)) st=some (.val (erase ρ z) st):=by
 unfold IH at a;split at a
 ·rename_i D f;split at a
  ·rename_i v h;split at a
   ·rename_i y o i d;obtain⟨c,l,p,e⟩:=Ai ρ _ b y _ (nb Φ m d).1 w a;rw[hJ ρ d]at e;refine⟨_,l,.agg p,?_⟩;unfold rQ;simp only[f,h,o,i,e];simp[val,erase,Y0]
   ·exact a.elim
  ·rename_i n A h;split at a
   ·rename_i B y o i d;obtain⟨c,l,p,e⟩:=Ai ρ _ b y _ (nb Φ m d).1 w a;rw[hJ ρ d]at e;refine⟨_,l,.agg p,?_⟩;unfold rQ;simp only[f,h,o,i,e];simp[val,erase,Y0]
   ·exact a.elim
  ·exact a.elim
 ·exact a.elim
theorem yS(c:eV Φ m r)(a:xu r g)(ρ:Nat->Nat)(st:St):
  ∃b,g b/\eV Φ m b/\lE (erase ρ r) st=some (.val (erase ρ b) st):=by
 unfold xu at a;split at a<;>first|exact a.elim|exact⟨_,a,c,by simp[erase,lE,val]⟩
end
end Go.VM
