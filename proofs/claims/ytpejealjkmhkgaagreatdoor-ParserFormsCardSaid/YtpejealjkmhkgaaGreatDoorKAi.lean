/- Part of the proof. -/
import Derived.Test.YtpejealjkmhkgaaGreatDoorKAh
set_option linter.all false
set_option maxHeartbeats 16000000
set_option maxRecDepth 100000
open Bool renaming or_eq_false_iff->abK,false_or->aet,or_eq_true->aev,and_eq_true->aeM
open Nat renaming eq_of_beq_eq_true->abL,le_refl->aeu,ne_of_beq_eq_false->aeN,blt_eq->aeO,lt_or_ge->aeP
open Array renaming getElem?_toList->aeQ
open List renaming getElem?_drop->aeR
namespace Go.AM
open Go.RowKit (Below)
structure St.Alike (s t:St):Prop where
 n:s.n=t.n
 get:∀b,s.get b=t.get b
 fm:∀f,s.fm.get f=t.fm.get f
variable{j:World} {g:Ren}
theorem di.alike{w0:World}{N0:Nat}{G:Nat->Prop}{s t:St}(i:di w0 N0 G g s j)(e:St.Alike s t):di w0 N0 G g t j:=by
 refine⟨⟨fun b m d=>?_,fun b M K x L d=>?_,fun x u d=>?_⟩,i.below,i.Fi,fun b f=>?_,fun b o f=>?_,fun b o m f d=>?_,fun b v o J m H k h F C D I=>?_⟩
 ·rw[<-e.n];exact i.wf.lt b m (by rw[e.get];exact d)
 ·obtain⟨k,h⟩:=i.wf.dP b M K x L (by rw[e.get];exact d);refine⟨by rw[<-e.n];exact k,?_⟩;unfold uh at h⊢;rw[<-e.fm];exact h
 ·rw[<-e.n];exact i.wf.NN x u (by rw[e.fm];exact d)
 ·rw[<-e.n];exact i.K1 b f
 ·rw[<-e.n];exact i.xT b o f
 ·exact i.obj b o m f (by rw[e.get];exact d)
 ·exact i.sep b v o J m H k h F (by rw[e.get];exact C) (by rw[e.get];exact D) I
theorem LM{b lo hi b2:Nat}{X:fX}:∀(e:List Nat) (f d:Tr fX),b2 ∉ e->(∀o,d.get o=if o=b2 then some X else f.get o)->
  (eh b lo hi e d).2=(eh b lo hi e f).2/\∀o,(eh b lo hi e d).1.get o=if o=b2 then some X else(eh b lo hi e f).1.get o:=by
 intro e;induction e with
 |nil=>intro f d _ u;exact⟨rfl,u⟩
 |cons m e s=>
  intro f d x u;have t:m≠b2:=fun D=>x (by simp[D]);have h:b2 ∉ e:=fun D=>x (by simp[D]);have C:d.get m=f.get m:=by rw[u,if_neg t]
  unfold eh;cases F:Nat.beq m b with
  |true=>
   obtain⟨i,k⟩:=s f d h u;simp only;exact⟨by rw[i],k⟩
  |false=>
   simp only;rw[C];split
   ·split
    ·refine s _ _ h fun o=>?_;rw[cB,cB,u];by_cases v:o=m
     ·subst v;rw[if_pos rfl,if_pos rfl,if_neg t]
     ·rw[if_neg v,if_neg v]
    ·obtain⟨i,k⟩:=s f d h u;exact⟨by simp only;rw[i],k⟩
   ·obtain⟨i,k⟩:=s f d h u;exact⟨by simp only;rw[i],k⟩
theorem iD(st:St)(b:Nat)(o:fX)(d:Nat):(st.put b o).get d=if d=b then some o else st.get d:=cB _ _ _ _
theorem I3{st:St}{f b lo hi b2:Nat}{X:fX}(m:∀e,st.fm.get f=some e->b2 ∉ e):
  St.Alike ((st.put b2 X).kill f b lo hi) ((st.kill f b lo hi).put b2 X):=by
 cases d:st.fm.get f with
 |none=>
  rw[gD d,gD (st:=st.put b2 X) d];exact⟨Z,fun _=>Z,fun _=>Z⟩
 |some e=>
  rw[ik d,ik (st:=st.put b2 X) d];obtain⟨k,i⟩:=LM (b:=b) (lo:=lo) (hi:=hi) (b2:=b2) (X:=X) e st.hp (st.put b2 X).hp (m e d) (fun h=>cB _ _ _ _);refine⟨Z,fun h=>?_,fun o=>?_⟩
  ·show(eh b lo hi e (st.put b2 X).hp).1.get h=((eh b lo hi e st.hp).1.set b2 X).get h;rw[cB,i]
  ·show(st.fm.set f _).get o=(st.fm.set f _).get o;rw[cB,cB,k]
theorem St.Alike.put{s t:St}(d:St.Alike s t)(b:Nat)(o:fX):St.Alike (s.put b o) (t.put b o):=
 ⟨d.n,fun e=>by rw[iD,iD,d.get],d.fm⟩
theorem St.Alike.trans{s t f:St}(d:St.Alike s t)(e:St.Alike t f):St.Alike s f:=⟨d.n.trans e.n,fun b=>(d.get b).trans (e.get b),fun b=>(d.fm b).trans (e.fm b)⟩
theorem GH{b lo hi:Nat}:∀(f:List Nat) (e d:Tr fX),(∀s,d.get s=e.get s)->
  (eh b lo hi f d).2=(eh b lo hi f e).2/\∀s,(eh b lo hi f d).1.get s=(eh b lo hi f e).1.get s:=by
 intro f;induction f with
 |nil=>intro e d o;exact⟨rfl,o⟩
 |cons m f k=>
  intro e d o;unfold eh;cases t:Nat.beq m b with
  |true=>
   obtain⟨h,i⟩:=k e d o;simp only;exact⟨by rw[h],i⟩
  |false=>
   simp only;rw[o m];split
   ·split
    ·refine k _ _ fun s=>?_;rw[cB,cB,o]
    ·obtain⟨h,i⟩:=k e d o;exact⟨by simp only;rw[h],i⟩
   ·obtain⟨h,i⟩:=k e d o;exact⟨by simp only;rw[h],i⟩
theorem St.Alike.kill{s t:St}(h:St.Alike s t)(f b lo e:Nat):St.Alike (s.kill f b lo e) (t.kill f b lo e):=by
 cases d:t.fm.get f with
 |none=>rw[gD d,gD (by rw[h.fm];exact d)];exact h
 |some i=>
  rw[ik d,ik (st:=s) (by rw[h.fm];exact d)];obtain⟨m,k⟩:=GH (b:=b) (lo:=lo) (hi:=e) i t.hp s.hp h.get;refine⟨h.n,k,fun o=>?_⟩;show(s.fm.set f _).get o=(t.fm.set f _).get o;rw[cB,cB,m,h.fm]
variable{A l:Nat}
theorem apart_spec{st:St}(u:apart st l A=true):∃o i f1 e d m f2 f,st.get l=some (.cells o i f1 e)/\st.get A=some (.cells d m f2 f)/\l≠A/\f1≠f2/\st.fm.get f2=none/\∀b,st.fm.get f1=some b->A ∉ b:=by
 unfold apart at u;split at u
 ·rename_i o i f1 e d m f2 f D x;simp only[aeM,Bool.not_eq_true']at u;obtain⟨⟨⟨C,v⟩,t⟩,h⟩:=u;refine⟨o,i,f1,e,d,m,f2,f,D,x,aeN C,aeN v,?_,fun b s k=>?_⟩
  ·split at t
   ·assumption
   ·cases t
  ·rw[s]at h;simp only[Bool.not_eq_true',List.any_eq_false]at h;exact h A k (Nat.beq_refl _)
 ·cases u
theorem s9{st V Q J I:St}{d k:Nat}{f u:List Value}(q:apart st l A=true)(j:fY st l d f=some V)(g:fY st A k u=some Q) 
  (R:fY V A k u=some J) (H:fY Q l d f=some I):St.Alike I J:=by
 obtain⟨s,v,f1,e,t,o,f2,h,U,O,K,n,D,G⟩:=apart_spec q;obtain⟨N,a,W,X,i,_,_,rfl⟩:=kT j;rw[U]at i;cases i;obtain⟨S,M,Y,P,m,_,_,rfl⟩:=kT g;rw[O]at m;cases m;have p:(st.put A (.cells (dw t k u) o f2 h)).kill f2 A (h+k) (h+k+u.length)=st.put A (.cells (dw t k u) o f2 h):=gD D;rw[p]at H;obtain⟨N,a,W,X,i,_,_,rfl⟩:=kT H;rw[iD,if_neg K,U]at i;cases i;obtain⟨S,M,Y,P,m,_,_,rfl⟩:=kT R;have T:((st.put l (.cells (dw s d f) v f1 e)).kill f1 l (e+d) (e+d+f.length)).get A=some (.cells t o f2 h):=by
  have:=(I3 (st:=st.put l (.cells (dw s d f) v f1 e)) (f:=f1) (b:=l) (lo:=e+d) (hi:=e+d+f.length) (b2:=A) (X:=.cells t o f2 h) G).get A;rw[iD,if_pos rfl]at this;rw[<-this];have F:St.Alike (st.put l (.cells (dw s d f) v f1 e)) ((st.put l (.cells (dw s d f) v f1 e)).put A (.cells t o f2 h)):=by
   refine⟨Z,fun c=>?_,fun _=>Z⟩;rw[iD _ A,iD];by_cases C:c=A
   ·subst C;rw[if_pos rfl,if_neg (fun r=>K r.symm),O]
   ·rw[if_neg C]
  exact(F.kill _ _ _ _).get A
 rw[T]at m;cases m;have L:((st.put l (.cells (dw s d f) v f1 e)).kill f1 l (e+d) (e+d+f.length)).fm.get f2=none:=by
  unfold St.kill;split
  ·exact D
  ·show(st.fm.set f1 _).get f2=none;rw[cB,if_neg (fun r=>n r.symm)];exact D
 rw[gD (st:=St.put _ _ _) L];have F:St.Alike ((st.put A (.cells (dw t k u) o f2 h)).put l (.cells (dw s d f) v f1 e)) ((st.put l (.cells (dw s d f) v f1 e)).put A (.cells (dw t k u) o f2 h)):=by
  refine⟨Z,fun c=>?_,fun _=>Z⟩;rw[iD,iD,iD,iD];by_cases C:c=l
  ·subst C;rw[if_pos rfl,if_neg K,if_pos rfl]
  ·rw[if_neg C];by_cases x:c=A
   ·rw[if_pos x,if_pos x]
   ·rw[if_neg x,if_neg x,if_neg C]
 exact(F.kill _ _ _ _).trans (I3 G)
variable{a:Array Value} {E w:Fr} {B p:Value} {c:List Nat} {z:Ex} {q y:dW} {n:List Deferred}
section
variable{C:dR} {w0:World} {N0:Nat} {G:Nat->Prop} {fc:FC} {b:FB} {rc:Rec} {ops:Array Oper} {bs:List Nat} {m:Nat} {order:List Nat}
theorem ec(u:nQ C)(v:Fm C)(x:nX C){st i:St}{df:List Deferred}{cs:List Frame}{k:List Item}{rest:List Nat}{o:Oper}(F:ops[l]?=some o)(t:o.guard=none) 
  (H:j8 C (jy w) o st=some (.val p i)) (D:di w0 N0 G g st j) (s:gB g fc.nt w.tm a):
  ∃d h f,g.le d/\di w0 N0 G d i f/\cX d p h/\Steps C.P (lone (eg b a df (.inRegion ops (l::rest)::k)) cs j) (lone (eg b (ni a o.dst h) df (.inRegion ops rest::k)) cs f):=by
 obtain⟨d,h,f,m,e⟩:=qz u v x D (pI s) H;refine⟨d,h,f,e.le,e.world,e.value,.one (yq F ?_ (.inr (im H (by intro J I;cases I))) m)⟩;unfold Region.wanted;rw[t]
theorem adE(S:iV ops bs m order)(l:ops.size=m+3){D:Nat->Bool}(v:LG ops D c)(s:Down ops D)(Q:∀i,i<m->D i=true)(f:∀i,m<=i->D i=false)(O:jA bs (m+1) m=true):
  c=[m,m+1,m+2]∨c=[m,m+2,m+1]∨c=[m+2,m,m+1]:=by
 have step:∀{D:Nat->Bool} {c:List Nat},LG ops D c->Down ops D->(c=[]/\∀i,i<ops.size->D i=true)∨
   ∃i t,c=i::t/\i<ops.size/\D i=false/\(i=m+1->D m=true)/\LG ops (fun x=>D x||x==i) t/\Down ops (fun x=>D x||x==i):=by
  intro D c J s;cases J with
  |nil h=>exact .inl ⟨rfl,h⟩
  |@cons _ i t ah ho T K ac=>
   refine .inr ⟨i,t,Z,?_,T,?_,ac,s.add ho K⟩
   ·exact acv
   ·rintro rfl;exact s.ready S ho K O
 have e:∀{i:Nat},D i=false->m<=i:=fun{i} h=>by
  rcases aeP i m with C|C
  ·rw[Q i C]at h;cases h
  ·exact C
 rcases step v s with⟨_,b⟩|⟨i,ae,rfl,aa,I,H,V,d1⟩
 ·have:=b m om;rw[f m (aeu _)]at this;cases this
 rcases step V d1 with⟨_,b⟩|⟨M,ab,rfl,ad,o,u,W,d2⟩
 ·exfalso;have F:=b m om;have G:=b (m+1) om;simp only[f m (aeu _),f (m+1) om,aet,beq_iff_eq]at F G;omega
 rcases step W d2 with⟨_,b⟩|⟨N,w,rfl,J,d,L,R,d3⟩
 ·exfalso;have F:=b m om;have G:=b (m+1) om;have X:=b (m+2) om;simp only[f m (aeu _),f (m+1) om,f (m+2) om,aet,aev,beq_iff_eq]at F G X;omega
 have B:=e I;simp only[abK,beq_eq_false_iff_ne]at o d;have af:=e o.1;have p:=e d.1.1;simp only[f m (aeu _),aet,aev,beq_iff_eq]at u L;have a:i≠m+1:=fun ag=>by have:=H ag;rw[f m (aeu _)]at this;cases this
 rcases step R d3 with⟨rfl,_⟩|⟨ai,y,rfl,z,k,_,_,_⟩
 ·have j:(i=m/\M=m+1/\N=m+2)∨(i=m/\M=m+2/\N=m+1)∨(i=m+2/\M=m/\N=m+1):=by
   have Y:=o.2;have g:=d.2;have P:=d.1.2;by_cases U:M=m+1
   ·have:=u U;omega
   ·by_cases A:N=m+1
    ·omega
    ·omega
  rcases j with⟨rfl,rfl,rfl⟩|⟨rfl,rfl,rfl⟩|⟨rfl,rfl,rfl⟩
  ·exact .inl Z
  ·exact .inr (.inl Z)
  ·exact .inr (.inr Z)
 ·exfalso;simp only[abK,beq_eq_false_iff_ne]at k;have r:=e k.1.1.1;have Y:=o.2;have g:=d.2;have P:=d.1.2;have q:=k.2;have n:=k.1.2;have E:=k.1.1.2;omega
theorem gB.less{t d:Tr Value}(i:gB g l t a)(f:∀b e,d.get b=some e->t.get b=some e):gB g l d a:=⟨i.1,fun b e h=>i.2 b e (f b e h)⟩
theorem lI{t:TypeId}{e o:Nat}{st d:St}(b:iC C t (.pointer (some ⟨e,o,none⟩)) p st=some (.val B d)):fY st e o (cellsOf p)=some d:=by
 unfold iC at b;split at b
 ·rename_i i k m _ f;cases f;split at b
  ·split at b
   ·rename_i s h;obtain⟨_,rfl⟩:=c9 b;exact h
   ·cases b
  ·cases b
 ·cases b
theorem I4(hT:nQ C)(hF:Fm C)(hE:nX C)(p:iV ops bs m order){ao x H:Oper}(U:ops.toList.drop m=[ao,x,H]){st aa:St}(h:ID C fc ao x H w q st=some (z,E,y,aa)) 
  {D:Nat->Bool} (ah:LG ops D c) (aP:Down ops D) (aS:∀M,M<m->D M=true) (aL:∀M,m<=M->D M=false) (aE:jA bs (m+1) m=true) {df:List Deferred} (cs:List Frame) (k:List Item) (ak:di w0 N0 G g st j) (v:lz g fc w b a df):
  z=.norm/\y=q/\∃e az o,g.le e/\di w0 N0 G e aa az/\lz e fc E b o df/\Steps C.P (lone (eg b a df (.inRegion ops c::k)) cs j) (lone (eg b o df (.inRegion ops []::k)) cs az):=by
 have aq:ops.size=m+3:=by
  have:=congrArg List.length U;simp at this;omega
 have W:∀aN aF,[ao,x,H][aN]?=some aF->ops[m+aN]?=some aF:=by
  intro aN aF h;rw[<-U,aeR,aeQ]at h;exact h
 have r:ops[m]?=some ao:=W 0 ao rfl;have Vh:ops[m+1]?=some x:=W 1 x rfl;have N:ops[m+2]?=some H:=W 2 H rfl;have ag:=(p.tail m ao (aeu _) r).2.1;have XE:=(p.tail (m+1) x om Vh).2.1;have S:=(p.tail (m+2) H om N).2.1;unfold ID at h;split at h
 ·rename_i aj t1 bc ba t2 aY be X XF T ai af P;rw[abK]at P;split at h
  ·rename_i aQ aX am;split at h
   ·rename_i i aU l;have d:gV fc.nt w (some aj) aQ=some i:=l;have al:=rJ P.1 P.2 am (abL aU);subst al;split at h
    ·rename_i aI aK aG aT aJ aR ar aB aA aw;split at h
     ·cases h
     ·rename_i ax;split at h
      ·rename_i q1 aV q2 aW Q I;split at h
       ·rename_i bb aO ae;split at h
        ·cases h
        ·rename_i V;rw[aeM]at V;have:=so _ _ V.1;subst this;have Y:=rJ P.1 P.2 ae (abL V.2);subst Y;split at h
         ·rename_i q3 aM q4 aH J E5;simp only[Option.some.injEq,Prod.mk.injEq]at h;obtain⟨rfl,rfl,rfl,rfl⟩:=h;have F9:=s9 ax (lI Q) (lI I) (lI J) (lI E5);refine⟨Z,Z,?_⟩;have A1:∀s,j8 C (jy i) x s=iC C t1 (.pointer (some ⟨aI,aK,none⟩)) aG s:=by
           intro s;unfold j8;rw[ai];simp only;rw[ar,aB]
          have an:∀s,j8 C (jy ⟨w.tm.put aj none,w.df⟩) H s=iC C t2 (.pointer (some ⟨aT,aJ,none⟩)) aR s:=by
           intro s;unfold j8;rw[af];simp only;rw[aA,aw]
          have R:i=⟨w.tm.set aj aQ,w.df⟩/\aj<fc.nt:=by
           unfold gV at d;simp only at d;split at d
           ·rename_i au;cases d;exact⟨rfl,aeO.mp au⟩
           ·cases d
          have n:∀M ac,(w.tm.put aj none).get M=some ac->w.tm.get M=some ac:=by
           intro M ac t;rw[cY]at t;split at t
           ·cases t
           ·exact t
          have O:∀M ac,(w.tm.put aj none).get M=some ac->i.tm.get M=some ac:=by
           intro M ac t;rw[R.1];show(w.tm.set aj aQ).get M=some ac;rw[cY]at t;rw[cB];split at t
           ·cases t
           ·rename_i ap;rw[if_neg ap];exact t
          have fin:∀{e:Ren} {o:Array Value},g.le e->gB e fc.nt i.tm o->lz e fc i b o df:=by
           intro e o av aD;have K:=v.mono av;exact⟨K.fn,K.round,K.kind,aD,by rw[R.1];exact K.df⟩
          rcases adE p aq ah aP aS aL aE with rfl|rfl|rfl
          ·obtain⟨B,ab,ay,x6,u,L,Ch⟩:=ec (fc:=fc) (b:=b) (df:=df) (cs:=cs) (k:=k) (rest:=[m+1,m+2]) hT hF hE r ag am ak v.tm;rw[X]at Ch;have f:=(dy (v.tm.mono x6) L d).1;obtain⟨ad,A,aC,x7,hw2,F,Ci⟩:=ec (fc:=fc) (b:=b) (df:=df) (cs:=cs) (k:=k) (rest:=[m+2]) hT hF hE Vh XE ((A1 _).trans Q) u f;rw[XF]at Ci;have ht2:=f.mono x7;obtain⟨ρ3,v3',w3,zL,OX,adB,D5⟩:=ec (fc:=fc) (b:=b) (df:=df) (cs:=cs) (k:=k) (rest:=[]) hT hF hE N S ((an _).trans J) hw2 (ht2.less O);rw[T]at D5;exact⟨ρ3,w3,_,(x6.trans x7).trans zL,OX,fin ((x6.trans x7).trans zL) (ht2.mono zL),(Ch.trans Ci).trans D5⟩
          ·obtain⟨B,ab,ay,x6,u,L,Ch⟩:=ec (fc:=fc) (b:=b) (df:=df) (cs:=cs) (k:=k) (rest:=[m+2,m+1]) hT hF hE r ag am ak v.tm;rw[X]at Ch;have f:=(dy (v.tm.mono x6) L d).1;obtain⟨ad,A,aC,x7,hw2,F,Ci⟩:=ec (fc:=fc) (b:=b) (df:=df) (cs:=cs) (k:=k) (rest:=[m+1]) hT hF hE N S ((an _).trans I) u (f.less O);rw[T]at Ci;have ht2:=f.mono x7;exact Yv
          ·obtain⟨B,ab,ay,x6,u,L,Ch⟩:=ec (fc:=fc) (b:=b) (df:=df) (cs:=cs) (k:=k) (rest:=[m,m+1]) hT hF hE N S ((an _).trans I) ak (v.tm.less n);rw[T]at Ch;have f:=v.tm.mono x6;obtain⟨ad,A,aC,x7,hw2,F,Ci⟩:=ec (fc:=fc) (b:=b) (df:=df) (cs:=cs) (k:=k) (rest:=[m+1]) hT hF hE r ag ae u f;rw[X]at Ci;have ht2:=(dy (f.mono x7) F d).1;exact Yv
         ·cases h
       ·cases h
      ·cases h
    ·cases h
   ·cases h
  ·cases h
 ·cases h
theorem four:∀e,e<4->∀b,b<4->∀d,d<4->∀f,f<4->e≠1->e≠3->b≠e->(b=1->e=0)->(b=3->e=2)->d≠b->d≠e->(d=1->e=0∨b=0)->(d=3->e=2∨b=2)->f≠d->f≠b->f≠e->
  (e=0/\b=1/\d=2/\f=3)∨(e=0/\b=2/\d=1/\f=3)∨(e=0/\b=2/\d=3/\f=1)∨(e=2/\b=0/\d=1/\f=3)∨(e=2/\b=0/\d=3/\f=1)∨(e=2/\b=3/\d=0/\f=1):=by
 intro e K b M d G f I v u J s t L H i k C F D;have x:e=0∨e=2:=by clear s t i k;omega
 rcases x with rfl|rfl
 ·have m:b≠3:=fun h=>absurd (t h) dc;clear v u s t i;have m:b=1∨b=2:=by clear k;omega
  rcases m with rfl|rfl
  ·have o:d≠3:=fun h=>by rcases k h with h|h<;>cases h
   clear k;obtain rfl:d=2:=om;obtain rfl:f=3:=om;exact .inl ⟨Z,Z,Z,Z⟩
  ·clear k;have o:d=1∨d=3:=om;rcases o with rfl|rfl
   ·obtain rfl:f=3:=om;exact .inr (.inl ⟨Z,Z,Z,Z⟩)
   ·obtain rfl:f=1:=om;exact .inr (.inr (.inl ⟨Z,Z,Z,Z⟩))
 ·have m:b≠1:=fun h=>absurd (s h) dc;clear v u s t k;have m:b=0∨b=3:=by clear i;omega
  rcases m with rfl|rfl
  ·clear i;have o:d=1∨d=3:=om;rcases o with rfl|rfl
   ·obtain rfl:f=3:=om;exact .inr (.inr (.inr (.inl ⟨Z,Z,Z,Z⟩)))
   ·obtain rfl:f=1:=om;exact .inr (.inr (.inr (.inr (.inl ⟨Z,Z,Z,Z⟩))))
  ·have o:d≠1:=fun h=>by rcases i h with h|h<;>cases h
   clear i;obtain rfl:d=0:=om;obtain rfl:f=1:=om;exact .inr (.inr (.inr (.inr (.inr ⟨Z,Z,Z,Z⟩))))
theorem adF(a:iV ops bs m order)(ad:ops.size=m+4){D:Nat->Bool}(R:LG ops D c)(J:Down ops D)(w:∀i,i<m->D i=true)(N:∀i,m<=i->D i=false)(p:jA bs (m+1) m=true)(l:jA bs (m+3) (m+2)=true):
  c=[m,m+1,m+2,m+3]∨c=[m,m+2,m+1,m+3]∨c=[m,m+2,m+3,m+1]∨c=[m+2,m,m+1,m+3]∨c=[m+2,m,m+3,m+1]∨c=[m+2,m+3,m,m+1]:=by
 have step:∀{D:Nat->Bool} {c:List Nat},LG ops D c->Down ops D->(c=[]/\∀i,i<ops.size->D i=true)∨
   ∃i O,c=i::O/\i<ops.size/\D i=false/\(i=m+1->D m=true)/\(i=m+3->D (m+2)=true)/\LG ops (fun x=>D x||x==i) O/\Down ops (fun x=>D x||x==i):=by
  intro D c g J;cases g with
  |nil h=>exact .inl ⟨rfl,h⟩
  |@cons _ i O aD ho E T ay=>
   refine .inr ⟨i,O,Z,?_,E,?_,?_,ay,J.add ho T⟩
   ·exact acv
   ·rintro rfl;exact J.ready a ho T p
   ·rintro rfl;exact J.ready a ho T l
 have o:∀{i:Nat},D i=false->m<=i:=fun{i} h=>by
  rcases aeP i m with S|S
  ·rw[w i S]at h;cases h
  ·exact S
 have I:=N m (aeu _);have U:=N (m+1) om;have P:=N (m+2) om;have q:=N (m+3) om;rcases step R J with⟨_,b⟩|⟨i,az,rfl,ar,Y,X,j,aa,d1⟩
 ·have:=b m om;rw[I]at this;cases this
 have av:i≠m+1:=fun ac=>by have:=X ac;rw[I]at this;cases this
 have aw:i≠m+3:=fun ac=>by have:=j ac;rw[P]at this;cases this
 have aq:=o Y;rcases step aa d1 with⟨_,b⟩|⟨Q,ax,rfl,aA,K,t,v,ab,d2⟩
 ·exfalso;have L:=b m om;have M:=b (m+1) om;simp only[I,U,aet,beq_iff_eq]at L M;omega
 simp only[abK,beq_eq_false_iff_ne]at K;have aB:=o K.1;rcases step ab d2 with⟨_,b⟩|⟨W,am,rfl,an,H,s,u,A,d3⟩
 ·exfalso;have L:=b m om;have M:=b (m+1) om;have V:=b (m+2) om;simp only[I,U,P,aet,aev,beq_iff_eq]at L M V;omega
 simp only[abK,beq_eq_false_iff_ne]at H;have aC:=o H.1.1;rcases step A d3 with⟨_,b⟩|⟨n,ao,rfl,g,F,af,ae,B,d4⟩
 ·exfalso;have L:=b m om;have M:=b (m+1) om;have V:=b (m+2) om;have y:=b (m+3) om;simp only[I,U,P,q,aet,aev,beq_iff_eq]at L M V y;omega
 simp only[abK,beq_eq_false_iff_ne]at F;have aj:=o F.1.1.1;simp only[I,P,aet,aev,beq_iff_eq]at t v s u;have q1:=K.2;have q2:=H.2;have q3:=H.1.2;have q4:=F.2;have z:=F.1.2;have r:=F.1.1.2;obtain⟨i,rfl⟩:∃G,i=m+G:=⟨i-m,om⟩;obtain⟨Q,rfl⟩:∃G,Q=m+G:=⟨Q-m,om⟩;obtain⟨W,rfl⟩:∃G,W=m+G:=⟨W-m,om⟩;obtain⟨n,rfl⟩:∃G,n=m+G:=⟨n-m,om⟩;have d:Q=1->i=0:=fun h=>by subst h;have:=t rfl;clear t v s u;omega
 have e:Q=3->i=2:=fun h=>by subst h;have:=v rfl;clear t v s u d;omega
 have f:W=1->i=0∨Q=0:=fun h=>by subst h;have:=s rfl;clear t v s u d e;omega
 have k:W=3->i=2∨Q=2:=fun h=>by subst h;have:=u rfl;clear t v s u d e f;omega
 clear t v s u;have f1:=four i (by clear d e f k;omega) Q (by clear d e f k;omega) W (by clear d e f k;omega) n (by clear d e f k;omega) (by clear d e f k;omega) (by clear d e f k;omega) (by clear d e f k;omega) d e (by clear d e f k;omega) (by clear d e f k;omega) f k (by clear d e f k;omega) (by clear d e f k;omega) (by clear d e f k;omega);clear d e f k;rcases step B d4 with⟨rfl,_⟩|⟨aE,ai,rfl,ap,C,_,_,_,_⟩
 ·rcases f1 with⟨rfl,rfl,rfl,rfl⟩|⟨rfl,rfl,rfl,rfl⟩|⟨rfl,rfl,rfl,rfl⟩|⟨rfl,rfl,rfl,rfl⟩|⟨rfl,rfl,rfl,rfl⟩|⟨rfl,rfl,rfl,rfl⟩
  ·exact .inl Z
  ·exact .inr (.inl Z)
  ·exact .inr (.inr (.inl Z))
  ·exact .inr (.inr (.inr (.inl Z)))
  ·exact .inr (.inr (.inr (.inr (.inl Z))))
  ·exact .inr (.inr (.inr (.inr (.inr Z))))
 ·exfalso;simp only[abK,beq_eq_false_iff_ne]at C;have ak:=o C.1.1.1.1;have ah:=C.2;have au:=C.1.2;have ag:=C.1.1.2;have al:=C.1.1.1.2;clear q1 q2 q3 q4 z r;rcases f1 with⟨rfl,rfl,rfl,rfl⟩|⟨rfl,rfl,rfl,rfl⟩|⟨rfl,rfl,rfl,rfl⟩|⟨rfl,rfl,rfl,rfl⟩|⟨rfl,rfl,rfl,rfl⟩|⟨rfl,rfl,rfl,rfl⟩<;>omega
theorem CD{s:TypeId}{st e:St}(b:fI C s p l st=some (.val B e))(d:St):fI C s p l d=some (.val B d):=by
 unfold fI at b⊢;split at b
 ·split at b
  ·split at b
   ·split at b
    ·obtain⟨rfl,rfl⟩:=c9 b;rfl
    ·cases b
   ·cases b
  ·cases b
 ·cases b
theorem tb{t:Tr Value}(b:A<l):gV l ⟨t,n⟩ (some A) p=some ⟨t.set A p,n⟩:=by
 unfold gV;simp only;rw[show Nat.blt A l=true by rw[aeO];exact b]
theorem I5(hT:nQ C)(hF:Fm C)(hE:nX C)(ah:iV ops bs m order){av n f p:Oper}(af:ops.toList.drop m=[av,n,f,p]){fr an:Fr}{st ak:St}(L:IE C fc av n f p fr q st=some (z,an,y,ak)) 
  {D:Nat->Bool} (ap:LG ops D c) (aV:Down ops D) (aX:∀i,i<m->D i=true) (aQ:∀i,m<=i->D i=false) (aJ:jA bs (m+1) m=true) (aB:jA bs (m+3) (m+2)=true) {df:List Deferred} (cs:List Frame) (k:List Item) (aa:di w0 N0 G g st j) (K:lz g fc fr b a df):
  z=.norm/\y=q/\∃M aE Q,g.le M/\di w0 N0 G M ak aE/\lz M fc an b Q df/\Steps C.P (lone (eg b a df (.inRegion ops c::k)) cs j) (lone (eg b Q df (.inRegion ops []::k)) cs aE):=by
 have ax:ops.size=m+4:=by
  have:=congrArg List.length af;simp at this;omega
 have A:∀aT aK,[av,n,f,p][aT]?=some aK->ops[m+aT]?=some aK:=by
  intro aT aK L;rw[<-af,aeR,aeQ]at L;exact L
 have r:ops[m]?=some av:=A 0 av rfl;have Vh:ops[m+1]?=some n:=A 1 n rfl;have N:ops[m+2]?=some f:=A 2 f rfl;have os2:ops[m+3]?=some p:=A 3 p rfl;have B:=(ah.tail m av (aeu _) r).2.1;have XE:=(ah.tail (m+1) n om Vh).2.1;have E:=(ah.tail (m+2) f om N).2.1;have gs2:=(ah.tail (m+3) p om os2).2.1;unfold IE at L;split at L
 ·rename_i d e t1 bm bj bl bn bi t2 bh bo R XF P hd2 aq au ao ae;rw[abK]at ae;split at L
  ·cases L
  rename_i al;have al:d≠e:=aeN al;split at L
  ·rename_i v bg bp ab az;split at L
   ·rename_i vf bb aw;split at L
    ·rename_i ba x;rw[aeM,aeO,aeO]at x;have ar:=rJ ae.1 ae.2 ab (abL ba);subst ar;split at L
     ·rename_i aN aP aL aY aO aW ay aG aF aC;split at L
      ·cases L
      rename_i aD;split at L
      ·rename_i q1 be q2 bf S T;split at L
       ·rename_i bk aU am;split at L
        ·cases L
        rename_i F;rw[aeM]at F;have:=so _ _ F.1;subst this;have aj:=rJ ae.1 ae.2 am (abL F.2);subst aj;split at L
        ·rename_i q3 aR q4 aM RI E5;simp only[Option.some.injEq,Prod.mk.injEq]at L;obtain⟨rfl,rfl,rfl,rfl⟩:=L;have F9:=s9 aD (lI S) (lI T) (lI RI) (lI E5);refine⟨Z,Z,?_⟩;have A1:∀s,j8 C (jy ⟨(fr.tm.put e none).set d v,fr.df⟩) n s=iC C t1 (.pointer (some ⟨aN,aP,none⟩)) aL s:=by
          intro s;unfold j8;rw[aq];simp only;rw[ay,aG]
         have A2:∀s,j8 C (jy ⟨(fr.tm.put d none).set e vf,fr.df⟩) p s=iC C t2 (.pointer (some ⟨aY,aO,none⟩)) aW s:=by
          intro s;unfold j8;rw[ao];simp only;rw[aF,aC]
         have ac:∀s,j8 C (jy ⟨fr.tm.put d none,fr.df⟩) f s=some (.val vf s):=by
          intro s;unfold j8;rw[au];simp only;rw[az];exact CD aw s
         have aH:∀(t:Tr Value) (bc i:Nat) (u:Value),(t.put bc none).get i=some u->t.get i=some u:=by
          intro t bc i u hu;rw[cY]at hu;split at hu
          ·cases hu
          ·exact hu
         have fin:∀{M:Ren} {Q:Array Value},g.le M->gB M fc.nt ((fr.tm.set d v).set e vf) Q->lz M fc ⟨(fr.tm.set d v).set e vf,fr.df⟩ b Q df:=by
          intro M Q aA aI;have w:=K.mono aA;exact⟨w.fn,w.round,w.kind,aI,w.df⟩
         have aS:gB g fc.nt fr.tm a:=K.tm;rcases adF ah ax ap aV aX aQ aJ aB with rfl|rfl|rfl|rfl|rfl|rfl
         ·obtain⟨V,X,ag,x6,I,J,Ch⟩:=ec (fc:=fc) (b:=b) (df:=df) (cs:=cs) (k:=k) (rest:=[m+1,m+2,m+3]) hT hF hE r B ab aa (gB.less (t:=fr.tm) K.tm (fun i u hu=>by
           simp only[cY,cB]at hu⊢;by_cases hid:i=d<;>by_cases Bp:i=e<;>simp_all))
          rw[R]at Ch;have h:=(dy (fr:=⟨fr.tm,fr.df⟩) ((K.tm).mono x6) J (tb x.1)).1;obtain⟨Y,U,ai,x7,H,F,Ci⟩:=ec (fc:=fc) (b:=b) (df:=df) (cs:=cs) (k:=k) (rest:=[m+2,m+3]) hT hF hE Vh XE ((A1 _).trans S) I (gB.less (t:=(fr.tm).set d v) h (fun i u hu=>by
           simp only[cY,cB]at hu⊢;by_cases hid:i=d<;>by_cases Bp:i=e<;>simp_all))
          rw[XF]at Ci;have o:=(h).mono x7;obtain⟨W,l,ad,zL,OX,O,D5⟩:=ec (fc:=fc) (b:=b) (df:=df) (cs:=cs) (k:=k) (rest:=[m+3]) hT hF hE N E (ac _) H (gB.less (t:=(fr.tm).set d v) o (fun i u hu=>by
           simp only[cY,cB]at hu⊢;by_cases hid:i=d<;>by_cases Bp:i=e<;>simp_all))
          rw[P]at D5;have OY:=(dy (fr:=⟨(fr.tm).set d v,fr.df⟩) ((o).mono zL) O (tb x.2)).1;exact Yk
         ·obtain⟨V,X,ag,x6,I,J,Ch⟩:=ec (fc:=fc) (b:=b) (df:=df) (cs:=cs) (k:=k) (rest:=[m+2,m+1,m+3]) hT hF hE r B ab aa (gB.less (t:=fr.tm) K.tm (fun i u hu=>by
           simp only[cY,cB]at hu⊢;by_cases hid:i=d<;>by_cases Bp:i=e<;>simp_all))
          rw[R]at Ch;have h:=(dy (fr:=⟨fr.tm,fr.df⟩) ((K.tm).mono x6) J (tb x.1)).1;obtain⟨Y,U,ai,x7,H,F,Ci⟩:=ec (fc:=fc) (b:=b) (df:=df) (cs:=cs) (k:=k) (rest:=[m+1,m+3]) hT hF hE N E (ac _) I (gB.less (t:=(fr.tm).set d v) h (fun i u hu=>by
           simp only[cY,cB]at hu⊢;by_cases hid:i=d<;>by_cases Bp:i=e<;>simp_all))
          rw[P]at Ci;have o:=(dy (fr:=⟨(fr.tm).set d v,fr.df⟩) ((h).mono x7) F (tb x.2)).1;obtain⟨W,l,ad,zL,OX,O,D5⟩:=ec (fc:=fc) (b:=b) (df:=df) (cs:=cs) (k:=k) (rest:=[m+3]) hT hF hE Vh XE ((A1 _).trans S) H (gB.less (t:=((fr.tm).set d v).set e vf) o (fun i u hu=>by
           simp only[cY,cB]at hu⊢;by_cases hid:i=d<;>by_cases Bp:i=e<;>simp_all))
          rw[XF]at D5;have OY:=(o).mono zL;exact Yk
         ·obtain⟨V,X,ag,x6,I,J,Ch⟩:=ec (fc:=fc) (b:=b) (df:=df) (cs:=cs) (k:=k) (rest:=[m+2,m+3,m+1]) hT hF hE r B ab aa (gB.less (t:=fr.tm) K.tm (fun i u hu=>by
           simp only[cY,cB]at hu⊢;by_cases hid:i=d<;>by_cases Bp:i=e<;>simp_all))
          rw[R]at Ch;have h:=(dy (fr:=⟨fr.tm,fr.df⟩) ((K.tm).mono x6) J (tb x.1)).1;obtain⟨Y,U,ai,x7,H,F,Ci⟩:=ec (fc:=fc) (b:=b) (df:=df) (cs:=cs) (k:=k) (rest:=[m+3,m+1]) hT hF hE N E (ac _) I (gB.less (t:=(fr.tm).set d v) h (fun i u hu=>by
           simp only[cY,cB]at hu⊢;by_cases hid:i=d<;>by_cases Bp:i=e<;>simp_all))
          rw[P]at Ci;have o:=(dy (fr:=⟨(fr.tm).set d v,fr.df⟩) ((h).mono x7) F (tb x.2)).1;obtain⟨W,l,ad,zL,OX,O,D5⟩:=ec (fc:=fc) (b:=b) (df:=df) (cs:=cs) (k:=k) (rest:=[m+1]) hT hF hE os2 gs2 ((A2 _).trans T) H (gB.less (t:=((fr.tm).set d v).set e vf) o (fun i u hu=>by
           simp only[cY,cB]at hu⊢;by_cases hid:i=d<;>by_cases Bp:i=e<;>simp_all))
          rw[hd2]at D5;have OY:=(o).mono zL;obtain⟨ρ4,v4',w4,K7,hw4,hv4,RH⟩:=ec (fc:=fc) (b:=b) (df:=df) (cs:=cs) (k:=k) (rest:=[]) hT hF hE Vh XE ((A1 _).trans E5) OX (gB.less (t:=((fr.tm).set d v).set e vf) OY (fun i u hu=>by
           simp only[cY,cB]at hu⊢;by_cases hid:i=d<;>by_cases Bp:i=e<;>simp_all))
          rw[XF]at RH;have ht4:=(OY).mono K7;exact⟨ρ4,w4,_,((x6.trans x7).trans zL).trans K7,hw4.alike F9,fin (((x6.trans x7).trans zL).trans K7) (gB.less (t:=((fr.tm).set d v).set e vf) ht4 (fun i u hu=>by
           simp only[cY,cB]at hu⊢;by_cases hid:i=d<;>by_cases Bp:i=e<;>simp_all)),((Ch.trans Ci).trans D5).trans RH⟩
         ·obtain⟨V,X,ag,x6,I,J,Ch⟩:=ec (fc:=fc) (b:=b) (df:=df) (cs:=cs) (k:=k) (rest:=[m,m+1,m+3]) hT hF hE N E (ac _) aa (gB.less (t:=fr.tm) K.tm (fun i u hu=>by
           simp only[cY,cB]at hu⊢;by_cases hid:i=d<;>by_cases Bp:i=e<;>simp_all))
          rw[P]at Ch;have h:=(dy (fr:=⟨fr.tm,fr.df⟩) ((K.tm).mono x6) J (tb x.2)).1;obtain⟨Y,U,ai,x7,H,F,Ci⟩:=ec (fc:=fc) (b:=b) (df:=df) (cs:=cs) (k:=k) (rest:=[m+1,m+3]) hT hF hE r B ab I (gB.less (t:=(fr.tm).set e vf) h (fun i u hu=>by
           simp only[cY,cB]at hu⊢;by_cases hid:i=d<;>by_cases Bp:i=e<;>simp_all))
          rw[R]at Ci;have o:=(dy (fr:=⟨(fr.tm).set e vf,fr.df⟩) ((h).mono x7) F (tb x.1)).1;obtain⟨W,l,ad,zL,OX,O,D5⟩:=ec (fc:=fc) (b:=b) (df:=df) (cs:=cs) (k:=k) (rest:=[m+3]) hT hF hE Vh XE ((A1 _).trans S) H (gB.less (t:=((fr.tm).set e vf).set d v) o (fun i u hu=>by
           simp only[cY,cB]at hu⊢;by_cases hid:i=d<;>by_cases Bp:i=e<;>simp_all))
          rw[XF]at D5;have OY:=(o).mono zL;obtain⟨ρ4,v4',w4,K7,hw4,hv4,RH⟩:=ec (fc:=fc) (b:=b) (df:=df) (cs:=cs) (k:=k) (rest:=[]) hT hF hE os2 gs2 ((A2 _).trans RI) OX (gB.less (t:=((fr.tm).set e vf).set d v) OY (fun i u hu=>by
           simp only[cY,cB]at hu⊢;by_cases hid:i=d<;>by_cases Bp:i=e<;>simp_all))
          rw[hd2]at RH;have ht4:=(OY).mono K7;exact⟨ρ4,w4,_,((x6.trans x7).trans zL).trans K7,hw4,fin (((x6.trans x7).trans zL).trans K7) (gB.less (t:=((fr.tm).set e vf).set d v) ht4 (fun i u hu=>by
           simp only[cY,cB]at hu⊢;by_cases hid:i=d<;>by_cases Bp:i=e<;>simp_all)),((Ch.trans Ci).trans D5).trans RH⟩
         ·obtain⟨V,X,ag,x6,I,J,Ch⟩:=ec (fc:=fc) (b:=b) (df:=df) (cs:=cs) (k:=k) (rest:=[m,m+3,m+1]) hT hF hE N E (ac _) aa (gB.less (t:=fr.tm) K.tm (fun i u hu=>by
           simp only[cY,cB]at hu⊢;by_cases hid:i=d<;>by_cases Bp:i=e<;>simp_all))
          rw[P]at Ch;have h:=(dy (fr:=⟨fr.tm,fr.df⟩) ((K.tm).mono x6) J (tb x.2)).1;obtain⟨Y,U,ai,x7,H,F,Ci⟩:=ec (fc:=fc) (b:=b) (df:=df) (cs:=cs) (k:=k) (rest:=[m+3,m+1]) hT hF hE r B ab I (gB.less (t:=(fr.tm).set e vf) h (fun i u hu=>by
           simp only[cY,cB]at hu⊢;by_cases hid:i=d<;>by_cases Bp:i=e<;>simp_all))
          rw[R]at Ci;have o:=(dy (fr:=⟨(fr.tm).set e vf,fr.df⟩) ((h).mono x7) F (tb x.1)).1;obtain⟨W,l,ad,zL,OX,O,D5⟩:=ec (fc:=fc) (b:=b) (df:=df) (cs:=cs) (k:=k) (rest:=[m+1]) hT hF hE os2 gs2 ((A2 _).trans T) H (gB.less (t:=((fr.tm).set e vf).set d v) o (fun i u hu=>by
           simp only[cY,cB]at hu⊢;by_cases hid:i=d<;>by_cases Bp:i=e<;>simp_all))
          rw[hd2]at D5;have OY:=(o).mono zL;exact Yi
         ·obtain⟨V,X,ag,x6,I,J,Ch⟩:=ec (fc:=fc) (b:=b) (df:=df) (cs:=cs) (k:=k) (rest:=[m+3,m,m+1]) hT hF hE N E (ac _) aa (gB.less (t:=fr.tm) K.tm (fun i u hu=>by
           simp only[cY,cB]at hu⊢;by_cases hid:i=d<;>by_cases Bp:i=e<;>simp_all))
          rw[P]at Ch;have h:=(dy (fr:=⟨fr.tm,fr.df⟩) ((K.tm).mono x6) J (tb x.2)).1;obtain⟨Y,U,ai,x7,H,F,Ci⟩:=ec (fc:=fc) (b:=b) (df:=df) (cs:=cs) (k:=k) (rest:=[m,m+1]) hT hF hE os2 gs2 ((A2 _).trans T) I (gB.less (t:=(fr.tm).set e vf) h (fun i u hu=>by
           simp only[cY,cB]at hu⊢;by_cases hid:i=d<;>by_cases Bp:i=e<;>simp_all))
          rw[hd2]at Ci;have o:=(h).mono x7;obtain⟨W,l,ad,zL,OX,O,D5⟩:=ec (fc:=fc) (b:=b) (df:=df) (cs:=cs) (k:=k) (rest:=[m+1]) hT hF hE r B am H (gB.less (t:=(fr.tm).set e vf) o (fun i u hu=>by
           simp only[cY,cB]at hu⊢;by_cases hid:i=d<;>by_cases Bp:i=e<;>simp_all))
          rw[R]at D5;have OY:=(dy (fr:=⟨(fr.tm).set e vf,fr.df⟩) ((o).mono zL) O (tb x.1)).1;exact Yi
        ·cases L
       ·cases L
      ·cases L
     ·cases L
    ·cases L
   ·cases L
  ·cases L
 ·cases L
end
variable{r:List Frame}
section
variable{C:dR} {w0:World} {N0:Nat} {G:Nat->Prop} {fc:FC} {b:FB} {rc:Rec}
theorem il.of_steps{d:Ren}{k m:Machine}{o:List Item}{f:dW}{i:List Frame}{e:St}(hle:g.le d)(DY:pH q y r i)(xS:Steps C.P k m)(h:il C w0 N0 G d fc m b o y i z w f e):il C w0 N0 G g fc k b o q r z w f e:=by
 exact Zu
theorem GI(F:nQ C)(H:Fm C)(I:nX C)(V:C.P.follows .mixedOrders=true)(ah:∀G,wH C w0 N0 G rc){id:Nat}{ops:Array Oper}{e:Bool}(D:e=true->Gm ops.toList=true){st i:St}(d:region C rc fc ops e w q st=some (z,E,y,i))(s:List Item)(ab:di w0 N0 G g st j)(A:lz g fc w b a n)(ae:uv g fc.DZ q r):
  il C w0 N0 G g fc (lone (eg b a n (.code (.region id ops e)::s)) r j) b s q r z E y i:=by
 cases e with
 |false=>
  have:=GA (fc:=fc) (b:=b) F H I (ah G) (ops:=ops) s ops.toList 0 w q st g j a n r z E y i rfl d ab A ae;exact .of_steps (Ren.le_refl _) (.refl _ _) (.one Pw) this
 |true=>
  have o:=I0 (D rfl);unfold region at d;simp only at d;have S:=GB (ops:=ops) o.back (j.tape j.drawn (.order b.fn id));have NI:=Cy (P:=C.P) (b:=b) (tm:=a) (df:=n) (k:=s) (cs:=r) (w:=j) (id:=id) (ops:=ops);rw[V]at NI;have R:Inv w0 N0 G ops (rH ops.toList).bs (rH ops.toList).m fc b (fun _=>false) [] 0 [] w q st g {j with drawn:=j.drawn+1} a n r:=by
   refine⟨⟨fun t d=>by simp at d,fun t ax d=>by simp at d⟩,fun t d=>by simp at d,fun t d=>by simp at d,fun t d=>by simp at d,fun aA d=>by simp at d,fun t ai au P d=>by simp at d,fun t ai au P aD aB av d=>by simp at d,fun az d=>by simp at d,fun az d=>by simp at d,fun t ai au P d=>by simp at d,?_,?_,ae⟩
   ·refine(ab.drewN _).wJ ?_;rintro z (aj|⟨aA,ai,P,u,_⟩)
    ·exact aj
    ·simp at u
   ·have:oM w (gg ops (fun _=>false) [])=w:=rfl;rw[this];exact A
  cases v:eM C rc fc ops.toList (rH ops.toList).bs (rH ops.toList).order 0 [] w q st with
  |none=>rw[v]at d;cases d
  |some M=>
   have h:=LL (C:=C) (rc:=rc) F H I ah o s S [] (rH ops.toList).order 0 [] w q st g _ a n r M rfl v (fun _ _=>rfl) R;rw[v]at d;obtain⟨J,N,L,O⟩:=M;have f:(∀ao,J=ao->ao≠.norm->some (J,N,L,O)=some (z,E,y,i)->il C w0 N0 G g fc (lone (eg b a n (.inRegion ops (Region.schedule true ops (j.tape j.drawn (.order b.fn id)))::s)) r {j with drawn:=j.drawn+1}) b s q r J N L O->il C w0 N0 G g fc (lone (eg b a n (.code (.region id ops true)::s)) r j) b s q r z E y i):=by
    intro ao _ _ ac ak;cases ac;exact .of_steps (Ren.le_refl _) (.refl _ _) (.one NI) ak
   cases J with
   |exit t=>exact f _ rfl (by intro c;cases c) d h
   |ret=>exact f _ rfl (by intro c;cases c) d h
   |panic ai=>exact f _ rfl (by intro c;cases c) d h
   |norm=>
    obtain⟨aC,am,p,aq,ad,Rw,cs',W,aa,Q,h4,T,X,h7,h8,ag⟩:=h;simp only at d;split at d
    ·rename_i u;have u:=abL u;simp only[Option.some.injEq,Prod.mk.injEq]at d;obtain⟨rfl,rfl,rfl,rfl⟩:=d;have an:am=[]:=by
      cases W with
      |nil _=>rfl
      |@cons _ t aF ax Y af ac aH=>
       exfalso;have l:t<ops.size:=by
        rcases aeP t ops.size with U|U
        ·exact U
        ·rw[Array.getElem?_eq_none U]at Y;cases Y
       rw[Q t (by rw[u];simpa using l)]at af;cases af
     subst an;exact⟨p,aq,ad,Rw,cs',h4,T,X,h7,(Steps.head NI h8).trans (.one re)⟩
    ·split at d
     ·rename_i aw ap ar al m x;split at d
      ·rename_i k;obtain⟨rfl,rfl,Vz,w2,tm2,acw,hw2,hf2,hs2⟩:=I4 (C:=C) F H I o m d W aa Q ag (by unfold jA;rw[x];exact k) cs' s T X;exact abZ
      ·cases d
     ·rename_i aw ap aE ar al m x;split at d
      ·rename_i ay k B;split at d
       ·rename_i K;obtain⟨rfl,rfl,Vz,w2,tm2,acw,hw2,hf2,hs2⟩:=I5 (C:=C) F H I o m d W aa Q ag (by unfold jA;rw[x];exact k) (by unfold jA;rw[B];exact K) cs' s T X;exact abZ
       ·cases d
      ·cases d
     ·cases d
end
end Go.AM
