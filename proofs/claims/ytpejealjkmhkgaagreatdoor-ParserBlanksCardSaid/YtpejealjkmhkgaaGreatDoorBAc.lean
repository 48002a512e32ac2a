/- Part of the proof. -/
import Derived.Test.YtpejealjkmhkgaaGreatDoorBAb
import Derived.RangeFuncNested
import Derived.Lib.Bytealg
import Derived.Lib.IndexMore
import Derived.Shelf.Strings.Builder1
set_option linter.all false
set_option maxHeartbeats 16000000
set_option maxRecDepth 100000
open Nat renaming eq_of_beq_eq_true->agj,le_refl->agm,beq->agn,ne_of_beq_eq_false->ago,lt_succ_of_lt->agq,lt_or_ge->agt,one_pos->agw,blt_eq->agx,le_of_ble_eq_true->agy,mul_add->agA
open Bool renaming and_eq_true->agk,or_eq_false_iff->agl,false_or->agp,or_eq_true->agr,eq_iff_iff->agu
open Array renaming getElem?_eq_none->ags,getElem?_modify->agv,getElem?_toList->agz,toList_append->agC
open List renaming length->agB,getElem?_drop->agD
namespace Go.AM
open Go.RowKit (Below)
structure St.Alike (s t:St):Prop where
 n:s.n=t.n
 get:∀b,s.get b=t.get b
 fm:∀f,s.fm.get f=t.fm.get f
theorem di.alike{w0:World}{N0:Nat}{G:Nat->Prop}{ρ:Ren}{D t:St}{w:World}(e:di w0 N0 G ρ D w)(d:St.Alike D t):di w0 N0 G ρ t w:=by
 refine⟨⟨fun b i a=>?_,fun b c C o F a=>?_,fun o m a=>?_,by rw[<-d.n];exact e.wf.pos,fun i a=>e.wf.zro i (by rw[d.get];exact a)⟩,e.below,e.Fi,fun b g=>?_,fun b k g=>?_,fun b k i g a=>?_,fun b n k l i u h f s p r x=>?_,e.j2.H0 e.sep (fun _=>False) (fun b k d=>(e.xT _ _ d).2.2) (agm _) (fun _ _ _=>Z) (fun _ v=>v.elim) (fun _ _ d=>.inl d) (fun b l P C T h f=>⟨h,by rw[d.get];exact f⟩)⟩
 ·rw[<-d.n];exact e.wf.lt b i (by rw[d.get];exact a)
 ·obtain⟨h,f⟩:=e.wf.dP b c C o F (by rw[d.get];exact a);refine⟨by rw[<-d.n];exact h,?_⟩;unfold uh at f⊢;rw[<-d.fm];exact f
 ·rw[<-d.n];exact e.wf.NN o m (by rw[d.fm];exact a)
 ·rw[<-d.n];exact e.K1 b g
 ·rw[<-d.n];exact e.xT b k g
 ·exact e.obj b k i g (by rw[d.get];exact a)
 ·exact e.sep b n k l i u h f s (by rw[d.get];exact p) (by rw[d.get];exact r) x
theorem LM{b lo hi b2:Nat}{X:fX}:∀(c:List Nat) (d a:Tr fX),b2 ∉ c->(∀h,a.get h=if h=b2 then some X else d.get h)->
  (eh b lo hi c a).2=(eh b lo hi c d).2/\∀h,(eh b lo hi c a).1.get h=if h=b2 then some X else(eh b lo hi c d).1.get h:=by
 intro c;induction c with
 |nil=>intro d a _ l;exact⟨rfl,l⟩
 |cons m c i=>
  intro d a o l;have k:m≠b2:=fun r=>o (by simp[r]);have e:b2 ∉ c:=fun r=>o (by simp[r]);have p:a.get m=d.get m:=by rw[l,if_neg k]
  unfold eh;cases s:agn m b with
  |true=>
   obtain⟨f,g⟩:=i d a e l;simp only;exact⟨by rw[f],g⟩
  |false=>
   simp only;rw[p];split
   ·split
    ·refine i _ _ e fun h=>?_;rw[cB,cB,l];by_cases n:h=m
     ·subst n;rw[if_pos rfl,if_pos rfl,if_neg k]
     ·rw[if_neg n,if_neg n]
    ·obtain⟨f,g⟩:=i d a e l;exact⟨by simp only;rw[f],g⟩
   ·obtain⟨f,g⟩:=i d a e l;exact⟨by simp only;rw[f],g⟩
theorem iD(st:St)(b:Nat)(o:fX)(a:Nat):(st.put b o).get a=if a=b then some o else st.get a:=cB _ _ _ _
theorem I3{st:St}{f b lo hi b2:Nat}{X:fX}(h:∀c,st.fm.get f=some c->b2 ∉ c):
  St.Alike ((st.put b2 X).kill f b lo hi) ((st.kill f b lo hi).put b2 X):=by
 cases a:st.fm.get f with
 |none=>
  rw[gD a,gD (st:=st.put b2 X) a];exact⟨Z,fun _=>Z,fun _=>Z⟩
 |some c=>
  rw[ik a,ik (st:=st.put b2 X) a];obtain⟨g,e⟩:=LM (b:=b) (lo:=lo) (hi:=hi) (b2:=b2) (X:=X) c st.hp (st.put b2 X).hp (h c a) (fun d=>cB _ _ _ _);refine⟨Z,fun d=>?_,fun i=>?_⟩
  ·show(eh b lo hi c (st.put b2 X).hp).1.get d=((eh b lo hi c st.hp).1.set b2 X).get d;rw[cB,e]
  ·show(st.fm.set f _).get i=(st.fm.set f _).get i;rw[cB,cB,g]
theorem St.Alike.put{c t:St}(a:St.Alike c t)(b:Nat)(o:fX):St.Alike (c.put b o) (t.put b o):=
 ⟨a.n,fun d=>by rw[iD,iD,a.get],a.fm⟩
theorem St.Alike.trans{d t c:St}(b:St.Alike d t)(k:St.Alike t c):St.Alike d c:=⟨b.n.trans k.n,fun a=>(b.get a).trans (k.get a),fun a=>(b.fm a).trans (k.fm a)⟩
theorem GH{b lo hi:Nat}:∀(d:List Nat) (c a:Tr fX),(∀i,a.get i=c.get i)->
  (eh b lo hi d a).2=(eh b lo hi d c).2/\∀i,(eh b lo hi d a).1.get i=(eh b lo hi d c).1.get i:=by
 intro d;induction d with
 |nil=>intro c a h;exact⟨rfl,h⟩
 |cons m d g=>
  intro c a h;unfold eh;cases k:agn m b with
  |true=>
   obtain⟨e,f⟩:=g c a h;simp only;exact⟨by rw[e],f⟩
  |false=>
   simp only;rw[h m];split
   ·split
    ·refine g _ _ fun i=>?_;rw[cB,cB,h]
    ·obtain⟨e,f⟩:=g c a h;exact⟨by simp only;rw[e],f⟩
   ·obtain⟨e,f⟩:=g c a h;exact⟨by simp only;rw[e],f⟩
theorem St.Alike.kill{s t:St}(d:St.Alike s t)(f b lo c:Nat):St.Alike (s.kill f b lo c) (t.kill f b lo c):=by
 cases a:t.fm.get f with
 |none=>rw[gD a,gD (by rw[d.fm];exact a)];exact d
 |some e=>
  rw[ik a,ik (st:=s) (by rw[d.fm];exact a)];obtain⟨h,g⟩:=GH (b:=b) (lo:=lo) (hi:=c) e t.hp s.hp d.get;refine⟨d.n,g,fun i=>?_⟩;show(s.fm.set f _).get i=(t.fm.set f _).get i;rw[cB,cB,h,d.fm]
variable{A U:Nat}
theorem apart_spec{st:St}(m:apart st A U=true):∃i f f1 c b h f2 d,st.get A=some (.cells i f f1 c)/\st.get U=some (.cells b h f2 d)/\A≠U/\f1≠f2/\st.fm.get f2=none/\∀a,st.fm.get f1=some a->U ∉ a:=by
 unfold apart at m;split at m
 ·rename_i i f f1 c b h f2 d r o;simp only[agk,Bool.not_eq_true']at m;obtain⟨⟨⟨p,n⟩,l⟩,e⟩:=m;refine⟨i,f,f1,c,b,h,f2,d,r,o,ago p,ago n,?_,fun a k g=>?_⟩
  ·split at l
   ·assumption
   ·cases l
  ·rw[k]at e;simp only[Bool.not_eq_true',List.any_eq_false]at e;exact e U g (Nat.beq_refl _)
 ·cases m
variable{q:List Value}
theorem s9{st j P v u:St}{a f:Nat}{l:List Value}(M:apart st A U=true)(J:fY st A a q=some j)(I:fY st U f l=some P) 
  (T:fY j U f l=some v) (t:fY P A a q=some u):St.Alike u v:=by
 obtain⟨i,m,f1,c,k,h,f2,d,Y,F,w,K,p,s⟩:=apart_spec M;obtain⟨D,E,y,z,e,_,_,_,rfl⟩:=kT J;rw[Y]at e;cases e;obtain⟨W,C,B,G,g,_,_,_,rfl⟩:=kT I;rw[F]at g;cases g;have L:(st.put U (.cells (dw k f l) h f2 d)).kill f2 U (d+f) (d+f+l.length)=st.put U (.cells (dw k f l) h f2 d):=gD p;rw[L]at t;obtain⟨D,E,y,z,e,_,_,_,rfl⟩:=kT t;rw[iD,if_neg w,Y]at e;cases e;obtain⟨W,C,B,G,g,_,_,_,rfl⟩:=kT T;have X:((st.put A (.cells (dw i a q) m f1 c)).kill f1 A (c+a) (c+a+q.length)).get U=some (.cells k h f2 d):=by
  have:=(I3 (st:=st.put A (.cells (dw i a q) m f1 c)) (f:=f1) (b:=A) (lo:=c+a) (hi:=c+a+q.length) (b2:=U) (X:=.cells k h f2 d) s).get U;rw[iD,if_pos rfl]at this;rw[<-this];have r:St.Alike (st.put A (.cells (dw i a q) m f1 c)) ((st.put A (.cells (dw i a q) m f1 c)).put U (.cells k h f2 d)):=by
   refine⟨Z,fun H=>?_,fun _=>Z⟩;rw[iD _ U,iD];by_cases o:H=U
   ·subst o;rw[if_pos rfl,if_neg (fun N=>w N.symm),F]
   ·rw[if_neg o]
  exact(r.kill _ _ _ _).get U
 rw[X]at g;cases g;have x:((st.put A (.cells (dw i a q) m f1 c)).kill f1 A (c+a) (c+a+q.length)).fm.get f2=none:=by
  unfold St.kill;split
  ·exact p
  ·show(st.fm.set f1 _).get f2=none;rw[cB,if_neg (fun N=>K N.symm)];exact p
 rw[gD (st:=St.put _ _ _) x];have r:St.Alike ((st.put U (.cells (dw k f l) h f2 d)).put A (.cells (dw i a q) m f1 c)) ((st.put A (.cells (dw i a q) m f1 c)).put U (.cells (dw k f l) h f2 d)):=by
  refine⟨Z,fun H=>?_,fun _=>Z⟩;rw[iD,iD,iD,iD];by_cases o:H=A
  ·subst o;rw[if_pos rfl,if_neg w,if_pos rfl]
  ·rw[if_neg o];by_cases n:H=U
   ·rw[if_pos n,if_pos n]
   ·rw[if_neg n,if_neg n,if_neg o]
 exact(r.kill _ _ _ _).trans (I3 s)
variable{K V:Fr} {O j:Value} {E:List Nat} {L:Ex} {J z:dW}
section
variable{C:dR} {w0:World} {N0:Nat} {G:Nat->Prop} {fc:FC} {b:FB} {rc:Rec} {ops:Array Oper} {bs:List Nat} {m:Nat} {order:List Nat}
theorem ec(l:nQ C)(m:Fm C)(n:nX C){ρ:Ren}{st f:St}{w:World}{tm:Array Value}{df:List Deferred}{cs:List Frame}{k:List Item}{rest:List Nat}{o:Oper}(r:ops[A]?=some o)(i:o.guard=none) 
  (s:j8 C (jy K) o st=some (.val j f)) (p:di w0 N0 G ρ st w) (h:gB ρ fc.nt K.tm tm):
  ∃a e d,ρ.le a/\di w0 N0 G a f d/\cX a j e/\Steps C.P (lone (eg b tm df (.inRegion ops (A::rest)::k)) cs w) (lone (eg b (ni tm o.dst e) df (.inRegion ops rest::k)) cs d):=by
 obtain⟨a,e,d,g,c⟩:=qz l m n p (pI h) s;refine⟨a,e,d,c.le,c.world,c.value,.one (yq r ?_ (.inr (im s (by intro u t;cases t))) g)⟩;unfold Region.wanted;rw[i]
theorem adE(X:iV ops bs m order)(J:ops.size=m+3){D:Nat->Bool}(n:LG ops D E)(g:Down ops D)(T:∀i,i<m->D i=true)(d:∀i,m<=i->D i=false)(G:jA bs (m+1) m=true):
  E=[m,m+1,m+2]∨E=[m,m+2,m+1]∨E=[m+2,m,m+1]:=by
 have step:∀{D:Nat->Bool} {E:List Nat},LG ops D E->Down ops D->(E=[]/\∀i,i<ops.size->D i=true)∨
   ∃i k,E=i::k/\i<ops.size/\D i=false/\(i=m+1->D m=true)/\LG ops (fun x=>D x||x==i) k/\Down ops (fun x=>D x||x==i):=by
  intro D E u g;cases u with
  |nil h=>exact .inl ⟨rfl,h⟩
  |@cons _ i k ah ho Y v ac=>
   refine .inr ⟨i,k,Z,?_,Y,?_,ac,g.add ho v⟩
   ·exact acv
   ·rintro rfl;exact g.ready X ho v G
 have c:∀{i:Nat},D i=false->m<=i:=fun{i} h=>by
  rcases agt i m with o|o
  ·rw[T i o]at h;cases h
  ·exact o
 rcases step n g with⟨_,a⟩|⟨i,ae,rfl,aa,t,s,q,d1⟩
 ·have:=a m om;rw[d m (agm _)]at this;cases this
 rcases step q d1 with⟨_,a⟩|⟨C,ab,rfl,ad,f,l,y,d2⟩
 ·exfalso;have p:=a m om;have r:=a (m+1) om;simp only[d m (agm _),d (m+1) om,agp,beq_iff_eq]at p r;omega
 rcases step y d2 with⟨_,a⟩|⟨F,O,rfl,u,b,w,W,d3⟩
 ·exfalso;have p:=a m om;have r:=a (m+1) om;have z:=a (m+2) om;simp only[d m (agm _),d (m+1) om,d (m+2) om,agp,agr,beq_iff_eq]at p r z;omega
 have U:=c t;simp only[agl,beq_eq_false_iff_ne]at f b;have af:=c f.1;have L:=c b.1.1;simp only[d m (agm _),agp,agr,beq_iff_eq]at l w;have B:i≠m+1:=fun ag=>by have:=s ag;rw[d m (agm _)]at this;cases this
 rcases step W d3 with⟨rfl,_⟩|⟨ai,Q,rfl,R,e,_,_,_⟩
 ·have I:(i=m/\C=m+1/\F=m+2)∨(i=m/\C=m+2/\F=m+1)∨(i=m+2/\C=m/\F=m+1):=by
   have A:=f.2;have H:=b.2;have P:=b.1.2;by_cases j:C=m+1
   ·have:=l j;omega
   ·by_cases S:F=m+1
    ·omega
    ·omega
  rcases I with⟨rfl,rfl,rfl⟩|⟨rfl,rfl,rfl⟩|⟨rfl,rfl,rfl⟩
  ·exact .inl Z
  ·exact .inr (.inl Z)
  ·exact .inr (.inr Z)
 ·exfalso;simp only[agl,beq_eq_false_iff_ne]at e;have N:=c e.1.1.1;have A:=f.2;have H:=b.2;have P:=b.1.2;have M:=e.2;have K:=e.1.2;have V:=e.1.1.2;omega
theorem gB.less{ρ:Ren}{t b:Tr Value}{tm:Array Value}(f:gB ρ A t tm)(d:∀a c,b.get a=some c->t.get a=some c):gB ρ A b tm:=⟨f.1,fun a c e=>f.2 a c (d a c e)⟩
theorem lI{t:TypeId}{c o:Nat}{st b:St}(a:iC C t (.pointer (some ⟨c,o,none⟩)) j st=some (.val O b)):fY st c o (cellsOf j)=some b:=by
 unfold iC at a;split at a
 ·rename_i f g h _ d;cases d;split at a
  ·split at a
   ·rename_i s e;obtain⟨_,rfl⟩:=c9 a;exact e
   ·cases a
  ·cases a
 ·cases a
theorem I4(hT:nQ C)(hF:Fm C)(hE:nX C)(N:iV ops bs m order){am n p:Oper}(q:ops.toList.drop m=[am,n,p]){st S:St}(e:ID C fc am n p K z st=some (L,V,J,S)) 
  {D:Nat->Bool} (af:LG ops D E) (aM:Down ops D) (aP:∀x,x<m->D x=true) (aI:∀x,m<=x->D x=false) (aB:jA bs (m+1) m=true)
  {ρ:Ren} {w:World} {tm:Array Value} {df:List Deferred} (cs:List Frame) (k:List Item) (ai:di w0 N0 G ρ st w) (l:lz ρ fc K b tm df):
  L=.norm/\J=z/\∃c aw g,ρ.le c/\di w0 N0 G c S aw/\lz c fc V b g df/\Steps C.P (lone (eg b tm df (.inRegion ops E::k)) cs w) (lone (eg b g df (.inRegion ops []::k)) cs aw):=by
 have ao:ops.size=m+3:=by
  have:=congrArg agB q;simp at this;omega
 have A:∀aK aC,[am,n,p][aK]?=some aC->ops[m+aK]?=some aC:=by
  intro aK aC e;rw[<-q,agD,agz]at e;exact e
 have O:ops[m]?=some am:=A 0 am rfl;have Vh:ops[m+1]?=some n:=A 1 n rfl;have F:ops[m+2]?=some p:=A 2 p rfl;have ae:=(N.tail m am (agm _) O).2.1;have XE:=(N.tail (m+1) n om Vh).2.1;have Y:=(N.tail (m+2) p om F).2.1;unfold ID at e;split at e
 ·rename_i ah t1 aY aW t2 aV ba B XF j ag ad T;rw[agl]at T;split at e
  ·rename_i aN aU ak;split at e
   ·rename_i f aR I;have a:gV fc.nt K (some ah) aN=some f:=I;have aj:=rJ T.1 T.2 ak (agj aR);subst aj;split at e
    ·rename_i aF aH aD aQ aG aO ap ay ax au;split at e
     ·cases e
     ·rename_i av;split at e
      ·rename_i q1 aS q2 aT W r;split at e
       ·rename_i aX aL ac;split at e
        ·cases e
        ·rename_i y;rw[agk]at y;have:=so _ _ y.1;subst this;have H:=rJ T.1 T.2 ac (agj y.2);subst H;split at e
         ·rename_i q3 aJ q4 aE t E5;simp only[Option.some.injEq,Prod.mk.injEq]at e;obtain⟨rfl,rfl,rfl,rfl⟩:=e;have F9:=s9 av (lI W) (lI r) (lI t) (lI E5);refine⟨Z,Z,?_⟩;have A1:∀s,j8 C (jy f) n s=iC C t1 (.pointer (some ⟨aF,aH,none⟩)) aD s:=by
           intro s;unfold j8;rw[ag];simp only;rw[ap,ay]
          have al:∀s,j8 C (jy ⟨K.tm.put ah none,K.df⟩) p s=iC C t2 (.pointer (some ⟨aQ,aG,none⟩)) aO s:=by
           intro s;unfold j8;rw[ad];simp only;rw[ax,au]
          have X:f=⟨K.tm.set ah aN,K.df⟩/\ah<fc.nt:=by
           unfold gV at a;simp only at a;split at a
           ·rename_i aq;cases a;exact⟨rfl,agx.mp aq⟩
           ·cases a
          have M:∀x aa,(K.tm.put ah none).get x=some aa->K.tm.get x=some aa:=by
           intro x aa h;rw[cY]at h;split at h
           ·cases h
           ·exact h
          have P:∀x aa,(K.tm.put ah none).get x=some aa->f.tm.get x=some aa:=by
           intro x aa h;rw[X.1];show(K.tm.set ah aN).get x=some aa;rw[cY]at h;rw[cB];split at h
           ·cases h
           ·rename_i an;rw[if_neg an];exact h
          have fin:∀{c:Ren} {g:Array Value},ρ.le c->gB c fc.nt f.tm g->lz c fc f b g df:=by
           intro c g ar aA;have u:=l.mono ar;exact⟨u.fn,u.round,u.kind,aA,by rw[X.1];exact u.df⟩
          rcases adE N ao af aM aP aI aB with rfl|rfl|rfl
          ·obtain⟨R,U,w1,x6,i,v,Ch⟩:=ec (fc:=fc) (b:=b) (df:=df) (cs:=cs) (k:=k) (rest:=[m+1,m+2]) hT hF hE O ae ak ai l.tm;rw[B]at Ch;have d:=(dy (l.tm.mono x6) v a).1;obtain⟨ab,Q,az,x7,hw2,o,Ci⟩:=ec (fc:=fc) (b:=b) (df:=df) (cs:=cs) (k:=k) (rest:=[m+2]) hT hF hE Vh XE ((A1 _).trans W) i d;rw[XF]at Ci;have ht2:=d.mono x7;obtain⟨ρ3,v3',w3,zL,OX,adB,D5⟩:=ec (fc:=fc) (b:=b) (df:=df) (cs:=cs) (k:=k) (rest:=[]) hT hF hE F Y ((al _).trans t) hw2 (ht2.less P);rw[j]at D5;exact⟨ρ3,w3,_,(x6.trans x7).trans zL,OX,fin ((x6.trans x7).trans zL) (ht2.mono zL),(Ch.trans Ci).trans D5⟩
          ·obtain⟨R,U,w1,x6,i,v,Ch⟩:=ec (fc:=fc) (b:=b) (df:=df) (cs:=cs) (k:=k) (rest:=[m+2,m+1]) hT hF hE O ae ak ai l.tm;rw[B]at Ch;have d:=(dy (l.tm.mono x6) v a).1;obtain⟨ab,Q,az,x7,hw2,o,Ci⟩:=ec (fc:=fc) (b:=b) (df:=df) (cs:=cs) (k:=k) (rest:=[m+1]) hT hF hE F Y ((al _).trans r) i (d.less P);rw[j]at Ci;have ht2:=d.mono x7;exact Yv
          ·obtain⟨R,U,w1,x6,i,v,Ch⟩:=ec (fc:=fc) (b:=b) (df:=df) (cs:=cs) (k:=k) (rest:=[m,m+1]) hT hF hE F Y ((al _).trans r) ai (l.tm.less M);rw[j]at Ch;have d:=l.tm.mono x6;obtain⟨ab,Q,az,x7,hw2,o,Ci⟩:=ec (fc:=fc) (b:=b) (df:=df) (cs:=cs) (k:=k) (rest:=[m+1]) hT hF hE O ae ac i d;rw[B]at Ci;have ht2:=(dy (d.mono x7) o a).1;exact Yv
         ·cases e
       ·cases e
      ·cases e
    ·cases e
   ·cases e
  ·cases e
 ·cases e
theorem four:∀b,b<4->∀a,a<4->∀k,k<4->∀c,c<4->b≠1->b≠3->a≠b->(a=1->b=0)->(a=3->b=2)->k≠a->k≠b->(k=1->b=0∨a=0)->(k=3->b=2∨a=2)->c≠k->c≠a->c≠b->
  (b=0/\a=1/\k=2/\c=3)∨(b=0/\a=2/\k=1/\c=3)∨(b=0/\a=2/\k=3/\c=1)∨(b=2/\a=0/\k=1/\c=3)∨(b=2/\a=0/\k=3/\c=1)∨(b=2/\a=3/\k=0/\c=1):=by
 intro b x a D k t c v n m w i l C u d e p s r;have o:b=0∨b=2:=by clear i l d e;omega
 rcases o with rfl|rfl
 ·have f:a≠3:=fun h=>absurd (l h) dc;clear n m i l d;have f:a=1∨a=2:=by clear e;omega
  rcases f with rfl|rfl
  ·have g:k≠3:=fun h=>by rcases e h with h|h<;>cases h
   clear e;obtain rfl:k=2:=om;obtain rfl:c=3:=om;exact .inl ⟨Z,Z,Z,Z⟩
  ·clear e;have g:k=1∨k=3:=om;rcases g with rfl|rfl
   ·obtain rfl:c=3:=om;exact .inr (.inl ⟨Z,Z,Z,Z⟩)
   ·obtain rfl:c=1:=om;exact .inr (.inr (.inl ⟨Z,Z,Z,Z⟩))
 ·have f:a≠1:=fun h=>absurd (i h) dc;clear n m i l e;have f:a=0∨a=3:=by clear d;omega
  rcases f with rfl|rfl
  ·clear d;have g:k=1∨k=3:=om;rcases g with rfl|rfl
   ·obtain rfl:c=3:=om;exact .inr (.inr (.inr (.inl ⟨Z,Z,Z,Z⟩)))
   ·obtain rfl:c=1:=om;exact .inr (.inr (.inr (.inr (.inl ⟨Z,Z,Z,Z⟩))))
  ·have g:k≠1:=fun h=>by rcases d h with h|h<;>cases h
   clear d;obtain rfl:k=0:=om;obtain rfl:c=1:=om;exact .inr (.inr (.inr (.inr (.inr ⟨Z,Z,Z,Z⟩))))
theorem adF(B:iV ops bs m order)(ad:ops.size=m+4){D:Nat->Bool}(X:LG ops D E)(v:Down ops D)(O:∀i,i<m->D i=true)(G:∀i,m<=i->D i=false)(L:jA bs (m+1) m=true)(J:jA bs (m+3) (m+2)=true):
  E=[m,m+1,m+2,m+3]∨E=[m,m+2,m+1,m+3]∨E=[m,m+2,m+3,m+1]∨E=[m+2,m,m+1,m+3]∨E=[m+2,m,m+3,m+1]∨E=[m+2,m+3,m,m+1]:=by
 have step:∀{D:Nat->Bool} {E:List Nat},LG ops D E->Down ops D->(E=[]/\∀i,i<ops.size->D i=true)∨
   ∃i P,E=i::P/\i<ops.size/\D i=false/\(i=m+1->D m=true)/\(i=m+3->D (m+2)=true)/\LG ops (fun x=>D x||x==i) P/\Down ops (fun x=>D x||x==i):=by
  intro D E H v;cases H with
  |nil h=>exact .inl ⟨rfl,h⟩
  |@cons _ i P aD ho V j ay=>
   refine .inr ⟨i,P,Z,?_,V,?_,?_,ay,v.add ho j⟩
   ·exact acv
   ·rintro rfl;exact v.ready B ho j L
   ·rintro rfl;exact v.ready B ho j J
 have f:∀{i:Nat},D i=false->m<=i:=fun{i} h=>by
  rcases agt i m with Y|Y
  ·rw[O i Y]at h;cases h
  ·exact Y
 have u:=G m (agm _);have q:=G (m+1) om;have T:=G (m+2) om;have M:=G (m+3) om;rcases step X v with⟨_,a⟩|⟨i,az,rfl,ar,A,z,I,aa,d1⟩
 ·have:=a m om;rw[u]at this;cases this
 have av:i≠m+1:=fun ac=>by have:=z ac;rw[u]at this;cases this
 have aw:i≠m+3:=fun ac=>by have:=I ac;rw[T]at this;cases this
 have aq:=f A;rcases step aa d1 with⟨_,a⟩|⟨W,ax,rfl,aA,w,l,o,ab,d2⟩
 ·exfalso;have C:=a m om;have F:=a (m+1) om;simp only[u,q,agp,beq_iff_eq]at C F;omega
 simp only[agl,beq_eq_false_iff_ne]at w;have aB:=f w.1;rcases step ab d2 with⟨_,a⟩|⟨k,am,rfl,an,t,g,n,S,d3⟩
 ·exfalso;have C:=a m om;have F:=a (m+1) om;have y:=a (m+2) om;simp only[u,q,T,agp,agr,beq_iff_eq]at C F y;omega
 simp only[agl,beq_eq_false_iff_ne]at t;have aC:=f t.1.1;rcases step S d3 with⟨_,a⟩|⟨K,ao,rfl,H,r,af,ae,U,d4⟩
 ·exfalso;have C:=a m om;have F:=a (m+1) om;have y:=a (m+2) om;have Q:=a (m+3) om;simp only[u,q,T,M,agp,agr,beq_iff_eq]at C F y Q;omega
 simp only[agl,beq_eq_false_iff_ne]at r;have aj:=f r.1.1.1;simp only[u,T,agp,agr,beq_iff_eq]at l o g n;have q1:=w.2;have q2:=t.2;have q3:=t.1.2;have q4:=r.2;have R:=r.1.2;have N:=r.1.1.2;obtain⟨i,rfl⟩:∃s,i=m+s:=⟨i-m,om⟩;obtain⟨W,rfl⟩:∃s,W=m+s:=⟨W-m,om⟩;obtain⟨k,rfl⟩:∃s,k=m+s:=⟨k-m,om⟩;obtain⟨K,rfl⟩:∃s,K=m+s:=⟨K-m,om⟩;have b:W=1->i=0:=fun h=>by subst h;have:=l rfl;clear l o g n;omega
 have c:W=3->i=2:=fun h=>by subst h;have:=o rfl;clear l o g n b;omega
 have d:k=1->i=0∨W=0:=fun h=>by subst h;have:=g rfl;clear l o g n b c;omega
 have e:k=3->i=2∨W=2:=fun h=>by subst h;have:=n rfl;clear l o g n b c d;omega
 clear l o g n;have f1:=four i (by clear b c d e;omega) W (by clear b c d e;omega) k (by clear b c d e;omega) K (by clear b c d e;omega) (by clear b c d e;omega) (by clear b c d e;omega) (by clear b c d e;omega) b c (by clear b c d e;omega) (by clear b c d e;omega) d e (by clear b c d e;omega) (by clear b c d e;omega) (by clear b c d e;omega);clear b c d e;rcases step U d4 with⟨rfl,_⟩|⟨aE,ai,rfl,ap,p,_,_,_,_⟩
 ·rcases f1 with⟨rfl,rfl,rfl,rfl⟩|⟨rfl,rfl,rfl,rfl⟩|⟨rfl,rfl,rfl,rfl⟩|⟨rfl,rfl,rfl,rfl⟩|⟨rfl,rfl,rfl,rfl⟩|⟨rfl,rfl,rfl,rfl⟩
  ·exact .inl Z
  ·exact .inr (.inl Z)
  ·exact .inr (.inr (.inl Z))
  ·exact .inr (.inr (.inr (.inl Z)))
  ·exact .inr (.inr (.inr (.inr (.inl Z))))
  ·exact .inr (.inr (.inr (.inr (.inr Z))))
 ·exfalso;simp only[agl,beq_eq_false_iff_ne]at p;have ak:=f p.1.1.1.1;have ah:=p.2;have au:=p.1.2;have ag:=p.1.1.2;have al:=p.1.1.1.2;clear q1 q2 q3 q4 R N;rcases f1 with⟨rfl,rfl,rfl,rfl⟩|⟨rfl,rfl,rfl,rfl⟩|⟨rfl,rfl,rfl,rfl⟩|⟨rfl,rfl,rfl,rfl⟩|⟨rfl,rfl,rfl,rfl⟩|⟨rfl,rfl,rfl,rfl⟩<;>omega
theorem CD{s:TypeId}{k:Nat}{st c:St}(a:fI C s j k st=some (.val O c))(b:St):fI C s j k b=some (.val O b):=by
 unfold fI at a⊢;split at a
 ·split at a
  ·split at a
   ·split at a
    ·obtain⟨rfl,rfl⟩:=c9 a;rfl
    ·cases a
   ·cases a
  ·cases a
 ·cases a
theorem u2{t:Tr Value}{df:List Deferred}(a:U<A):gV A ⟨t,df⟩ (some U) j=some ⟨t.set U j,df⟩:=by
 unfold gV;simp only;rw[show Nat.blt U A=true by rw[agx];exact a]
theorem I5(hT:nQ C)(hF:Fm C)(hE:nX C)(ae:iV ops bs m order){aq K f M:Oper}(ad:ops.toList.drop m=[aq,K,f,M]){fr ak:Fr}{st ah:St}(r:IE C fc aq K f M fr z st=some (L,ak,J,ah)) 
  {D:Nat->Bool} (am:LG ops D E) (aS:Down ops D) (aU:∀i,i<m->D i=true) (aN:∀i,m<=i->D i=false) (aG:jA bs (m+1) m=true) (ay:jA bs (m+3) (m+2)=true)
  {ρ:Ren} {w:World} {tm:Array Value} {df:List Deferred} (cs:List Frame) (k:List Item) (U:di w0 N0 G ρ st w) (p:lz ρ fc fr b tm df):
  L=.norm/\J=z/\∃x aB W,ρ.le x/\di w0 N0 G x ah aB/\lz x fc ak b W df/\Steps C.P (lone (eg b tm df (.inRegion ops E::k)) cs w) (lone (eg b W df (.inRegion ops []::k)) cs aB):=by
 have au:ops.size=m+4:=by
  have:=congrArg agB ad;simp at this;omega
 have Q:∀aQ aH,[aq,K,f,M][aQ]?=some aH->ops[m+aQ]?=some aH:=by
  intro aQ aH r;rw[<-ad,agD,agz]at r;exact r
 have N:ops[m]?=some aq:=Q 0 aq rfl;have Vh:ops[m+1]?=some K:=Q 1 K rfl;have F:ops[m+2]?=some f:=Q 2 f rfl;have os2:ops[m+3]?=some M:=Q 3 M rfl;have R:=(ae.tail m aq (agm _) N).2.1;have XE:=(ae.tail (m+1) K om Vh).2.1;have S:=(ae.tail (m+2) f om F).2.1;have gs2:=(ae.tail (m+3) M om os2).2.1;unfold IE at r;split at r
 ·rename_i d e t1 bj bg bi bk bf t2 be bl X XF T hd2 an ap al ac;rw[agl]at ac;split at r
  ·cases r
  rename_i ai;have ai:d≠e:=ago ai;split at r
  ·rename_i v bc bm V aw;split at r
   ·rename_i vf aX ar;split at r
    ·rename_i aW g;rw[agk,agx,agx]at g;have ao:=rJ ac.1 ac.2 V (agj aW);subst ao;split at r
     ·rename_i aK aM aI aV aL aT av aD aC az;split at r
      ·cases r
      rename_i aA;split at r
      ·rename_i q1 ba q2 bb Y j;split at r
       ·rename_i bh aR aj;split at r
        ·cases r
        rename_i h;rw[agk]at h;have:=so _ _ h.1;subst this;have ag:=rJ ac.1 ac.2 aj (agj h.2);subst ag;split at r
        ·rename_i q3 aO q4 aJ RI E5;simp only[Option.some.injEq,Prod.mk.injEq]at r;obtain⟨rfl,rfl,rfl,rfl⟩:=r;have F9:=s9 aA (lI Y) (lI j) (lI RI) (lI E5);refine⟨Z,Z,?_⟩;have A1:∀s,j8 C (jy ⟨(fr.tm.put e none).set d v,fr.df⟩) K s=iC C t1 (.pointer (some ⟨aK,aM,none⟩)) aI s:=by
          intro s;unfold j8;rw[an];simp only;rw[av,aD]
         have A2:∀s,j8 C (jy ⟨(fr.tm.put d none).set e vf,fr.df⟩) M s=iC C t2 (.pointer (some ⟨aV,aL,none⟩)) aT s:=by
          intro s;unfold j8;rw[al];simp only;rw[aC,az]
         have aa:∀s,j8 C (jy ⟨fr.tm.put d none,fr.df⟩) f s=some (.val vf s):=by
          intro s;unfold j8;rw[ap];simp only;rw[aw];exact CD ar s
         have aE:∀(t:Tr Value) (aY i:Nat) (u:Value),(t.put aY none).get i=some u->t.get i=some u:=by
          intro t aY i u hu;rw[cY]at hu;split at hu
          ·cases hu
          ·exact hu
         have fin:∀{x:Ren} {W:Array Value},ρ.le x->gB x fc.nt ((fr.tm.set d v).set e vf) W->lz x fc ⟨(fr.tm.set d v).set e vf,fr.df⟩ b W df:=by
          intro x W ax aF;have O:=p.mono ax;exact⟨O.fn,O.round,O.kind,aF,O.df⟩
         have aP:gB ρ fc.nt fr.tm tm:=p.tm;rcases adF ae au am aS aU aN aG ay with rfl|rfl|rfl|rfl|rfl|rfl
         ·obtain⟨y,B,w1,x6,n,o,Ch⟩:=ec (fc:=fc) (b:=b) (df:=df) (cs:=cs) (k:=k) (rest:=[m+1,m+2,m+3]) hT hF hE N R V U (gB.less (t:=fr.tm) p.tm (fun i u hu=>by
           simp only[cY,cB]at hu⊢;by_cases hid:i=d<;>by_cases Bp:i=e<;>simp_all))
          rw[X]at Ch;have a:=(dy (fr:=⟨fr.tm,fr.df⟩) ((p.tm).mono x6) o (u2 g.1)).1;obtain⟨H,q,af,x7,l,h,Ci⟩:=ec (fc:=fc) (b:=b) (df:=df) (cs:=cs) (k:=k) (rest:=[m+2,m+3]) hT hF hE Vh XE ((A1 _).trans Y) n (gB.less (t:=(fr.tm).set d v) a (fun i u hu=>by
           simp only[cY,cB]at hu⊢;by_cases hid:i=d<;>by_cases Bp:i=e<;>simp_all))
          rw[XF]at Ci;have c:=(a).mono x7;obtain⟨A,I,ab,zL,OX,P,D5⟩:=ec (fc:=fc) (b:=b) (df:=df) (cs:=cs) (k:=k) (rest:=[m+3]) hT hF hE F S (aa _) l (gB.less (t:=(fr.tm).set d v) c (fun i u hu=>by
           simp only[cY,cB]at hu⊢;by_cases hid:i=d<;>by_cases Bp:i=e<;>simp_all))
          rw[T]at D5;have OY:=(dy (fr:=⟨(fr.tm).set d v,fr.df⟩) ((c).mono zL) P (u2 g.2)).1;exact Yk
         ·obtain⟨y,B,w1,x6,n,o,Ch⟩:=ec (fc:=fc) (b:=b) (df:=df) (cs:=cs) (k:=k) (rest:=[m+2,m+1,m+3]) hT hF hE N R V U (gB.less (t:=fr.tm) p.tm (fun i u hu=>by
           simp only[cY,cB]at hu⊢;by_cases hid:i=d<;>by_cases Bp:i=e<;>simp_all))
          rw[X]at Ch;have a:=(dy (fr:=⟨fr.tm,fr.df⟩) ((p.tm).mono x6) o (u2 g.1)).1;obtain⟨H,q,af,x7,l,h,Ci⟩:=ec (fc:=fc) (b:=b) (df:=df) (cs:=cs) (k:=k) (rest:=[m+1,m+3]) hT hF hE F S (aa _) n (gB.less (t:=(fr.tm).set d v) a (fun i u hu=>by
           simp only[cY,cB]at hu⊢;by_cases hid:i=d<;>by_cases Bp:i=e<;>simp_all))
          rw[T]at Ci;have c:=(dy (fr:=⟨(fr.tm).set d v,fr.df⟩) ((a).mono x7) h (u2 g.2)).1;obtain⟨A,I,ab,zL,OX,P,D5⟩:=ec (fc:=fc) (b:=b) (df:=df) (cs:=cs) (k:=k) (rest:=[m+3]) hT hF hE Vh XE ((A1 _).trans Y) l (gB.less (t:=((fr.tm).set d v).set e vf) c (fun i u hu=>by
           simp only[cY,cB]at hu⊢;by_cases hid:i=d<;>by_cases Bp:i=e<;>simp_all))
          rw[XF]at D5;have OY:=(c).mono zL;exact Yk
         ·obtain⟨y,B,w1,x6,n,o,Ch⟩:=ec (fc:=fc) (b:=b) (df:=df) (cs:=cs) (k:=k) (rest:=[m+2,m+3,m+1]) hT hF hE N R V U (gB.less (t:=fr.tm) p.tm (fun i u hu=>by
           simp only[cY,cB]at hu⊢;by_cases hid:i=d<;>by_cases Bp:i=e<;>simp_all))
          rw[X]at Ch;have a:=(dy (fr:=⟨fr.tm,fr.df⟩) ((p.tm).mono x6) o (u2 g.1)).1;obtain⟨H,q,af,x7,l,h,Ci⟩:=ec (fc:=fc) (b:=b) (df:=df) (cs:=cs) (k:=k) (rest:=[m+3,m+1]) hT hF hE F S (aa _) n (gB.less (t:=(fr.tm).set d v) a (fun i u hu=>by
           simp only[cY,cB]at hu⊢;by_cases hid:i=d<;>by_cases Bp:i=e<;>simp_all))
          rw[T]at Ci;have c:=(dy (fr:=⟨(fr.tm).set d v,fr.df⟩) ((a).mono x7) h (u2 g.2)).1;obtain⟨A,I,ab,zL,OX,P,D5⟩:=ec (fc:=fc) (b:=b) (df:=df) (cs:=cs) (k:=k) (rest:=[m+1]) hT hF hE os2 gs2 ((A2 _).trans j) l (gB.less (t:=((fr.tm).set d v).set e vf) c (fun i u hu=>by
           simp only[cY,cB]at hu⊢;by_cases hid:i=d<;>by_cases Bp:i=e<;>simp_all))
          rw[hd2]at D5;have OY:=(c).mono zL;obtain⟨ρ4,v4',w4,K7,hw4,hv4,RH⟩:=ec (fc:=fc) (b:=b) (df:=df) (cs:=cs) (k:=k) (rest:=[]) hT hF hE Vh XE ((A1 _).trans E5) OX (gB.less (t:=((fr.tm).set d v).set e vf) OY (fun i u hu=>by
           simp only[cY,cB]at hu⊢;by_cases hid:i=d<;>by_cases Bp:i=e<;>simp_all))
          rw[XF]at RH;have ht4:=(OY).mono K7;exact⟨ρ4,w4,_,((x6.trans x7).trans zL).trans K7,hw4.alike F9,fin (((x6.trans x7).trans zL).trans K7) (gB.less (t:=((fr.tm).set d v).set e vf) ht4 (fun i u hu=>by
           simp only[cY,cB]at hu⊢;by_cases hid:i=d<;>by_cases Bp:i=e<;>simp_all)),((Ch.trans Ci).trans D5).trans RH⟩
         ·obtain⟨y,B,w1,x6,n,o,Ch⟩:=ec (fc:=fc) (b:=b) (df:=df) (cs:=cs) (k:=k) (rest:=[m,m+1,m+3]) hT hF hE F S (aa _) U (gB.less (t:=fr.tm) p.tm (fun i u hu=>by
           simp only[cY,cB]at hu⊢;by_cases hid:i=d<;>by_cases Bp:i=e<;>simp_all))
          rw[T]at Ch;have a:=(dy (fr:=⟨fr.tm,fr.df⟩) ((p.tm).mono x6) o (u2 g.2)).1;obtain⟨H,q,af,x7,l,h,Ci⟩:=ec (fc:=fc) (b:=b) (df:=df) (cs:=cs) (k:=k) (rest:=[m+1,m+3]) hT hF hE N R V n (gB.less (t:=(fr.tm).set e vf) a (fun i u hu=>by
           simp only[cY,cB]at hu⊢;by_cases hid:i=d<;>by_cases Bp:i=e<;>simp_all))
          rw[X]at Ci;have c:=(dy (fr:=⟨(fr.tm).set e vf,fr.df⟩) ((a).mono x7) h (u2 g.1)).1;obtain⟨A,I,ab,zL,OX,P,D5⟩:=ec (fc:=fc) (b:=b) (df:=df) (cs:=cs) (k:=k) (rest:=[m+3]) hT hF hE Vh XE ((A1 _).trans Y) l (gB.less (t:=((fr.tm).set e vf).set d v) c (fun i u hu=>by
           simp only[cY,cB]at hu⊢;by_cases hid:i=d<;>by_cases Bp:i=e<;>simp_all))
          rw[XF]at D5;have OY:=(c).mono zL;obtain⟨ρ4,v4',w4,K7,hw4,hv4,RH⟩:=ec (fc:=fc) (b:=b) (df:=df) (cs:=cs) (k:=k) (rest:=[]) hT hF hE os2 gs2 ((A2 _).trans RI) OX (gB.less (t:=((fr.tm).set e vf).set d v) OY (fun i u hu=>by
           simp only[cY,cB]at hu⊢;by_cases hid:i=d<;>by_cases Bp:i=e<;>simp_all))
          rw[hd2]at RH;have ht4:=(OY).mono K7;exact⟨ρ4,w4,_,((x6.trans x7).trans zL).trans K7,hw4,fin (((x6.trans x7).trans zL).trans K7) (gB.less (t:=((fr.tm).set e vf).set d v) ht4 (fun i u hu=>by
           simp only[cY,cB]at hu⊢;by_cases hid:i=d<;>by_cases Bp:i=e<;>simp_all)),((Ch.trans Ci).trans D5).trans RH⟩
         ·obtain⟨y,B,w1,x6,n,o,Ch⟩:=ec (fc:=fc) (b:=b) (df:=df) (cs:=cs) (k:=k) (rest:=[m,m+3,m+1]) hT hF hE F S (aa _) U (gB.less (t:=fr.tm) p.tm (fun i u hu=>by
           simp only[cY,cB]at hu⊢;by_cases hid:i=d<;>by_cases Bp:i=e<;>simp_all))
          rw[T]at Ch;have a:=(dy (fr:=⟨fr.tm,fr.df⟩) ((p.tm).mono x6) o (u2 g.2)).1;obtain⟨H,q,af,x7,l,h,Ci⟩:=ec (fc:=fc) (b:=b) (df:=df) (cs:=cs) (k:=k) (rest:=[m+3,m+1]) hT hF hE N R V n (gB.less (t:=(fr.tm).set e vf) a (fun i u hu=>by
           simp only[cY,cB]at hu⊢;by_cases hid:i=d<;>by_cases Bp:i=e<;>simp_all))
          rw[X]at Ci;have c:=(dy (fr:=⟨(fr.tm).set e vf,fr.df⟩) ((a).mono x7) h (u2 g.1)).1;obtain⟨A,I,ab,zL,OX,P,D5⟩:=ec (fc:=fc) (b:=b) (df:=df) (cs:=cs) (k:=k) (rest:=[m+1]) hT hF hE os2 gs2 ((A2 _).trans j) l (gB.less (t:=((fr.tm).set e vf).set d v) c (fun i u hu=>by
           simp only[cY,cB]at hu⊢;by_cases hid:i=d<;>by_cases Bp:i=e<;>simp_all))
          rw[hd2]at D5;have OY:=(c).mono zL;exact Yi
         ·obtain⟨y,B,w1,x6,n,o,Ch⟩:=ec (fc:=fc) (b:=b) (df:=df) (cs:=cs) (k:=k) (rest:=[m+3,m,m+1]) hT hF hE F S (aa _) U (gB.less (t:=fr.tm) p.tm (fun i u hu=>by
           simp only[cY,cB]at hu⊢;by_cases hid:i=d<;>by_cases Bp:i=e<;>simp_all))
          rw[T]at Ch;have a:=(dy (fr:=⟨fr.tm,fr.df⟩) ((p.tm).mono x6) o (u2 g.2)).1;obtain⟨H,q,af,x7,l,h,Ci⟩:=ec (fc:=fc) (b:=b) (df:=df) (cs:=cs) (k:=k) (rest:=[m,m+1]) hT hF hE os2 gs2 ((A2 _).trans j) n (gB.less (t:=(fr.tm).set e vf) a (fun i u hu=>by
           simp only[cY,cB]at hu⊢;by_cases hid:i=d<;>by_cases Bp:i=e<;>simp_all))
          rw[hd2]at Ci;have c:=(a).mono x7;obtain⟨A,I,ab,zL,OX,P,D5⟩:=ec (fc:=fc) (b:=b) (df:=df) (cs:=cs) (k:=k) (rest:=[m+1]) hT hF hE N R aj l (gB.less (t:=(fr.tm).set e vf) c (fun i u hu=>by
           simp only[cY,cB]at hu⊢;by_cases hid:i=d<;>by_cases Bp:i=e<;>simp_all))
          rw[X]at D5;have OY:=(dy (fr:=⟨(fr.tm).set e vf,fr.df⟩) ((c).mono zL) P (u2 g.1)).1;exact Yi
        ·cases r
       ·cases r
      ·cases r
     ·cases r
    ·cases r
   ·cases r
  ·cases r
 ·cases r
end
variable{Q:St} {R:Bool}
section
variable{C:dR} {w0:World} {N0:Nat} {G:Nat->Prop} {fc:FC} {b:FB} {rc:Rec}
theorem j4.of_steps{ρ a:Ren}{e f:Machine}{k:List Item}{c:dW}{cs d:List Frame}(hle:ρ.le a)(DY:pH z J cs d)(xS:Steps C.P e f)(h:j4 C w0 N0 G a fc f b k J d L K c Q):j4 C w0 N0 G ρ fc e b k z cs L K c Q:=by
 exact Zu
theorem GI(p:nQ C)(r:Fm C)(s:nX C)(W:C.P.follows .mixedOrders=true)(ad:∀G,wH C w0 N0 G rc){id:Nat}{ops:Array Oper}(t:R=true->Gm ops.toList=true){st f:St}(a:region C rc fc ops R K z st=some (L,V,J,f)) 
  {ρ:Ren} {w:World} {tm:Array Value} {df:List Deferred} {cs:List Frame} (k:List Item) (O:di w0 N0 G ρ st w) (Q:lz ρ fc K b tm df) (S:uv ρ fc.DZ z cs):
  j4 C w0 N0 G ρ fc (lone (eg b tm df (.code (.region id ops R)::k)) cs w) b k z cs L V J f:=by
 cases R with
 |false=>
  have:=GA (fc:=fc) (b:=b) p r s (ad G) (ops:=ops) k ops.toList 0 K z st ρ w tm df cs L V J f rfl a O Q S;exact .of_steps (Ren.le_refl _) (.refl _ _) (.one Pw) this
 |true=>
  have i:=I0 (t rfl);unfold region at a;simp only at a;have Y:=GB (ops:=ops) i.back (w.tape w.drawn (.order b.fn id));have NI:=Cy (P:=C.P) (b:=b) (tm:=tm) (df:=df) (k:=k) (cs:=cs) (w:=w) (id:=id) (ops:=ops);rw[W]at NI;have X:Inv w0 N0 G ops (rH ops.toList).bs (rH ops.toList).m fc b (fun _=>false) [] 0 [] K z st ρ {w with drawn:=w.drawn+1} tm df cs:=by
   refine⟨⟨fun l a=>by simp at a,fun l aw a=>by simp at a⟩,fun l a=>by simp at a,fun l a=>by simp at a,fun l a=>by simp at a,fun ax a=>by simp at a,fun l ag aq q a=>by simp at a,fun l ag aq q aA au ar a=>by simp at a,fun c a=>by simp at a,fun c a=>by simp at a,fun l ag aq q a=>by simp at a,?_,?_,S⟩
   ·refine(O.drewN _).wJ ?_;rintro L (ao|⟨ax,ag,q,n,_⟩)
    ·exact ao
    ·simp at n
   ·have:oM K (gg ops (fun _=>false) [])=K:=rfl;rw[this];exact Q
  cases m:eM C rc fc ops.toList (rH ops.toList).bs (rH ops.toList).order 0 [] K z st with
  |none=>rw[m]at a;cases a
  |some F=>
   have e:=LL (C:=C) (rc:=rc) p r s ad i k Y [] (rH ops.toList).order 0 [] K z st ρ _ tm df cs F rfl m (fun _ _=>rfl) X;rw[m]at a;obtain⟨u,x,T,D⟩:=F;have d:(∀am,u=am->am≠.norm->some (u,x,T,D)=some (L,V,J,f)->j4 C w0 N0 G ρ fc (lone (eg b tm df (.inRegion ops (Region.schedule true ops (w.tape w.drawn (.order b.fn id)))::k)) cs {w with drawn:=w.drawn+1}) b k z cs u x T D->j4 C w0 N0 G ρ fc (lone (eg b tm df (.code (.region id ops true)::k)) cs w) b k z cs L V J f):=by
    intro am _ _ ac ap;cases ac;exact .of_steps (Ren.le_refl _) (.refl _ _) (.one NI) ap
   cases u with
   |exit l=>exact d _ rfl (by intro af;cases af) a e
   |ret=>exact d _ rfl (by intro af;cases af) a e
   |panic ag=>exact d _ rfl (by intro af;cases af) a e
   |norm=>
    obtain⟨az,aj,M,ai,N,Rw,cs',j,I,B,h4,y,E,h7,h8,ab⟩:=e;simp only at a;split at a
    ·rename_i n;have n:=agj n;simp only[Option.some.injEq,Prod.mk.injEq]at a;obtain⟨rfl,rfl,rfl,rfl⟩:=a;have al:aj=[]:=by
      cases j with
      |nil _=>rfl
      |@cons _ l aB aw U aa ac aD=>
       exfalso;have H:l<ops.size:=by
        rcases agt l ops.size with A|A
        ·exact A
        ·rw[ags A]at U;cases U
       rw[B l (by rw[n];simpa using H)]at aa;cases aa
     subst al;exact⟨M,ai,N,Rw,cs',h4,y,E,h7,(Steps.head NI h8).trans (.one re)⟩
    ·split at a
     ·rename_i av an ak ah g o;split at a
      ·rename_i h;obtain⟨rfl,rfl,Vz,w2,tm2,acw,hw2,hf2,hs2⟩:=I4 (C:=C) p r s i g a j I B ab (by unfold jA;rw[o];exact h) cs' k y E;exact abZ
      ·cases a
     ·rename_i av an aC ak ah g o;split at a
      ·rename_i ay h ae;split at a
       ·rename_i v;obtain⟨rfl,rfl,Vz,w2,tm2,acw,hw2,hf2,hs2⟩:=I5 (C:=C) p r s i g a j I B ab (by unfold jA;rw[o];exact h) (by unfold jA;rw[ae];exact v) cs' k y E;exact abZ
       ·cases a
      ·cases a
     ·cases a
end
def I6:fX->Bool
 |.cells .. =>false
 |.dead=>false
 |.j2 .. =>false
 |_=>true
section
variable{w0:World} {N0:Nat} {G:Nat->Prop} {ρ:Ren} {st:St} {w:World}
theorem di.yu(h:di w0 N0 G ρ st w){r:Nat}{l:Loc}{o o2:fX}{co:Obj}(hl:ρ r=some l)(hg:st.get r=some o)(n:I6 o=true)(t:I6 o2=true)(C:yj ρ l o2 (some co)):
  di w0 N0 G ρ (st.put r o2) {w with heap:=w.heap.setIfInBounds l.b co}:=by
 have d:=h.xT _ _ hl;have u:r≠0:=fun e=>by subst e;have:=h.wf.zro _ hg;cases o<;>first|(cases n;done)|cases this
 have P:=d.2.1 u;have Gh:∀k,k≠l.b->(w.heap.setIfInBounds l.b co)[k]?=w.heap[k]?:=fun k a=>Array.getElem?_setIfInBounds_ne (fun e=>a e.symm);have m:(w.heap.setIfInBounds l.b co)[l.b]?=some co:=Array.getElem?_setIfInBounds_self_of_lt d.2.2;have F:O7 N0 ρ (st.put r o2) {w with heap:=w.heap.setIfInBounds l.b co}:=by
  refine h.j2.H0 h.sep (fun k=>k=l.b) (fun b l e=>(h.xT _ _ e).2.2) sm (fun k _ a=>Gh k a) (fun k a=>⟨r,l,_,hl,a.symm,hg,by(intro e;subst e;cases n),by(intro _ _ _ e;subst e;cases n)⟩) (fun _ _ e=>.inl e) (fun x i Y e s h1 h2=>⟨h1,?_⟩);rw[c8]at h2;split at h2
  ·cases h2;cases t
  ·exact h2
 have RM:∀x i p,ρ x=some i->(st.put r o2).get x=some p->i.b=l.b->x=r∨p=.dead:=by
  intro x i p D v zG;by_cases f:x=r
  ·exact .inl f
  ·rw[c8,if_neg f]at v;have:=h.sep _ _ _ _ _ _ hl D zG.symm hg v (fun e=>f e.symm);cases o<;>cases p<;>first|exact .inr rfl|exact this.elim|cases n
 refine⟨⟨fun b o hb=>?_,fun b c e W X hb=>?_,h.wf.NN,h.wf.pos,fun o hb=>by rw[c8,if_neg (Ne.symm u)]at hb;exact h.wf.zro _ hb⟩,?_,by simpa using h.Fi,h.K1,fun b g hb=>by have:=h.xT b g hb;exact⟨this.1,this.2.1,by simpa using this.2.2⟩,fun b g o hb Vi=>?_,fun b b' l1 T o1 o2 h1 h2 he g1 g2 BM=>?_,F⟩
 ·exact acu
 ·rw[c8]at hb;split at hb
  ·cases hb;cases t
  ·exact h.wf.dP _ _ _ _ _ hb
 ·exact h.below.trans ⟨Z,Z,Z,by simp,fun k a=>Gh k om⟩
 ·show yj ρ g o (w.heap.setIfInBounds l.b co)[g.b]?;by_cases zG:g.b=l.b
  ·rcases RM _ _ _ hb Vi zG with rfl|rfl
   ·rw[c8,if_pos rfl]at Vi;cases Vi;rw[hl]at hb;cases hb;rw[m];exact C
   ·trivial
  ·exact Zq
 ·exact Yo
end
section
variable{P:Program} {b:FB} {tm:Array Value} {df:List Deferred} {k:List Item} {cs:List Frame} {w:World}
theorem GJ{f:Operand}{d:Array Tmp}{c g:Code}{l:Nat}{mark:List Deferred}{w1:World}{h:FuncId}{first a:Array Value}(o:D0 tm f=.func (.func h) first a) 
  (i:(Instr.enterLoop b.fn tm d c g b.round).run P w=.ok (l,mark) w1) (p:(callFunc h (first++ #[.func (.yield l) #[] #[]]++a)).run P w1=.ok (.enter h (first++ #[.func (.yield l) #[] #[]]++a)) w1):
  step P (lone (eg b tm df (.code (.rangeFunc f d c g)::k)) cs w)=
   .next (lone (Frame.enter P h (first++ #[.func (.yield l) #[] #[]]++a) .normal) (eg b tm (mark++df) (.inRangeFunc l::k)::cs) w1):=by
 refine step_lone_go ?_;have m:=Cx b tm (mark++df) (.inRangeFunc l::k);have e:(do let r<-resolve (eg b tm (mark++df) (.inRangeFunc l::k)).eval {callee:=.value f,args:= #[.const (.func (.yield l) #[] #[])],argTypes:= #[]} 0;invoke r.target r.args:Sem Next).run P w1=.ok (.enter h (first++ #[.func (.yield l) #[] #[]]++a)) w1:=by
  rw[m];unfold resolve;have n:Array.map (D0 tm) #[.const (.func (.yield l) #[] #[])]= #[.func (.yield l) #[] #[]]:=by simp[D0]
  simp only[o,n];exact p
 simp only[eg]at e i⊢;simp[stepG,stepG.exec,Sem.runT_eq,i,stepG.apply,e]
theorem I7{l:Nat}{a:Option Code}{w1:World}(c:(Instr.endLoop l).run P w=.ok a w1):
  step P (lone (eg b tm df (.endRangeFunc l::k)) cs w)=.next (lone (eg b tm df ((a.map Item.code).toList++k)) cs w1):=
 step_lone_go (by simp[stepG,stepG.exec,eg,Sem.runT_eq,c])
end
section
variable{C:dR} {w0:World} {N0:Nat} {G:Nat->Prop} {fc:FC} {b:FB} {rc:Rec}
theorem zY{ρ:Ren}{st s:St}{w:World}{tm:Array Value}{df:List Deferred}{params:Array Tmp}{assign body:Code}{l:Nat}(u:codeOk assign=true/\codeOk body=true)(h:pE fc K params.toList assign body st=some (l,V,s))(p:di w0 N0 G ρ st w)(g:lz ρ fc K b tm df):
  ∃m w1 n mark,ρ.le m/\di w0 N0 G m s w1/\m l=some n/\(Instr.enterLoop b.fn tm params assign body b.round).run C.P w=.ok (n.b,mark) w1/\lz m fc V b tm (mark++df):=by
 unfold pE at h;split at h
 ·rename_i A d;split at h
  ·rename_i q W;simp only[Option.some.injEq,Prod.mk.injEq]at h;obtain⟨rfl,rfl,rfl⟩:=h;have i:=g.round;rw[d]at i;obtain⟨k,X,F⟩:=i;obtain⟨z,T,j⟩:=p.obj _ _ _ X W;have e:=p.ij
   let n:Loc:=⟨w.heap.size,0,0,0,true⟩
   have a:=ei (l:=n) e;obtain⟨y,P,Y⟩:=j.defers;refine⟨ρ.add st.n n,_,n,[],a,p.new (l:=n) (o:=.loop {state:=.ready,pending:=none,fn:=fc.fn,tm:=K.tm,nt:=fc.nt,params:=params.toList,assign,body,defers:=q.defers}) (co:=.loop {state:=.ready,pending:=none,fn:=b.fn,tmps:=tm,params,assign,body,defers:=z.defers}) Z trivial ?_,c7 _ _ _,?_,?_⟩
   ·exact⟨_,Z,Z,Z,g.fn,g.tm.mono a,Z,Z,Z,⟨y,a _ _ P,Y⟩,u⟩
   ·rw[F];exact run_enterLoop_inner T _ _ _ _ _
   ·exact g.mono a
  ·cases h
 ·rename_i d;simp only[Option.some.injEq,Prod.mk.injEq]at h;obtain⟨rfl,rfl,rfl⟩:=h;have i:=g.round;rw[d]at i;have e:=p.ij
  let k:Loc:=⟨w.heap.size,0,0,0,true⟩
  have a:=ei (l:=k) e;have t:=p.new (l:=k) (o:=.eI false) (co:=.deferred (some [])) rfl trivial rfl;have r:=t.ij
  let n:Loc:=⟨w.heap.size+1,0,0,0,true⟩
  have c:=ei (l:=n) r;have v:((ρ.add st.n k).add (st.new (.eI false)).n n) st.n=some k:=c _ _ (c7 _ _ _);have D:=t.new (l:=n) (o:=.loop {state:=.ready,pending:=none,fn:=fc.fn,tm:=K.tm,nt:=fc.nt,params:=params.toList,assign,body,defers:=st.n}) (co:=.loop {state:=.ready,pending:=none,fn:=b.fn,tmps:=tm,params,assign,body,defers:=w.heap.size}) (by simp[n]) trivial
   ⟨_,rfl,rfl,rfl,g.fn,g.tm.mono (a.trans c),rfl,rfl,rfl,⟨k,v,rfl⟩,u⟩
  refine⟨_,_,n,[{target:=.collected w.heap.size,args:= #[]}],a.trans c,D,c7 _ _ _,?_,?_⟩
  ·have x:b.round=none:=i;rw[x];exact run_enterLoop_outer _ _ _ _ _
  ·have f:=g.mono (a.trans c);exact⟨f.fn,f.round,f.kind,f.tm,⟨⟨⟨k,v,Z⟩,.nil⟩,f.df⟩⟩
theorem Gz.pass{P:Program}{m:Machine}{ρ:Ren}{k k':List Item}{tm:Array Value}{df:List Deferred}{cs:List Frame}{w:World}(e:L≠.norm)(c:∀id,L=.exit id->exitTo id k'=exitTo id k)(d:Gz P m ρ b k' tm df cs w L):Gz P m ρ b k tm df cs w L:=by
 cases L with
 |norm=>exact absurd rfl e
 |exit id=>obtain⟨a,s,f⟩:=d;exact⟨a,s,f.trans (c id rfl)⟩
 |ret=>exact d
 |panic g=>exact d
theorem j4.pass{ρ:Ren}{m:Machine}{k k':List Item}{h c:dW}{cs:List Frame}{l:Ex}{d:Fr}{a:St}(p:l≠.norm)(r:∀id,l=.exit id->exitTo id k'=exitTo id k)(w:j4 C w0 N0 G ρ fc m b k' h cs l d c a):j4 C w0 N0 G ρ fc m b k h cs l d c a:=by
 obtain⟨f,o,g,i,e,t,v,s,u,n⟩:=w;exact⟨f,o,g,i,e,t,v,s,u,n.pass p r⟩
theorem LN{ρ:Ren}{c:Code}{k:List Item}{tm:Array Value}{df:List Deferred}{w:World}{cs:List Frame}(q:j4 C w0 N0 G ρ fc (lone (eg b tm df (.code (.loop c)::k)) cs w) b k z cs L K J Q):
  j4 C w0 N0 G ρ fc (lone (eg b tm df (.inLoop c::k)) cs w) b k z cs L K J Q:=by
 have e:∀m,Steps C.P (lone (eg b tm df (.code (.loop c)::k)) cs w) m->m≠lone (eg b tm df (.code (.loop c)::k)) cs w->Steps C.P (lone (eg b tm df (.inLoop c::k)) cs w) m:=by
  rintro m ⟨X,h⟩ o;cases X with
  |zero=>simp[runN]at h;exact absurd h.symm o
  |succ X=>
   simp only[runN,NV]at h;exact .head Pv ⟨X,h⟩
 have d:∀{F n:Frame} {l i:List Frame} {w1 v:World},lone F l w1=lone n i v->F=n:=by
  intro F n l i w1 v a;simp[lone]at a;exact a.2.1
 obtain⟨p,x,r,u,t,P,W,Y,T,g⟩:=q;refine⟨p,x,r,u,t,P,W,Y,T,?_⟩;cases L with
 |norm=>
  refine e _ g fun a=>?_;have:=congrArg Frame.todo (d a);simp only[eg]at this;exact absurd (congrArg agB this) sm
 |exit id=>
  obtain⟨f,s,y⟩:=g;refine⟨f,e _ s fun a=>?_,y⟩;have:=congrArg Frame.todo (d a);simp[eg]at this
 |ret=>
  obtain⟨f,s⟩:=g;refine⟨f,e _ s fun a=>?_⟩;have:=congrArg Frame.todo (d a);simp[eg]at this
 |panic A=>
  obtain⟨f,D,j,s⟩:=g;refine⟨f,D,j,e _ s fun a=>?_⟩;have:=congrArg Frame.mode (d a);simp[eg]at this
end
section
variable{C:dR} {w0:World} {N0:Nat} {G:Nat->Prop} {fc:FC} {b:FB} {rc:Rec}
theorem sp(bb:nQ C)(aP:Fm C)(be:nX C)(aD:C.P.follows .mixedOrders=true)(aK:∀G,wH C w0 N0 G rc):∀(c:Code) (m:Fr) (l:dW) (st:St) (L:Ex) (g:Fr) (f:dW) (e:St),
  code C rc fc c m l st=some (L,g,f,e)->codeOk c=true->∀(ρ:Ren) (w:World) (tm:Array Value) (df:List Deferred) (cs:List Frame) (k:List Item),di w0 N0 G ρ st w->lz ρ fc m b tm df->uv ρ fc.DZ l cs->
  j4 C w0 N0 G ρ fc (lone (eg b tm df (.code c::k)) cs w) b k l cs L g f e:=by
 intro c;induction c with
 |skip=>
  intro m l st L g f e a d ρ w tm df cs k n i p;simp only[code,Option.some.injEq,Prod.mk.injEq]at a;obtain⟨rfl,rfl,rfl,rfl⟩:=a;exact⟨ρ,w,tm,df,cs,Ren.le_refl _,n,i,.refl _ _,.one VT⟩
 |region id ops bf=>
  intro m l st L g f e a d ρ w tm df cs k n i p;simp only[code]at a;refine GI bb aP be aD aK (fun bi=>?_) a k n i p;subst bi;exact d
 |seq af b X ah=>
  intro m l st L g f e a d ρ w tm df cs k n i p;simp only[codeOk,agk]at d;simp only[code]at a;cases q:code C rc fc af m l st with
  |none=>rw[q]at a;cases a
  |some aE=>
   obtain⟨K,E,aa,H⟩:=aE;have o:=X _ _ _ _ _ _ _ q d.1 ρ w tm df cs (.code b::k) n i p;have o:=o.of_steps (Ren.le_refl _) (.refl _ _) (.one (aay (P:=C.P) (x:=af) (y:=b) (k:=k)));rw[q]at a;by_cases S:K=.norm
   ·subst S;obtain⟨r,w1,Y,y,T,h,s,u,t,D⟩:=o;exact .of_steps h t D (ah _ _ _ _ _ _ _ a d.2 r w1 Y y T k s u ((p.mono h).step t))
   ·have j:some (K,E,aa,H)=some (L,g,f,e):=by
     cases K with
     |norm=>exact absurd rfl S
     |_=>exact a
    cases j;exact j4.pass (k':=.code b::k) S (fun _ _=>Z) o
 |cond c af b X ah=>
  intro m l st L g f e a d ρ w tm df cs k n i p;simp only[codeOk,agk]at d;simp only[code]at a;split at a
  ·rename_i U;have B:=pI i.tm c _ U;generalize O:D0 tm c=ad at B;cases B;exact .of_steps (Ren.le_refl _) (.refl _ _) (.one (NU O)) (X _ _ _ _ _ _ _ a d.1 ρ w tm df cs k n i p)
  ·rename_i U;have B:=pI i.tm c _ U;generalize O:D0 tm c=ad at B;cases B;exact .of_steps (Ren.le_refl _) (.refl _ _) (.one (NU O)) (ah _ _ _ _ _ _ _ a d.2 ρ w tm df cs k n i p)
  ·cases a
 |block id af X=>
  intro m l st L g f e a d ρ w tm df cs k n i p;simp only[codeOk]at d;simp only[code]at a;cases q:code C rc fc af m l st with
  |none=>rw[q]at a;cases a
  |some aE=>
   obtain⟨K,E,aa,H⟩:=aE;have o:=X _ _ _ _ _ _ _ q d ρ w tm df cs (.inBlock id::k) n i p;have o:=o.of_steps (Ren.le_refl _) (.refl _ _) (.one (SE (P:=C.P) (id:=id) (c:=af) (k:=k)));rw[q]at a;cases K with
   |norm=>
    cases a;obtain⟨r,w1,Y,y,T,h,s,u,t,D⟩:=o;exact⟨r,w1,Y,y,T,h,s,u,t,D.trans (.one LF)⟩
   |exit au=>
    simp only at a;split at a
    ·rename_i hid;have hid:=agj hid;subst hid;cases a;obtain⟨r,w1,Y,y,T,h,s,u,t,bj,D,ba⟩:=o;have aM:exitTo au bj=some k:=by rw[ba];simp[exitTo]
     exact⟨r,w1,Y,y,T,h,s,u,t,D.trans (.one (VU aM))⟩
    ·rename_i hid;cases a;refine o.pass (by intro aB;cases aB) fun bm am=>?_;cases am;have:=ago hid;simp only[exitTo];rw[if_neg (by simpa using fun aB:id=au=>this aB.symm)]
   |ret=>cases a;exact o.pass (by intro aB;cases aB) fun bm am=>by cases am
   |panic bp=>cases a;exact o.pass (by intro aB;cases aB) fun bm am=>by cases am
 |loop af X=>
  intro m l st L g f e a d ρ w tm df cs k n i p;simp only[codeOk]at d;simp only[code]at a;cases q:code C rc fc af m l st with
  |none=>rw[q]at a;cases a
  |some aE=>
   obtain⟨K,E,aa,H⟩:=aE;have o:=X _ _ _ _ _ _ _ q d ρ w tm df cs (.inLoop af::k) n i p;have o:=o.of_steps (Ren.le_refl _) (.refl _ _) (.one (NV (P:=C.P) (c:=af) (k:=k)));rw[q]at a;by_cases S:K=.norm
   ·subst S;obtain⟨r,w1,Y,y,T,h,s,u,t,D⟩:=o;exact .of_steps h t D (LN ((aK G).code _ _ _ _ _ _ _ _ _ a d r w1 b Y y T k s u ((p.mono h).step t)))
   ·have j:some (K,E,aa,H)=some (L,g,f,e):=by
     cases K with
     |norm=>exact absurd rfl S
     |_=>exact a
    cases j;exact j4.pass (k':=.inLoop af::k) S (fun _ _=>Z) o
 |rangeFunc bk aR aN bg _ _=>
  intro m l st L g f e a d ρ w tm df cs k n i p;simp only[codeOk,agk]at d;simp only[code]at a;split at a
  ·rename_i bq first z bh E H aX aG
   split at a
   ·cases a
   ·rename_i br aW;have B:=pI i.tm bk _ aX;generalize O:D0 tm bk=ad at B;cases B with
    |@func _ _ Q _ x aj ap=>
    obtain⟨r,w1,ax,mark,h,s,aU,aH,u⟩:=zY (C:=C) d aG n i;have ai:=GJ (P:=C.P) (df:=df) (k:=k) (cs:=cs) O aH (rj aP aW _);have aq:cT r (first.toList++[.func (.yield bh) #[] #[]]++z.toList) (Q++ #[Value.func (.yield ax.b) #[] #[]]++x).toList:=by
     simp only[agC];exact((aj.mono h).append (.cons (.yield aU .nil .nil) .nil)).append (ap.mono h)
    cases U:rc.call bq (first.toList++[.func (.yield bh) #[] #[]]++z.toList) false .none H with
    |none=>rw[U]at a;cases a
    |some aE=>
     obtain⟨bc,bl,aT⟩:=aE;rw[U]at a;obtain⟨az,aL,F,bo,I,ag,aJ,R,ay,an,ao,fn,ak,v⟩:=(aK G).call _ _ _ _ _ _ _ _ U r w1 (Q++ #[Value.func (.yield ax.b) #[] #[]]++x) (eg b tm (mark++df) (.inRangeFunc ax.b::k)::cs) s aq trivial;obtain⟨_,rfl⟩:=nj aJ;have av:=u.mono I;cases bc with
     |ret bp=>
      simp only at a v;obtain⟨J,ad,v,_⟩:=v;have M:=step_leave_returned (P:=C.P) (c:=eg b tm (mark++df) (.inRangeFunc ax.b::k)) (cs:=cs) (w:=aL) (fr:=F) ⟨J,an,ao,fn,by rw[ay];exact ak,v⟩;have aI:(eg b tm (mark++df) (.inRangeFunc ax.b::k)).finish ad=eg b tm (mark++df) (.endRangeFunc ax.b::k):=rfl;rw[aI]at M;split at a
      ·rename_i ae ar;have aw:=I _ _ aU;obtain⟨aC,aO,A⟩:=ag.obj _ _ _ aw ar;have aQ:ae.state≠.busy->∃aV,Gl ae.pending=some aV/\(aV,E,l,aT.put bh (.loop {ae with state:=.exhausted}))=(L,g,f,e):=by
        intro V;split at a
        ·rename_i aY;exact absurd aY V
        ·split at a
         ·rename_i aV N;cases a;exact⟨_,N,rfl⟩
         ·cases a
       have V:ae.state≠.busy:=by
        intro j;rw[j]at a;cases a
       obtain⟨aV,N,j⟩:=aQ V;cases j;have aF:=run_endLoop (P:=C.P) aO (by rw[A.state];exact V);have aS:=ag.yu (o2:=.loop {ae with state:=.exhausted}) (co:=.loop {aC with state:=.exhausted}) aw ar rfl rfl ⟨_,rfl,rfl,A.pending,A.fn,A.tm,A.params,A.assign,A.body,A.defers,A.ok⟩;have aA:=I7 (P:=C.P) (b:=b) (tm:=tm) (df:=mark++df) (k:=k) (cs:=cs) aF;have W:=Steps.head ai (R.trans (.head M (.one aA)));refine⟨az,_,tm,mark++df,cs,h.trans I,aS,av,.refl _ _,?_⟩;have ac:=A.pending;cases ab:ae.pending with
       |none=>
        rw[ab]at ac N;cases N;have j:(Option.map Item.code aC.pending).toList++k=k:=by rw[ac];rfl
        rw[j]at W;exact W
       |some bn=>
        rw[ab]at ac N;have j:(Option.map Item.code aC.pending).toList++k=.code bn::k:=by rw[ac];rfl
        rw[j]at W;cases bn with
        |ret=>cases N;exact⟨k,W⟩
        |exit id=>cases N;exact⟨k,W,rfl⟩
        |_=>cases N
      ·cases a
     |eH bp=>
      simp only at a v;cases a;obtain⟨ad,J,B⟩:=v;have M:=step_leave_panicked (P:=C.P) (c:=eg b tm (mark++df) (.inRangeFunc ax.b::k)) (cs:=cs) (w:=aL) (fr:=F) ⟨J,an,fn,by rw[ay];exact ak⟩;exact⟨az,aL,tm,mark++df,cs,h.trans I,ag,av,.refl _ _,.inRangeFunc ax.b::k,ad,B,Steps.head ai (R.trans (.one M))⟩
  ·cases a
 |exit id=>
  intro m l st L g f e a d ρ w tm df cs k n i p;simp only[code,Option.some.injEq,Prod.mk.injEq]at a;obtain⟨rfl,rfl,rfl,rfl⟩:=a;exact⟨ρ,w,tm,df,cs,Ren.le_refl _,n,i,.refl _ _,k,.refl _ _,Z⟩
 |ret=>
  intro m l st L g f e a d ρ w tm df cs k n i p;simp only[code,Option.some.injEq,Prod.mk.injEq]at a;obtain⟨rfl,rfl,rfl,rfl⟩:=a;exact⟨ρ,w,tm,df,cs,Ren.le_refl _,n,i,.refl _ _,k,.refl _ _⟩
 |scope _ _=>intro m l st L g f e a;cases a
 |label _=>intro m l st L g f e a;cases a
 |goto _=>intro m l st L g f e a;cases a
 |refuse _=>intro m l st L g f e a;cases a
end
def I8(ρ:Ren)(m:Mode)(b:FrameMode):Prop:=
 match m with
 |.returning=>b=.returning
 |.panicking v=>∃a,b=.panicking [{v:=a,recovered:=false}]/\cX ρ v a
theorem I8.mono{ρ a:Ren}(b:ρ.le a){m:Mode}{c:FrameMode}(e:I8 ρ m c):I8 a m c:=by
 cases m with
 |returning=>exact e
 |panicking h=>obtain⟨d,g,f⟩:=e;exact⟨d,g,f.mono b⟩
def PE(m:Mode):dW:=match m with|.returning=>.none|.panicking a=>.gg a
variable{I:List Deferred}
section
variable{P:Program} {F:Frame} {cs:List Frame} {w w1:World}
theorem NW{ρ:Ren}{m:Mode}{b:FrameMode}(c:I8 ρ m b):b≠.run:=by
 cases m with
 |returning=>intro a;rw[a]at c;cases c
 |panicking e=>obtain⟨d,a,_⟩:=c;rw[a];intro a;cases a
theorem VX{args:Array Value}{b:List Deferred}(e:F.mode≠.run)(c:F.defers={target:=.collected A,args}::I)(d:(Instr.takeDeferred A).run P w=.ok b w1):
  step P (lone F cs w)=.next (lone {F with defers:=b++I} cs w1):=by
 refine step_lone_go ?_;cases a:F.mode with
 |run=>exact absurd a e
 |returning=>simp[stepG,a,unwind,c,Sem.runT_eq,d]
 |panicking f=>simp[stepG,a,unwind,c,Sem.runT_eq,d]
theorem I9{f:FuncId}{args a:Array Value}(e:F.mode≠.run)(c:F.defers={target:=.fn (.func f) a,args}::I)(g:(callFunc f (args++a)).run P w=.ok (.enter f (args++a)) w1):
  step P (lone F cs w)=.next (lone (Frame.enter P f (args++a) .deferred) ({F with defers:=I}::cs) w1):=by
 have d:(invoke (.fn (.func f) a) args).run P w=.ok (.enter f (args++a)) w1:=g;refine step_lone_go ?_;cases b:F.mode with
 |run=>exact absurd b e
 |returning=>simp[stepG,b,unwind,c,callDeferred,Sem.runT_eq,d]
 |panicking h=>simp[stepG,b,unwind,c,callDeferred,Sem.runT_eq,d]
def Ja(c:Frame):Frame:=
 match c.mode with
 |.panicking ({recovered:=true,.. }::a)=>
  match a.dropWhile (!·.goexit)with
  |[]=>{c with mode:=.returning}
  |rest=>{c with mode:=.panicking rest}
 |_=>c
theorem qA{c:Frame}{fn:Func}(b:F.mode=.returning)(a:F.defers=[])(d:F.kind=.deferred)(e:P.funcs[F.fn]?=some fn)(f:(results fn F.tmps).run P w=.ok j w):
  step P (lone F (c::cs) w)=.next (lone (Ja c) cs w):=by
 refine step_lone_go ?_;simp[stepG,b,unwind,a,e,Sem.runT_eq,f,doReturn,d,Ja];rfl
end
section
variable{C:dR} {w0:World} {N0:Nat} {G:Nat->Prop} {rc:Rec} {b:FB}
theorem yv(aj:Fm C)(am:wH C w0 N0 G rc)(tm:Array Value)(c:List Item)(cs:List Frame):∀(X:List Deferred) (m:Mode) (st:St) (I:Mode) (p:St),kB C rc X m st=some (I,p)->
  ∀(ρ:Ren) (w:World) (df:List Deferred) (g:FrameMode),di w0 N0 G ρ st w->Cz ρ X df->I8 ρ m g->
  ∃e t i,ρ.le e/\di w0 N0 G e p t/\I8 e I i/\Steps C.P (lone {eg b tm df c with mode:=g} cs w) (lone {eg b tm [] c with mode:=i} cs t):=by
 intro X;induction X with
 |nil=>
  intro m st I p v ρ w df g Y z h;simp only[kB,Option.some.injEq,Prod.mk.injEq]at v;obtain⟨rfl,rfl⟩:=v;cases df with
  |nil=>exact⟨ρ,w,g,Ren.le_refl _,Y,h,.refl _ _⟩
  |cons ap df=>exact z.elim
 |cons ap X af=>
  intro m st I p v ρ w df g Y z h;cases df with
  |nil=>exact z.elim
  |cons ak df=>
  obtain⟨L,J⟩:=z;have k:=L.target;obtain⟨aC,args⟩:=ap;obtain⟨U,d⟩:=ak;simp only[kB]at v;split at v
  ·rename_i ah;split at v
   ·rename_i V;cases U with
    |collected au=>
     obtain⟨ar,ac,rfl⟩:=k;have N:w.heap[ar.b]?=some (.deferred (some [])):=Y.obj _ _ _ ac V;have W:=VX (P:=C.P) (F:={eg b tm ({target:=.collected ar.b,args:=d}::df) c with mode:=g}) (cs:=cs) (NW h) rfl (run_takeDeferred N);have ae:=Y.yu (o2:=.eI true) (co:=.deferred none) ac V rfl rfl rfl;obtain⟨e,t,i,y,x,D,f⟩:=af _ _ _ _ v ρ _ df g ae J h;exact⟨e,t,i,y,x,D,.head W f⟩
    |_=>exact k.elim
   ·cases v
  ·rename_i av l;split at v
   ·rename_i aA aB ai ao ag an;cases U with
    |fn aw a=>
     cases aw with
     |func ay=>
      obtain⟨rfl,E⟩:=k;have H:cT ρ (args.toList++l.toList) (d++a).toList:=by
       simp only[agC];exact L.args.append E
      have W:=I9 (P:=C.P) (F:={eg b tm ({target:=.fn (.func av) a,args:=d}::df) c with mode:=g}) (cs:=cs) (NW h) rfl (rj (w:=w) aj ag _);have ad:uv ρ true (PE m) ({eg b tm df c with mode:=g}::cs):=by
       cases m with
       |returning=>exact⟨_,_,rfl,h⟩
       |panicking aq=>obtain⟨A,az,ah⟩:=h;exact⟨_,_,A,rfl,az,ah⟩
      obtain⟨K,R,F,S,n,aa,O,f,M,q,o,fn,T,r,A,j,_⟩:=am.call _ _ _ _ _ _ _ _ an ρ w (d++a) ({eg b tm df c with mode:=g}::cs) Y H ad;have B:∃s,I8 K (match m,ai with|.panicking _,.rD=>.returning|m,_=>m) s/\step C.P (lone F S R)=.next (lone {eg b tm df c with mode:=s} cs R):=by
       rcases O with⟨rfl,rfl⟩|⟨aq,al,rfl,rfl⟩
       ·refine⟨g,?_,?_⟩
        ·cases m<;>exact h.mono n
        ·rw[qA r q o (by rw[M];exact T) j];cases m with
         |returning=>
          cases h;rfl
         |panicking aq=>
          obtain⟨A,rfl,ah⟩:=h;rfl
       ·cases m with
        |returning=>cases al
        |panicking ax=>
         obtain⟨A,rfl,ah⟩:=h;refine⟨.returning,Z,?_⟩;simp only[yr];rw[qA r q o (by rw[M];exact T) j];rfl
      obtain⟨s,ab,Q⟩:=B;obtain⟨e,t,i,y,x,D,u⟩:=af _ _ _ _ v K R df s aa (J.mono n) ab;exact⟨e,t,i,n.trans y,x,D,.head W (f.trans (.head Q u))⟩
     |_=>exact k.elim
    |_=>exact k.elim
   ·cases v
  ·cases v
end
variable{y:Array Value} {S:CR}
section
variable{C:dR} {w0:World} {N0:Nat} {G:Nat->Prop} {rc:Rec}
theorem GK(l:nQ C){ρ:Ren}{st:St}{w:World}{t:Tr Value}{tm:Array Value}(m:di w0 N0 G ρ st w)(g:gB ρ A t tm){i:ResultVar}(f:Cq C t st i=some j):
  ∃a,((match i with|.tmp t=>pure (tm.getD t undef)|.cell k t=>do loadVar t (<-asAddr (tm.getD k undef))):Sem Value).run C.P w=.ok a w/\cX ρ j a:=by
 cases i with
 |tmp x=>exact⟨_,rfl,g.get f⟩
 |cell k o=>
  simp only[Cq]at f;split at f
  ·rename_i D n;split at f
   ·rename_i F s c;cases f;have e:=g.get n;obtain⟨a,h,p,_⟩:=IF l m e c;refine⟨a,?_,p⟩;unfold ye at c;split at c
    ·rename_i u b v _;obtain⟨P,r,d⟩:=qx e;rw[d]at h;show(do loadVar o (<-asAddr (tm.getD k undef)):Sem Value).run C.P w=.ok a w;rw[d];exact h
    ·cases c
   ·cases f
  ·cases f
theorem Eh(k:nQ C){ρ:Ren}{st:St}{w:World}{t:Tr Value}{tm:Array Value}(m:di w0 N0 G ρ st w)(i:gB ρ A t tm):∀{f:List ResultVar} {b:List Value},qt C t st f=some b->
  ∃a,(f.mapM (fun r=>(match r with|.tmp t=>pure (tm.getD t undef)|.cell s t=>do loadVar t (<-asAddr (tm.getD s undef)):Sem Value))).run C.P w=.ok a w/\cT ρ b a:=by
 intro f;induction f with
 |nil=>intro b c;cases c;exact⟨[],rfl,.nil⟩
 |cons r f o=>
  intro b c;simp only[qt]at c;split at c
  ·rename_i u vs1 l h;cases c;obtain⟨g,n,p⟩:=GK k m i l;obtain⟨a,d,e⟩:=o h;refine⟨g::a,?_,.cons p e⟩;rw[List.mapM_cons,cb _ n,cb _ d];rfl
  ·cases c
theorem Ei(g:nQ C){ρ:Ren}{st:St}{w:World}{t:Tr Value}{tm:Array Value}(f:di w0 N0 G ρ st w)(i:gB ρ A t tm){fn:Func}(e:qt C t st fn.results.toList=some q):
  ∃c,(results fn tm).run C.P w=.ok c w/\cX ρ (vD q) c:=by
 obtain⟨b,h,a⟩:=Eh g f i e;have d:(fn.results.mapM (fun l=>(match l with|.tmp t=>pure (tm.getD t undef)|.cell n t=>do loadVar t (<-asAddr (tm.getD n undef)):Sem Value))).run C.P w=.ok b.toArray w:=by
  rw[Array.mapM_eq_mapM_toList];show(Functor.map List.toArray _:Sem (Array Value)).run C.P w=_;rw[map_eq_pure_bind,cb _ h];rfl
 refine⟨if e:b.toArray.size=1 then b.toArray[0]else .tuple b.toArray,?_,?_⟩
 ·unfold results;exact(cb _ d).trans Z
 ·have k:=a.length
  match q,b,a with
  |[],[],_=>exact .tuple .nil
  |[v],[c],.cons e _=>exact e
  |v::p::l,c::o::m,a=>
   rw[dif_neg sm];exact .tuple a
  |[],_::_,a=>cases a
  |_::_,[],a=>cases a
  |[_],_::_::_,a=>cases a with|cons _ t=>cases t
  |_::_::_,[_],a=>cases a with|cons _ t=>cases t
theorem PF(l:Fm C){ρ:Ren}{f:FuncId}{c:FI}(e:C.ff.get f=some c)(b:Bool)(k:q.length<=c.nt)(r:cT ρ q y.toList):
  ∃tm,Frame.enter C.P f y (kindOf b)=eg ⟨f,kindOf b,none⟩ tm [] [.code c.body]/\lz ρ ⟨f,c.nt,none,b⟩ ⟨eE 0 q .nil,[]⟩ ⟨f,kindOf b,none⟩ tm []:=by
 obtain⟨fn,i,h,m,_,_⟩:=l.fn _ _ e;have d:=r.length;refine⟨y++Array.replicate (c.nt-y.size) undef,?_,Z,Z,Z,⟨?_,fun o t n=>?_⟩,tv⟩
 ·simp[Frame.enter,eg,i,h,m]
 ·have:y.size=q.length:=by rw[d];simp
  simp;omega
 ·have a:(eE 0 q .nil).get o=some t:=n;rw[qw]at a;split at a
  ·rename_i u;have p:y.size=q.length:=by rw[d];simp
   obtain⟨g,v,s⟩:=r.get (i:=o) (by simpa using a);refine⟨g,?_,s⟩;rw[Array.getElem?_append_left om];simpa using v
  ·rw[pF]at a;cases a
theorem CE(ac:nQ C)(B:Fm C)(ag:nX C)(M:C.P.follows .mixedOrders=true)(ak:∀f p,C.ff.get f=some p->codeOk p.body=true)(Q:∀G,wH C w0 N0 G rc){f:FuncId}{st F:St} 
  (l:yg C rc f q R z st=some (S,J,F)) {ρ:Ren} {w:World} {cs:List Frame} (ah:di w0 N0 G ρ st w) (K:cT ρ q y.toList) (ai:uv ρ R z cs):BT C w0 N0 G ρ f y R z S J F cs w:=by
 unfold yg at l;split at l
 ·cases l
 ·rename_i p H;split at l
  ·cases l
  ·rename_i N;obtain⟨tm,W,aa⟩:=PF B H R (agy N) K;obtain⟨fn,j,_,_,I,_⟩:=B.fn _ _ H;have X:∀{m:Mode} {u:Fr} {P:dW} {x:St} {a:Ren} {w1:World} {i:Array Value} {e:List Deferred} {c:List Frame} {r:List Item} {m':FrameMode},finish C rc p m u P x=some (S,J,F)->ρ.le a->di w0 N0 G a x w1->
     lz a ⟨f,p.nt,none,R⟩ u ⟨f,kindOf R,none⟩ i e->pH z P cs c->I8 a m m'->
     Steps C.P (lone (eg ⟨f,kindOf R,none⟩ tm [] [.code p.body]) cs w) (lone {eg ⟨f,kindOf R,none⟩ i e r with mode:=m'} c w1)->BT C w0 N0 G ρ f y R z S J F cs w:=by
    intro m u P x a w1 i e c r m' l n h d k ad g;unfold finish at l;split at l
    ·cases l
    ·rename_i v ab O;cases l;obtain⟨Y,U,af,o,D,A,t⟩:=yv (b:=⟨f,kindOf R,none⟩) B (Q G) i r c _ _ _ _ _ O a w1 e m' h d.df ad;obtain⟨T,rfl,E⟩:=A;exact⟨Y,U,_,c,n.trans o,D,k,by rw[W];exact g.trans t,Z,Z,Z,fn,j,T,Z,E⟩
    ·rename_i ab O;split at l
     ·rename_i an L;cases l;obtain⟨Y,U,af,o,D,A,t⟩:=yv (b:=⟨f,kindOf R,none⟩) B (Q G) i r c _ _ _ _ _ O a w1 e m' h d.df ad;cases A;rw[<-I]at L;obtain⟨T,aj,E⟩:=Ei ac D (d.tm.mono o) L;exact⟨Y,U,_,c,n.trans o,D,k,by rw[W];exact g.trans t,Z,Z,Z,fn,j,Z,T,aj,E⟩
     ·cases l
   cases V:code C rc ⟨f,p.nt,none,R⟩ p.body ⟨eE 0 q .nil,[]⟩ z st with
   |none=>rw[V]at l;cases l
   |some al=>
    obtain⟨am,u,P,x⟩:=al;rw[V]at l;obtain⟨a,w1,i,e,c,n,h,d,k,s⟩:=sp (b:=⟨f,kindOf R,none⟩) ac B ag M Q p.body _ _ _ _ _ _ _ V (ak _ _ H) ρ w tm [] cs [] ah aa ai;cases am with
    |norm=>exact X l n h d k (m':=.returning) rfl (Steps.trans s (.one (aaA rfl)))
    |ret=>
     obtain⟨ae,g⟩:=s;exact X l n h d k (m':=.returning) Z (Steps.trans g (.one (aaz Z)))
    |panic v=>
     obtain⟨ae,T,E,g⟩:=s;exact X l n h d k (m':=.panicking [{v:=T,recovered:=false}]) ⟨T,Z,E⟩ g
    |exit id=>cases l
theorem Ej{ρ:Ren}:∀{c:List Tmp} {b:List Value} {k e:Tr Value} {a:List Value} {tm:Array Value},nh c b A k=some e->cT ρ b a->gB ρ A k tm->
  c.length=a.length/\gB ρ A e ((c.zip a).foldl (fun h (t:Tmp×Value)=>h.setIfInBounds t.1 t.2) tm):=by
 intro c;induction c with
 |nil=>
  intro b k e a tm f d g;cases b with
  |nil=>cases d;cases f;exact⟨rfl,g⟩
  |cons s b=>cases f
 |cons u c p=>
  intro b k e a tm f d g;cases b with
  |nil=>cases f
  |cons s b=>
   cases d with
   |@cons _ w _ a d m=>
   simp only[nh]at f;split at f
   ·rename_i l;have i:=dy (fr:=⟨k,[]⟩) (nt:=A) (dst:=some u) (fr':=⟨k.set u s,[]⟩) g d (by simp only[gV,l]);obtain⟨o,n⟩:=p f m i.1;exact⟨by simp[o],n⟩
   ·cases f
end
section
variable{P:Program} {b:FB} {tm:Array Value} {df:List Deferred} {k:List Item} {cs:List Frame} {w w1:World} {c:Frame}
theorem Ek{l:Nat}(a:b.round=some l)(c:(Instr.beginRound l).run P w=.ok () w1):
  step P (lone (eg b tm df (.beginRound::k)) cs w)=.next (lone (eg b tm df k) cs w1):=
 step_lone_go (by simp[stepG,stepG.exec,stepG.apply,eg,a,Sem.runT_eq,c,Result.andThen,Frame.finish])
theorem GL{l:Nat}(d:b.round=some l)(a:b.kind=.normal)(e:(Instr.endRound l none).run P w=.ok j w1):
  step P (lone (eg b tm df []) (c::cs) w)=.next (lone (c.finish j) cs w1):=
 step_lone_go (by simp[stepG,stepG.exec,eg,d,a,Sem.runT_eq,e,doReturn])
theorem GM{l:Nat}(d:b.round=some l)(a:b.kind=.normal)(e:(Instr.endRound l (some .ret)).run P w=.ok j w1):
  step P (lone (eg b tm df (.code .ret::k)) (c::cs) w)=.next (lone (c.finish j) cs w1):=
 step_lone_go (by simp[stepG,stepG.exec,eg,d,a,Sem.runT_eq,e,doReturn])
theorem El{l id:Nat}(e:b.round=some l)(a:b.kind=.normal)(f:exitTo id k=none)(d:(Instr.endRound l (some (.exit id))).run P w=.ok j w1):
  step P (lone (eg b tm df (.code (.exit id)::k)) (c::cs) w)=.next (lone (c.finish j) cs w1):=
 step_lone_go (by simp[stepG,stepG.exec,eg,e,a,f,Sem.runT_eq,d,doReturn])
end
variable{M:ql} {B N:TypeId} {H:Nat×Nat}
section
variable{C:dR} {w0:World} {N0:Nat} {G:Nat->Prop} {rc:Rec}
theorem Jb(av:nQ C)(ae:Fm C)(ax:nX C)(B:C.P.follows .mixedOrders=true)(aL:∀G,wH C w0 N0 G rc){l:Nat}{st Q:St} 
  (e:ug C rc l q st=some (S,Q)) {ρ:Ren} {w:World} {W:Loc} (aF:di w0 N0 G ρ st w) (ah:ρ l=some W) (L:cT ρ q y.toList):IU C w0 N0 G ρ W y S Q w:=by
 unfold ug at e;split at e
 ·rename_i g ar;split at e
  ·cases e
  ·cases e
  ·rename_i bb tm aG af;obtain⟨a,aq,D⟩:=aF.obj _ _ _ ah ar;obtain⟨fn,ag,_,_,_,_⟩:=ae.fn _ _ aG;obtain⟨X,I⟩:=Ej af L D.tm;rw[<-D.params]at X I;have ap:y.size=a.params.size:=by simpa using X.symm
   have aO:=run_yield (P:=C.P) aq ap;refine⟨_,_,_,_,aO,fun c cs=>?_⟩;have M:(a.params.zip y).foldl (fun d (s:Tmp×Value)=>d.setIfInBounds s.1 s.2) a.tmps=(a.params.toList.zip y.toList).foldl (fun d (s:Tmp×Value)=>d.setIfInBounds s.1 s.2) a.tmps:=by
    rw[<-Array.foldl_toList,Array.toList_zip]
   rw[<-M]at I;have H:Frame.round W.b a.fn ((a.params.zip y).foldl (fun d (s:Tmp×Value)=>d.setIfInBounds s.1 s.2) a.tmps) a.assign a.body .normal=
     eg ⟨a.fn,.normal,some W.b⟩ ((a.params.zip y).foldl (fun d (s:Tmp×Value)=>d.setIfInBounds s.1 s.2) a.tmps) [] (.code g.assign:: [.beginRound,.code g.body]):=by
    rw[<-D.assign,<-D.body];rfl
   have aJ:lz ρ ⟨g.fn,g.nt,some l,false⟩ ⟨tm,[]⟩ ⟨a.fn,.normal,some W.b⟩ ((a.params.zip y).foldl (fun d (s:Tmp×Value)=>d.setIfInBounds s.1 s.2) a.tmps) []:=⟨D.fn,⟨W,ah,rfl⟩,rfl,I,tv⟩;have aC:Frame.round W.b a.fn ((a.params.zip y).foldl (fun d (bf,ba)=>d.setIfInBounds bf ba) a.tmps) a.assign a.body .normal=eg ⟨a.fn,.normal,some W.b⟩ ((a.params.zip y).foldl (fun d (s:Tmp×Value)=>d.setIfInBounds s.1 s.2) a.tmps) [] (.code g.assign:: [.beginRound,.code g.body]):=H;rw[aC];simp only at e;cases ad:code C rc ⟨g.fn,g.nt,some l,false⟩ g.assign ⟨tm,[]⟩ .none st with
   |none=>rw[ad]at e;cases e
   |some bc=>
    obtain⟨s,aD,aS,aE⟩:=bc;rw[ad]at e;have ay:=sp (b:=⟨a.fn,.normal,some W.b⟩) av ae ax B aL g.assign _ _ _ _ _ _ _ ad D.ok.1 ρ w _ [] (c::cs) [.beginRound,.code g.body] aF aJ trivial;cases s with
    |exit id=>cases e
    |ret=>cases e
    |panic be=>cases e
    |norm=>
     obtain⟨an,w1,V,aa,aW,v,N,aK,az,ac⟩:=ay;obtain⟨_,rfl⟩:=nj az;simp only at e;split at e
     ·rename_i ab J;split at e
      ·rename_i Y;have z:=v _ _ ah;obtain⟨ao,ai,h⟩:=N.obj _ _ _ z J;have aw:=run_beginRound (P:=C.P) ai (by rw[h.state];exact Y);have am:=N.yu (o2:=.loop {ab with state:=.busy}) (co:=.loop {ao with state:=.busy}) z J rfl rfl ⟨_,rfl,rfl,h.pending,h.fn,h.tm,h.params,h.assign,h.body,h.defers,h.ok⟩;have r:=Steps.trans ac (.one (Ek (P:=C.P) (b:=⟨a.fn,.normal,some W.b⟩) (tm:=V) (df:=aa) (k:=[.code g.body]) (cs:=c::cs) rfl aw));cases A:code C rc ⟨g.fn,g.nt,some l,false⟩ g.body aD .none (aE.put l (.loop {ab with state:=.busy}))with
       |none=>rw[A]at e;cases e
       |some aR=>
        obtain⟨aM,aU,aV,U⟩:=aR;rw[A]at e;obtain⟨F,au,aY,O,aX,o,E,aA,ak,n⟩:=sp (b:=⟨a.fn,.normal,some W.b⟩) av ae ax B aL g.body _ _ _ _ _ _ _ A D.ok.2 an _ V aa (c::cs) [] am aK trivial;obtain⟨_,rfl⟩:=nj ak;have R:=o _ _ z;have j:∀(m:Option Code) (i:Fg),U.get l=some (.loop i)->∃x,(Instr.endRound W.b m).run C.P au=.ok (.bool m.isNone) x/\di w0 N0 G F (U.put l (.loop {i with state:=if m.isNone then .ready else .done,pending:=m})) x:=by
         intro m i f;obtain⟨aT,aj,p⟩:=E.obj _ _ _ R f;exact⟨_,run_endRound m aj,E.yu R f Z Z ⟨_,Z,Z,Z,p.fn,p.tm,p.params,p.assign,p.body,p.defers,p.ok⟩⟩
        cases aM with
        |norm=>
         simp only at e;split at e
         ·rename_i i f T;cases e;obtain⟨x,K,t⟩:=j none i f;exact⟨F,x,v.trans o,t,.bool true,.bool true,(r.trans n).trans (.one (GL Z Z K))⟩
         ·cases e
        |ret=>
         obtain⟨aH,u⟩:=n;simp only at e;split at e
         ·rename_i i f T;cases e;obtain⟨x,K,t⟩:=j (some .ret) i f;exact⟨F,x,v.trans o,t,.bool false,.bool false,(r.trans u).trans (.one (GM Z Z K))⟩
         ·cases e
        |exit id=>
         obtain⟨aH,u,aN⟩:=n;simp only at e;split at e
         ·rename_i i f T;cases e;obtain⟨x,K,t⟩:=j (some (.exit id)) i f;exact⟨F,x,v.trans o,t,.bool false,.bool false,(r.trans u).trans (.one (El Z Z aN K))⟩
         ·cases e
        |panic be=>
         obtain⟨aH,aQ,aP,u⟩:=n;simp only at e;split at e
         ·rename_i T;cases e;have aI:=aA.df;rw[T]at aI;have aB:O=[]:=by
           cases O with
           |nil=>rfl
           |cons _ _=>exact aI.elim
          subst aB;refine⟨F,au,v.trans o,E,aQ,aP,(r.trans u).trans (.one (step_leave_panicked ⟨Z,Z,fn,?_⟩))⟩;show C.P.funcs[a.fn]?=some fn;rw[D.fn];exact ag
         ·cases e
      ·cases e
     ·cases e
 ·cases e
def Jc:Value->Bool
 |.tuple ⟨a⟩=>a.all flat
 |v=>flat v
def CF(C:dR)(w0:World)(N0:Nat)(d:ql):Prop:=
 ∀f b e,d f b=some e->(Jc e=true/\∀(ρ:Ren) (a:Array Value) (w:World),cT ρ b a.toList->Below N0 w0 w->N0<=w.heap.size->
  Calls C.P f a w fun i c=>i=.returned e/\Below w.heap.size w c)∨
  ∃h k,e=.agg ⟨[h,.iface k .nilIface]⟩/\flat h=true/\∀(ρ:Ren) (a:Array Value) (w:World),cT ρ b a.toList->Below N0 w0 w->N0<=w.heap.size->
   Calls C.P f a w fun i c=>∃g,i=.returned (.tuple ⟨[h,.iface k (.pointer (some ⟨g,0,none⟩))]⟩)/\w.heap.size<=g/\g<c.heap.size/\Below w.heap.size w c
theorem PG(a:Jc j=true)(ρ:Ren):cX ρ j j:=by
 unfold Jc at a;split at a
 ·exact .tuple (jI a ρ)
 ·exact uo a ρ
theorem GN(b:Jc j=true)(a:dW)(st:St):BP j a st=some (.ret j,a,st):=by
 unfold BP;split
 ·simp[Jc,flat]at b
 ·rfl
theorem LO(U:CF C w0 N0 M){f:FuncId}(ac:M f q=some j){ρ:Ren}{st:St}{w:World}{cs:List Frame}(d:di w0 N0 G ρ st w)(s:cT ρ q y.toList)(B:BP j z st=some (S,J,Q)):
  BT C w0 N0 G ρ f y false z S J Q cs w:=by
 rcases U f q j ac with⟨t,E⟩|⟨ae,ad,rfl,t,E⟩
 ·rw[GN t]at B;cases B;obtain⟨a,F,A,⟨rfl,m⟩,e,i,h,Y,x,fn,o,p⟩:=E ρ y w s d.below d.Fi cs;exact⟨ρ,F,A,cs,Ren.le_refl _,d.Sr m,.refl _ _,e,i,Y,x,fn,by rw[<-i];exact o,h,j,p,PG t ρ⟩
 ·cases B;obtain⟨a,F,A,⟨T,rfl,L,H,m⟩,e,i,h,Y,x,fn,o,p⟩:=E ρ y w s d.below d.Fi cs;have D:=d.Sr m;have X:ρ.le (fun b=>if b=st.n then some ⟨T,0,1,1,true⟩else ρ b):=fun b l a=>by
   have:=(d.xT b l a).1;show(if b=st.n then _ else _)=_;rw[if_neg om];exact a
  have r:∀b v,st.get b=some v->b≠st.n:=fun b v a=>by have:=d.wf.lt b v a;omega
  have R:di w0 N0 G (fun b=>if b=st.n then some ⟨T,0,1,1,true⟩else ρ b) {st with n:=st.n+1} F:=by
   refine⟨⟨fun b v a=>agq (d.wf.lt b v a),fun b c a f ab g=>⟨agq (d.wf.dP b c a f ab g).1,(d.wf.dP b c a f ab g).2⟩,fun f O a=>agq (d.wf.NN f O a),Nat.succ_pos _,d.wf.zro⟩,D.below,D.Fi,fun b m=>?_,fun b l a=>?_,fun b l v a g=>?_,fun b P l N v K a g V W u I=>?_,d.j2.H0 d.sep (fun _=>False) (fun b l a=>(d.xT _ _ a).2.2) m.size (fun k x _=>m.block k x) (fun _ aa=>aa.elim) (fun b l a=>?_) (fun b l ag af ah W u=>?_)⟩
   ·have:=d.K1 b m;refine⟨?_,agq this.2⟩;show(if b=st.n then _ else _)=_;rw[if_neg om];exact this.1
   ·have a:(if b=st.n then some ⟨T,0,1,1,true⟩else ρ b)=some l:=a;split at a
    ·cases a
     subst_vars
     exact⟨Nat.lt_succ_self _,fun _=>⟨Nat.le_trans d.Fi L,Z⟩,H⟩
    ·have:=D.xT b l a;exact⟨agq this.1,this.2⟩
   ·have a:(if b=st.n then some ⟨T,0,1,1,true⟩else ρ b)=some l:=a;rw[if_neg (r b v g)]at a;exact(D.obj b l v a g).mono X
   ·have a:(if b=st.n then some ⟨T,0,1,1,true⟩else ρ b)=some l:=a;have g:(if P=st.n then some ⟨T,0,1,1,true⟩else ρ P)=some N:=g;rw[if_neg (r b v W)]at a;rw[if_neg (r P K u)]at g;exact D.sep b P l N v K a g V W u I
   ·have a:(if b=st.n then some ⟨T,0,1,1,true⟩else ρ b)=some l:=a;split at a
    ·cases a;exact .inr (.inl L)
    ·exact .inl a
   ·have a:(if b=st.n then some ⟨T,0,1,1,true⟩else ρ b)=some l:=W;rw[if_neg (r b _ u)]at a;exact⟨a,u⟩
  refine⟨_,F,A,cs,X,R,.refl _ _,e,i,Y,x,fn,by rw[<-i];exact o,h,_,p,.tuple (.cons (uo t _) (.cons (.iface ad (.ptr (l:=⟨T,0,1,1,true⟩) (by
   show(if st.n=st.n then _ else _)=_;rw[if_pos rfl]))) .nil))⟩
def E6(C:dR)(w0:World)(N0:Nat):Prop:=
 ∀g b st h d,C.prm g b st=some (h,d)->∀(G:Nat->Prop) (ρ:Ren) (w:World) (a:Array Value),di w0 N0 G ρ st w->cT ρ b a.toList->
  Calls C.P g a w fun i f=>∃e c,i=.returned e/\ρ.le c/\di w0 N0 G c d f/\cX c h e
theorem Vx(t:E6 C w0 N0){f:FuncId}{st d:St}(v:C.prm f q st=some (j,d)){ρ:Ren}{w:World}{cs:List Frame}(r:di w0 N0 G ρ st w)(b:cT ρ q y.toList):
  BT C w0 N0 G ρ f y false z (.ret j) z d cs w:=by
 obtain⟨x,n,s,⟨o,k,rfl,l,i,u⟩,a,e,c,m,p,fn,g,h⟩:=t _ _ _ _ _ v G ρ w y r b cs;exact⟨k,n,s,cs,l,i,.refl _ _,a,e,m,p,fn,by rw[<-e];exact g,c,o,h,u⟩
theorem VY(q:E6 C w0 N0)(i:nQ C)(l:Fm C)(m:nX C)(d:C.P.follows .mixedOrders=true)(x:∀F D,C.ff.get F=some D->codeOk D.body=true)(j:CF C w0 N0 M):∀P G,wH C w0 N0 G (jN C M P):=by
 intro P;induction P with
 |zero=>
  intro G;exact⟨fun _ _ _ _ _ _ _ _ _ e=>by(cases e),fun _ _ _ _ _ _ _ _ e=>by(cases e),fun _ _ _ _ _ e=>by(cases e)⟩
 |succ P p=>
  intro G;refine⟨fun fc c E T st z A t r e u ρ w b tm df cs k f Y n=>?_,fun F g v T st W t r e ρ w o cs f a n=>?_,fun I g st W r e ρ w H o f X a=>?_⟩
  ·exact sp i l m d p c _ _ _ _ _ _ _ e u ρ w tm df cs k f Y n
  ·cases v with
   |true=>exact CE i l m d x p e f a n
   |false=>
    cases s:M F g with
    |none=>
     simp only[jN,s]at e;cases h:C.prm F g st with
     |none=>
      simp only[h]at e;exact CE i l m d x p e f a n
     |some z=>
      obtain⟨B,y⟩:=z;simp only[h]at e;cases e;exact Vx q h f a
    |some B=>
     simp only[jN,s]at e;exact LO j s f a e
  ·exact Jb i l m d p e f X a
theorem rK{ρ:Ren}(b:flat j=true)(a:cX ρ j O):O=j:=by
 cases a<;>first|rfl|cases b
theorem OP{w:World}(P:E6 C w w.heap.size)(t:nQ C)(u:Fm C)(v:nX C)(e:C.P.follows .mixedOrders=true)(W:∀f p,C.ff.get f=some p->codeOk p.body=true)(D:CF C w w.heap.size M) 
  {b:Ren} {st0:St} (x:di w w.heap.size (fun _=>False) b st0 w) {n:Nat} {f:FuncId} {st:St} (B:(jN C M n).call f q false .none st0=some (.ret j,z,st)) (c:cT b q y.toList) (T:flat j=true):
  Calls C.P f y w fun E g=>E=.returned j/\Below w.heap.size w g:=by
 intro cs;obtain⟨X,g,F,Y,A,k,o,a,d,l,s,fn,h,G,r,i,m⟩:=(VY P t u v e W D n (fun _=>False)).call _ _ _ _ _ _ _ _ B b w y cs x c trivial;obtain⟨_,rfl⟩:=nj o;have:=rK T m;subst this;exact⟨.returned r,g,F,⟨Z,k.below⟩,a,d,G,l,s,fn,by rw[d];exact h,i⟩
theorem di.start(w:World):di w w.heap.size (fun _=>False) (fun _=>none) ⟨.nil,1,.nil⟩ w:=by
 have a:∀e,(⟨.nil,1,.nil⟩:St).get e=none:=fun e=>pF e;refine⟨⟨fun b k h=>?_,fun b c l f u h=>?_,fun f ms h=>?_,agw,fun k h=>?_⟩,.refl _ _,agm _,fun b h=>h.elim,fun b d h=>by(cases h),fun b d k h=>by(cases h),fun b i d g k r h=>by(cases h),fun b d o l s h=>by(cases h),fun b i d g o l s n p m t h=>by(cases h)⟩
 ·rw[a]at h;cases h
 ·rw[a]at h;cases h
 ·exact OO
 ·rw[a]at h;cases h
theorem Jd{w:World}(g:E6 C w w.heap.size)(i:nQ C)(m:Fm C)(d:nX C)(b:C.P.follows .mixedOrders=true)(l:∀f c,C.ff.get f=some c->codeOk c.body=true)(e:CF C w w.heap.size M) 
  {n:Nat} {f:FuncId} {st:St} (o:(jN C M n).call f q false .none ⟨.nil,1,.nil⟩=some (.ret j,z,st)) (a:q.all flat=true) (h:flat j=true):
  Calls C.P f q.toArray w fun p k=>p=.returned j/\Below w.heap.size w k:=
 OP g i m d b l e (.start w) o (by simpa using jI a _) h
def rA(c:List Value):St:=⟨Tr.set .nil 0 (.cells c 1 0 0),1,.nil⟩
theorem j3(c:List Value)(a:Nat):(rA c).get a=if a=0 then some (.cells c 1 0 0)else none:=by
 show(Tr.set .nil 0 (fX.cells c 1 0 0)).get a=_;rw[cB,pF]
theorem KS{w:World}{b d:Nat}{c:List Value}(k:w.heap[b]?=some (.cells y B H))(v:d+c.length<=y.size)(t:∀(r:Nat) (i:Value),c[r]?=some i->y[d+r]?=some i/\flat i=true):
  di w w.heap.size (fun _=>False) (fun g=>if g=0 then some ⟨b,d,1,y.size,false⟩else none) (rA c) w:=by
 have m:b<w.heap.size:=by
  rcases agt b w.heap.size with h|h
  ·exact h
  ·rw[ags h]at k;cases k
 refine⟨⟨fun g C h=>?_,fun g G e f j h=>?_,fun f ms h=>?_,agw,fun C h=>?_⟩,.refl _ _,agm _,fun b h=>h.elim,fun g u h=>?_,fun g u C h a=>?_,fun g P u D C W l a _ _ _ n=>?_,fun g u T e s h a=>?_,fun g P u D T e s X o F Y h l a=>?_⟩
 ·rw[j3]at h;split at h
  ·rename_i e;rw[e];exact agw
  ·cases h
 ·rw[j3]at h;split at h
  ·rename_i e;cases h;exact⟨agw,by unfold uh;rw[show(rA c).fm.get 0=none from pF _];exact e⟩
  ·cases h
 ·exact OO
 ·rw[j3,if_pos rfl]at h;cases h;rfl
 ·split at h
  ·rename_i e;cases h;exact⟨by rw[e];exact agw,fun x=>absurd e x,m⟩
  ·cases h
 ·split at h
  ·rename_i e;cases h;rw[j3,if_pos e]at a;cases a;exact⟨y,B,H.1,H.2,k,Z,Z,v,fun r i p=>⟨i,(t r i p).1,uo (t r i p).2 _⟩,fun h=>by cases h⟩
  ·cases h
 ·split at l
  ·rename_i e;split at a
   ·rename_i o;exact absurd (e.trans o.symm) n
   ·cases a
  ·cases l
 ·rw[j3]at a;split at a<;>cases a
 ·rw[j3]at a;split at a<;>cases a
end
def indexByte:cq->Nat->Nat->Int
 |[],_,_=> -1
 |x::b,c,a=>match agn x.toNat c with|true=>.ofNat a|false=>indexByte b c (a+1)
def pK:cq->cq->Bool
 |[],_=>true
 |_,[]=>false
 |a::d,b::c=>match agn a.toNat b.toNat with|true=>pK d c|false=>false
def mQ(a:cq):cq->Bool
 |[]=>match a with|[]=>true|_=>false
 |x::b=>match pK a (x::b)with|true=>true|false=>mQ a b
def yw(a b:cq):Int:=match cE a b with|true=> -1|false=>match l8 a b with|true=>0|false=>1
def countB(c:Nat):cq->Nat
 |[]=>0
 |x::a=>match agn x.toNat c with|true=>countB c a+1|false=>countB c a
theorem Je(b:UInt8){c:Nat}(a:c<256):(b==c.toUInt8)=agn b.toNat c:=by
 rw[agu];simp only[beq_iff_eq,Nat.beq_eq];constructor
 ·rintro rfl;simp[Nat.mod_eq_of_lt a]
 ·intro d;apply UInt8.toNat_inj.1;simp[Nat.mod_eq_of_lt a,d]
theorem Fp(c b:UInt8):(c==b)=agn c.toNat b.toNat:=by
 rw[agu];simp only[beq_iff_eq,Nat.beq_eq];exact⟨fun a=>a▸Z,fun a=>UInt8.toNat_inj.1 a⟩
theorem VZ(b a:UInt8):Nat.blt b.toNat a.toNat=decide (b<a):=by
 rw[agu,decide_eq_true_eq,UInt8.lt_iff_toNat_lt];show Nat.ble (b.toNat+1) a.toNat=true↔_;rw[Nat.ble_eq];exact Iff.rfl
theorem GO{c:Nat}(f:c<256):∀(b:cq) (a:Nat),indexByte b c a=if Lib.indexByte b c.toUInt8= -1 then-1 else(a:Int)+Lib.indexByte b c.toUInt8:=by
 intro b;induction b with
 |nil=>intro a;rfl
 |cons h b d=>
  intro a;simp only[indexByte,Lib.indexByte,Je h f];cases agn h.toNat c with
  |true=>simp
  |false=>
   simp only[d,Bool.false_eq_true,if_false,beq_iff_eq];have g:=Lib.indexByte_ge b c.toUInt8;by_cases e:Lib.indexByte b c.toUInt8= -1
   ·simp[e]
   ·rw[if_neg e,if_neg e,if_neg om];omega
theorem Em{c:Nat}(a:c<256)(l:cq):indexByte l c 0=Lib.indexByte l c.toUInt8:=by
 rw[GO a];split
 ·rename_i b;exact b.symm
 ·simp
theorem LP{c:Nat}(b:c<256)(l:cq):countB c l=Lib.countByte l c.toUInt8:=by
 unfold Lib.countByte;induction l with
 |nil=>rfl
 |cons d l a=>
  rw[List.count_cons,Je d b];simp only[countB];cases agn d.toNat c with
  |true=>simp[a]
  |false=>simp[a]
theorem SL:∀(e b:cq),yw e b=Lib.compareBytes e b:=by
 intro e;induction e with
 |nil=>intro b;cases b<;>rfl
 |cons g e a=>
  intro b;cases b with
  |nil=>rfl
  |cons f b=>
   have a:=a b;unfold yw at a⊢;simp only[Lib.compareBytes,cE,l8,VZ];by_cases h:g<f
   ·simp[h]
   ·simp only[h,decide_false,if_false];by_cases c:g=f
    ·subst c;simp only[Nat.beq_refl,h,if_false];exact a
    ·have i:agn g.toNat f.toNat=false:=by
      rw[<-Fp];simpa using c
     have d:f<g:=UInt8.lt_of_le_of_ne (UInt8.not_lt.1 h) (Ne.symm c);simp[i,d]
theorem PH:∀(a b:cq),pK a b=a.isPrefixOf b:=by
 intro a;induction a with
 |nil=>intro b;cases b<;>simp[pK]
 |cons e a c=>
  intro b;cases b with
  |nil=>simp[pK]
  |cons d b=>
   simp only[pK,List.isPrefixOf_cons_cons,Fp e d,c];cases agn e.toNat d.toNat<;>simp
theorem LQ(a:cq):∀(s:cq),mQ a s=Lib.contains s a:=by
 intro s;unfold Lib.contains;induction s with
 |nil=>cases a<;>simp[mQ,Lib.index]
 |cons e s f=>
  rw[agu,decide_eq_true_eq]at f⊢;have d:Lib.index (e::s) a=if a.isPrefixOf (e::s)then 0 else if Lib.index s a== -1 then-1 else Lib.index s a+1:=rfl
  have c:mQ a (e::s)=match pK a (e::s)with|true=>true|false=>mQ a s:=rfl
  rw[PH]at c;have g:=Lib.index_ge s a;by_cases b:a.isPrefixOf (e::s)=true
  ·rw[if_pos b]at d;rw[b]at c;rw[d,c];simp
  ·rw[if_neg b]at d;rw[Bool.not_eq_true]at b;rw[b]at c;rw[d,c];show mQ a s=true↔_;rw[f];by_cases h:Lib.index s a= -1
   ·simp[h]
   ·rw[if_neg (by simpa using h)];omega
open Go.Shelf Go.RowKit Go.Proofs
structure afH (b:Nat) (w w':World):Prop where
 size:w.heap.size<=w'.heap.size
 block:∀k,k<w.heap.size->k≠b->pQ w b≠some k->w'.heap[k]?=w.heap[k]?
 own:∀g,pQ w' b=some g->pQ w b=some g∨w.heap.size<=g
theorem w6{w:World}{b:Nat}{p a:Value}(c:w.heap[b]?=some (.cells #[p,a] B H)):pQ w b=a.ownBlock:=by unfold pQ;rw[c]
theorem aen{w:World}{b:Nat}{p d a:Value}(c:w.heap[b]?=some (.cells #[p,d] B H)):pQ (w.setCell ⟨b,0,none⟩ a) b=pQ w b:=by
 rw[w6 c];unfold pQ;rw[show(w.setCell ⟨b,0,none⟩ a).heap[b]?=some (.cells #[a,d] B H)from by simp[World.setCell,agv,c]]
section
variable{P:Program} {ρ:Go.Shelf.Ren}
theorem abD(l:Lays.n240 P ρ)(i:Builder.X72 P ρ)(d b:Nat)(bs:List Value)(w:World)(h:Lib.IsBuilder (ρ.t 72) (ρ.t 5) d b bs w):
  Calls P (ρ.f 240) #[.pointer (some ⟨b,0,none⟩)] w fun g a=>g=.returned (.tuple #[])/\Lib.BuilderAt (ρ.t 72) (ρ.t 5) d b (.pointer (some ⟨b,0,none⟩)) bs a/\Below d w a/\a.heap.size=w.heap.size/\(∀k,k≠b->a.heap[k]?=w.heap[k]?)/\pQ a b=pQ w b:=by
 rcases h with h|h
 ·have c:=h;refine(Any.Builder_copyCheck_fresh l i b w h.cell0 h.shape h.frozen0).mono ?_;rintro g a ⟨rfl,rfl⟩;obtain⟨_,m,f,_⟩:=h;exact⟨Z,c.used _,(Below.refl d w).setCell (p:=⟨b,0,none⟩) c.1 _,by simp[World.setCell],fun k e=>Below.heap_setCell _ _ _ _ e,aen f⟩
 ·refine(Any.Builder_copyCheck_used l i b w h.cell0).mono ?_;rintro g a ⟨rfl,rfl⟩;exact⟨Z,h,Below.refl d _,Z,fun _ _=>Z,Z⟩
theorem H8(w:World)(d:Nat)(t X o F:TypeId)(T:TypeInfo)(p:P.underlying t=some (.slice F))(x:P.underlying X=some .string)(C:P.info? F=some T)(W:T.zero=some (.int .u8 0))(b:T.size=1)(m:T.bytes=1) 
  (j:Value) (n:Nat) (xs:List Value) (c:w.ownsRow d F 1 j n xs) (s:ByteArray) (l:n+s.size<=maxLen) (e:n+s.size<=140737488355328) (u:d<=w.heap.size):
  ∃i h,(Builtin.append_ #[t,X] o #[j,.string s]).run P w=.ok i h/\h.ownsRow d F 1 i (n+s.size) (xs++Lib.strCells s)/\w.grownBy h j.ownBlock/\∀g,i.ownBlock=some g->j.ownBlock=some g∨w.heap.size<=g:=by
 obtain⟨i,h,v,z,E,_⟩:=Lib.run_append_own_string (P:=P) w d t X o F T p x C W b m j n xs c s l e u;refine⟨i,h,v,z,E,fun B k=>?_⟩;have Y:xs.length=n:=by simpa using c.1
 have D:=c;rcases c.2 with⟨rfl,rfl⟩|⟨g,f,G,rfl,K,A,L,J,q,y⟩
 ·obtain⟨M,N,a,H,_,_⟩:=Lib.run_append_own_string (P:=P) w w.heap.size t X o F T p x C W b m (.slice none 0 0) 0 xs ⟨c.1,.inl ⟨rfl,rfl⟩⟩ s l e (agm _);rw[v]at a;cases a;exact .inr (H.lt B k).1
 ·by_cases r:n+s.size<=f
  ·have I:G.size=f:=by simpa using q
   have a:=Lib.run_append_room_string (P:=P) w t X o F T p x C b g n f G A s r om;rw[v]at a;cases a;exact .inl k
  ·have a:=Lib.run_append_grow_string (P:=P) w t X o F T (.int .u8 0) p x C W ⟨g,0,none⟩ n f xs (by rw[b];simpa using Y) (D.cells (g:=g) rfl) s om (by unfold maxLen at l;omega) (by rw[m];exact growslice_fits om om);rw[v]at a;cases a;cases k;exact .inr (agm _)
theorem KT(w:World){ops:Array Oper}{e:List Oper}{o:Oper}{v:Act}{B:Exit->Act->World->Prop}(k:o.guard=none)(m E:Operand)(t A:TypeId) 
  (W:o.op=.call {callee:=.builtin .append,args:= #[m,E],argTypes:= #[t,A]})
  (a:Nat) (u:TypeId) (s:TypeInfo) (C:P.underlying t=some (.slice u)) (Y:P.underlying A=some .string) (y:P.info? u=some s) (T:s.zero=some (.int .u8 0))
  (f:s.size=1) (r:s.bytes=1)
  (l:Value) (n:Nat) (xs:List Value) (q:v.eval m=l) (h:w.ownsRow a u 1 l n xs) (i:ByteArray) (z:v.eval E=.string i)
  (p:n+i.size<=maxLen) (d:n+i.size<=140737488355328) (g:a<=w.heap.size)
  (H:∀c b,b.ownsRow a u 1 c (n+i.size) (xs++Lib.strCells i)->w.grownBy b l.ownBlock->(∀D,c.ownBlock=some D->l.ownBlock=some D∨w.heap.size<=D)->wpList P ops B e (v.put o.dst c) b):wpList P ops B (o::e) v w:=by
 refine wpList_plain k fun I G=>?_;obtain⟨c,b,X,x,j,F⟩:=H8 (P:=P) w a t A o.type u s C Y y T f r l n xs h i p d g;unfold Oper.wp execOp;simp only[W,resolve,invoke,builtin,Sem.run_bind,Sem.run_pure,Result.andThen_ok,List.map_toArray,List.map_cons,List.map_nil,q,z,X];exact G _ _ (H c b x j F)
theorem abE(a:Lays.n166 P ρ)(u:Builder.Extra P ρ)(F b:Nat)(bs:List Value)(G:ByteArray)(w:World)(aC:Lib.IsBuilder (ρ.t 72) (ρ.t 5) F b bs w)(J:bs.length+G.size<=140737488355328)(ag:F<=w.heap.size):
  Calls P (ρ.f 166) #[.pointer (some ⟨b,0,none⟩),.string G] w fun e C=>e=.returned (.tuple #[.int .i64 G.size,.nilIface])/\Lib.IsBuilder (ρ.t 72) (ρ.t 5) F b (bs++Lib.strCells G) C/\Below F w C/\afH b w C:=by
 obtain⟨M,Q,j,H,B⟩:=info_parts u.infoByte;have mixed:=a.mixed;have t72:=a.t72;have ae:=a.a72;have am:=a.z72;have al:=a.v72;have ac:=run_underlying a.t72;have t70:=a.t70;have ak:=a.a70;have ar:=a.z70;have an:=a.v70;have ap:=run_underlying a.t70;have t37:=a.t37;have ad:=a.a37;have ai:=a.z37;have aq:=a.v37;have ah:=run_underlying a.t37;have t3:=a.t3;have aJ:=a.a3;have aB:=a.z3;have av:=a.v3;have aF:=run_underlying a.t3;have t9:=a.t9;have az:=a.a9;have aH:=a.z9;have aD:=a.v9;have aL:=run_underlying a.t9;have t4:=a.t4;have aG:=a.a4;have au:=a.z4;have aA:=a.v4;have ax:=run_underlying a.t4;have t164:=a.t164;have N:=a.a164;have V:=a.z164;have K:=a.v164;have L:=run_underlying a.t164;have t5:=u.t5;have aE:=u.a5;have aw:=u.z5;have aM:=u.v5;have aK:=run_underlying u.t5;have I:∀i w,(callFunc (ρ.f 240) i).run P w=.ok (.enter (ρ.f 240) i) w:=enters_of a.f240 (by kernel_rfl) rfl
 go_enter a.f166,Body.n166_ntmps ρ
 go_wp2_with (go_at_fn (ρ.f 240);refine(abD {a with} u.toX72 F b bs _ aC).mono ?_)
 rintro e w1 ⟨rfl,⟨z,U,d,l,W⟩,m,aj,E,s⟩;have aI:w1.cell? ⟨b,0,none⟩=some (.pointer (some ⟨b,0,none⟩)):=by rw[Lib.cell_of_heap d];rfl
 have ay:w1.cell? ⟨b,1,none⟩=some U:=by rw[Lib.cell_of_heap d];rfl
 go_wp2_with (at_builtin;refine KT _ rfl _ _ (ρ.t 37) (ρ.t 9) rfl F (ρ.t 5) M a.t37 a.t9 Q j H B _ _ _ rfl l G rfl ?O ?R ?aa ?_)
 case O=>unfold maxLen;omega
 case R=>omega
 case aa=>have:=m.size;omega
 intro S n h c D;have Y:b<w1.heap.size:=by
  rcases agt b w1.heap.size with v|v
  ·exact v
  ·simp[ags v]at d
 have f:n.heap[b]?=some (.cells #[.pointer (some ⟨b,0,none⟩),U] (ρ.t 72) (0,0)):=by
  rw[c.block b Y (fun e=>W e.symm)];exact d
 have d0:n.cell? ⟨b,0,none⟩=some (.pointer (some ⟨b,0,none⟩)):=by rw[Lib.cell_of_heap f];rfl
 have d1:n.cell? ⟨b,1,none⟩=some U:=by rw[Lib.cell_of_heap f];rfl
 have f1:n.frozen? ⟨b,1,none⟩=false:=Lib.frozen_of_heap f 1;obtain⟨o,r,g,rfl⟩:∃o r g,S=.slice o r g:=by
  rcases h.2 with⟨x,_⟩|⟨af,g,ab,x,_⟩
  ·exact⟨_,_,_,x⟩
  ·exact⟨_,_,_,x⟩
 go_wp2
 go_ret2
 have A:(n.setCell ⟨b,1,none⟩ (.slice o r g)).heap[b]?=some (.cells #[.pointer (some ⟨b,0,none⟩),.slice o r g] (ρ.t 72) (0,0)):=by
  simp[World.setCell,agv,f]
 refine⟨Z,.inr ?_,?_,⟨?_,fun k y t X=>?_,fun af q=>?_⟩⟩
 ·exact Lib.BuilderAt.put (T:=(ρ.t 72)) (e:=(ρ.t 5)) z f (bs':=bs++Lib.strCells G) (by simpa [Lib.strCells_length]using h) u.neB5
 ·exact(m.grown c (by have:=m.size;omega) (fun k y=>(l.lt k y).1)).setCell (p:=⟨b,1,none⟩) z _
 ·have:=c.size;simp[World.setCell];omega
 ·rw[Below.heap_setCell _ _ _ _ t,c.block k om (fun e=>X (by rw[<-s,w6 d];exact e.symm)),E k t]
 ·rw[w6 A]at q;rcases D af q with e|e
  ·exact .inl (by rw[<-s,w6 d];exact e)
  ·exact .inr om
theorem afe(e:Lays.n170 P ρ)(c b:Nat)(bs:List Value)(w:World)(d:Lib.IsBuilder (ρ.t 72) (ρ.t 5) c b bs w):
  Calls P (ρ.f 170) #[.pointer (some ⟨b,0,none⟩)] w fun f a=>f=.returned (.int .i64 bs.length)/\a=w:=Any.Builder_Len e c b bs w d
theorem WT(a:Lays.n169 P ρ)(n:Builder.Extra P ρ)(s b:Nat)(l:cq)(w:World)(h:Lib.IsBuilder (ρ.t 72) (ρ.t 5) s b (Lib.byteCells l) w)(t:l≠[]):
  Calls P (ρ.f 169) #[.pointer (some ⟨b,0,none⟩)] w fun z o=>z=.returned (.string ⟨l.toArray⟩)/\Below s w o/\∀k,k<w.heap.size->pQ w b≠some k->o.heap[k]?=w.heap[k]?:=by
 obtain⟨p,ar,ae,i,e,B⟩:∃p,Lib.BuilderAt (ρ.t 72) (ρ.t 5) s b p (Lib.byteCells l) w:=by
  rcases h with h|h
  ·exact⟨_,h⟩
  ·exact⟨_,h⟩
 have f:l.length≠0:=by simpa using t
 rw[Lib.byteCells_length]at e;obtain⟨g,c,d,rfl,C,T,M,r,Q,D⟩:∃g c d,ae=.slice (some ⟨g,0,none⟩) l.length c/\s<=g/\w.heap[g]?=some (.cells d (ρ.t 5) (0,0))/\l.length<=c/\c<=maxLen/\d.size=c*1/\d.toList.take (l.length*1)=Lib.byteCells l:=by
  rcases e.2 with⟨_,j⟩|⟨g,c,d,y,ab⟩
  ·exact absurd j f
  ·exact⟨g,c,d,y,ab⟩
 have x:pQ w b=some g:=w6 i;have al:w.drew.cell? ⟨b,1,none⟩=some (.slice (some ⟨g,0,none⟩) l.length c):=by
  have:w.drew.heap[b]?=some (.cells #[p,.slice (some ⟨g,0,none⟩) l.length c] (ρ.t 72) (0,0)):=i;rw[Lib.cell_of_heap this];rfl
 have J:(Builtin.unsafeSliceData_ #[(ρ.t 37)] (ρ.t 127) #[.slice (some ⟨g,0,none⟩) l.length c]).run P w.drew=.ok (.pointer (some ⟨g,0,none⟩)) w.drew:=
  Lib.run_unsafeSliceData_row _ _ _ _ _ _ om
 have A:(Builtin.unsafeString_ #[(ρ.t 127),(ρ.t 3)] (ρ.t 9) #[.pointer (some ⟨g,0,none⟩),.int .i64 l.length]).run P w.drew=.ok (.string ⟨l.toArray⟩) (w.drew.freeze ⟨g,0,none⟩ l.length):=by
  refine Lib.run_unsafeString_row w.drew (ρ.t 127) (ρ.t 3) (ρ.t 9) (ρ.t 5) a.t127 n.cellsByte g d.size (by have u:w.drew.heap[g]?=some (.cells d (ρ.t 5) (0,0)):=T;simp[World.shape?,u]) l t om (by unfold maxLen at r;omega) ?_;intro ag ah q;have:=e.cells (g:=g) rfl ag (.int .u8 ah.toNat) (by simp[Lib.byteCells,q]);exact this
 have W:∀k,k<w.heap.size->pQ w b≠some k->(w.drew.freeze ⟨g,0,none⟩ l.length).heap[k]?=w.heap[k]?:=by
  intro k _ m;have v:g≠k:=fun z=>m (by rw[x,z]);simp only[World.freeze,if_neg f];show(w.heap.modify g _)[k]?=_;rw[agv,if_neg v]
 have mixed:=a.mixed;have t72:=a.t72;have aa:=a.a72;have H:=a.z72;have E:=a.v72;have N:=run_underlying a.t72;have t70:=a.t70;have I:=a.a70;have S:=a.z70;have K:=a.v70;have L:=run_underlying a.t70;have t37:=a.t37;have U:=a.a37;have V:=a.z37;have O:=a.v37;have R:=run_underlying a.t37;have t127:=a.t127;have G:=a.a127;have F:=a.z127;have X:=a.v127;have Y:=run_underlying a.t127;have t3:=a.t3;have ai:=a.a3;have aq:=a.z3;have ac:=a.v3;have am:=run_underlying a.t3;have t9:=a.t9;have ao:=a.a9;have an:=a.z9;have af:=a.v9;have ap:=run_underlying a.t9;have t5:=n.t5;have aj:=n.a5;have ad:=n.z5;have au:=n.v5;have ak:=run_underlying n.t5
 go_enter a.f169,Body.n169_ntmps ρ
 go_wp2
 go_region_o
 all_goals (go_wp2;go_ret;exact⟨rfl,Lib.below_freeze (Below.drew (Below.refl s w)) (p:=⟨g,0,none⟩) C _,W⟩)
end
def Rm(a d fw m l:Nat)(f:FuncId)(e:List Value)(st:St):Option (Value×St):=
 match e with
 |[.pointer (some ⟨b,0,none⟩),.string k]=>match agn f fw,st.get b with
  |true,some (.j2 g h i)=>match agn g a&&agn h d&&Nat.ble (i.length+k.data.toList.length) 140737488355328 with
   |true=>some (.tuple ⟨[.int .i64 (.ofNat k.data.toList.length),.nilIface]⟩,st.put b (.j2 g h (i++k.data.toList)))
   |false=>none
  |_,_=>none
 |[.pointer (some ⟨b,0,none⟩)]=>match agn f m with
  |true=>match st.get b with
   |some (.j2 g h i)=>match agn g a&&agn h d with
    |true=>some (.int .i64 (.ofNat i.length),st)
    |false=>none
   |_=>none
  |false=>match agn f l,st.get b with
   |true,some (.j2 g h (c::i))=>match agn g a&&agn h d with
    |true=>some (.string ⟨⟨c::i⟩⟩,st.put b .dead)
    |false=>none
   |_,_=>none
 |_=>none
def Qr(d e fw c b:Nat)(f:FuncId)(a:List Value)(st:St):Option (Value×St):=
 match agn f fw||(agn f c||agn f b)with
 |false=>none
 |true=>Rm d e fw c b f a st
section
variable{w0:World} {N0:Nat} {G:Nat->Prop} {ρ:Ren} {st:St} {w:World}
theorem WF.aff(h:WF st){b:Nat}{l:cq}(hg:st.get b=some (.j2 B N l)){o:fX}(d:∀c N f k,o≠.cells c N f k):WF (st.put b o):=by
 have a:b≠0:=fun N=>by subst N;have:=h.zro _ hg;cases this
 refine⟨fun x e hx=>?_,fun x m i f1 g hx=>?_,h.NN,h.pos,fun e hx=>?_⟩
 ·exact Ny
 ·rw[c8]at hx;by_cases Vr:x=b
  ·rw[if_pos Vr]at hx;exact absurd (Option.some.inj hx) (d _ _ _ _)
  ·rw[if_neg Vr]at hx;exact h.dP _ _ _ _ _ hx
 ·rw[c8,if_neg (Ne.symm a)]at hx;exact h.zro _ hx
theorem di.aeo(h:di w0 N0 G ρ st w){b:Nat}{s:cq}{l:Loc}(m:ρ b=some l)(e:st.get b=some (.j2 B N s)){o:fX}{t:World}(R:Below N0 w t)(U:w.heap.size<=t.heap.size) 
  (A:∀k,k<w.heap.size->k≠l.b->pQ w l.b≠some k->t.heap[k]?=w.heap[k]?)
  (F:o=.dead∨∃D,o=.j2 B N D/\Lib.IsBuilder B N N0 l.b (Lib.byteCells D) t/\∀W,pQ t l.b=some W->W<t.heap.size/\(pQ w l.b=some W∨w.heap.size<=W)):di w0 N0 G ρ (st.put b o) t:=by
 obtain⟨ai,y,S⟩:=h.j2.1 _ _ _ _ _ m e;have H:∀c N ad af,o≠.cells c N ad af:=by rcases F with rfl|⟨D,rfl,_⟩<;>(intro _ _ _ _ N;cases N)
 have P:∀p f i,ρ p=some f->st.get p=some i->p≠b->i≠.dead->f.b≠l.b:=by
  intro p f i h1 h2 q Y Q;have:=h.sep _ _ _ _ _ _ h1 m Q h2 e q;cases i<;>first|exact this.elim|exact Y rfl
 have u:∀p f i,ρ p=some f->st.get p=some i->p≠b->i≠.dead->t.heap[f.b]?=w.heap[f.b]?:=fun p f i h1 h2 q Y=>
  A _ (h.xT _ _ h1).2.2 (P _ _ _ h1 h2 q Y) fun N=>(y _ N).2 _ _ h1 rfl
 refine⟨h.wf.aff e H,h.below.trans R,Nat.le_trans h.Fi U,h.K1,fun p f V=>?_,fun p f i h1 h2=>?_,fun p J f z i K h1 h2 he g1 g2 BM=>?_,fun p f aj ae D h1 h2=>?_,fun p J f z ac T ah ak ag O W h1 n h2 d BM x=>?_⟩
 ·obtain⟨ab,c,al⟩:=h.xT _ _ V;exact⟨ab,c,om⟩
 ·rw[c8]at h2;by_cases a:p=b
  ·rw[if_pos a]at h2;cases h2;rcases F with rfl|⟨D,rfl,_⟩<;>trivial
  ·rw[if_neg a]at h2;by_cases r:i=.dead
   ·subst r;trivial
   ·rw[u _ _ _ h1 h2 a r];exact h.obj _ _ _ h1 h2
 ·rw[c8]at g1 g2;by_cases a:p=b
  ·rw[if_pos a]at g1;cases g1;rw[if_neg (by rw[<-a];exact fun N=>BM N.symm)]at g2;subst a;rw[m]at h1;cases h1;by_cases r:K=.dead
   ·subst r;rcases F with rfl|⟨D,rfl,_⟩<;>trivial
   ·exact absurd he.symm (P _ _ _ h2 g2 (fun N=>BM N.symm) r)
  ·rw[if_neg a]at g1;by_cases g:J=b
   ·rw[if_pos g]at g2;cases g2;subst g;rw[m]at h2;cases h2;by_cases r:i=.dead
    ·subst r;rcases F with rfl|⟨D,rfl,_⟩<;>trivial
    ·exact absurd he (P _ _ _ h1 g1 a r)
   ·rw[if_neg g]at g2;exact wk
 ·rw[c8]at h2;by_cases a:p=b
  ·rw[if_pos a]at h2;subst a;rw[m]at h1;cases h1;rcases F with rfl|⟨O,rfl,X,C⟩
   ·cases h2
   ·cases h2;refine⟨X,fun W e=>⟨(C W e).1,fun J z I=>?_⟩,S⟩;rcases(C W e).2 with v|v
    ·exact(y _ v).2 _ _ I
    ·have:=(h.xT _ _ I).2.2;omega
  ·rw[if_neg a]at h2;obtain⟨L,j,M⟩:=h.j2.1 _ _ _ _ _ h1 h2;have T:=u _ _ _ h1 h2 a (by intro N;cases N);refine⟨Vu L T fun W e=>A _ (j _ e).1 (fun N=>(j _ e).2 _ _ m N.symm) (fun N=>h.j2.2 _ _ _ _ _ _ _ _ _ _ _ h1 m h2 ‹_› a e N),fun W e=>?_,M⟩;rw[pW T]at e;obtain⟨X,C⟩:=j _ e;exact⟨om,C⟩
 ·rw[c8]at h2 d;by_cases a:p=b
  ·rw[if_neg (by rw[<-a];exact fun N=>BM N.symm)]at d;rw[if_pos a]at h2;subst a;rw[m]at h1;cases h1;have T:=u _ _ _ n d (fun N=>BM N.symm) (by intro N;cases N);rw[pW T];rcases F with rfl|⟨aa,rfl,X,C⟩
   ·cases h2
   ·rcases(C W x).2 with v|v
    ·exact h.j2.2 _ _ _ _ _ _ _ _ _ _ _ m n ‹_› d BM v
    ·exact fun N=>by have:=((h.j2.1 _ _ _ _ _ n d).own _ N).1;omega
  ·rw[if_neg a]at h2;have T:=u _ _ _ h1 h2 a (by intro N;cases N);rw[pW T]at x;by_cases g:J=b
   ·rw[if_pos g]at d;subst g;rw[m]at n;cases n;rcases F with rfl|⟨aa,rfl,X,C⟩
    ·cases d
    ·intro E;rcases(C W E).2 with v|v
     ·exact h.j2.2 _ _ _ _ _ _ _ _ _ _ _ h1 m h2 ‹_› BM x v
     ·have:=((h.j2.1 _ _ _ _ _ h1 h2).own _ x).1;omega
   ·rw[if_neg g]at d;rw[pW (u _ _ _ n d g (by intro N;cases N))];exact h.j2.2 _ _ _ _ _ _ _ _ _ _ _ h1 n h2 d BM x
theorem abF(l:cq)(a:ByteArray):Lib.byteCells l++Lib.strCells a=Lib.byteCells (l++a.data.toList):=by
 simp[Lib.byteCells,Lib.strCells]
theorem afI{e k c:Nat}{xs:List Value}(h:Lib.IsBuilder B N e k xs w)(b:pQ w k=some c):c<w.heap.size:=by
 obtain⟨f,g,i,d,a,_⟩:∃f,Lib.BuilderAt B N e k f xs w:=by
  rcases h with h|h
  ·exact⟨_,h⟩
  ·exact⟨_,h⟩
 rw[w6 d]at b;exact(a.lt c b).2
theorem afg{C:dR}{u:Go.Shelf.Ren}(H:Lays.n166 C.P u)(E:Lays.n170 C.P u)(z:Lays.n169 C.P u)(I:Builder.Extra C.P u)(q:C.prm=Qr (u.t 72) (u.t 5) (u.f 166) (u.f 170) (u.f 169)):E6 C w0 N0:=by
 intro N y st M J e G ρ w m l a;rw[q]at e;unfold Qr at e;split at e
 ·cases e
 unfold Rm at e;split at e
 ·rename_i b s;split at e
  ·rename_i K Y j d f;split at e
   ·rename_i g;rw[agk,agk]at g;obtain⟨⟨h,i⟩,x⟩:=g;have d:=agj d;have h:=agj h;have i:=agj i;have x:=agy x;subst d h i;cases e;obtain⟨B⟩:=m;simp only at a;cases a with
    |cons P t=>
    cases t with
    |cons t A=>
    cases A;obtain⟨v,o,rfl⟩:=qx P;cases t;obtain⟨r,W,p⟩:=l.j2.1 _ _ _ _ _ o f;have X:=size_data s;rw[p];refine(abE H I N0 v.b (Lib.byteCells j) s w r (by rw[Lib.byteCells_length];omega) l.Fi).mono ?_;rintro Y T ⟨rfl,n,F,D⟩;rw[abF]at n;refine⟨_,ρ,Z,Ren.le_refl _,l.aeo o f F D.size D.block (.inr ⟨_,Z,n,fun L f=>⟨afI n f,D.own L f⟩⟩),?_⟩;rw[X];exact .tuple (.cons (.int _ _) (.cons .nilIface .nil))
   ·cases e
  ·cases e
 ·rename_i b;obtain⟨B⟩:=m;simp only at a;cases a with
  |cons P t=>
  cases t;obtain⟨v,o,rfl⟩:=qx P;split at e
  ·rename_i d;have d:=agj d;subst d;split at e
   ·rename_i K Y j f;split at e
    ·rename_i g;rw[agk]at g;have h:=agj g.1;have i:=agj g.2;subst h i;cases e;obtain⟨r,W,p⟩:=l.j2.1 _ _ _ _ _ o f;rw[p];refine(afe E N0 v.b (Lib.byteCells j) w r).mono ?_;rintro Y T ⟨rfl,rfl⟩;rw[Lib.byteCells_length];exact⟨_,ρ,Z,Ren.le_refl _,l,.int _ _⟩
    ·cases e
   ·cases e
  ·split at e
   ·rename_i K Y c j d f;split at e
    ·rename_i g;rw[agk]at g;have d:=agj d;have h:=agj g.1;have i:=agj g.2;subst d h i;cases e;obtain⟨r,W,p⟩:=l.j2.1 _ _ _ _ _ o f;rw[p];refine(WT z I N0 v.b (c::j) w r sm).mono ?_;rintro Y T ⟨rfl,n,F⟩;exact⟨_,ρ,Z,Ren.le_refl _,l.aeo o f n n.size (fun k h _ x=>F k h x) (.inl Z),.string _⟩
    ·cases e
   ·cases e
 ·cases e
end
def qB{b:Type}(p:Nat->b->Prop):Nat->Nat->Tr b->Prop
 |_,_,.nil=>True
 |mul,a,.node e f d=>(match e with|some c=>p a c|none=>True)/\qB p (2*mul) (mul+a) f/\qB p (2*mul) (2*mul+a) d
theorem GP{l:Type}{p:Nat->l->Prop}:∀(r:Tr l) (a b k f:Nat),f<=k->qB p a b r->∀g,iN (hP k f) r=some g->p (a*f+b) g:=by
 intro r;induction r with
 |nil=>intro a b k f _ _ g o;rw[qv]at o;cases o
 |node D F C i n=>
  intro a b k f w o g c;obtain⟨h,s,t⟩:=o;cases k with
  |zero=>
   have:f=0:=om;subst this;simp only[hP,iN]at c;subst c;simpa using h
  |succ k=>
   cases f with
   |zero=>
    simp only[hP,iN]at c;subst c;simpa using h
   |succ m=>
    simp only[hP]at c;cases e:agn (m%2) 0 with
    |true=>
     rw[e]at c;simp only[iN]at c;have:=i _ _ k (m/2) om s g c;have u:=agj e;have v:2*a*(m/2)+(a+b)=a*(m+1)+b:=by
      have d:m=2*(m/2):=om;generalize m/2=x at d;subst d;rw[agA,Nat.mul_comm 2 a,Nat.mul_assoc];omega
     rw[<-v];exact this
    |false=>
     rw[e]at c;simp only[iN]at c;have:=n _ _ k (m/2) om t g c;have u:=ago e;have v:2*a*(m/2)+(2*a+b)=a*(m+1)+b:=by
      have d:m=2*(m/2)+1:=om;generalize m/2=x at d;subst d;rw[agA,agA,Nat.mul_comm 2 a,Nat.mul_assoc];omega
     rw[<-v];exact this
theorem qB.get{a:Type}{p:Nat->a->Prop}{t:Tr a}(d:qB p 1 0 t){n:Nat}{b:a}(c:t.get n=some b):p n b:=by
 have:=GP t 1 0 n n (agm _) d b c;simpa using this
end Go.AM
