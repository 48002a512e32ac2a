/- Part of the proof. -/
import Derived.Test.YtpejealjkmhkgaaGreatDoorKAh
set_option linter.all false
set_option maxHeartbeats 16000000
set_option maxRecDepth 100000
open Bool renaming or_eq_false_iff->YL,false_or->YN,or_eq_true->YP,and_eq_true->YQ
open Nat renaming eq_of_beq_eq_true->YM,le_refl->YO,ne_of_beq_eq_false->YR,lt_or_ge->YT,blt_eq->YU
open Array renaming getElem?_eq_none->YS,getElem?_toList->YV
open List renaming getElem?_drop->YW
namespace Go.AM
open Go.RowKit (Below)
structure St.Alike (s t:St):Prop where
 n:s.n=t.n
 get:∀b,s.get b=t.get b
 fm:∀f,s.fm.get f=t.fm.get f
variable{i:World} {j:Ren}
theorem dj.alike{w0:World}{N0:Nat}{G:Nat->Prop}{I t:St}(k:dj w0 N0 G j I i)(e:St.Alike I t):dj w0 N0 G j t i:=by
 refine⟨⟨fun b o a=>?_,fun b L J A K a=>?_,fun A x a=>?_⟩,k.below,k.Cu,fun b f=>?_,fun b s f=>?_,fun b s o f a=>?_,fun b z s H o E m h D B C F=>?_⟩
 ·rw[<-e.n];exact k.wf.lt b o (by rw[e.get];exact a)
 ·obtain⟨m,h⟩:=k.wf.dS b L J A K (by rw[e.get];exact a);refine⟨by rw[<-e.n];exact m,?_⟩;unfold rY at h⊢;rw[<-e.fm];exact h
 ·rw[<-e.n];exact k.wf.Kt A x (by rw[e.fm];exact a)
 ·rw[<-e.n];exact k.HZ b f
 ·rw[<-e.n];exact k.vt b s f
 ·exact k.obj b s o f (by rw[e.get];exact a)
 ·exact k.sep b z s H o E m h D (by rw[e.get];exact B) (by rw[e.get];exact C) F
theorem IA{b lo hi b2:Nat}{X:fH}:∀(e:List Nat) (f a:Tr fH),b2 ∉ e->(∀s,a.get s=if s=b2 then some X else f.get s)->
  (ep b lo hi e a).2=(ep b lo hi e f).2/\∀s,(ep b lo hi e a).1.get s=if s=b2 then some X else(ep b lo hi e f).1.get s:=by
 intro e;induction e with
 |nil=>intro f a _ z;exact⟨rfl,z⟩
 |cons m e t=>
  intro f a B z;have x:m≠b2:=fun D=>B (by simp[D]);have h:b2 ∉ e:=fun D=>B (by simp[D]);have C:a.get m=f.get m:=by rw[z,if_neg x]
  unfold ep;cases E:Nat.beq m b with
  |true=>
   obtain⟨k,o⟩:=t f a h z;simp only;exact⟨by rw[k],o⟩
  |false=>
   simp only;rw[C];split
   ·split
    ·refine t _ _ h fun s=>?_;rw[cw,cw,z];by_cases A:s=m
     ·subst A;rw[if_pos rfl,if_pos rfl,if_neg x]
     ·rw[if_neg A,if_neg A]
    ·obtain⟨k,o⟩:=t f a h z;exact⟨by simp only;rw[k],o⟩
   ·obtain⟨k,o⟩:=t f a h z;exact⟨by simp only;rw[k],o⟩
theorem hI(st:St)(b:Nat)(o:fH)(a:Nat):(st.put b o).get a=if a=b then some o else st.get a:=cw _ _ _ _
theorem FT{st:St}{f b lo hi b2:Nat}{X:fH}(o:∀e,st.fm.get f=some e->b2 ∉ e):
  St.Alike ((st.put b2 X).kill f b lo hi) ((st.kill f b lo hi).put b2 X):=by
 cases a:st.fm.get f with
 |none=>
  rw[gx a,gx (st:=st.put b2 X) a];exact⟨Z,fun _=>Z,fun _=>Z⟩
 |some e=>
  rw[gZ a,gZ (st:=st.put b2 X) a];obtain⟨m,k⟩:=IA (b:=b) (lo:=lo) (hi:=hi) (b2:=b2) (X:=X) e st.hp (st.put b2 X).hp (o e a) (fun h=>cw _ _ _ _);refine⟨Z,fun h=>?_,fun s=>?_⟩
  ·show(ep b lo hi e (st.put b2 X).hp).1.get h=((ep b lo hi e st.hp).1.set b2 X).get h;rw[cw,k]
  ·show(st.fm.set f _).get s=(st.fm.set f _).get s;rw[cw,cw,m]
theorem St.Alike.put{e t:St}(a:St.Alike e t)(b:Nat)(o:fH):St.Alike (e.put b o) (t.put b o):=
 ⟨a.n,fun f=>by rw[hI,hI,a.get],a.fm⟩
theorem St.Alike.trans{h t f:St}(b:St.Alike h t)(e:St.Alike t f):St.Alike h f:=⟨b.n.trans e.n,fun a=>(b.get a).trans (e.get a),fun a=>(b.fm a).trans (e.fm a)⟩
theorem DI{b lo hi:Nat}:∀(f:List Nat) (e a:Tr fH),(∀t,a.get t=e.get t)->
  (ep b lo hi f a).2=(ep b lo hi f e).2/\∀t,(ep b lo hi f a).1.get t=(ep b lo hi f e).1.get t:=by
 intro f;induction f with
 |nil=>intro e a s;exact⟨rfl,s⟩
 |cons m f o=>
  intro e a s;unfold ep;cases x:Nat.beq m b with
  |true=>
   obtain⟨h,k⟩:=o e a s;simp only;exact⟨by rw[h],k⟩
  |false=>
   simp only;rw[s m];split
   ·split
    ·refine o _ _ fun t=>?_;rw[cw,cw,s]
    ·obtain⟨h,k⟩:=o e a s;exact⟨by simp only;rw[h],k⟩
   ·obtain⟨h,k⟩:=o e a s;exact⟨by simp only;rw[h],k⟩
theorem St.Alike.kill{s t:St}(h:St.Alike s t)(f b lo e:Nat):St.Alike (s.kill f b lo e) (t.kill f b lo e):=by
 cases a:t.fm.get f with
 |none=>rw[gx a,gx (by rw[h.fm];exact a)];exact h
 |some k=>
  rw[gZ a,gZ (st:=s) (by rw[h.fm];exact a)];obtain⟨o,m⟩:=DI (b:=b) (lo:=lo) (hi:=e) k t.hp s.hp h.get;refine⟨h.n,m,fun x=>?_⟩;show(s.fm.set f _).get x=(t.fm.set f _).get x;rw[cw,cw,o,h.fm]
variable{l v:Nat}
theorem apart_spec{st:St}(z:apart st l v=true):∃s k f1 e b o f2 f,st.get l=some (.cells s k f1 e)/\st.get v=some (.cells b o f2 f)/\l≠v/\f1≠f2/\st.fm.get f2=none/\∀a,st.fm.get f1=some a->v ∉ a:=by
 unfold apart at z;split at z
 ·rename_i s k f1 e b o f2 f D B;simp only[YQ,Bool.not_eq_true']at z;obtain⟨⟨⟨C,A⟩,x⟩,h⟩:=z;refine⟨s,k,f1,e,b,o,f2,f,D,B,YR C,YR A,?_,fun a t m=>?_⟩
  ·split at x
   ·assumption
   ·cases x
  ·rw[t]at h;simp only[Bool.not_eq_true',List.any_eq_false]at h;exact h v m (Nat.beq_refl _)
 ·cases z
theorem re{st U P I H:St}{a m:Nat}{f z:List Value}(n:apart st l v=true)(g:fI st l a f=some U)(d:fI st v m z=some P) 
  (Q:fI U v m z=some I) (G:fI P l a f=some H):St.Alike H I:=by
 obtain⟨t,A,f1,e,x,s,f2,h,T,N,J,i,D,F⟩:=apart_spec n;obtain⟨M,Y,V,W,k,_,_,rfl⟩:=j5 g;rw[T]at k;cases k;obtain⟨R,L,X,O,o,_,_,rfl⟩:=j5 d;rw[N]at o;cases o;have j:(st.put v (.cells (dw x m z) s f2 h)).kill f2 v (h+m) (h+m+z.length)=st.put v (.cells (dw x m z) s f2 h):=gx D;rw[j]at G;obtain⟨M,Y,V,W,k,_,_,rfl⟩:=j5 G;rw[hI,if_neg J,T]at k;cases k;obtain⟨R,L,X,O,o,_,_,rfl⟩:=j5 Q;have S:((st.put l (.cells (dw t a f) A f1 e)).kill f1 l (e+a) (e+a+f.length)).get v=some (.cells x s f2 h):=by
  have:=(FT (st:=st.put l (.cells (dw t a f) A f1 e)) (f:=f1) (b:=l) (lo:=e+a) (hi:=e+a+f.length) (b2:=v) (X:=.cells x s f2 h) F).get v;rw[hI,if_pos rfl]at this;rw[<-this];have E:St.Alike (st.put l (.cells (dw t a f) A f1 e)) ((st.put l (.cells (dw t a f) A f1 e)).put v (.cells x s f2 h)):=by
   refine⟨Z,fun c=>?_,fun _=>Z⟩;rw[hI _ v,hI];by_cases C:c=v
   ·subst C;rw[if_pos rfl,if_neg (fun p=>J p.symm),N]
   ·rw[if_neg C]
  exact(E.kill _ _ _ _).get v
 rw[S]at o;cases o;have K:((st.put l (.cells (dw t a f) A f1 e)).kill f1 l (e+a) (e+a+f.length)).fm.get f2=none:=by
  unfold St.kill;split
  ·exact D
  ·show(st.fm.set f1 _).get f2=none;rw[cw,if_neg (fun p=>i p.symm)];exact D
 rw[gx (st:=St.put _ _ _) K];have E:St.Alike ((st.put v (.cells (dw x m z) s f2 h)).put l (.cells (dw t a f) A f1 e)) ((st.put l (.cells (dw t a f) A f1 e)).put v (.cells (dw x m z) s f2 h)):=by
  refine⟨Z,fun c=>?_,fun _=>Z⟩;rw[hI,hI,hI,hI];by_cases C:c=l
  ·subst C;rw[if_pos rfl,if_neg J,if_pos rfl]
  ·rw[if_neg C];by_cases B:c=v
   ·rw[if_pos B,if_pos B]
   ·rw[if_neg B,if_neg B,if_neg C]
 exact(E.kill _ _ _ _).trans (FT F)
variable{c:Array Value} {q y:Fr} {n w:Value} {g:List Nat} {u:Ex} {d:List Deferred} {p r:ec}
section
variable{C:dU} {w0:World} {N0:Nat} {G:Nat->Prop} {fc:FC} {b:FB} {rc:Rec} {ops:Array Oper} {bs:List Nat} {m:Nat} {order:List Nat}
theorem dQ(A:l6 C)(B:Cy C)(D:mb C){st s:St}{df:List Deferred}{cs:List Frame}{k:List Item}{rest:List Nat}{o:Oper}(F:ops[l]?=some o)(z:o.guard=none) 
  (H:h0 C (iF q) o st=some (.val n s)) (E:dj w0 N0 G j st i) (x:fU j fc.nt q.tm c):
  ∃a m h,j.le a/\dj w0 N0 G a s h/\cY a n m/\Steps C.P (lone (ek b c df (.inRegion ops (l::rest)::k)) cs i) (lone (ek b (lG c o.dst m) df (.inRegion ops rest::k)) cs h):=by
 obtain⟨a,m,h,t,f⟩:=oH A B D E (nL x) H;refine⟨a,m,h,f.le,f.world,f.value,.one (vH F ?_ (.inr (hq H (by intro I e;cases e))) t)⟩;unfold Region.wanted;rw[z]
theorem WV(T:h7 ops bs m order)(j:ops.size=m+3){D:Nat->Bool}(C:Iu ops D g)(t:Down ops D)(Q:∀b,b<m->D b=true)(k:∀b,m<=b->D b=false)(O:iG bs (m+1) m=true):
  g=[m,m+1,m+2]∨g=[m,m+2,m+1]∨g=[m+2,m,m+1]:=by
 have step:∀{D:Nat->Bool} {g:List Nat},Iu ops D g->Down ops D->(g=[]/\∀b,b<ops.size->D b=true)∨
   ∃b z,g=b::z/\b<ops.size/\D b=false/\(b=m+1->D m=true)/\Iu ops (fun x=>D x||x==b) z/\Down ops (fun x=>D x||x==b):=by
  intro D g J t;cases J with
  |nil h=>exact .inl ⟨rfl,h⟩
  |@cons _ b z ai A U K ad=>
   refine .inr ⟨b,z,Z,?_,U,?_,ad,t.add A K⟩
   ·rcases YT b ops.size with h|h
    ·exact h
    ·rw[YS h]at A;cases A
   ·rintro rfl;exact t.ready T A K O
 have f:∀{b:Nat},D b=false->m<=b:=fun{b} h=>by
  rcases YT b m with E|E
  ·rw[Q b E]at h;cases h
  ·exact E
 rcases step C t with⟨_,a⟩|⟨b,af,rfl,ab,I,H,W,d1⟩
 ·have:=a m om;rw[k m (YO _)]at this;cases this
 rcases step W d1 with⟨_,a⟩|⟨M,ac,rfl,ae,s,B,X,d2⟩
 ·exfalso;have F:=a m om;have G:=a (m+1) om;simp only[k m (YO _),k (m+1) om,YN,beq_iff_eq]at F G;omega
 rcases step X d2 with⟨_,a⟩|⟨N,r,rfl,J,e,L,S,d3⟩
 ·exfalso;have F:=a m om;have G:=a (m+1) om;have Y:=a (m+2) om;simp only[k m (YO _),k (m+1) om,k (m+2) om,YN,YP,beq_iff_eq]at F G Y;omega
 have y:=f I;simp only[YL,beq_eq_false_iff_ne]at s e;have ag:=f s.1;have n:=f e.1.1;simp only[k m (YO _),YN,YP,beq_iff_eq]at B L;have c:b≠m+1:=fun ah=>by have:=H ah;rw[k m (YO _)]at this;cases this
 rcases step S d3 with⟨rfl,_⟩|⟨aj,u,rfl,v,o,_,_,_⟩
 ·have i:(b=m/\M=m+1/\N=m+2)∨(b=m/\M=m+2/\N=m+1)∨(b=m+2/\M=m/\N=m+1):=by
   have R:=s.2;have d:=e.2;have P:=e.1.2;by_cases V:M=m+1
   ·have:=B V;omega
   ·by_cases w:N=m+1
    ·omega
    ·omega
  rcases i with⟨rfl,rfl,rfl⟩|⟨rfl,rfl,rfl⟩|⟨rfl,rfl,rfl⟩
  ·exact .inl Z
  ·exact .inr (.inl Z)
  ·exact .inr (.inr Z)
 ·exfalso;simp only[YL,beq_eq_false_iff_ne]at o;have q:=f o.1.1.1;have R:=s.2;have d:=e.2;have P:=e.1.2;have p:=o.2;have l:=o.1.2;have aa:=o.1.1.2;omega
theorem fU.less{t b:Tr Value}(k:fU j l t c)(f:∀a e,b.get a=some e->t.get a=some e):fU j l b c:=⟨k.1,fun a e h=>k.2 a e (f a e h)⟩
theorem kD{t:TypeId}{e o:Nat}{st b:St}(a:hH C t (.pointer (some ⟨e,o,none⟩)) n st=some (.val w b)):fI st e o (cellsOf n)=some b:=by
 unfold hH at a;split at a
 ·rename_i k m x _ f;cases f;split at a
  ·split at a
   ·rename_i s h;obtain⟨_,rfl⟩:=c7 a;exact h
   ·cases a
  ·cases a
 ·cases a
theorem FU(N:l6 C)(O:Cy C)(P:mb C)(ay:h7 ops bs m order){a X l:Oper}(ao:ops.toList.drop m=[a,X,l]){st aC:St}(I:Fm C fc a X l q p st=some (u,y,r,aC)) 
  {D:Nat->Bool} (aL:Iu ops D g) (br:Down ops D) (bv:∀ac,ac<m->D ac=true) (bn:∀ac,m<=ac->D ac=false) (bh:iG bs (m+1) m=true) (e:List Frame) (J:List Item) (aO:dj w0 N0 G j st i) (W:ks j fc q b c d):
  u=.norm/\r=p/\∃B bb L,j.le B/\dj w0 N0 G B aC bb/\ks B fc y b L d/\Steps C.P (lone (ek b c d (.inRegion ops g::J)) e i) (lone (ek b L d (.inRegion ops []::J)) e bb):=by
 have aT:ops.size=m+3:=by
  have:=congrArg List.length ao;simp at this;omega
 have ar:∀bp o,[a,X,l][bp]?=some o->ops[m+bp]?=some o:=by
  intro bp o I;rw[<-ao,YW,YV]at I;exact I
 have az:ops[m]?=some a:=ar 0 a rfl;have aa:ops[m+1]?=some X:=ar 1 X rfl;have ad:ops[m+2]?=some l:=ar 2 l rfl;have aK:=(ay.tail m a (YO _) az).2.1;have af:=(ay.tail (m+1) X om aa).2.1;have am:=(ay.tail (m+2) l om ad).2.1;unfold Fm at I;split at I
 ·rename_i aN t1 bH bE t2 bD bL au aq an aM aJ aj;rw[YL]at aj;split at I
  ·rename_i bt bB aQ;split at I
   ·rename_i K bx aw;have k:gI fc.nt q (some aN) bt=some K:=aw;have aP:=pN aj.1 aj.2 aQ (YM bx);subst aP;split at I
    ·rename_i bk bm bi bw bl bu aU be bc aX;split at I
     ·cases I
     ·rename_i aY;split at I
      ·rename_i bJ bz bI bA ak n;split at I
       ·rename_i bG bq aH;split at I
        ·cases I
        ·rename_i ap;rw[YQ]at ap;have:=qo _ _ ap.1;subst this;have av:=pN aj.1 aj.2 aH (YM ap.2);subst av;split at I
         ·rename_i bC bo bK bj v M;simp only[Option.some.injEq,Prod.mk.injEq]at I;obtain⟨rfl,rfl,rfl,rfl⟩:=I;have U:=re aY (kD ak) (kD n) (kD v) (kD M);refine⟨Z,Z,?_⟩;have aI:∀s,h0 C (iF K) X s=hH C t1 (.pointer (some ⟨bk,bm,none⟩)) bi s:=by
           intro s;unfold h0;rw[aM];simp only;rw[aU,be]
          have aR:∀s,h0 C (iF ⟨q.tm.put aN none,q.df⟩) l s=hH C t2 (.pointer (some ⟨bw,bl,none⟩)) bu s:=by
           intro s;unfold h0;rw[aJ];simp only;rw[bc,aX]
          have al:K=⟨q.tm.set aN bt,q.df⟩/\aN<fc.nt:=by
           unfold gI at k;simp only at k;split at k
           ·rename_i aV;cases k;exact⟨rfl,YU.mp aV⟩
           ·cases k
          have ax:∀ac aE,(q.tm.put aN none).get ac=some aE->q.tm.get ac=some aE:=by
           intro ac aE Q;rw[cT]at Q;split at Q
           ·cases Q
           ·exact Q
          have ae:∀ac aE,(q.tm.put aN none).get ac=some aE->K.tm.get ac=some aE:=by
           intro ac aE Q;rw[al.1];show(q.tm.set aN bt).get ac=some aE;rw[cT]at Q;rw[cw];split at Q
           ·cases Q
           ·rename_i aS;rw[if_neg aS];exact Q
          have ah:∀{B:Ren} {L:Array Value},j.le B->fU B fc.nt K.tm L->ks B fc K b L d:=by
           intro B L aW bg;have w:=W.mono aW;exact⟨w.fn,w.round,w.kind,bg,by rw[al.1];exact w.df⟩
          rcases WV ay aT aL br bv bn bh with rfl|rfl|rfl
          ·obtain⟨aB,aD,ba,f,S,ab,E⟩:=dQ (fc:=fc) (b:=b) (df:=d) (cs:=e) (k:=J) (rest:=[m+1,m+2]) N O P az aK aQ aO W.tm;rw[au]at E;have F:=(dz (W.tm.mono f) ab k).1;obtain⟨aF,aA,bf,t,R,Y,A⟩:=dQ (fc:=fc) (b:=b) (df:=d) (cs:=e) (k:=J) (rest:=[m+2]) N O P aa af ((aI _).trans ak) S F;rw[aq]at A;have H:=F.mono t;obtain⟨T,aG,ag,x,V,ai,z⟩:=dQ (fc:=fc) (b:=b) (df:=d) (cs:=e) (k:=J) (rest:=[]) N O P ad am ((aR _).trans v) R (H.less ae);rw[an]at z;exact⟨T,ag,_,(f.trans t).trans x,V,ah ((f.trans t).trans x) (H.mono x),(E.trans A).trans z⟩
          ·obtain⟨aB,aD,ba,f,S,ab,E⟩:=dQ (fc:=fc) (b:=b) (df:=d) (cs:=e) (k:=J) (rest:=[m+2,m+1]) N O P az aK aQ aO W.tm;rw[au]at E;have F:=(dz (W.tm.mono f) ab k).1;obtain⟨aF,aA,bf,t,R,Y,A⟩:=dQ (fc:=fc) (b:=b) (df:=d) (cs:=e) (k:=J) (rest:=[m+1]) N O P ad am ((aR _).trans n) S (F.less ae);rw[an]at A;have H:=F.mono t;obtain⟨T,aG,ag,x,V,ai,z⟩:=dQ (fc:=fc) (b:=b) (df:=d) (cs:=e) (k:=J) (rest:=[]) N O P aa af ((aI _).trans M) R H;rw[aq]at z;exact⟨T,ag,_,(f.trans t).trans x,V.alike U,ah ((f.trans t).trans x) (H.mono x),(E.trans A).trans z⟩
          ·obtain⟨aB,aD,ba,f,S,ab,E⟩:=dQ (fc:=fc) (b:=b) (df:=d) (cs:=e) (k:=J) (rest:=[m,m+1]) N O P ad am ((aR _).trans n) aO (W.tm.less ax);rw[an]at E;have F:=W.tm.mono f;obtain⟨aF,aA,bf,t,R,Y,A⟩:=dQ (fc:=fc) (b:=b) (df:=d) (cs:=e) (k:=J) (rest:=[m+1]) N O P az aK aH S F;rw[au]at A;have H:=(dz (F.mono t) Y k).1;obtain⟨T,aG,ag,x,V,ai,z⟩:=dQ (fc:=fc) (b:=b) (df:=d) (cs:=e) (k:=J) (rest:=[]) N O P aa af ((aI _).trans M) R H;rw[aq]at z;exact⟨T,ag,_,(f.trans t).trans x,V.alike U,ah ((f.trans t).trans x) (H.mono x),(E.trans A).trans z⟩
         ·cases I
       ·cases I
      ·cases I
    ·cases I
   ·cases I
  ·cases I
 ·cases I
theorem four:∀e,e<4->∀a,a<4->∀b,b<4->∀f,f<4->e≠1->e≠3->a≠e->(a=1->e=0)->(a=3->e=2)->b≠a->b≠e->(b=1->e=0∨a=0)->(b=3->e=2∨a=2)->f≠b->f≠a->f≠e->
  (e=0/\a=1/\b=2/\f=3)∨(e=0/\a=2/\b=1/\f=3)∨(e=0/\a=2/\b=3/\f=1)∨(e=2/\a=0/\b=1/\f=3)∨(e=2/\a=0/\b=3/\f=1)∨(e=2/\a=3/\b=0/\f=1):=by
 intro e J a L b F f H A z I t x K G k m C E D;have B:e=0∨e=2:=by clear t x k m;omega
 rcases B with rfl|rfl
 ·have o:a≠3:=fun h=>absurd (x h) dc;clear A z t x k;have o:a=1∨a=2:=by clear m;omega
  rcases o with rfl|rfl
  ·have s:b≠3:=fun h=>by rcases m h with h|h<;>cases h
   clear m;obtain rfl:b=2:=om;obtain rfl:f=3:=om;exact .inl ⟨Z,Z,Z,Z⟩
  ·clear m;have s:b=1∨b=3:=om;rcases s with rfl|rfl
   ·obtain rfl:f=3:=om;exact .inr (.inl ⟨Z,Z,Z,Z⟩)
   ·obtain rfl:f=1:=om;exact .inr (.inr (.inl ⟨Z,Z,Z,Z⟩))
 ·have o:a≠1:=fun h=>absurd (t h) dc;clear A z t x m;have o:a=0∨a=3:=by clear k;omega
  rcases o with rfl|rfl
  ·clear k;have s:b=1∨b=3:=om;rcases s with rfl|rfl
   ·obtain rfl:f=3:=om;exact .inr (.inr (.inr (.inl ⟨Z,Z,Z,Z⟩)))
   ·obtain rfl:f=1:=om;exact .inr (.inr (.inr (.inr (.inl ⟨Z,Z,Z,Z⟩))))
  ·have s:b≠1:=fun h=>by rcases k h with h|h<;>cases h
   clear k;obtain rfl:b=0:=om;obtain rfl:f=1:=om;exact .inr (.inr (.inr (.inr (.inr ⟨Z,Z,Z,Z⟩))))
theorem WW(i:h7 ops bs m order)(ai:ops.size=m+4){D:Nat->Bool}(R:Iu ops D g)(M:Down ops D)(ad:∀b,b<m->D b=true)(O:∀b,m<=b->D b=false)(n:iG bs (m+1) m=true)(c:iG bs (m+3) (m+2)=true):
  g=[m,m+1,m+2,m+3]∨g=[m,m+2,m+1,m+3]∨g=[m,m+2,m+3,m+1]∨g=[m+2,m,m+1,m+3]∨g=[m+2,m,m+3,m+1]∨g=[m+2,m+3,m,m+1]:=by
 have step:∀{D:Nat->Bool} {g:List Nat},Iu ops D g->Down ops D->(g=[]/\∀b,b<ops.size->D b=true)∨
   ∃b P,g=b::P/\b<ops.size/\D b=false/\(b=m+1->D m=true)/\(b=m+3->D (m+2)=true)/\Iu ops (fun x=>D x||x==b) P/\Down ops (fun x=>D x||x==b):=by
  intro D g d M;cases d with
  |nil h=>exact .inl ⟨rfl,h⟩
  |@cons _ b P aI I ag U aG=>
   refine .inr ⟨b,P,Z,?_,ag,?_,?_,aG,M.add I U⟩
   ·rcases YT b ops.size with h|h
    ·exact h
    ·rw[YS h]at I;cases I
   ·rintro rfl;exact M.ready i I U n
   ·rintro rfl;exact M.ready i I U c
 have s:∀{b:Nat},D b=false->m<=b:=fun{b} h=>by
  rcases YT b m with S|S
  ·rw[ad b S]at h;cases h
  ·exact S
 have H:=O m (YO _);have T:=O (m+1) om;have N:=O (m+2) om;have y:=O (m+3) om;rcases step R M with⟨_,a⟩|⟨b,ap,rfl,ax,Y,X,j,ah,d1⟩
 ·have:=a m om;rw[H]at this;cases this
 have an:b≠m+1:=fun u=>by have:=X u;rw[H]at this;cases this
 have aE:b≠m+3:=fun u=>by have:=j u;rw[N]at this;cases this
 have aw:=s Y;rcases step ah d1 with⟨_,a⟩|⟨Q,aF,rfl,ao,K,t,B,w,d2⟩
 ·exfalso;have L:=a m om;have J:=a (m+1) om;simp only[H,T,YN,beq_iff_eq]at L J;omega
 simp only[YL,beq_eq_false_iff_ne]at K;have aH:=s K.1;rcases step w d2 with⟨_,a⟩|⟨W,al,rfl,aq,G,A,z,q,d3⟩
 ·exfalso;have L:=a m om;have J:=a (m+1) om;have V:=a (m+2) om;simp only[H,T,N,YN,YP,beq_iff_eq]at L J V;omega
 simp only[YL,beq_eq_false_iff_ne]at G;have ar:=s G.1.1;rcases step q d3 with⟨_,a⟩|⟨l,am,rfl,d,E,aj,ak,r,d4⟩
 ·exfalso;have L:=a m om;have J:=a (m+1) om;have V:=a (m+2) om;have ae:=a (m+3) om;simp only[H,T,N,y,YN,YP,beq_iff_eq]at L J V ae;omega
 simp only[YL,beq_eq_false_iff_ne]at E;have az:=s E.1.1.1;simp only[H,N,YN,YP,beq_iff_eq]at t B A z;have ac:=K.2;have ab:=G.2;have p:=G.1.2;have af:=E.2;have aa:=E.1.2;have v:=E.1.1.2;obtain⟨b,rfl⟩:∃F,b=m+F:=⟨b-m,om⟩;obtain⟨Q,rfl⟩:∃F,Q=m+F:=⟨Q-m,om⟩;obtain⟨W,rfl⟩:∃F,W=m+F:=⟨W-m,om⟩;obtain⟨l,rfl⟩:∃F,l=m+F:=⟨l-m,om⟩;have e:Q=1->b=0:=fun h=>by subst h;have:=t rfl;clear t B A z;omega
 have f:Q=3->b=2:=fun h=>by subst h;have:=B rfl;clear t B A z e;omega
 have k:W=1->b=0∨Q=0:=fun h=>by subst h;have:=A rfl;clear t B A z e f;omega
 have o:W=3->b=2∨Q=2:=fun h=>by subst h;have:=z rfl;clear t B A z e f k;omega
 clear t B A z;have f1:=four b (by clear e f k o;omega) Q (by clear e f k o;omega) W (by clear e f k o;omega) l (by clear e f k o;omega) (by clear e f k o;omega) (by clear e f k o;omega) (by clear e f k o;omega) e f (by clear e f k o;omega) (by clear e f k o;omega) k o (by clear e f k o;omega) (by clear e f k o;omega) (by clear e f k o;omega);clear e f k o;rcases step r d4 with⟨rfl,_⟩|⟨aJ,av,rfl,aC,C,_,_,_,_⟩
 ·rcases f1 with⟨rfl,rfl,rfl,rfl⟩|⟨rfl,rfl,rfl,rfl⟩|⟨rfl,rfl,rfl,rfl⟩|⟨rfl,rfl,rfl,rfl⟩|⟨rfl,rfl,rfl,rfl⟩|⟨rfl,rfl,rfl,rfl⟩
  ·exact .inl Z
  ·exact .inr (.inl Z)
  ·exact .inr (.inr (.inl Z))
  ·exact .inr (.inr (.inr (.inl Z)))
  ·exact .inr (.inr (.inr (.inr (.inl Z))))
  ·exact .inr (.inr (.inr (.inr (.inr Z))))
 ·exfalso;simp only[YL,beq_eq_false_iff_ne]at C;have aA:=s C.1.1.1.1;have ay:=C.2;have aD:=C.1.2;have au:=C.1.1.2;have aB:=C.1.1.1.2;clear ac ab p af aa v;rcases f1 with⟨rfl,rfl,rfl,rfl⟩|⟨rfl,rfl,rfl,rfl⟩|⟨rfl,rfl,rfl,rfl⟩|⟨rfl,rfl,rfl,rfl⟩|⟨rfl,rfl,rfl,rfl⟩|⟨rfl,rfl,rfl,rfl⟩<;>omega
theorem zX{s:TypeId}{st e:St}(a:fa C s n l st=some (.val w e))(b:St):fa C s n l b=some (.val w b):=by
 unfold fa at a⊢;split at a
 ·split at a
  ·split at a
   ·split at a
    ·obtain⟨rfl,rfl⟩:=c7 a;rfl
    ·cases a
   ·cases a
  ·cases a
 ·cases a
theorem rf{t:Tr Value}(a:v<l):gI l ⟨t,d⟩ (some v) n=some ⟨t.set v n,d⟩:=by
 unfold gI;simp only;rw[show Nat.blt v l=true by rw[YU];exact a]
theorem FV(S:l6 C)(T:Cy C)(U:mb C)(aY:h7 ops bs m order){a aI f aJ:Oper}(aW:ops.toList.drop m=[a,aI,f,aJ]){st bc:St}(ad:Fo C fc a aI f aJ q p st=some (u,y,r,bc)) 
  {D:Nat->Bool} (bh:Iu ops D g) (bM:Down ops D) (bO:∀x,x<m->D x=true) (bH:∀x,m<=x->D x=false) (bA:iG bs (m+1) m=true) (bq:iG bs (m+3) (m+2)=true) (k:List Frame) (R:List Item) (aQ:dj w0 N0 G j st i) (ac:ks j fc q b c d):
  u=.norm/\r=p/\∃ae bu aw,j.le ae/\dj w0 N0 G ae bc bu/\ks ae fc y b aw d/\Steps C.P (lone (ek b c d (.inRegion ops g::R)) k i) (lone (ek b aw d (.inRegion ops []::R)) k bu):=by
 have bm:ops.size=m+4:=by
  have:=congrArg List.length aW;simp at this;omega
 have aM:∀bK o,[a,aI,f,aJ][bK]?=some o->ops[m+bK]?=some o:=by
  intro bK o ad;rw[<-aW,YW,YV]at ad;exact ad
 have aK:ops[m]?=some a:=aM 0 a rfl;have ai:ops[m+1]?=some aI:=aM 1 aI rfl;have ak:ops[m+2]?=some f:=aM 2 f rfl;have an:ops[m+3]?=some aJ:=aM 3 aJ rfl;have aO:=(aY.tail m a (YO _) aK).2.1;have ao:=(aY.tail (m+1) aI om ai).2.1;have aP:=(aY.tail (m+2) f om ak).2.1;have ar:=(aY.tail (m+3) aJ om an).2.1;unfold Fo at ad;split at ad
 ·rename_i I e t1 ce cb cd cg ca t2 bY cj ax av aq au bi bk bg aV;rw[YL]at aV;split at ad
  ·cases ad
  rename_i be;have be:I≠e:=YR be;split at ad
  ·rename_i af bW ck aR bo;split at ad
   ·rename_i J bR bl;split at ad
    ·rename_i bQ V;rw[YQ,YU,YU]at V;have bj:=pN aV.1 aV.2 aR (YM bQ);subst bj;split at ad
     ·rename_i bD bG bB bP bE bN bn bw bv br;split at ad
      ·cases ad
      rename_i bt;split at ad
      ·rename_i ch bU cf bV ay az;split at ad
       ·rename_i cc bL bf;split at ad
        ·cases ad
        rename_i W;rw[YQ]at W;have:=qo _ _ W.1;subst this;have bb:=pN aV.1 aV.2 bf (YM W.2);subst bb;split at ad
        ·rename_i bX bI ci bC ag ah;simp only[Option.some.injEq,Prod.mk.injEq]at ad;obtain⟨rfl,rfl,rfl,rfl⟩:=ad;have aj:=re bt (kD ay) (kD az) (kD ag) (kD ah);refine⟨Z,Z,?_⟩;have aN:∀s,h0 C (iF ⟨(q.tm.put e none).set I af,q.df⟩) aI s=hH C t1 (.pointer (some ⟨bD,bG,none⟩)) bB s:=by
          intro s;unfold h0;rw[bi];simp only;rw[bn,bw]
         have aT:∀s,h0 C (iF ⟨(q.tm.put I none).set e J,q.df⟩) aJ s=hH C t2 (.pointer (some ⟨bP,bE,none⟩)) bN s:=by
          intro s;unfold h0;rw[bg];simp only;rw[bv,br]
         have aS:∀s,h0 C (iF ⟨q.tm.put I none,q.df⟩) f s=some (.val J s):=by
          intro s;unfold h0;rw[bk];simp only;rw[bo];exact zX bl s
         have bx:∀(t:Tr Value) (bS x:Nat) (ab:Value),(t.put bS none).get x=some ab->t.get x=some ab:=by
          intro t bS x ab h;rw[cT]at h;split at h
          ·cases h
          ·exact h
         have ap:∀{ae:Ren} {aw:Array Value},j.le ae->fU ae fc.nt ((q.tm.set I af).set e J) aw->ks ae fc ⟨(q.tm.set I af).set e J,q.df⟩ b aw d:=by
          intro ae aw bp bz;have aL:=ac.mono bp;exact⟨aL.fn,aL.round,aL.kind,bz,aL.df⟩
         have bJ:fU j fc.nt q.tm c:=ac.tm;rcases WW aY bm bh bM bO bH bA bq with rfl|rfl|rfl|rfl|rfl|rfl
         ·obtain⟨aB,aE,aX,E,l,n,M⟩:=dQ (fc:=fc) (b:=b) (df:=d) (cs:=k) (k:=R) (rest:=[m+1,m+2,m+3]) S T U aK aO aR aQ (fU.less (t:=q.tm) ac.tm (fun x ab h=>by
           simp only[cT,cw]at h⊢;by_cases hid:x=I<;>by_cases A:x=e<;>simp_all))
          rw[ax]at M;have N:=(dz (fr:=⟨q.tm,q.df⟩) ((ac.tm).mono E) n (rf V.1)).1;obtain⟨aG,aA,ba,F,Y,W,L⟩:=dQ (fc:=fc) (b:=b) (df:=d) (cs:=k) (k:=R) (rest:=[m+2,m+3]) S T U ai ao ((aN _).trans ay) l (fU.less (t:=(q.tm).set I af) N (fun x ab h=>by
           simp only[cT,cw]at h⊢;by_cases hid:x=I<;>by_cases A:x=e<;>simp_all))
          rw[av]at L;have O:=(N).mono F;obtain⟨aD,aH,aU,H,w,am,K⟩:=dQ (fc:=fc) (b:=b) (df:=d) (cs:=k) (k:=R) (rest:=[m+3]) S T U ak aP (aS _) Y (fU.less (t:=(q.tm).set I af) O (fun x ab h=>by
           simp only[cT,cw]at h⊢;by_cases hid:x=I<;>by_cases A:x=e<;>simp_all))
          rw[aq]at K;have P:=(dz (fr:=⟨(q.tm).set I af,q.df⟩) ((O).mono H) am (rf V.2)).1;obtain⟨v,aF,al,B,X,aC,Q⟩:=dQ (fc:=fc) (b:=b) (df:=d) (cs:=k) (k:=R) (rest:=[]) S T U an ar ((aT _).trans ag) w (fU.less (t:=((q.tm).set I af).set e J) P (fun x ab h=>by
           simp only[cT,cw]at h⊢;by_cases hid:x=I<;>by_cases A:x=e<;>simp_all))
          rw[au]at Q;have aa:=(P).mono B;exact⟨v,al,_,((E.trans F).trans H).trans B,X,ap (((E.trans F).trans H).trans B) (fU.less (t:=((q.tm).set I af).set e J) aa (fun x ab h=>by
           simp only[cT,cw]at h⊢;by_cases hid:x=I<;>by_cases A:x=e<;>simp_all)),((M.trans L).trans K).trans Q⟩
         ·obtain⟨aB,aE,aX,E,l,n,M⟩:=dQ (fc:=fc) (b:=b) (df:=d) (cs:=k) (k:=R) (rest:=[m+2,m+1,m+3]) S T U aK aO aR aQ (fU.less (t:=q.tm) ac.tm (fun x ab h=>by
           simp only[cT,cw]at h⊢;by_cases hid:x=I<;>by_cases A:x=e<;>simp_all))
          rw[ax]at M;have N:=(dz (fr:=⟨q.tm,q.df⟩) ((ac.tm).mono E) n (rf V.1)).1;obtain⟨aG,aA,ba,F,Y,W,L⟩:=dQ (fc:=fc) (b:=b) (df:=d) (cs:=k) (k:=R) (rest:=[m+1,m+3]) S T U ak aP (aS _) l (fU.less (t:=(q.tm).set I af) N (fun x ab h=>by
           simp only[cT,cw]at h⊢;by_cases hid:x=I<;>by_cases A:x=e<;>simp_all))
          rw[aq]at L;have O:=(dz (fr:=⟨(q.tm).set I af,q.df⟩) ((N).mono F) W (rf V.2)).1;obtain⟨aD,aH,aU,H,w,am,K⟩:=dQ (fc:=fc) (b:=b) (df:=d) (cs:=k) (k:=R) (rest:=[m+3]) S T U ai ao ((aN _).trans ay) Y (fU.less (t:=((q.tm).set I af).set e J) O (fun x ab h=>by
           simp only[cT,cw]at h⊢;by_cases hid:x=I<;>by_cases A:x=e<;>simp_all))
          rw[av]at K;have P:=(O).mono H;obtain⟨v,aF,al,B,X,aC,Q⟩:=dQ (fc:=fc) (b:=b) (df:=d) (cs:=k) (k:=R) (rest:=[]) S T U an ar ((aT _).trans ag) w (fU.less (t:=((q.tm).set I af).set e J) P (fun x ab h=>by
           simp only[cT,cw]at h⊢;by_cases hid:x=I<;>by_cases A:x=e<;>simp_all))
          rw[au]at Q;have aa:=(P).mono B;exact⟨v,al,_,((E.trans F).trans H).trans B,X,ap (((E.trans F).trans H).trans B) (fU.less (t:=((q.tm).set I af).set e J) aa (fun x ab h=>by
           simp only[cT,cw]at h⊢;by_cases hid:x=I<;>by_cases A:x=e<;>simp_all)),((M.trans L).trans K).trans Q⟩
         ·obtain⟨aB,aE,aX,E,l,n,M⟩:=dQ (fc:=fc) (b:=b) (df:=d) (cs:=k) (k:=R) (rest:=[m+2,m+3,m+1]) S T U aK aO aR aQ (fU.less (t:=q.tm) ac.tm (fun x ab h=>by
           simp only[cT,cw]at h⊢;by_cases hid:x=I<;>by_cases A:x=e<;>simp_all))
          rw[ax]at M;have N:=(dz (fr:=⟨q.tm,q.df⟩) ((ac.tm).mono E) n (rf V.1)).1;obtain⟨aG,aA,ba,F,Y,W,L⟩:=dQ (fc:=fc) (b:=b) (df:=d) (cs:=k) (k:=R) (rest:=[m+3,m+1]) S T U ak aP (aS _) l (fU.less (t:=(q.tm).set I af) N (fun x ab h=>by
           simp only[cT,cw]at h⊢;by_cases hid:x=I<;>by_cases A:x=e<;>simp_all))
          rw[aq]at L;have O:=(dz (fr:=⟨(q.tm).set I af,q.df⟩) ((N).mono F) W (rf V.2)).1;obtain⟨aD,aH,aU,H,w,am,K⟩:=dQ (fc:=fc) (b:=b) (df:=d) (cs:=k) (k:=R) (rest:=[m+1]) S T U an ar ((aT _).trans az) Y (fU.less (t:=((q.tm).set I af).set e J) O (fun x ab h=>by
           simp only[cT,cw]at h⊢;by_cases hid:x=I<;>by_cases A:x=e<;>simp_all))
          rw[au]at K;have P:=(O).mono H;obtain⟨v,aF,al,B,X,aC,Q⟩:=dQ (fc:=fc) (b:=b) (df:=d) (cs:=k) (k:=R) (rest:=[]) S T U ai ao ((aN _).trans ah) w (fU.less (t:=((q.tm).set I af).set e J) P (fun x ab h=>by
           simp only[cT,cw]at h⊢;by_cases hid:x=I<;>by_cases A:x=e<;>simp_all))
          rw[av]at Q;have aa:=(P).mono B;exact⟨v,al,_,((E.trans F).trans H).trans B,X.alike aj,ap (((E.trans F).trans H).trans B) (fU.less (t:=((q.tm).set I af).set e J) aa (fun x ab h=>by
           simp only[cT,cw]at h⊢;by_cases hid:x=I<;>by_cases A:x=e<;>simp_all)),((M.trans L).trans K).trans Q⟩
         ·obtain⟨aB,aE,aX,E,l,n,M⟩:=dQ (fc:=fc) (b:=b) (df:=d) (cs:=k) (k:=R) (rest:=[m,m+1,m+3]) S T U ak aP (aS _) aQ (fU.less (t:=q.tm) ac.tm (fun x ab h=>by
           simp only[cT,cw]at h⊢;by_cases hid:x=I<;>by_cases A:x=e<;>simp_all))
          rw[aq]at M;have N:=(dz (fr:=⟨q.tm,q.df⟩) ((ac.tm).mono E) n (rf V.2)).1;obtain⟨aG,aA,ba,F,Y,W,L⟩:=dQ (fc:=fc) (b:=b) (df:=d) (cs:=k) (k:=R) (rest:=[m+1,m+3]) S T U aK aO aR l (fU.less (t:=(q.tm).set e J) N (fun x ab h=>by
           simp only[cT,cw]at h⊢;by_cases hid:x=I<;>by_cases A:x=e<;>simp_all))
          rw[ax]at L;have O:=(dz (fr:=⟨(q.tm).set e J,q.df⟩) ((N).mono F) W (rf V.1)).1;obtain⟨aD,aH,aU,H,w,am,K⟩:=dQ (fc:=fc) (b:=b) (df:=d) (cs:=k) (k:=R) (rest:=[m+3]) S T U ai ao ((aN _).trans ay) Y (fU.less (t:=((q.tm).set e J).set I af) O (fun x ab h=>by
           simp only[cT,cw]at h⊢;by_cases hid:x=I<;>by_cases A:x=e<;>simp_all))
          rw[av]at K;have P:=(O).mono H;obtain⟨v,aF,al,B,X,aC,Q⟩:=dQ (fc:=fc) (b:=b) (df:=d) (cs:=k) (k:=R) (rest:=[]) S T U an ar ((aT _).trans ag) w (fU.less (t:=((q.tm).set e J).set I af) P (fun x ab h=>by
           simp only[cT,cw]at h⊢;by_cases hid:x=I<;>by_cases A:x=e<;>simp_all))
          rw[au]at Q;have aa:=(P).mono B;exact⟨v,al,_,((E.trans F).trans H).trans B,X,ap (((E.trans F).trans H).trans B) (fU.less (t:=((q.tm).set e J).set I af) aa (fun x ab h=>by
           simp only[cT,cw]at h⊢;by_cases hid:x=I<;>by_cases A:x=e<;>simp_all)),((M.trans L).trans K).trans Q⟩
         ·obtain⟨aB,aE,aX,E,l,n,M⟩:=dQ (fc:=fc) (b:=b) (df:=d) (cs:=k) (k:=R) (rest:=[m,m+3,m+1]) S T U ak aP (aS _) aQ (fU.less (t:=q.tm) ac.tm (fun x ab h=>by
           simp only[cT,cw]at h⊢;by_cases hid:x=I<;>by_cases A:x=e<;>simp_all))
          rw[aq]at M;have N:=(dz (fr:=⟨q.tm,q.df⟩) ((ac.tm).mono E) n (rf V.2)).1;obtain⟨aG,aA,ba,F,Y,W,L⟩:=dQ (fc:=fc) (b:=b) (df:=d) (cs:=k) (k:=R) (rest:=[m+3,m+1]) S T U aK aO aR l (fU.less (t:=(q.tm).set e J) N (fun x ab h=>by
           simp only[cT,cw]at h⊢;by_cases hid:x=I<;>by_cases A:x=e<;>simp_all))
          rw[ax]at L;have O:=(dz (fr:=⟨(q.tm).set e J,q.df⟩) ((N).mono F) W (rf V.1)).1;obtain⟨aD,aH,aU,H,w,am,K⟩:=dQ (fc:=fc) (b:=b) (df:=d) (cs:=k) (k:=R) (rest:=[m+1]) S T U an ar ((aT _).trans az) Y (fU.less (t:=((q.tm).set e J).set I af) O (fun x ab h=>by
           simp only[cT,cw]at h⊢;by_cases hid:x=I<;>by_cases A:x=e<;>simp_all))
          rw[au]at K;have P:=(O).mono H;obtain⟨v,aF,al,B,X,aC,Q⟩:=dQ (fc:=fc) (b:=b) (df:=d) (cs:=k) (k:=R) (rest:=[]) S T U ai ao ((aN _).trans ah) w (fU.less (t:=((q.tm).set e J).set I af) P (fun x ab h=>by
           simp only[cT,cw]at h⊢;by_cases hid:x=I<;>by_cases A:x=e<;>simp_all))
          rw[av]at Q;have aa:=(P).mono B;exact⟨v,al,_,((E.trans F).trans H).trans B,X.alike aj,ap (((E.trans F).trans H).trans B) (fU.less (t:=((q.tm).set e J).set I af) aa (fun x ab h=>by
           simp only[cT,cw]at h⊢;by_cases hid:x=I<;>by_cases A:x=e<;>simp_all)),((M.trans L).trans K).trans Q⟩
         ·obtain⟨aB,aE,aX,E,l,n,M⟩:=dQ (fc:=fc) (b:=b) (df:=d) (cs:=k) (k:=R) (rest:=[m+3,m,m+1]) S T U ak aP (aS _) aQ (fU.less (t:=q.tm) ac.tm (fun x ab h=>by
           simp only[cT,cw]at h⊢;by_cases hid:x=I<;>by_cases A:x=e<;>simp_all))
          rw[aq]at M;have N:=(dz (fr:=⟨q.tm,q.df⟩) ((ac.tm).mono E) n (rf V.2)).1;obtain⟨aG,aA,ba,F,Y,W,L⟩:=dQ (fc:=fc) (b:=b) (df:=d) (cs:=k) (k:=R) (rest:=[m,m+1]) S T U an ar ((aT _).trans az) l (fU.less (t:=(q.tm).set e J) N (fun x ab h=>by
           simp only[cT,cw]at h⊢;by_cases hid:x=I<;>by_cases A:x=e<;>simp_all))
          rw[au]at L;have O:=(N).mono F;obtain⟨aD,aH,aU,H,w,am,K⟩:=dQ (fc:=fc) (b:=b) (df:=d) (cs:=k) (k:=R) (rest:=[m+1]) S T U aK aO bf Y (fU.less (t:=(q.tm).set e J) O (fun x ab h=>by
           simp only[cT,cw]at h⊢;by_cases hid:x=I<;>by_cases A:x=e<;>simp_all))
          rw[ax]at K;have P:=(dz (fr:=⟨(q.tm).set e J,q.df⟩) ((O).mono H) am (rf V.1)).1;obtain⟨v,aF,al,B,X,aC,Q⟩:=dQ (fc:=fc) (b:=b) (df:=d) (cs:=k) (k:=R) (rest:=[]) S T U ai ao ((aN _).trans ah) w (fU.less (t:=((q.tm).set e J).set I af) P (fun x ab h=>by
           simp only[cT,cw]at h⊢;by_cases hid:x=I<;>by_cases A:x=e<;>simp_all))
          rw[av]at Q;have aa:=(P).mono B;exact⟨v,al,_,((E.trans F).trans H).trans B,X.alike aj,ap (((E.trans F).trans H).trans B) (fU.less (t:=((q.tm).set e J).set I af) aa (fun x ab h=>by
           simp only[cT,cw]at h⊢;by_cases hid:x=I<;>by_cases A:x=e<;>simp_all)),((M.trans L).trans K).trans Q⟩
        ·cases ad
       ·cases ad
      ·cases ad
     ·cases ad
    ·cases ad
   ·cases ad
  ·cases ad
 ·cases ad
end
section
variable{C:dU} {w0:World} {N0:Nat} {G:Nat->Prop} {fc:FC} {b:FB} {rc:Rec}
theorem hh.of_steps{B a:Ren}{A E:Machine}{Q:List Item}{x m f:ec}{z h:List Frame}{P:Ex}{k:Fr}{e:St}(I:B.le a)(F:nK x m z h)(t:Steps C.P A E)(R:hh C w0 N0 G a fc E b Q m h P k f e):hh C w0 N0 G B fc A b Q x z P k f e:=by
 obtain⟨o,J,s,H,D,K,M,O,L,N⟩:=R;exact⟨o,J,s,H,D,I.trans K,M,O,F.trans L,.of_steps t N⟩
theorem DJ(S:l6 C)(T:Cy C)(U:mb C)(ad:C.P.follows .mixedOrders=true)(ay:∀G,uf C w0 N0 G rc){id:Nat}{ops:Array Oper}{m:Bool}(R:m=true->Dp ops.toList=true){st z:St}(f:region C rc fc ops m q p st=some (u,y,r,z)){k:List Frame}(F:List Item)(aq:dj w0 N0 G j st i)(an:ks j fc q b c d)(av:sa j fc.BA p k):
  hh C w0 N0 G j fc (lone (ek b c d (.code (.region id ops m)::F)) k i) b F p k u y r z:=by
 cases m with
 |false=>
  have:=DC (fc:=fc) (b:=b) S T U (ay G) (ops:=ops) F ops.toList 0 q p st j i c d k u y r z rfl f aq an av;exact .of_steps (Ren.le_refl _) (.refl _ _) (.one LX) this
 |true=>
  have E:=FP (R rfl);unfold region at f;simp only at f;have aa:=DD (ops:=ops) E.back (i.tape i.drawn (.order b.fn id));have h:=zS (P:=C.P) (b:=b) (tm:=c) (df:=d) (k:=F) (cs:=k) (w:=i) (id:=id) (ops:=ops);rw[ad]at h;have w:Inv w0 N0 G ops (pK ops.toList).bs (pK ops.toList).m fc b (fun _=>false) [] 0 [] q p st j {i with drawn:=i.drawn+1} c d k:=by
   refine⟨⟨fun H f=>by simp at f,fun H o f=>by simp at f⟩,fun H f=>by simp at f,fun H f=>by simp at f,fun H f=>by simp at f,fun aM f=>by simp at f,fun H az aI n f=>by simp at f,fun H az aI n aP aN aJ f=>by simp at f,fun aL f=>by simp at f,fun aL f=>by simp at f,fun H az aI n f=>by simp at f,?_,?_,av⟩
   ·refine(aq.drewN _).uh ?_;rintro u (hx|⟨aM,az,n,K,_⟩)
    ·exact hx
    ·simp at K
   ·have:mK q (fu ops (fun _=>false) [])=q:=rfl;rw[this];exact an
  cases O:eM C rc fc ops.toList (pK ops.toList).bs (pK ops.toList).order 0 [] q p st with
  |none=>rw[O]at f;cases f
  |some Y=>
   have t:=Iz (C:=C) (rc:=rc) S T U ay E F aa [] (pK ops.toList).order 0 [] q p st j _ c d k Y rfl O (fun _ _=>rfl) w;rw[O]at f;obtain⟨V,g,X,l⟩:=Y;have s:(∀aE,V=aE->aE≠.norm->some (V,g,X,l)=some (u,y,r,z)->hh C w0 N0 G j fc (lone (ek b c d (.inRegion ops (Region.schedule true ops (i.tape i.drawn (.order b.fn id)))::F)) k {i with drawn:=i.drawn+1}) b F p k V g X l->hh C w0 N0 G j fc (lone (ek b c d (.code (.region id ops true)::F)) k i) b F p k u y r z):=by
    intro aE _ _ ar aA;cases ar;exact .of_steps (Ren.le_refl _) (.refl _ _) (.one h) aA
   cases V with
   |exit H=>exact s _ rfl (by intro e;cases e) f t
   |ret=>exact s _ rfl (by intro e;cases e) f t
   |panic az=>exact s _ rfl (by intro e;cases e) f t
   |norm=>
    obtain⟨aO,aC,am,aG,au,P,x,ag,ap,v,ae,ab,ai,ah,af,ax⟩:=t;simp only at f;split at f
    ·rename_i K;have K:=YM K;simp only[Option.some.injEq,Prod.mk.injEq]at f;obtain⟨rfl,rfl,rfl,rfl⟩:=f;have aD:aC=[]:=by
      cases ag with
      |nil _=>rfl
      |@cons _ H aR o ak aw ar aT=>
       exfalso;have al:H<ops.size:=by
        rcases YT H ops.size with ac|ac
        ·exact ac
        ·rw[YS ac]at ak;cases ak
       rw[v H (by rw[K];simpa using al)]at aw;cases aw
     subst aD;exact⟨am,aG,au,P,x,ae,ab,ai,ah,(Steps.head h af).trans (.one l7)⟩
    ·split at f
     ·rename_i a aF aH aB D Q;split at f
      ·rename_i B;obtain⟨rfl,rfl,M,aj,N,A,I,L,J⟩:=FU (C:=C) S T U E D f ag ap v ax (by unfold iG;rw[Q];exact B) x F ab ai;exact⟨M,aj,N,P,x,ae.trans A,I,L,ah,(Steps.head h (af.trans J)).trans (.one l7)⟩
      ·cases f
     ·rename_i a aF aQ aH aB D Q;split at f
      ·rename_i aK B ao;split at f
       ·rename_i W;obtain⟨rfl,rfl,M,aj,N,A,I,L,J⟩:=FV (C:=C) S T U E D f ag ap v ax (by unfold iG;rw[Q];exact B) (by unfold iG;rw[ao];exact W) x F ab ai;exact⟨M,aj,N,P,x,ae.trans A,I,L,ah,(Steps.head h (af.trans J)).trans (.one l7)⟩
       ·cases f
      ·cases f
     ·cases f
end
end Go.AM
