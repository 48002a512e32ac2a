/- Part of the proof. -/
import Derived.Test.YtpejealjkmhkgaaGreatDoorKAn
set_option linter.all false
set_option maxHeartbeats 16000000
set_option maxRecDepth 100000
open Nat renaming eq_of_beq_eq_true->abK,ble_eq_true_of_le->abL,ble->aeR,zero_mul->aeV,beq_refl->aeZ,le_refl->ae1,beq->ae2
open List renaming length_map->aet,mem_map->aeu,mem_or_eq_of_mem_set->aev,all_eq_true->aeM,flatten_cons->aeO,mem_of_mem_drop->aeP,mem_append->aeQ,map_cons->aeS,mem_of_mem_take->aeT,length_append->aeU,mem_cons->aeW,take_of_length_le->aeY,mem_of_getElem?->ae0
open Bool renaming and_eq_true->aeN,and_self->aeX
namespace Go.VM
open Go.AM
theorem Jp{l:Type}:∀{a:List (List l)} {b kk f:Nat} {e vs:List l},(∀c∈a,c.length=b)->a[kk]?=some e->f+vs.length<=b->
  (a.set kk (lay e f vs)).flatten=lay a.flatten (kk*b+f) vs/\kk*b+f+vs.length<=a.flatten.length:=by
 intro a;induction a with
 |nil=>intro b kk f e vs _ d;simp at d
 |cons c a m=>
  intro b kk f e vs h d o;have s:=h c sm;cases kk with
  |zero=>
   simp at d;subst d;simp only[aeV,Nat.zero_add,List.set_cons_zero,aeO,aeU];refine⟨?_,om⟩;simp only[lay];rw[List.take_append_of_le_length om,List.drop_append_of_le_length om];simp only[List.append_assoc]
  |succ kk=>
   have:=m (fun p n=>h p (by simp[n])) (kk:=kk) (f:=f) (e:=e) (vs:=vs) (by simpa using d) o;simp only[List.set_cons_succ,aeO,aeU];rw[Nat.succ_mul];refine⟨?_,om⟩;rw[this.1];simp only[lay];rw[show kk*b+b+f=c.length+(kk*b+f)from om,List.take_length_add_append,
    show c.length+(kk*b+f)+vs.length=c.length+(kk*b+f+vs.length)from om,List.drop_length_add_append]
   simp only[List.append_assoc]
theorem V3{b:Type}{c a:List b}(d:c.length=a.length):lay c 0 a=a:=by
 simp only[lay,List.take_zero,List.nil_append,Nat.zero_add];rw[List.drop_of_length_le om,List.append_nil]
variable{B E:V} {w:VS->Prop} {i:List (List V)} {j:List V} {k:Bool} {g:V->VS->Prop}
section
variable{C:dR} {Φ:Fz} {ρ:Nat->Nat} {σ:VS} {st:St} {m:Nat} {ev:Operand->Option V} {mK:Operand->Option Value}
def CV(Φ:Fz)(ρ:Nat->Nat)(σ:VS)(K:V->VS->Prop)(f:Option AR):Prop:=
 ∃e a b c d,K e a/\iJ Φ ρ σ.length b c a.length/\Real b c a d/\e9 b a.length e/\f=some (.val (erase c e) d)
theorem x9:e9 Φ m (.dS []):=.dS fun _ a=>by simp at a
theorem uC{l:List V}(c:l.all gE=true)(ρ:Nat->Nat):(cl ρ l).all fM=true:=by
 rw[aeM]at c⊢;intro e a;rw[dL]at a;obtain⟨d,b,rfl⟩:=aeu.1 a;exact G2 (c d b)
theorem l5(g:Real Φ ρ σ st){t:TypeId}(A:e9 Φ σ.length B)(j:e9 Φ σ.length E)(a:mU C t B E σ w):
  ∃v p,w v/\v.length=σ.length/\Real Φ ρ v p/\iC C t (erase ρ B) (erase ρ E) st=some (.val lr p)/\p.n=st.n:=by
 unfold mU at a;split at a
 ·rename_i z L;split at a
  ·rename_i W;rw[aeN]at W;obtain⟨M,s⟩:=W;have K:=vK j;have J:∀u∈dG E,gE u=true:=aeM.1 s;split at a
   ·rename_i k f;split at a
    ·rename_i F c;rw[ck]at c;obtain⟨⟨⟨o,_⟩,n,x⟩,_⟩:=g.obj k _ c rfl;obtain⟨m,N⟩:=xy _ _ _ _ a;obtain⟨i,O⟩:=kD _ _ _ _ N;have Q:=g.write (o':=.box (lay F f (dG E))) (c':=cl ρ (lay F f (dG E))) (lo:=0+f) (hi':=0+f+(dG E).length) c rfl o
      (.inl ⟨_,_,rfl,rfl,CP m,rfl,fun e b=>(yz b).elim (n e) (K e),fun e b=>(yz b).elim (x e) (J e)⟩)
     refine⟨_,_,O,by simp,Q,?_,?_⟩
     ·have S:dw (cl ρ F) f (cl ρ (dG E))=cl ρ (lay F f (dG E)):=by
       rw[qE _ _ _ (by rw[cW,cW];exact m),dL,dL,dL,BV]
      simp only[iC,L,erase,mh,cW,M,fY,o,uC s ρ,abL m,aeX,S];rfl
     ·rw[gM];rfl
    ·exact a.elim
   ·rename_i k G h f;split at a
    ·rename_i r d c;split at a
     ·rename_i X;have:=abK X;subst this;rw[ck]at c;obtain⟨⟨⟨D,q,o⟩,n,x,Y⟩,_⟩:=g.obj k _ c rfl;obtain⟨I,T,a⟩:=a;rw[ck]at T;have H:=ae0 T;obtain⟨m,N⟩:=xy _ _ _ _ a;obtain⟨i,O⟩:=kD _ _ _ _ N;have R:=Jp n T (f:=f) (vs:=dG E) (by rw[<-n I H];exact m);have l:∀e∈d.set h (lay I f (dG E)),e∈d∨e=lay I f (dG E):=fun e b=>aev b;have Q:=g.write (o':=.row G (d.set h (lay I f (dG E)))) (c':=cl ρ (d.set h (lay I f (dG E))).flatten) (lo:=q+(h*G+f)) (hi':=q+(h*G+f)+(dG E).length) c rfl o
       (.inr ⟨_,_,rfl,rfl,rfl,fun e b=>by
        rcases l e b with b|rfl
        ·exact n e b
        ·rw[CP m];exact n I H,fun e b=>by
        rcases l e b with b|rfl
        ·exact x e b
        ·exact fun U P=>(yz P).elim (x I H U) (K U),fun e b=>by
        rcases l e b with b|rfl
        ·exact Y e b
        ·exact fun U P=>(yz P).elim (Y I H U) (J U)⟩)
      refine⟨_,_,O,by simp,Q,?_,?_⟩
      ·have S:dw (cl ρ d.flatten) (h*G+f) (cl ρ (dG E))=cl ρ (d.set h (lay I f (dG E))).flatten:=by
        rw[qE _ _ _ (by rw[cW,cW];exact R.2),R.1,dL,dL,dL,BV]
       simp only[iC,L,erase,mh,cW,M,fY,o,uC s ρ,abL R.2,aeX,S];rfl
      ·rw[gM];rfl
     ·exact a.elim
    ·exact a.elim
   ·exact a.elim
  ·exact a.elim
 ·exact a.elim
theorem Et(ρ:Nat->Nat):∀(a:List rL) (b:Nat) (c d:V),(nR a b c d).map (ke ρ)=xi (a.map (ke ρ)) b (erase ρ c) (erase ρ d):=by
 intro a;induction a with
 |nil=>intro b c d;rfl
 |cons f a e=>
  intro b c d;cases b with
  |zero=>rfl
  |succ b=>simp only[nR,aeS,xi,e]
theorem Jq:∀{a:List rL} {c:Nat} {d e:V} {b:rL},b∈nR a c d e->b∈a∨(b.key=d/\b.val=e):=by
 intro a;induction a with
 |nil=>intro c d e b h;simp[nR]at h
 |cons l a f=>
  intro c d e b h;cases c with
  |zero=>
   rcases aeW.1 h with rfl|h
   ·exact .inr ⟨Z,Z⟩
   ·exact .inl (by simp[h])
  |succ c=>
   rcases aeW.1 h with rfl|h
   ·exact .inl sm
   ·exact(f h).imp (fun h=>by simp[h]) id
theorem zN(P:Real Φ ρ σ st){t:TypeId}{o:V}(e:e9 Φ σ.length E)(J:e9 Φ σ.length o)(c:sr C t B E o σ w):
  ∃f m,w f/\f.length=σ.length/\Real Φ ρ f m/\jo C t (erase ρ B) (erase ρ E) (erase ρ o) st=some (.val lr m):=by
 unfold sr at c;split at c
 ·rename_i Y K n;split at c
  ·rename_i S X v;split at c
   ·rename_i T h b l d;rw[ck]at d;obtain⟨⟨x,I⟩,_⟩:=P.obj K _ d rfl;split at c
    ·exact c.elim
    ·rename_i F;obtain⟨R,N,c⟩:=c;obtain⟨H,U⟩:=AY ρ _ _ _ _ _ N;have G:∀a,(st.put (ρ K) a).get (ρ K)=some a:=fun a=>by rw[c8,if_pos rfl]
     cases R with
     |some W=>
      obtain⟨Q,g⟩:=W;obtain⟨L,s⟩:=kD _ _ _ _ c;refine⟨_,_,s,by simp,P.put (o':=.map (nR h Q E o) b) (a:=.map ((nR h Q E o).map (ke ρ)) b) d Z Z Z (fun _ _ _ _ p=>by cases p) ⟨G _,fun p he=>?_⟩,?_⟩
      ·rcases Jq he with he|⟨O,M⟩
       ·exact I p he
       ·rw[O,M];exact⟨e,J⟩
      ·simp only[jo,n,erase,v,l,x,F,H,Et];rfl
     |none=>
      obtain⟨L,s⟩:=kD _ _ _ _ c;refine⟨_,_,s,by simp,P.put (o':=.map (h++[rL.mk E o b]) (b+1)) (a:=.map ((h++[rL.mk E o b]).map (ke ρ)) (b+1)) d Z Z Z (fun _ _ _ _ p=>by cases p) ⟨G _,fun p he=>?_⟩,?_⟩
      ·rcases aeQ.1 he with he|he
       ·exact I p he
       ·simp at he;subst he;exact⟨e,J⟩
      ·simp only[jo,n,erase,v,l,x,F,H,List.map_append];rfl
   ·exact c.elim
  ·exact c.elim
 ·exact c.elim
theorem fQ:∀{a:List (List V)} {c:List cH},qC a=some c->a=c.map fun h=>h.map V.d:=by
 intro a;induction a with
 |nil=>intro c b;cases b;rfl
 |cons h a d=>
  intro c b;unfold qC at b;split at b
  ·rename_i m l f e;cases b;rw[aeS,<-d e,<-pb f]
  ·cases b
theorem uD(ρ:Nat->Nat)(l:List cH):cl ρ (l.map fun b=>b.map V.d).flatten=l.flatten.map cz:=by
 induction l with
 |nil=>rfl
 |cons b l a=>
  simp only[aeS,aeO,fC,nY,a,List.map_append]
theorem ZG{b es c:Nat}{l:List cH}{f p:Nat}(e:Φ b=some (.cells (l.flatten.map cz) es f p))(a:∀m∈l,m.length=es)(h:∀m∈l,∀n∈m,xw Φ n)(d:Φ.Eo b):xw Φ (.ps b 0 es c l):=by
 have:=rM a;refine .ps e a (by rw[aet];omega) ?_ h d;rw[List.drop_zero,aeY (by rw[aet];omega)]
structure jh (Φ:Fz) (m es:Nat) (els:List (List V)):Prop where
 len:∀e∈els,e.length=es
 ok:∀e∈els,eV Φ m e
 cell:∀e∈els,∀v∈e,gE v=true
theorem jh.d{es:Nat}{l:List cH}(c:jh Φ m es (l.map fun a=>a.map V.d)):(∀a∈l,a.length=es)/\∀a∈l,∀d∈a,xw Φ d:=by
 refine⟨fun a b=>?_,fun a b d e=>?_⟩
 ·have:=c.len (a.map V.d) (aeu.2 ⟨a,b,rfl⟩);simpa using this
 ·have:=c.ok (a.map V.d) (aeu.2 ⟨a,b,rfl⟩) (.d d) (aeu.2 ⟨d,e,rfl⟩);cases this with
  |d c=>exact c
theorem jh.mono{b:Fz}{d es:Nat}{a:List (List V)}(f:jh Φ m es a)(c:Φ.le b)(e:m<=d):jh b d es a:=
 ⟨f.len,fun l h=>(f.ok l h).mono c e,f.cell⟩
theorem Real.newRow(c:Real Φ ρ σ st){es:Nat}(a:jh Φ σ.length es i):
  Real Φ (jM ρ σ.length st.n) (σ++[.row es i]) (st.new (.cells (cl ρ i.flatten) es st.n 0)):=by
 have b:=la Φ ρ σ.length st.n;refine c.new Z ⟨⟨st.n,0,?_⟩,a.len,fun d c=>b.N1 (a.ok d c),a.cell⟩;rw[dm,if_pos rfl,b.cl (G3 a.ok)]
theorem Real.R3(d:Real Φ ρ σ st)(a:eV Φ σ.length j)(c:∀h∈j,gE h=true):
  Real Φ (jM ρ σ.length st.n) (σ++[.box j]) (st.new (.cells (cl ρ j) j.length st.n 0)):=by
 have b:=la Φ ρ σ.length st.n;refine d.new Z ⟨⟨?_,?_⟩,b.N1 a,c⟩
 ·rw[dm,if_pos rfl,b.cl a]
 ·cases e:st.fm.get st.n with
  |none=>exact e
  |some f=>exact absurd (d.wf.NN _ _ e) (Nat.lt_irrefl _)
theorem Real.N5(h:Real Φ ρ σ st){es:Nat}{l:List cH}(c:jh Φ m es (l.map fun p=>p.map V.d)):
  Real (oz Φ st.n (.cells (l.flatten.map cz) es st.n 0)) ρ σ (st.new (.cells (l.flatten.map cz) es st.n 0))/\
  iJ Φ ρ σ.length (oz Φ st.n (.cells (l.flatten.map cz) es st.n 0)) ρ σ.length/\∀b,xw (oz Φ st.n (.cells (l.flatten.map cz) es st.n 0)) (.ps st.n 0 es b l):=by
 have d:Φ st.n=none:=by
  exact R0
 have a:=vI (o:=.cells (l.flatten.map cz) es st.n 0) d;refine⟨h.acz,⟨a,fun _ _=>Z,ae1 _⟩,fun b=>?_⟩;obtain⟨n,f⟩:=c.d;exact ZG (by rw[lf];exact if_pos rfl) n (fun p c s e=>(f p c s e).mono a) (.inl Z)
theorem rN:∀{a:Nat} {b:List V},b∈xo j a->b=j:=by
 intro a;induction a with
 |zero=>intro b h;simp[xo]at h
 |succ a c=>
  intro b h;rcases aeW.1 h with rfl|h
  ·rfl
  ·exact c h
theorem Fw(ρ:Nat->Nat):∀(a:Nat),cl ρ (xo j a).flatten=wo (cl ρ j) a:=by
 intro a;induction a with
 |zero=>rfl
 |succ a b=>simp only[xo,aeO,fC,b,wo]
theorem S1:∀(a:Nat),(xo j a).length=a:=by
 intro a;induction a with
 |zero=>rfl
 |succ a b=>simp[xo,b]
theorem G9(ρ:Nat->Nat){a:Nat}:∀(e:List (Nat×V)) (b d:List (List V)),jh Φ m a b->(∀v∈e,e9 Φ m v.2)->GV a b e=some d->
  jh Φ m a d/\d.length=b.length/\qq (fun t=>some (t*a,a)) (cl ρ b.flatten) (e.map fun v=>(v.1,erase ρ v.2))=some (cl ρ d.flatten):=by
 intro e;induction e with
 |nil=>intro b d s _ x;cases x;exact⟨s,rfl,rfl⟩
 |cons v e P=>
  intro b d s G x;obtain⟨t,S⟩:=v;unfold GV at x;split at x
  ·rename_i C;simp only[aeN]at C;obtain⟨⟨I,H⟩,K⟩:=C;have l:=abK I;have O:t<b.length:=Nat.le_of_ble_eq_true H;obtain⟨n,h⟩:∃n,b[t]?=some n:=⟨b[t],List.getElem?_eq_getElem O⟩;have F:=ae0 h;have R:=s.len n F;have Q:=vK (G _ (List.mem_cons_self ..));have o:jh Φ m a (b.set t (dG S)):=by
    refine⟨fun p c=>?_,fun p c=>?_,fun p c=>?_⟩
    ·rcases aev c with c|rfl
     ·exact s.len p c
     ·exact l
    ·rcases aev c with c|rfl
     ·exact s.ok p c
     ·exact Q
    ·rcases aev c with c|rfl
     ·exact s.cell p c
     ·exact aeM.1 K
   obtain⟨M,L,N⟩:=P _ _ o (fun p c=>G p (by simp[c])) x;refine⟨M,by simpa using L,?_⟩;have f:=Jp s.len h (f:=0) (vs:=dG S) om;rw[V3 om,Nat.add_zero]at f;simp only[aeS,qq,mh,cW];have J:t*a+a<=b.flatten.length:=by have:=f.2;omega
   rw[l,aeZ,abL J];simp only[aeX];rw[qE _ _ _ (by rw[cW,cW];exact f.2),dL,dL,<-BV,<-f.1,<-dL];exact N
  ·cases x
def iP(d:Op)(e:cN)(ρ:Nat->Nat)(n:Nat):Option (Value×fX):=
 match d,e with
 |.alloc _,.box a=>some (ptr n 0,.cells (cl ρ a) a.length n 0)
 |.box _ _,.box a=>some (ptr n 0,.cells (cl ρ a) a.length n 0)
 |.makeMap _ _,.map _ _=>some (.map (some n),.map [] 0)
 |.buildSlice _ b _,.row f c=>some (.slice (some ⟨n,0,none⟩) b b,.cells (cl ρ c.flatten) f n 0)
 |_,_=>none
def pN(Φ:Fz)(m:Nat)(e:Op)(f:cN):Prop:=
 match e,f with
 |.alloc _,.box a=>eV Φ m a/\∀h∈a,gE h=true
 |.box _ _,.box a=>eV Φ m a/\∀h∈a,gE h=true
 |.makeMap _ _,.map c l=>c=[]/\l=0
 |.buildSlice _ d _,.row c b=>jh Φ m c b/\b.length=d
 |_,_=>False
theorem qG(b:oL Φ ρ m ev mK){o:Oper}{t:cN}(a:Fs C ev o.op=some t):
  pN Φ m o.op t/\∀st:St,∃F W,iP o.op t ρ st.n=some (F,W)/\j8 C mK o st=some (.val F (st.new W)):=by
 obtain⟨V,k,j,Y,X,i⟩:=o;dsimp only at a;unfold Fs at a;split at a
 ·rename_i q;split at a
  ·rename_i N e;split at a
   ·rename_i Q c U;cases a;have d:Q.length=N.size:=by rw[<-abK U,<-cW ρ,jk ρ c]
    refine⟨qo Φ m c,fun st=>⟨_,_,Z,?_⟩⟩;simp only[j8,xf,e,jk ρ c,d];rfl
   ·cases a
  ·cases a
 ·rename_i u;split at a
  ·rename_i F f;split at a
   ·rename_i P;cases a;obtain⟨s,n⟩:=b _ _ f;refine⟨⟨vK n,aeM.1 P⟩,fun st=>⟨_,_,Z,?_⟩⟩;simp only[j8,s,Li,mh,uC P ρ,cW];rfl
   ·cases a
  ·cases a
 ·cases a;exact⟨⟨Z,Z⟩,fun st=>⟨_,_,Z,Z⟩⟩
 ·rename_i q O g;split at a
  ·rename_i r N M e;split at a
   ·rename_i T S;split at a
    ·rename_i K I;split at a
     ·rename_i Q G c;split at a
      ·rename_i h p;cases a;obtain⟨s,n⟩:=CQ b M;have l:=G;simp only[aeN]at l;have d:Q.length=K.size:=by rw[<-abK l.2,<-cW ρ,jk ρ c]
       have x:jh Φ m K.size (xo Q O):=⟨fun R b=>by rw[rN b,d],fun R b=>by rw[rN b];exact(qo Φ m c).1,fun R b=>by rw[rN b];exact(qo Φ m c).2⟩;obtain⟨L,H,J⟩:=G9 ρ r _ h x n p;rw[S1]at H;refine⟨⟨L,H⟩,fun st=>⟨_,_,Z,?_⟩⟩;rw[Fw,jk ρ c]at J;have v:(cl ρ h.flatten).all fM=true:=uC (aeM.2 fun F f=>by
        obtain⟨R,b,f⟩:=List.mem_flatten.1 f;exact L.cell R b F f) ρ
       simp only[j8,s,kf,e,S,I,G,J,v];rfl
      ·cases a
     ·cases a
    ·cases a
   ·cases a
  ·cases a
 ·cases a
theorem Jr(h:Real Φ ρ σ st)(L:oL Φ ρ σ.length ev mK){o:Oper}(a:SQ C k ev o.op σ g):CV Φ ρ σ g (j8 C mK o st):=by
 unfold SQ at a;split at a
 ·rename_i P n;obtain⟨hm,m⟩:=qG L n;obtain⟨R,N,h1,F⟩:=m st;rw[F];have J:=la Φ ρ σ.length st.n;have Gg:jM ρ σ.length st.n σ.length=st.n:=if_pos rfl;split at a
  ·rename_i e;split at a
   ·rename_i I t;split at a
    ·rename_i M f;have c:nk o.op=true:=by rw[aeN]at e;exact e.2
     cases gT:o.op with
     |buildSlice S v O=>
      rw[gT]at h1 hm;cases h1;obtain⟨d,p⟩:=hm;rw[fQ f]at d;obtain⟨G,K,x⟩:=h.N5 d;have l:M.length=v:=by rw[<-p,fQ f,aet]
      have s:cl ρ t.flatten=M.flatten.map cz:=by rw[fQ f,uD]
      refine⟨_,σ,_,ρ,st.new (.cells (M.flatten.map cz) I st.n 0),a st.n,K,G,.d (x _),?_⟩;simp only[erase,cz,l,s]
     |_=>rw[gT]at c;cases c
    ·exact a.elim
   ·exact a.elim
  ·have b:=jK a;clear a;obtain⟨Q,h3,H⟩:=cA b;clear b;have hlen:∀o:cN,(σ++[o]).length=σ.length+1:=fun o=>by simp
   refine⟨Q,_,Φ,jM ρ σ.length st.n,st.new N,H,by rw[hlen];exact J,?_,?_,?_⟩;all_goals
    unfold iP at h1;split at h1
    ·exact Zn
    ·exact Zn
    ·rename_i gT;rw[gT]at h3 hm;obtain⟨rfl,rfl⟩:=hm;cases h1;cases h3;first
      |exact h.new trivial ⟨by rw[dm,if_pos rfl];rfl,fun _ h=>by simp at h⟩
      |exact .map (by rw[hlen];omega)
      |(simp only[erase,Gg])
    ·rename_i gT;rw[gT]at h3 hm;cases h1;cases h3;first
      |exact h.newRow hm.1
      |exact .ms (by rw[hlen];omega)
      |(simp only[erase,Gg,aeV])
    ·cases h1
 ·exact a.elim
theorem Ac(O:Real Φ ρ σ st){t:TypeId}{l c:V}(a:xv C t l c σ g):CV Φ ρ σ g (jn C t (erase ρ l) (erase ρ c) st):=by
 unfold xv at a;split at a
 ·rename_i N x;split at a
  ·rename_i K G;split at a
   ·rename_i b s;split at a
    ·rename_i H h m;split at a
     ·rename_i P Q;obtain⟨d,rfl,⟨rfl,J,I⟩,a⟩:=a;simp only[aeN]at h;have v:H.length=b.size:=by rw[<-abK h.2,<-cW ρ,jk ρ m]
      have p:jh Φ σ.length b.size (xo H d):=⟨fun F f=>by rw[rN f,v],fun F f=>by rw[rN f];exact(qo Φ σ.length m).1,fun F f=>by rw[rN f];exact(qo Φ σ.length m).2⟩;have F:jn C t (erase ρ (.d (.int .i64 (Int.ofNat d)))) (erase ρ (.d (.int .i64 (Int.ofNat d)))) st=some (.val (.slice (some ⟨st.n,0,none⟩) d d) (st.new (.cells (cl ρ (xo H d).flatten) b.size st.n 0))):=by
       have L:(aeR d d&&Nat.blt 0 b.size&&aeR (d*b.bytes) 1099511627776&&aeR d 1099511627776&&ae2 b.zero.length b.size)=true:=by
        rw[h.1,h.2,show aeR d d=true by rw[Nat.ble_eq];exact ae1 d,show aeR (d*b.bytes) 1099511627776=true by rw[Nat.ble_eq];exact J,show aeR d 1099511627776=true by rw[Nat.ble_eq];exact I];rfl
       rw[Fw,jk ρ m];simp only[jn,erase,cz,x,G,s,L];rfl
      rw[F];have o:=jK a;have e:∀M:cN,(σ++[M]).length=σ.length+1:=fun M=>by simp
      have n:jM ρ σ.length st.n σ.length=st.n:=if_pos rfl;exact⟨_,_,Φ,jM ρ σ.length st.n,_,o,by rw[e];exact la Φ ρ σ.length st.n,O.newRow p,.ms (by rw[e];omega),by simp only[erase,n,aeV]⟩
     ·exact a.elim
    ·exact a.elim
   ·exact a.elim
  ·exact a.elim
 ·exact a.elim
end
section
variable{C:dR} {Φ:Fz} {ρ:Nat->Nat} {σ:VS} {st:St} {m:Nat} {ev:Operand->Option V} {mK:Operand->Option Value}
theorem N6{es:Nat}(d:jh Φ m es i)(c len:Nat):jh Φ m es ((i.drop c).take len):=
 ⟨fun b a=>d.len b (aeP (aeT a)),fun b a=>d.ok b (aeP (aeT a)),fun b a=>d.cell b (aeP (aeT a))⟩
theorem jh.append{es:Nat}{f b:List (List V)}(d:jh Φ m es f)(e:jh Φ m es b):jh Φ m es (f++b):=
 ⟨fun c a=>(aeQ.1 a).elim (d.len c) (e.len c),fun c a=>(aeQ.1 a).elim (d.ok c) (e.ok c),fun c a=>(aeQ.1 a).elim (d.cell c) (e.cell c)⟩
theorem Js{d:Type}{a:List (List d)}{es:Nat}(f:∀c∈a,c.length=es)(b len:Nat):(a.flatten.drop (b*es)).take (len*es)=((a.drop b).take len).flatten:=by
 rw[Fu b f,Fv len fun c e=>f c (aeP e)]
theorem sf(l:Real Φ ρ σ st){d es:Nat}(c:σ[d]?=some (.row es i)):jh Φ σ.length es i/\∃h m,st.get (ρ d)=some (.cells (cl ρ i.flatten) es h m):=by
 obtain⟨⟨e,a,f,b⟩,_⟩:=l.obj d _ c rfl;exact⟨⟨a,f,b⟩,e⟩
theorem Jt(h:Real Φ ρ σ st){f es:Nat}(d:σ[f]?=some (.row es i)){a len:Nat}(c:a+len<=i.length):
  gq st (ρ f) (a*es) (len*es)=some (cl ρ ((i.drop a).take len).flatten):=by
 obtain⟨b,l,m,e⟩:=sf h d;rw[jr e (by rw[cW,rM b.len,<-Nat.add_mul];exact Nat.mul_le_mul_right _ c),<-pM,Js b.len]
theorem xA(s:cq):jh Φ m 1 (s.map fun c=>[io c]):=by
 refine⟨fun d b=>?_,fun d b e a=>?_,fun d b e a=>?_⟩;all_goals
  obtain⟨c,_,rfl⟩:=aeu.1 b
 ·rfl
 ·simp at a;subst a;exact .d (.int _ _)
 ·simp at a;subst a;rfl
theorem Ad(ρ:Nat->Nat)(s:cq):cl ρ (s.map fun b=>[io b]).flatten=ofBytes s:=by
 induction s with
 |nil=>rfl
 |cons b s a=>
  simp only[aeS,aeO,List.cons_append,List.nil_append,cl,a,ofBytes];rfl
theorem PP(o:Real Φ ρ σ st){t:TI}(v:e9 Φ σ.length B){L:List (List V)->Prop}(a:aaG C t B σ L):
  ∃h,L h/\jh Φ σ.length t.size h/\rf (erase ρ B)=some h.length/\ii st t.size h.length (erase ρ B)=some (cl ρ h.flatten):=by
 unfold aaG at a;split at a
 ·exact⟨[],a,⟨fun _ o=>by simp at o,fun _ o=>by simp at o,fun _ o=>by simp at o⟩,Z,Z⟩
 ·rename_i X W P H l;obtain⟨rfl,a⟩:=a;cases v with
  |d v=>
  cases v with
  |ps I Q K R N=>
   refine⟨_,a,⟨fun T b=>?_,fun T b U x=>?_,fun T b U x=>?_⟩,by simp[erase,cz,rf],?_⟩
   ·obtain⟨m,n,rfl⟩:=aeu.1 b;rw[aet];exact Q m n
   ·obtain⟨m,n,rfl⟩:=aeu.1 b;obtain⟨d,F,rfl⟩:=aeu.1 x;exact .d (N m n d F)
   ·obtain⟨m,n,rfl⟩:=aeu.1 b;obtain⟨d,F,rfl⟩:=aeu.1 x;rfl
   ·simp only[erase,cz,ii,aet];rw[jr (o.fz _ _ I) K,R,uD]
 ·rename_i Y P p e H;split at a
  ·rename_i S l c;rw[ck]at c;obtain⟨⟨rfl,rfl,O⟩,a⟩:=a;obtain⟨b,_⟩:=sf o c;have G:L ((l.drop p).take e):=by
    split at a
    ·rename_i J;have:=abK J;rw[List.drop_zero,aeY om];exact a
    ·exact a
   have f:((l.drop p).take e).length=e:=by rw[List.length_take,List.length_drop];omega
   refine⟨_,G,N6 b p e,by simp only[erase,rf,f],?_⟩;simp only[erase,ii,f];exact Jt o c O
  ·exact a.elim
 ·rename_i s;obtain⟨M,a⟩:=a;refine⟨_,a,by rw[M];exact xA s,by simp[erase,cz,rf],?_⟩;simp only[erase,cz,ii,aet,Ad];rw[List.take_length]
 ·exact a.elim
theorem js(a:Nat)(o:cN):(σ.set a o).length=σ.length:=List.length_set
theorem Eu(h:Real Φ ρ σ st){ts:List TypeId}(ac:eV Φ σ.length j)(a:G0 C k ts j σ g):
  CV Φ ρ σ g (o6 C ts (cl ρ j) st):=by
 unfold G0 at a;split at a
 ·rename_i ts ao s aC;have aa:=ac s sm;have aj:=ac aC sm;split at a
  ·rename_i aE ay ah u;split at a
   ·exact a.elim
   ·rename_i an y ax;split at a
    ·rename_i b ab;split at a
     ·exact a.elim
     ·rename_i hb;obtain⟨xs,W,t,ak,ar⟩:=PP h aj a;clear a;have a:=W;clear W;have H:=hb;simp only[aeN]at H;have ae:(cl ρ xs.flatten).all fM=true:=uC (aeM.2 fun aK w=>by
       obtain⟨q,L,w⟩:=List.mem_flatten.1 w;exact t.cell q L aK w) ρ
      have B:(cl ρ xs.flatten).length=xs.length*b.size:=by rw[cW,rM t.len]
      have K:∀v len d,erase ρ s=.slice v len d->(len+xs.length)*b.bytes<=fy->len+xs.length<=fy->
        o6 C [ts,ao] (cl ρ [s,aC]) st=fP st b.size v len d xs.length (cl ρ xs.flatten):=by
       intro v len d R T J;have r:(Nat.blt 0 b.size&&ae2 (cl ρ xs.flatten).length (xs.length*b.size)&&(cl ρ xs.flatten).all fM&&aeR ((len+xs.length)*b.bytes) fy&&aeR (len+xs.length) fy&&ae2 b.zero.length b.size)=true:=by
        rw[H.1,B,aeZ,ae,abL T,abL J,H.2];rfl
       simp only[o6,cl,ah,u,R,y,ab,ak,ar,r]
      have M:Φ st.n=none:=by
       exact R0
      split at a
      ·obtain⟨⟨T,J⟩,a⟩:=a;rw[K none 0 0 rfl (by simpa using T) (by simpa using J)];cases m:ae2 xs.length 0 with
       |true=>
        rw[m]at a;have p:=abK m;refine⟨_,σ,Φ,ρ,st,a,.refl _ _ _,h,.d .ci,?_⟩;simp only[fP,p];rfl
       |false=>
        rw[m]at a;have p:aeR (0+xs.length) 0=false:=by
         rw[N3];refine decide_eq_false fun aJ=>?_;have:xs.length=0:=om;rw[this]at m;cases m
        have x:fP st b.size none 0 0 xs.length (cl ρ xs.flatten)=some (.val (.slice (some ⟨st.n,0,none⟩) xs.length xs.length) (st.new (.cells (cl ρ xs.flatten) b.size st.n 0))):=by
         simp only[fP,p];rfl
        rw[x];simp only[jR]at a;cases k with
        |true=>
         obtain⟨ai,l,a⟩:=cA a;have O:=t;rw[fQ l]at O;obtain⟨r1,au,ap⟩:=h.N5 O;have N:xs.length=ai.length:=by rw[fQ l,aet]
         have E:cl ρ xs.flatten=ai.flatten.map cz:=by rw[fQ l,uD]
         exact⟨_,σ,_,ρ,_,a st.n,au,r1,.d (ap _),by simp only[erase,cz,N,E]⟩
        |false=>
         have Vg:=jK a;have hlen:(σ++[cN.row b.size xs]).length=σ.length+1:=by simp
         refine⟨_,_,Φ,_,_,Vg,by rw[hlen];exact la Φ ρ σ.length st.n,h.newRow t,.ms (by rw[hlen];omega),?_⟩;simp only[erase,aeV];rw[show jM ρ σ.length st.n σ.length=st.n from if_pos rfl]
      ·rename_i X R e len d;split at a
       ·rename_i az els c;rw[ck]at c;obtain⟨⟨rfl,rfl,i,aG,am,av⟩,a⟩:=a;rw[K (some ⟨ρ X,e*b.size,none⟩) len d rfl am av];obtain⟨Y,z,A,P⟩:=sf h c;cases m:ae2 xs.length 0 with
        |true=>
         rw[m]at a;have p:=abK m;have D:xs=[]:=List.length_eq_zero_iff.1 p;subst D;refine⟨_,σ,Φ,ρ,st,a,.refl _ _ _,h,aa,?_⟩;have:aeR (len+0) d=true:=abL om;simp only[fP,List.length_nil,this,List.flatten_nil,cl];rfl
        |false=>
         rw[m]at a;simp only[jR]at a;cases I:aeR (len+xs.length) d with
         |true=>rw[I]at a;exact a.elim
         |false=>
          rw[I]at a;simp only at a;obtain⟨aH,a⟩:=kD _ _ _ _ a;have ad:=Jt h c i;have x:fP st b.size (some ⟨ρ X,e*b.size,none⟩) len d xs.length (cl ρ xs.flatten)=
            some (.val (.slice (some ⟨st.n,0,none⟩) (len+xs.length) (len+xs.length)) (grown st b.size z A (ρ X) (e*b.size) len xs.length (cl ρ els.flatten) (cl ρ ((els.drop e).take len).flatten) (cl ρ xs.flatten))):=by
           simp only[fP,I,P,aeZ,ad];rfl
          rw[x];obtain⟨ag,af,aw⟩:=h.grow (o:=e*b.size) (len:=len) (n:=xs.length) (old:=cl ρ ((els.drop e).take len).flatten) (xs:=cl ρ xs.flatten) c P;have f:=N6 Y e len|>.append t;have G:=kC (st:=st) (es:=b.size) (dP:=z) (fo:=A) (b:=ρ X) (o:=e*b.size) (len:=len) (n:=xs.length) (c:=cl ρ els.flatten) (old:=cl ρ ((els.drop e).take len).flatten) (xs:=cl ρ xs.flatten) st.n;rw[if_pos rfl,<-fC,<-List.flatten_append]at G;have U:∀aq o,(σ.set X .gone)[aq]?=some o->live o=true->ρ aq≠st.n:=fun aq o al l=>Nat.ne_of_lt (h.lt (rC c al l).2 l);have S:((els.drop e).take len++xs).length=len+xs.length:=by
           rw[aeU,List.length_take,List.length_drop];omega
          cases k with
          |true=>
           obtain⟨ai,l,a⟩:=cA a;have F:=vI (o:=fX.cells (cl ρ ((els.drop e).take len++xs).flatten) b.size z (A+e*b.size)) M;have r1:=ag.SX G M U af (fun aO aI aL aF Q=>h.ox c rfl P (h.fz _ _ Q) (fun q=>by rw[q,(h.obj X _ c rfl).2]at Q;cases Q) (.inl (by rw[Q];simp)) rfl);have N:ai.length=len+xs.length:=by rw[<-S,fQ l,aet]
           rw[fQ l]at f;obtain⟨d1,d2⟩:=f.d;refine⟨_,_,_,ρ,_,a st.n,⟨F,fun _ _=>Z,by rw[js];exact ae1 _⟩,r1,.d (ZG (f:=z) (p:=A+e*b.size) ?_ d1 (fun q L aD y=>(d2 q L aD y).mono F) (.inl Z)),by simp only[erase,cz,N]⟩;rw[<-uD ρ,<-fQ l,lf];exact if_pos Z
          |false=>
           have Vg:=jK a;have hlen:((σ.set X .gone)++[cN.row b.size ((els.drop e).take len++xs)]).length=σ.length+1:=by simp
           have r1:=ag.SY (els:=(els.drop e).take len++xs) G M U af aw (h.K2 X _ _ _ _ _ _ c P) f.len (fun q L=>by rw[js];exact f.ok q L) f.cell;rw[js]at r1 Vg;exact YQ
       ·exact a.elim
      ·rename_i aA o R d els;obtain⟨⟨T,rfl,J,i⟩,a⟩:=a;rw[K (some ⟨aA,o,none⟩) els.length d rfl (by simpa using J) (by simpa using i)];refine⟨_,σ,Φ,ρ,st,a,.refl _ _ _,h,aa,?_⟩;have:aeR (els.length+0) d=true:=abL om;simp only[fP,List.length_nil,this,List.flatten_nil,cl];rfl
      ·exact a.elim
    ·exact a.elim
   ·exact a.elim
  ·exact a.elim
 ·exact a.elim
theorem Ha(H:Real Φ ρ σ st){b x:TypeId}(a:LV C k b x B σ g):CV Φ ρ σ g (ig C b x (erase ρ B) st):=by
 unfold LV at a;split at a
 ·rename_i K J o h;split at a
  ·rename_i t s l e;split at a
   ·rename_i I f;split at a
    ·rename_i F;have d:ig C b x (erase ρ (.d (.str s))) st=some (.val (.slice (some ⟨st.n,0,none⟩) s.length s.length) (st.new (.cells (ofBytes s) 1 st.n 0))):=by
      simp only[ig,o,h,l,e,erase,cz,f,F];rfl
     rw[d];cases k with
     |true=>
      have p:jh Φ 0 1 ((s.map fun c=>[uy c]).map fun t=>t.map V.d):=by
       have:((s.map fun c=>[uy c]).map fun t=>t.map V.d)=s.map fun c=>[io c]:=by
        rw[List.map_map];rfl
       rw[this];exact xA s
      obtain⟨r1,G,v⟩:=H.N5 p;have n:ofBytes s=(s.map fun c=>[uy c]).flatten.map cz:=by rw[<-Ad ρ,Jo]
      exact⟨_,σ,_,ρ,_,a st.n,G,r1,.d (v _),by simp only[erase,cz,n,aet]⟩
     |false=>
      have Vg:=jK a;have hlen:(σ++[cN.row 1 (s.map fun c=>[io c])]).length=σ.length+1:=by simp
      have r1:=H.newRow (xA (Φ:=Φ) (m:=σ.length) s);rw[Ad]at r1;exact YQ
    ·exact a.elim
   ·exact a.elim
  ·exact a.elim
 ·exact a.elim
inductive ZH (Φ:Fz) (ρ:Nat->Nat) (σ:VS) (st:St) (K:VR->Prop) (r:Option AR):Prop
 |val (h:CV Φ ρ σ (fun v oK=>K (.val v oK)) r)
 |eH (v:V) (hk:K (.eH v)) (hv:e9 Φ σ.length v) (hr:r=some (.eH (erase ρ v) st))
 |enter (f:FuncId) (args:List V) (hk:K (.enter f args)) (hv:eV Φ σ.length args) (hr:r=some (.enter f (cl ρ args)))
 |yield (l:Nat) (args:List V) (hk:K (.yield l args)) (hl:l<σ.length) (hv:eV Φ σ.length args) (hr:r=some (.yield (ρ l) (cl ρ args)))
 |recover (hk:K .recover) (hr:r=some .recover)
 |defer (d:fq) (hk:K (.defer d)) (hv:Jh Φ σ.length d) (hr:r=some (.defer (jq ρ d)))
theorem eV.append{e b:List V}(c:eV Φ m e)(d:eV Φ m b):eV Φ m (e++b):=fun f a=>(aeQ.1 a).elim (c f) (d f)
theorem PQ(h:Real Φ ρ σ st)(he:oL Φ ρ σ.length ev mK){o:Oper}{K:VR->Prop}(hk:vop C k ev o.op σ K):ZH Φ ρ σ st K (j8 C mK o st):=by
 have c:∀{o:Oper},CM C ev o.op σ (fun v=>K (.val v σ))->ZH Φ ρ σ st K (j8 C mK o st):=by
  intro o M;obtain⟨v,h1,h2,h3⟩:=np h he M;exact .val ⟨v,σ,Φ,ρ,st,h1,.refl _ _ _,h,h2,h3⟩
 obtain⟨dst,op,s,pos,l,n⟩:=o;dsimp only at hk;unfold vop at hk;split at hk
 ·obtain⟨v,h1,h2⟩:=cA hk;obtain⟨h3,h4⟩:=he _ _ h1;exact .val ⟨v,σ,Φ,ρ,st,h2,.refl _ _ _,h,h4,by simp only[j8,h3];rfl⟩
 ·obtain⟨X,h1,h2⟩:=cA hk;obtain⟨x,D2,h2⟩:=cA h2;obtain⟨h3,h4⟩:=he _ _ h1;obtain⟨F8,Ru⟩:=he _ _ D2;obtain⟨oK,dC,k1,k2,k3,k4,_⟩:=l5 h h4 Ru h2;exact .val ⟨_,oK,Φ,ρ,dC,k1,⟨Fz.le_refl _,fun _ _=>Z,om⟩,k3,x9,by simp only[j8,h3,F8];rw[k4];rfl⟩
 ·exact Yq
 ·exact Yq
 ·rename_i H;split at hk
  ·rename_i U e;obtain⟨a,h1,h2⟩:=cA hk;obtain⟨v,D2,h2⟩:=cA h2;obtain⟨h3,h4⟩:=nl he h1;obtain⟨F8,Ru⟩:=he _ _ D2;have b:j8 C mK {dst:=dst,op:=.call H,type:=s,pos:=pos,after:=l,guard:=n} st=lx C (erase ρ v) (cl ρ a) st:=by simp only[j8,h3,e,F8]
   rw[b];unfold CL at h2;split at h2
   ·rename_i J first d
    cases Ru with
    |fn F G=>
    have t:eV Φ σ.length (first++a++d):=(eV.append F h4).append G;unfold NZ at h2;cases f:C.ff.get J with
    |some W=>
     rw[f]at h2;have h2:K (.enter J (first++a++d)):=h2;refine .enter J _ h2 t ?_;simp only[erase,lx,f,fC]
    |none=>
     rw[f]at h2;simp only[Option.isSome_none,jR]at h2;split at h2
     ·rename_i I p;obtain⟨x,R,P,h2⟩:=h2;have m:cl ρ first++cl ρ a++cl ρ d=I.map cz:=by rw[<-fC,<-fC,pb p,nY]
      have L:xw Φ x:=by cases x<;>first|(cases P;done)|constructor
      exact .val ⟨_,σ,Φ,ρ,st,h2,.refl _ _ _,h,.d L,by simp only[erase,lx,f,m,R];rfl⟩
     ·exact h2.elim
   ·rename_i I;cases Ru with
    |tR p=>exact .yield I a h2 p h4 (by simp only[erase,lx])
   ·exact h2.elim
  ·rename_i e;obtain⟨a,h1,h2⟩:=cA hk;obtain⟨h3,h4⟩:=nl he h1;have b:j8 C mK {dst:=dst,op:=.call H,type:=s,pos:=pos,after:=l,guard:=n} st=o6 C H.argTypes.toList (cl ρ a) st:=by simp only[j8,h3,e,j9]
   rw[b];exact .val (Eu h h4 h2)
  ·rename_i e;obtain⟨a,h1,h2⟩:=cA hk;obtain⟨h3,h4⟩:=nl he h1;exact .recover h2 (by simp only[j8,h3,e,j9])
  ·exact c hk
 ·rename_i H;obtain⟨a,h1,h2⟩:=cA hk;obtain⟨h3,h4⟩:=nl he h1;split at h2
  ·rename_i U e;obtain⟨v,D2,h2⟩:=cA h2;obtain⟨F8,Ru⟩:=he _ _ D2;unfold SV at h2;split at h2
   ·rename_i J first d
    cases Ru with
    |fn F G=>exact .defer _ h2 ⟨G,eV.append F h4⟩ (by simp only[j8,h3,e,F8,erase,Co,jq,fC])
   ·exact h2.elim
  ·exact h2.elim
 ·split at hk
  ·rename_i T v S;obtain⟨h3,h4⟩:=he _ _ S;exact .eH _ hk h4 (by simp only[j8,h3,erase])
  ·exact hk.elim
 ·split at hk
  ·obtain⟨v,h1,h2⟩:=cA hk;obtain⟨h3,h4⟩:=he _ _ h1;refine .val ?_;have:=Ha (C:=C) (ρ:=ρ) h h2;simpa only[j8,h3]using this
  ·exact c hk
 ·rename_i T I H;obtain⟨v,h1,h2⟩:=cA hk;obtain⟨V,O,Q⟩:=cA h2;obtain⟨h3,_⟩:=he _ _ h1;obtain⟨N,_⟩:=he _ _ O;have b:j8 C mK {dst:=dst,op:=.makeSlice T I H,type:=s,pos:=pos,after:=l,guard:=n} st=jn C T (erase ρ v) (erase ρ V) st:=by simp only[j8,h3,N]
  rw[b];exact .val (Ac h Q)
 ·split at hk
  ·exact .val (Jr h he hk)
  ·exact c hk
end
structure Ry (rc BW:Rec):Prop where
 code:∀fc c fr ps st r,rc.code fc c fr ps st=some r->BW.code fc c fr ps st=some r
 call:∀f args DZ ps st r,rc.call f args DZ ps st=some r->BW.call f args DZ ps st=some r
 round:∀l args st r,rc.round l args st=some r->BW.round l args st=some r
variable{u:dW} {A:Fr} {D:AK} {y:FC} {r:List Oper} {q:CR×dW×St} {z:List Value}
section
variable{C:dR} {rc BW:Rec} {cF:ql}
theorem L5(e:Ry rc BW){o:Oper}{st:St}(c:nT C rc y o A u st=some D):nT C BW y o A u st=some D:=by
 unfold nT at c⊢;cases d:j8 C (jy A) o st with
 |none=>rw[d]at c;cases c
 |some l=>
  rw[d]at c;cases l with
  |enter f a=>
   simp only at c⊢;cases b:rc.call f a false .none st with
   |none=>rw[b]at c;cases c
   |some h=>rw[b]at c;rw[e.call _ _ _ _ _ _ b];exact c
  |yield m a=>
   simp only at c⊢;cases b:rc.round m a st with
   |none=>rw[b]at c;cases c
   |some h=>rw[b]at c;rw[e.round _ _ _ _ b];exact c
  |_=>exact c
theorem qH(c:Ry rc BW){o:Oper}{st:St}(a:kg C rc y r o A u st=some D):kg C BW y r o A u st=some D:=by
 unfold kg at a⊢;cases b:gC r A o with
 |none=>rw[b]at a;cases a
 |some d=>
  rw[b]at a;cases d with
  |true=>exact L5 c a
  |false=>exact a
theorem AZ(m:Ry rc BW):∀(e:List Oper) {b:Fr} {a:dW} {st:St} {f:Ex×Fr×dW×St},pC C rc y r e b a st=some f->pC C BW y r e b a st=some f:=by
 intro e;induction e with
 |nil=>intro b a st f c;exact c
 |cons n e h=>
  intro b a st f c;unfold pC at c⊢;cases d:kg C rc y r n b a st with
  |none=>rw[d]at c;cases c
  |some l=>
   rw[d]at c;rw[qH m d];cases l with
   |next b a st=>exact h c
   |eH o b a st=>exact c
theorem yD(N:Ry rc BW){s:List Nat}:∀(x:List Nat) {G:Nat} {b:List tJ} {e:Fr} {d:dW} {st:St} {F:Ex×Fr×dW×St},eM C rc y r s x G b e d st=some F->eM C BW y r s x G b e d st=some F:=by
 intro x;induction x with
 |nil=>intro G b e d st F a;exact a
 |cons O x f=>
  intro G b e d st F a;unfold eM at a⊢;split at a
  ·rename_i J M n m;split at a
   ·rename_i l;split at a
    ·cases a
    ·rename_i h;cases c:kg C rc y r J e d st with
     |none=>rw[c]at a;cases a
     |some K=>
      rw[c]at a;simp only[n,m,l,h,qH N c];cases K with
      |next e d st=>exact f a
      |eH I e d st=>exact a
   ·rename_i l;split at a
    ·cases a
    ·rename_i h;split at a
     ·rename_i t c;first|exact f a|(simp only[n,m,l,h,c];exact f a)
     ·cases a
    ·rename_i h;split at a
     ·rename_i I H c;split at a
      ·cases a
      ·rename_i t v;split at a
       ·rename_i o;split at a
        ·rename_i L p;first|exact f a|(simp only[n,m,l,h,c,v,o,p];exact f a)
        ·cases a
       ·rename_i o;split at a
        ·rename_i p;first|exact f a|(simp only[n,m,l,h,c,v,o,p];exact f a)
        ·cases a
     ·cases a
  ·cases a
theorem Ju(e:Ry rc BW){a:Array Oper}{st:St}{d:Ex×Fr×dW×St}(c:region C rc y a k A u st=some d):region C BW y a k A u st=some d:=by
 unfold region at c⊢;cases k with
 |false=>exact AZ e _ c
 |true=>
  simp only at c⊢;cases b:eM C rc y a.toList (rH a.toList).bs (rH a.toList).order 0 [] A u st with
  |none=>rw[b]at c;cases c
  |some f=>rw[b]at c;rw[yD e _ b];exact c
theorem gN(J:Ry rc BW):∀(F:Code) {d:Fr} {b:dW} {st:St} {l:Ex×Fr×dW×St},code C rc y F d b st=some l->code C BW y F d b st=some l:=by
 intro F;induction F with
 |region id L I=>intro d b st l a;exact Ju J a
 |seq K v e h=>
  intro d b st l a;unfold code at a⊢;cases c:code C rc y K d b st with
  |none=>rw[c]at a;cases a
  |some m=>
   rw[c]at a;rw[e c];obtain⟨m,n,x,f⟩:=m;cases m with
   |norm=>exact h a
   |_=>exact a
 |cond F K v e h=>
  intro d b st l a;unfold code at a⊢;split at a
  ·exact e a
  ·exact h a
  ·cases a
 |block id v s=>
  intro d b st l a;unfold code at a⊢;cases c:code C rc y v d b st with
  |none=>rw[c]at a;cases a
  |some m=>rw[c]at a;rw[s c];exact a
 |loop v s=>
  intro d b st l a;unfold code at a⊢;cases c:code C rc y v d b st with
  |none=>rw[c]at a;cases a
  |some m=>
   rw[c]at a;rw[s c];obtain⟨m,n,x,f⟩:=m;cases m with
   |norm=>exact J.code _ _ _ _ _ _ a
   |_=>exact a
 |rangeFunc R G t H=>
  intro d b st l a;unfold code at a⊢;split at a
  ·rename_i N first p Q n f c M
   split at a
   ·cases a
   ·rename_i P O;cases o:rc.call N (first.toList++[.func (.yield Q) #[] #[]]++p.toList) false .none f with
    |none=>rw[o]at a;cases a
    |some m=>rw[o]at a;rw[J.call _ _ _ _ _ _ o];exact a
  ·cases a
 |_=>intro d b st l a;exact a
theorem yE(o:Ry rc BW):∀(c:List Deferred) {m:AM.Mode} {st:St} {d:AM.Mode×St},kB C rc c m st=some d->kB C BW c m st=some d:=by
 intro c;induction c with
 |nil=>intro m st d a;exact a
 |cons s c b=>
  intro m st d a;unfold kB at a⊢;split at a
  ·split at a
   ·exact b a
   ·cases a
  ·rename_i t f _;split at a
   ·rename_i p v n l h e;rw[h,o.call _ _ _ _ _ _ e];exact b a
   ·cases a
  ·cases a
theorem qI(d:Ry rc BW){c:FI}{m:AM.Mode}{st:St}(b:finish C rc c m A u st=some q):finish C BW c m A u st=some q:=by
 unfold finish at b⊢;cases a:kB C rc A.df m st with
 |none=>rw[a]at b;cases b
 |some e=>rw[a]at b;rw[yE d _ a];exact b
theorem L6(d:Ry rc BW){f:FuncId}{st:St}(a:yg C rc f z k u st=some q):yg C BW f z k u st=some q:=by
 unfold yg at a⊢;split at a
 ·cases a
 ·rename_i c o;split at a
  ·cases a
  ·rename_i n;cases b:code C rc ⟨f,c.nt,none,k⟩ c.body ⟨eE 0 z .nil,[]⟩ u st with
   |none=>rw[b]at a;cases a
   |some e=>
    rw[b]at a;rw[gN d _ b];obtain⟨e,h,m,l⟩:=e;cases e with
    |norm=>exact qI d a
    |ret=>exact qI d a
    |panic p=>exact qI d a
    |exit id=>cases a
theorem Jv(s:Ry rc BW){l:Nat}{st:St}{o:CR×St}(a:ug C rc l z st=some o):ug C BW l z st=some o:=by
 unfold ug at a⊢;split at a
 ·rename_i b v;split at a
  ·cases a
  ·cases a
  ·rename_i G n F t;simp only at a⊢;cases d:code C rc ⟨b.fn,b.nt,some l,false⟩ b.assign ⟨n,[]⟩ .none st with
   |none=>rw[d]at a;cases a
   |some m=>
    rw[d]at a;rw[gN s _ d];obtain⟨m,f,p,e⟩:=m;cases m with
    |norm=>
     simp only at a⊢;split at a
     ·rename_i h x;split at a
      ·cases c:code C rc ⟨b.fn,b.nt,some l,false⟩ b.body f .none (e.put l (.loop {h with state:=.busy}))with
       |none=>rw[c]at a;cases a
       |some H=>rw[c]at a;rw[gN s _ c];exact a
      ·cases a
     ·cases a
    |_=>exact a
 ·cases a
theorem PS:∀d,Ry (jN C cF d) (jN C cF (d+1)):=by
 intro d;induction d with
 |zero=>exact⟨fun _ _ _ _ _ _ a=>(by cases a),fun _ _ _ _ _ _ a=>(by cases a),fun _ _ _ _ a=>(by cases a)⟩
 |succ d b=>
  refine⟨fun l m n e st f a=>gN b m a,fun o c h e st f a=>?_,fun p c st f a=>Jv b a⟩;simp only[jN]at a⊢;split at a
  ·exact a
  ·exact L6 b a
theorem hG{n m:Nat}(c:n<=m):Ry (jN C cF n) (jN C cF m):=by
 induction c with
 |refl=>exact⟨fun _ _ _ _ _ _ a=>a,fun _ _ _ _ _ _ a=>a,fun _ _ _ _ a=>a⟩
 |step _ b=>
  have:=PS (C:=C) (cF:=cF) ‹_›;exact⟨fun _ _ _ _ _ _ a=>this.code _ _ _ _ _ _ (b.code _ _ _ _ _ _ a),fun _ _ _ _ _ _ a=>this.call _ _ _ _ _ _ (b.call _ _ _ _ _ _ a),fun _ _ _ _ a=>this.round _ _ _ _ (b.round _ _ _ _ a)⟩
end
end Go.VM
