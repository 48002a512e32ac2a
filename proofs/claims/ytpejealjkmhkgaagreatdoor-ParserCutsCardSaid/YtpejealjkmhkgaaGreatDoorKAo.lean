/- Part of the proof. -/
import Derived.Test.YtpejealjkmhkgaaGreatDoorKAn
set_option linter.all false
set_option maxHeartbeats 16000000
set_option maxRecDepth 100000
open Nat renaming eq_of_beq_eq_true->YL,ble_eq_true_of_le->YM,zero_mul->YV,ble->YW,lt_irrefl->Y0,beq_refl->Y4,le_refl->Y6,beq->Y7
open List renaming length_map->YN,mem_map->YO,mem_or_eq_of_mem_set->YP,all_eq_true->YQ,flatten_cons->YS,mem_of_mem_drop->YT,mem_append->YU,map_cons->YX,mem_of_mem_take->YY,length_append->YZ,mem_cons->Y1,take_of_length_le->Y3,mem_of_getElem?->Y5
open Bool renaming and_eq_true->YR,and_self->Y2
namespace Go.VM
open Go.AM
theorem Gf{l:Type}:∀{a:List (List l)} {b kk f:Nat} {e vs:List l},(∀c∈a,c.length=b)->a[kk]?=some e->f+vs.length<=b->
  (a.set kk (lay e f vs)).flatten=lay a.flatten (kk*b+f) vs/\kk*b+f+vs.length<=a.flatten.length:=by
 intro a;induction a with
 |nil=>intro b kk f e vs _ d;simp at d
 |cons c a m=>
  intro b kk f e vs h d o;have s:=h c sm;cases kk with
  |zero=>
   simp at d;subst d;simp only[YV,Nat.zero_add,List.set_cons_zero,YS,YZ];refine⟨?_,om⟩;simp only[lay];rw[List.take_append_of_le_length om,List.drop_append_of_le_length om];simp only[List.append_assoc]
  |succ kk=>
   have:=m (fun p n=>h p (by simp[n])) (kk:=kk) (f:=f) (e:=e) (vs:=vs) (by simpa using d) o;simp only[List.set_cons_succ,YS,YZ];rw[Nat.succ_mul];refine⟨?_,om⟩;rw[this.1];simp only[lay];rw[show kk*b+b+f=c.length+(kk*b+f)from om,List.take_length_add_append,
    show c.length+(kk*b+f)+vs.length=c.length+(kk*b+f+vs.length)from om,List.drop_length_add_append]
   simp only[List.append_assoc]
theorem RI{b:Type}{c a:List b}(d:c.length=a.length):lay c 0 a=a:=by
 simp only[lay,List.take_zero,List.nil_append,Nat.zero_add];rw[List.drop_of_length_le om,List.append_nil]
variable{v:VS->Prop} {A:V} {i:List (List V)} {j:List V} {k:Bool} {g:V->VS->Prop}
section
variable{C:dU} {Φ:Fz} {ρ:Nat->Nat} {σ:VS} {st:St} {m:Nat} {ev:Operand->Option V} {lq:Operand->Option Value}
def Am(Φ:Fz)(ρ:Nat->Nat)(σ:VS)(f:V->VS->Prop)(h:Option AR):Prop:=
 ∃e a b c d,f e a/\hU Φ ρ σ.length b c a.length/\Real b c a d/\eV b a.length e/\h=some (.val (erase c e) d)
theorem th:eV Φ m (.dV []):=.dV fun _ a=>by simp at a
theorem sg{l:List V}(c:l.all gy=true)(ρ:Nat->Nat):(cm ρ l).all fs=true:=by
 rw[YQ]at c⊢;intro e a;rw[dM]at a;obtain⟨d,b,rfl⟩:=YO.1 a;exact D2 (c d b)
theorem gA(i:Real Φ ρ σ st){t:TypeId}{a l:V}(y:eV Φ σ.length a)(hx:eV Φ σ.length l)(b:kt C t a l σ v):
  ∃F D,v F/\F.length=σ.length/\Real Φ ρ F D/\hH C t (erase ρ a) (erase ρ l) st=some (.val kn D)/\D.n=st.n:=by
 unfold kt at b;split at b
 ·rename_i x M;split at b
  ·rename_i X;rw[YR]at X;obtain⟨N,E⟩:=X;have L:=td hx;have K:∀u∈dJ l,gy u=true:=YQ.1 E;split at b
   ·rename_i k m;split at b
    ·rename_i H d;rw[cv]at d;obtain⟨⟨⟨B,_⟩,s,G⟩,_⟩:=i.obj k _ d rfl;obtain⟨p,O⟩:=uT _ _ _ _ b;obtain⟨j,P⟩:=jM _ _ _ _ O;have R:=i.write (o':=.box (lay H m (dJ l))) (c':=cm ρ (lay H m (dJ l))) (lo:=0+m) (hi':=0+m+(dJ l).length) d rfl B
      (.inl ⟨_,_,rfl,rfl,Ag p,rfl,fun h c=>(vQ c).elim (s h) (L h),fun h c=>(vQ c).elim (G h) (K h)⟩)
     refine⟨_,_,P,by simp,R,?_,?_⟩
     ·have T:dw (cm ρ H) m (cm ρ (dJ l))=cm ρ (lay H m (dJ l)):=by
       rw[oM _ _ _ (by rw[cX,cX];exact p),dM,dM,dM,zl]
      simp only[hH,M,erase,kY,cX,N,fI,B,sg E ρ,YM p,Y2,T];rfl
     ·rw[gF];rfl
    ·exact b.elim
   ·rename_i k I n m;split at b
    ·rename_i r f d;split at b
     ·rename_i Y;have:=YL Y;subst this;rw[cv]at d;obtain⟨⟨⟨z,q,B⟩,s,G,g⟩,_⟩:=i.obj k _ d rfl;obtain⟨e,U,b⟩:=b;rw[cv]at U;have J:=Y5 U;obtain⟨p,O⟩:=uT _ _ _ _ b;obtain⟨j,P⟩:=jM _ _ _ _ O;have S:=Gf s U (f:=m) (vs:=dJ l) (by rw[<-s e J];exact p);have o:∀h∈f.set n (lay e m (dJ l)),h∈f∨h=lay e m (dJ l):=fun h c=>YP c;have R:=i.write (o':=.row I (f.set n (lay e m (dJ l)))) (c':=cm ρ (f.set n (lay e m (dJ l))).flatten) (lo:=q+(n*I+m)) (hi':=q+(n*I+m)+(dJ l).length) d rfl B
       (.inr ⟨_,_,rfl,rfl,rfl,fun h c=>by
        rcases o h c with c|rfl
        ·exact s h c
        ·rw[Ag p];exact s e J,fun h c=>by
        rcases o h c with c|rfl
        ·exact G h c
        ·exact fun W Q=>(vQ Q).elim (G e J W) (L W),fun h c=>by
        rcases o h c with c|rfl
        ·exact g h c
        ·exact fun W Q=>(vQ Q).elim (g e J W) (K W)⟩)
      refine⟨_,_,P,by simp,R,?_,?_⟩
      ·have T:dw (cm ρ f.flatten) (n*I+m) (cm ρ (dJ l))=cm ρ (f.set n (lay e m (dJ l))).flatten:=by
        rw[oM _ _ _ (by rw[cX,cX];exact S.2),S.1,dM,dM,dM,zl]
       simp only[hH,M,erase,kY,cX,N,fI,B,sg E ρ,YM S.2,Y2,T];rfl
      ·rw[gF];rfl
     ·exact b.elim
    ·exact b.elim
   ·exact b.elim
  ·exact b.elim
 ·exact b.elim
theorem BV(ρ:Nat->Nat):∀(a:List pP) (b:Nat) (c d:V),(l8 a b c d).map (iT ρ)=uJ (a.map (iT ρ)) b (erase ρ c) (erase ρ d):=by
 intro a;induction a with
 |nil=>intro b c d;rfl
 |cons f a e=>
  intro b c d;cases b with
  |zero=>rfl
  |succ b=>simp only[l8,YX,uJ,e]
theorem Gg:∀{a:List pP} {c:Nat} {d e:V} {b:pP},b∈l8 a c d e->b∈a∨(b.key=d/\b.val=e):=by
 intro a;induction a with
 |nil=>intro c d e b h;simp[l8]at h
 |cons l a f=>
  intro c d e b h;cases c with
  |zero=>
   rcases Y1.1 h with rfl|h
   ·exact .inr ⟨Z,Z⟩
   ·exact .inl (by simp[h])
  |succ c=>
   rcases Y1.1 h with rfl|h
   ·exact .inl sm
   ·exact(f h).imp (fun h=>by simp[h]) id
theorem pR(P:Real Φ ρ σ st){t:TypeId}{d p:V}(f:eV Φ σ.length d)(J:eV Φ σ.length p)(c:qt C t A d p σ v):
  ∃h n,v h/\h.length=σ.length/\Real Φ ρ h n/\ir C t (erase ρ A) (erase ρ d) (erase ρ p) st=some (.val kn n):=by
 unfold qt at c;split at c
 ·rename_i Y K o;split at c
  ·rename_i S X D;split at c
   ·rename_i T l b m e;rw[cv]at e;obtain⟨⟨E,I⟩,_⟩:=P.obj K _ e rfl;split at c
    ·exact c.elim
    ·rename_i F;obtain⟨R,N,c⟩:=c;obtain⟨H,U⟩:=yn ρ _ _ _ _ _ N;have G:∀a,(st.put (ρ K) a).get (ρ K)=some a:=fun a=>by rw[cW,if_pos rfl]
     cases R with
     |some W=>
      obtain⟨Q,g⟩:=W;obtain⟨L,B⟩:=jM _ _ _ _ c;refine⟨_,_,B,by simp,P.put (o':=.map (l8 l Q d p) b) (a:=.map ((l8 l Q d p).map (iT ρ)) b) e rfl rfl rfl (fun _ _ _ _ s=>by cases s) ⟨G _,fun s he=>?_⟩,?_⟩
      ·rcases Gg he with he|⟨O,M⟩
       ·exact I s he
       ·rw[O,M];exact⟨f,J⟩
      ·simp only[ir,o,erase,D,m,E,F,H,BV];rfl
     |none=>
      obtain⟨L,B⟩:=jM _ _ _ _ c;refine⟨_,_,B,by simp,P.put (o':=.map (l++[pP.mk d p b]) (b+1)) (a:=.map ((l++[pP.mk d p b]).map (iT ρ)) (b+1)) e rfl rfl rfl (fun _ _ _ _ s=>by cases s) ⟨G _,fun s he=>?_⟩,?_⟩
      ·rcases YU.1 he with he|he
       ·exact I s he
       ·simp at he;subst he;exact⟨f,J⟩
      ·simp only[ir,o,erase,D,m,E,F,H,List.map_append];rfl
   ·exact c.elim
  ·exact c.elim
 ·exact c.elim
theorem fx:∀{a:List (List V)} {c:List (List D)},oK a=some c->a=c.map fun h=>h.map V.d:=by
 intro a;induction a with
 |nil=>intro c b;cases b;rfl
 |cons h a d=>
  intro c b;unfold oK at b;split at b
  ·rename_i m l f e;cases b;rw[YX,<-d e,<-nc f]
  ·cases b
theorem sh(ρ:Nat->Nat)(l:List (List D)):cm ρ (l.map fun b=>b.map V.d).flatten=l.flatten.map cx:=by
 induction l with
 |nil=>rfl
 |cons b l a=>
  simp only[YX,YS,e9,mc,a,List.map_append]
theorem Tz{b es c:Nat}{l:List (List D)}{f p:Nat}(e:Φ b=some (.cells (l.flatten.map cx) es f p))(a:∀m∈l,m.length=es)(h:∀m∈l,∀n∈m,uS Φ n)(d:Φ.BR b):uS Φ (.ps b 0 es c l):=by
 have:=pQ a;refine .ps e a (by rw[YN];omega) ?_ h d;rw[List.drop_zero,Y3 (by rw[YN];omega)]
structure il (Φ:Fz) (m es:Nat) (els:List (List V)):Prop where
 len:∀e∈els,e.length=es
 ok:∀e∈els,eP Φ m e
 cell:∀e∈els,∀v∈e,gy v=true
theorem il.d{es:Nat}{l:List (List D)}(c:il Φ m es (l.map fun a=>a.map V.d)):(∀a∈l,a.length=es)/\∀a∈l,∀d∈a,uS Φ d:=by
 refine⟨fun a b=>?_,fun a b d e=>?_⟩
 ·have:=c.len (a.map V.d) (YO.2 ⟨a,b,rfl⟩);simpa using this
 ·have:=c.ok (a.map V.d) (YO.2 ⟨a,b,rfl⟩) (.d d) (YO.2 ⟨d,e,rfl⟩);cases this with
  |d c=>exact c
theorem il.mono{b:Fz}{d es:Nat}{a:List (List V)}(f:il Φ m es a)(c:Φ.le b)(e:m<=d):il b d es a:=
 ⟨f.len,fun l h=>(f.ok l h).mono c e,f.cell⟩
theorem Real.newRow(c:Real Φ ρ σ st){es:Nat}(a:il Φ σ.length es i):
  Real Φ (iH ρ σ.length st.n) (σ++[.row es i]) (st.new (.cells (cm ρ i.flatten) es st.n 0)):=by
 have b:=jL Φ ρ σ.length st.n;refine c.new Z ⟨⟨st.n,0,?_⟩,a.len,fun d c=>b.KG (a.ok d c),a.cell⟩;rw[dl,if_pos rfl,b.cm (D3 a.ok)]
theorem Real.D9(d:Real Φ ρ σ st)(a:eP Φ σ.length j)(c:∀h∈j,gy h=true):
  Real Φ (iH ρ σ.length st.n) (σ++[.box j]) (st.new (.cells (cm ρ j) j.length st.n 0)):=by
 have b:=jL Φ ρ σ.length st.n;refine d.new Z ⟨⟨?_,?_⟩,b.KG a,c⟩
 ·rw[dl,if_pos rfl,b.cm a]
 ·cases e:st.fm.get st.n with
  |none=>exact e
  |some f=>exact absurd (d.wf.Kt _ _ e) (Y0 _)
theorem Real.KK(p:Real Φ ρ σ st){es:Nat}{l:List (List D)}(c:il Φ m es (l.map fun o=>o.map V.d)):
  Real (mw Φ st.n (.cells (l.flatten.map cx) es st.n 0)) ρ σ (st.new (.cells (l.flatten.map cx) es st.n 0))/\
  hU Φ ρ σ.length (mw Φ st.n (.cells (l.flatten.map cx) es st.n 0)) ρ σ.length/\∀b,uS (mw Φ st.n (.cells (l.flatten.map cx) es st.n 0)) (.ps st.n 0 es b l):=by
 have d:Φ st.n=none:=by
  cases n:Φ st.n with
  |none=>rfl
  |some t=>exact absurd (p.Ub n) (Y0 _)
 have a:=tb (o:=.cells (l.flatten.map cx) es st.n 0) d;refine⟨p.VA,⟨a,fun _ _=>Z,Y6 _⟩,fun b=>?_⟩;obtain⟨h,f⟩:=c.d;exact Tz (by rw[kh];exact if_pos rfl) h (fun o c s e=>(f o c s e).mono a) (.inl rfl)
theorem pS:∀{a:Nat} {b:List V},b∈uO j a->b=j:=by
 intro a;induction a with
 |zero=>intro b h;simp[uO]at h
 |succ a c=>
  intro b h;rcases Y1.1 h with rfl|h
  ·rfl
  ·exact c h
theorem CI(ρ:Nat->Nat):∀(a:Nat),cm ρ (uO j a).flatten=tR (cm ρ j) a:=by
 intro a;induction a with
 |zero=>rfl
 |succ a b=>simp only[uO,YS,e9,b,tR]
theorem OT:∀(a:Nat),(uO j a).length=a:=by
 intro a;induction a with
 |zero=>rfl
 |succ a b=>simp[uO,b]
theorem Ea(ρ:Nat->Nat){a:Nat}:∀(e:List (Nat×V)) (b d:List (List V)),il Φ m a b->(∀B∈e,eV Φ m B.2)->DV a b e=some d->
  il Φ m a d/\d.length=b.length/\oz (fun t=>some (t*a,a)) (cm ρ b.flatten) (e.map fun B=>(B.1,erase ρ B.2))=some (cm ρ d.flatten):=by
 intro e;induction e with
 |nil=>intro b d s _ C;cases C;exact⟨s,rfl,rfl⟩
 |cons B e O=>
  intro b d s F C;obtain⟨t,R⟩:=B;unfold DV at C;split at C
  ·rename_i D;simp only[YR]at D;obtain⟨⟨H,G⟩,J⟩:=D;have l:=YL H;have N:t<b.length:=Nat.le_of_ble_eq_true G;obtain⟨n,h⟩:∃n,b[t]?=some n:=⟨b[t],List.getElem?_eq_getElem N⟩;have E:=Y5 h;have Q:=s.len n E;have P:=td (F _ (List.mem_cons_self ..));have o:il Φ m a (b.set t (dJ R)):=by
    refine⟨fun p c=>?_,fun p c=>?_,fun p c=>?_⟩
    ·rcases YP c with c|rfl
     ·exact s.len p c
     ·exact l
    ·rcases YP c with c|rfl
     ·exact s.ok p c
     ·exact P
    ·rcases YP c with c|rfl
     ·exact s.cell p c
     ·exact YQ.1 J
   obtain⟨L,K,M⟩:=O _ _ o (fun p c=>F p (by simp[c])) C;refine⟨L,by simpa using K,?_⟩;have f:=Gf s.len h (f:=0) (vs:=dJ R) om;rw[RI om,Nat.add_zero]at f;simp only[YX,oz,kY,cX];have I:t*a+a<=b.flatten.length:=by have:=f.2;omega
   rw[l,Y4,YM I];simp only[Y2];rw[oM _ _ _ (by rw[cX,cX];exact f.2),dM,dM,<-zl,<-f.1,<-dM];exact M
  ·cases C
def hX(d:Op)(e:cL)(ρ:Nat->Nat)(n:Nat):Option (Value×fH):=
 match d,e with
 |.alloc _,.box a=>some (ptr n 0,.cells (cm ρ a) a.length n 0)
 |.box _ _,.box a=>some (ptr n 0,.cells (cm ρ a) a.length n 0)
 |.makeMap _ _,.map _ _=>some (.map (some n),.map [] 0)
 |.buildSlice _ b _,.row f c=>some (.slice (some ⟨n,0,none⟩) b b,.cells (cm ρ c.flatten) f n 0)
 |_,_=>none
def nS(Φ:Fz)(m:Nat)(e:Op)(f:cL):Prop:=
 match e,f with
 |.alloc _,.box a=>eP Φ m a/\∀h∈a,gy h=true
 |.box _ _,.box a=>eP Φ m a/\∀h∈a,gy h=true
 |.makeMap _ _,.map c l=>c=[]/\l=0
 |.buildSlice _ d _,.row c b=>il Φ m c b/\b.length=d
 |_,_=>False
theorem oP(b:mJ Φ ρ m ev lq){o:Oper}{t:cL}(a:CC C ev o.op=some t):
  nS Φ m o.op t/\∀st:St,∃E V,hX o.op t ρ st.n=some (E,V)/\h0 C lq o st=some (.val E (st.new V)):=by
 obtain⟨U,j,i,X,W,g⟩:=o;dsimp only at a;unfold CC at a;split at a
 ·rename_i k;split at a
  ·rename_i M e;split at a
   ·rename_i P c T;cases a;have d:P.length=M.size:=by rw[<-YL T,<-cX ρ,hJ ρ c]
    refine⟨nb Φ m c,fun st=>⟨_,_,Z,?_⟩⟩;simp only[h0,uG,e,hJ ρ c,d];rfl
   ·cases a
  ·cases a
 ·rename_i r;split at a
  ·rename_i E f;split at a
   ·rename_i O;cases a;obtain⟨s,n⟩:=b _ _ f;refine⟨⟨td n,YQ.1 O⟩,fun st=>⟨_,_,Z,?_⟩⟩;simp only[h0,s,H5,kY,sg O ρ,cX];rfl
   ·cases a
  ·cases a
 ·cases a;exact⟨⟨Z,Z⟩,fun st=>⟨_,_,Z,Z⟩⟩
 ·rename_i k N Y;split at a
  ·rename_i q M L e;split at a
   ·rename_i S R;split at a
    ·rename_i J H;split at a
     ·rename_i P F c;split at a
      ·rename_i h p;cases a;obtain⟨s,n⟩:=Ah b L;have l:=F;simp only[YR]at l;have d:P.length=J.size:=by rw[<-YL l.2,<-cX ρ,hJ ρ c]
       have D:il Φ m J.size (uO P N):=⟨fun Q b=>by rw[pS b,d],fun Q b=>by rw[pS b];exact(nb Φ m c).1,fun Q b=>by rw[pS b];exact(nb Φ m c).2⟩;obtain⟨K,G,I⟩:=Ea ρ q _ h D n p;rw[OT]at G;refine⟨⟨K,G⟩,fun st=>⟨_,_,Z,?_⟩⟩;rw[CI,hJ ρ c]at I;have B:(cm ρ h.flatten).all fs=true:=sg (YQ.2 fun E f=>by
        obtain⟨Q,b,f⟩:=List.mem_flatten.1 f;exact K.cell Q b E f) ρ
       simp only[h0,s,jh,e,R,H,F,I,B];rfl
      ·cases a
     ·cases a
    ·cases a
   ·cases a
  ·cases a
 ·cases a
theorem Gh(t:Real Φ ρ σ st)(Q:mJ Φ ρ σ.length ev lq){o:Oper}(c:OK C k ev o.op σ g):Am Φ ρ σ g (h0 C lq o st):=by
 unfold OK at c;split at c
 ·rename_i U E;obtain⟨b,D⟩:=oP Q E;obtain⟨X,S,e,K⟩:=D st;rw[K];have O:=jL Φ ρ σ.length st.n;have f:iH ρ σ.length st.n σ.length=st.n:=if_pos rfl;split at c
  ·rename_i p;split at c
   ·rename_i N H;split at c
    ·rename_i R s;have m:lI o.op=true:=by rw[YR]at p;exact p.2
     cases a:o.op with
     |buildSlice Y I T=>
      rw[a]at e b;cases e;obtain⟨n,F⟩:=b;rw[fx s]at n;obtain⟨L,P,J⟩:=t.KK n;have B:R.length=I:=by rw[<-F,fx s,YN]
      have G:cm ρ H.flatten=R.flatten.map cx:=by rw[fx s,sh]
      refine⟨_,σ,_,ρ,st.new (.cells (R.flatten.map cx) N st.n 0),c st.n,P,L,.d (J _),?_⟩;simp only[erase,cx,B,G]
     |_=>rw[a]at m;cases m
    ·exact c.elim
   ·exact c.elim
  ·have l:=iQ c;clear c;obtain⟨W,h,M⟩:=cy l;clear l;have d:∀o:cL,(σ++[o]).length=σ.length+1:=fun o=>by simp
   refine⟨W,_,Φ,iH ρ σ.length st.n,st.new S,M,by rw[d];exact O,?_,?_,?_⟩;all_goals
    unfold hX at e;split at e
    ·rename_i a;rw[a]at h b;cases e;cases h;first
      |exact t.D9 b.1 b.2
      |exact .bp (by rw[d];omega)
      |(simp only[erase,f];rfl)
    ·rename_i a;rw[a]at h b;cases e;cases h;first
      |exact t.D9 b.1 b.2
      |exact .bp (by rw[d];omega)
      |(simp only[erase,f];rfl)
    ·rename_i a;rw[a]at h b;obtain⟨rfl,rfl⟩:=b;cases e;cases h;first
      |exact t.new trivial ⟨by rw[dl,if_pos rfl];rfl,fun _ t=>by simp at t⟩
      |exact .map (by rw[d];omega)
      |(simp only[erase,f])
    ·rename_i a;rw[a]at h b;cases e;cases h;first
      |exact t.newRow b.1
      |exact .ms (by rw[d];omega)
      |(simp only[erase,f,YV])
    ·cases e
 ·exact c.elim
theorem xA(N:Real Φ ρ σ st){t:TypeId}{l c:V}(a:uR C t l c σ g):Am Φ ρ σ g (iq C t (erase ρ l) (erase ρ c) st):=by
 unfold uR at a;split at a
 ·rename_i M D;split at a
  ·rename_i J F;split at a
   ·rename_i b s;split at a
    ·rename_i G h m;split at a
     ·rename_i O P;obtain⟨d,rfl,⟨rfl,I,H⟩,a⟩:=a;simp only[YR]at h;have B:G.length=b.size:=by rw[<-YL h.2,<-cX ρ,hJ ρ m]
      have p:il Φ σ.length b.size (uO G d):=⟨fun E f=>by rw[pS f,B],fun E f=>by rw[pS f];exact(nb Φ σ.length m).1,fun E f=>by rw[pS f];exact(nb Φ σ.length m).2⟩;have E:iq C t (erase ρ (.d (.int .i64 (Int.ofNat d)))) (erase ρ (.d (.int .i64 (Int.ofNat d)))) st=some (.val (.slice (some ⟨st.n,0,none⟩) d d) (st.new (.cells (cm ρ (uO G d).flatten) b.size st.n 0))):=by
       have K:(YW d d&&Nat.blt 0 b.size&&YW (d*b.bytes) 1099511627776&&YW d 1099511627776&&Y7 b.zero.length b.size)=true:=by
        rw[h.1,h.2,show YW d d=true by rw[Nat.ble_eq];exact Y6 d,show YW (d*b.bytes) 1099511627776=true by rw[Nat.ble_eq];exact I,show YW d 1099511627776=true by rw[Nat.ble_eq];exact H];rfl
       rw[CI,hJ ρ m];simp only[iq,erase,cx,D,F,s,K];rfl
      rw[E];have o:=iQ a;have e:∀L:cL,(σ++[L]).length=σ.length+1:=fun L=>by simp
      have n:iH ρ σ.length st.n σ.length=st.n:=if_pos rfl;exact⟨_,_,Φ,iH ρ σ.length st.n,_,o,by rw[e];exact jL Φ ρ σ.length st.n,N.newRow p,.ms (by rw[e];omega),by simp only[erase,n,YV]⟩
     ·exact a.elim
    ·exact a.elim
   ·exact a.elim
  ·exact a.elim
 ·exact a.elim
end
section
variable{C:dU} {Φ:Fz} {ρ:Nat->Nat} {σ:VS} {st:St} {m:Nat} {ev:Operand->Option V} {lq:Operand->Option Value}
theorem KL{es:Nat}(d:il Φ m es i)(c len:Nat):il Φ m es ((i.drop c).take len):=
 ⟨fun b a=>d.len b (YT (YY a)),fun b a=>d.ok b (YT (YY a)),fun b a=>d.cell b (YT (YY a))⟩
theorem il.append{es:Nat}{f b:List (List V)}(d:il Φ m es f)(e:il Φ m es b):il Φ m es (f++b):=
 ⟨fun c a=>(YU.1 a).elim (d.len c) (e.len c),fun c a=>(YU.1 a).elim (d.ok c) (e.ok c),fun c a=>(YU.1 a).elim (d.cell c) (e.cell c)⟩
theorem Gi{d:Type}{a:List (List d)}{es:Nat}(f:∀c∈a,c.length=es)(b len:Nat):(a.flatten.drop (b*es)).take (len*es)=((a.drop b).take len).flatten:=by
 rw[CF b f,CG len fun c e=>f c (YT e)]
theorem oQ(l:Real Φ ρ σ st){d es:Nat}(c:σ[d]?=some (.row es i)):il Φ σ.length es i/\∃h m,st.get (ρ d)=some (.cells (cm ρ i.flatten) es h m):=by
 obtain⟨⟨e,a,f,b⟩,_⟩:=l.obj d _ c rfl;exact⟨⟨a,f,b⟩,e⟩
theorem Gj(h:Real Φ ρ σ st){f es:Nat}(d:σ[f]?=some (.row es i)){a len:Nat}(c:a+len<=i.length):
  fY st (ρ f) (a*es) (len*es)=some (cm ρ ((i.drop a).take len).flatten):=by
 obtain⟨b,l,m,e⟩:=oQ h d;rw[iw e (by rw[cX,pQ b.len,<-Nat.add_mul];exact Nat.mul_le_mul_right _ c),<-nQ,Gi b.len]
theorem uV(e:List UInt8):il Φ m 1 (e.map fun c=>[gq c]):=by
 refine⟨fun d b=>?_,fun d b f a=>?_,fun d b f a=>?_⟩;all_goals
  obtain⟨c,_,rfl⟩:=YO.1 b
 ·rfl
 ·simp at a;subst a;exact .d (.int _ _)
 ·simp at a;subst a;rfl
theorem xB(ρ:Nat->Nat)(a:List UInt8):cm ρ (a.map fun c=>[gq c]).flatten=ofBytes a:=by
 induction a with
 |nil=>rfl
 |cons c a b=>
  simp only[YX,YS,List.cons_append,List.nil_append,cm,b,ofBytes];rfl
theorem Mg(o:Real Φ ρ σ st){t:TI}(B:eV Φ σ.length A){K:List (List V)->Prop}(a:T9 C t A σ K):
  ∃h,K h/\il Φ σ.length t.size h/\po (erase ρ A)=some h.length/\gX st t.size h.length (erase ρ A)=some (cm ρ h.flatten):=by
 unfold T9 at a;split at a
 ·exact⟨[],a,⟨fun _ o=>by simp at o,fun _ o=>by simp at o,fun _ o=>by simp at o⟩,rfl,rfl⟩
 ·rename_i W U O G l;obtain⟨rfl,a⟩:=a;cases B with
  |d B=>
  cases B with
  |ps H P J Q M=>
   refine⟨_,a,⟨fun S b=>?_,fun S b T D=>?_,fun S b T D=>?_⟩,by simp[erase,cx,po],?_⟩
   ·obtain⟨m,n,rfl⟩:=YO.1 b;rw[YN];exact P m n
   ·obtain⟨m,n,rfl⟩:=YO.1 b;obtain⟨d,E,rfl⟩:=YO.1 D;exact .d (M m n d E)
   ·obtain⟨m,n,rfl⟩:=YO.1 b;obtain⟨d,E,rfl⟩:=YO.1 D;rfl
   ·simp only[erase,cx,gX,YN];rw[iw (o.fz _ _ H) J,Q,sh]
 ·rename_i X O p e G;split at a
  ·rename_i R l c;rw[cv]at c;obtain⟨⟨rfl,rfl,N⟩,a⟩:=a;obtain⟨b,_⟩:=oQ o c;have F:K ((l.drop p).take e):=by
    split at a
    ·rename_i I;have:=YL I;rw[List.drop_zero,Y3 om];exact a
    ·exact a
   have f:((l.drop p).take e).length=e:=by rw[List.length_take,List.length_drop];omega
   refine⟨_,F,KL b p e,by simp only[erase,po,f],?_⟩;simp only[erase,gX,f];exact Gj o c N
  ·exact a.elim
 ·rename_i s;obtain⟨L,a⟩:=a;refine⟨_,a,by rw[L];exact uV s,by simp[erase,cx,po],?_⟩;simp only[erase,cx,gX,YN,xB];rw[List.take_length]
 ·exact a.elim
theorem iy(a:Nat)(o:cL):(σ.set a o).length=σ.length:=List.length_set
theorem BW(B:Real Φ ρ σ st){R:List TypeId}(ah:eP Φ σ.length j)(a:D0 C k R j σ g):
  Am Φ ρ σ g (mV C R (cm ρ j) st):=by
 unfold D0 at a;split at a
 ·rename_i R av s aH;have af:=ah s sm;have ao:=ah aH sm;split at a
  ·rename_i aJ aD am y;split at a
   ·exact a.elim
   ·rename_i au A aC;split at a
    ·rename_i b ag;split at a
     ·exact a.elim
     ·rename_i r;obtain⟨xs,i,t,ap,ay⟩:=Mg B ao a;clear a;have a:=i;clear i;have J:=r;simp only[YR]at J;have aj:(cm ρ xs.flatten).all fs=true:=sg (YQ.2 fun aP z=>by
       obtain⟨w,N,z⟩:=List.mem_flatten.1 z;exact t.cell w N aP z) ρ
      have ac:(cm ρ xs.flatten).length=xs.length*b.size:=by rw[cX,pQ t.len]
      have M:∀D len d,erase ρ s=.slice D len d->(len+xs.length)*b.bytes<=eF->len+xs.length<=eF->
        mV C [R,av] (cm ρ [s,aH]) st=fv st b.size D len d xs.length (cm ρ xs.flatten):=by
       intro D len d U X L;have x:(Nat.blt 0 b.size&&Y7 (cm ρ xs.flatten).length (xs.length*b.size)&&(cm ρ xs.flatten).all fs&&YW ((len+xs.length)*b.bytes) eF&&YW (len+xs.length) eF&&Y7 b.zero.length b.size)=true:=by
        rw[J.1,ac,Y4,aj,YM X,YM L,J.2];rfl
       simp only[mV,cm,am,y,U,A,ag,ap,ay,x]
      have O:Φ st.n=none:=by
       cases r:Φ st.n with
       |none=>rfl
       |some o=>exact absurd (B.Ub r) (Y0 _)
      split at a
      ·obtain⟨⟨X,L⟩,a⟩:=a;rw[M none 0 0 rfl (by simpa using X) (by simpa using L)];cases m:Y7 xs.length 0 with
       |true=>
        rw[m]at a;have p:=YL m;refine⟨_,σ,Φ,ρ,st,a,.refl _ _ _,B,.d .cn,?_⟩;simp only[fv,p];rfl
       |false=>
        rw[m]at a;have p:YW (0+xs.length) 0=false:=by
         rw[KI];refine decide_eq_false fun aO=>?_;have:xs.length=0:=om;rw[this]at m;cases m
        have E:fv st b.size none 0 0 xs.length (cm ρ xs.flatten)=some (.val (.slice (some ⟨st.n,0,none⟩) xs.length xs.length) (st.new (.cells (cm ρ xs.flatten) b.size st.n 0))):=by
         simp only[fv,p];rfl
        rw[E];simp only[hz]at a;cases k with
        |true=>
         obtain⟨an,l,a⟩:=cy a;have Q:=t;rw[fx l]at Q;obtain⟨G,az,aw⟩:=B.KK Q;have P:xs.length=an.length:=by rw[fx l,YN]
         have ae:cm ρ xs.flatten=an.flatten.map cx:=by rw[fx l,sh]
         exact⟨_,σ,_,ρ,_,a st.n,az,G,.d (aw _),by simp only[erase,cx,P,ae]⟩
        |false=>
         have F:=iQ a;have f:(σ++[cL.row b.size xs]).length=σ.length+1:=by simp
         refine⟨_,_,Φ,_,_,F,by rw[f];exact jL Φ ρ σ.length st.n,B.newRow t,.ms (by rw[f];omega),?_⟩;simp only[erase,YV];rw[show iH ρ σ.length st.n σ.length=st.n from if_pos rfl]
      ·rename_i q U e len d;split at a
       ·rename_i aE els c;rw[cv]at c;obtain⟨⟨rfl,rfl,v,aL,ar,aA⟩,a⟩:=a;rw[M (some ⟨ρ q,e*b.size,none⟩) len d rfl ar aA];obtain⟨u,aa,ab,S⟩:=oQ B c;cases m:Y7 xs.length 0 with
        |true=>
         rw[m]at a;have p:=YL m;have ad:xs=[]:=List.length_eq_zero_iff.1 p;subst ad;refine⟨_,σ,Φ,ρ,st,a,.refl _ _ _,B,af,?_⟩;have:YW (len+0) d=true:=YM om;simp only[fv,List.length_nil,this,List.flatten_nil,cm];rfl
        |false=>
         rw[m]at a;simp only[hz]at a;cases K:YW (len+xs.length) d with
         |true=>rw[K]at a;exact a.elim
         |false=>
          rw[K]at a;simp only at a;obtain⟨aM,a⟩:=jM _ _ _ _ a;have ai:=Gj B c v;have E:fv st b.size (some ⟨ρ q,e*b.size,none⟩) len d xs.length (cm ρ xs.flatten)=
            some (.val (.slice (some ⟨st.n,0,none⟩) (len+xs.length) (len+xs.length)) (grown st b.size aa ab (ρ q) (e*b.size) len xs.length (cm ρ els.flatten) (cm ρ ((els.drop e).take len).flatten) (cm ρ xs.flatten))):=by
           simp only[fv,K,S,Y4,ai];rfl
          rw[E];obtain⟨al,ak,aB⟩:=B.grow (o:=e*b.size) (len:=len) (n:=xs.length) (old:=cm ρ ((els.drop e).take len).flatten) (xs:=cm ρ xs.flatten) c S;have h:=KL u e len|>.append t;have I:=jJ (st:=st) (es:=b.size) (dS:=aa) (fo:=ab) (b:=ρ q) (o:=e*b.size) (len:=len) (n:=xs.length) (c:=cm ρ els.flatten) (old:=cm ρ ((els.drop e).take len).flatten) (xs:=cm ρ xs.flatten) st.n;rw[if_pos rfl,<-e9,<-List.flatten_append]at I;have Y:∀ax o,(σ.set q .gone)[ax]?=some o->live o=true->ρ ax≠st.n:=fun ax o aq l=>Nat.ne_of_lt (B.lt (nP c aq l).2 l);have W:((els.drop e).take len++xs).length=len+xs.length:=by
           rw[YZ,List.length_take,List.length_drop];omega
          cases k with
          |true=>
           obtain⟨an,l,a⟩:=cy a;have H:=tb (o:=fH.cells (cm ρ ((els.drop e).take len++xs).flatten) b.size aa (ab+e*b.size)) O;have G:=al.OP I O Y ak (fun aT aN aQ aK T=>B.lJ c rfl S (B.fz _ _ T) (fun w=>by rw[w,(B.obj q _ c rfl).2]at T;cases T) (.inl (by rw[T];simp)) rfl);have P:an.length=len+xs.length:=by rw[<-W,fx l,YN]
           rw[fx l]at h;obtain⟨d1,d2⟩:=h.d;refine⟨_,_,_,ρ,_,a st.n,⟨H,fun _ _=>Z,by rw[iy];exact Y6 _⟩,G,.d (Tz (f:=aa) (p:=ab+e*b.size) ?_ d1 (fun w N aI A=>(d2 w N aI A).mono H) (.inl rfl)),by simp only[erase,cx,P]⟩;rw[<-sh ρ,<-fx l,kh];exact if_pos Z
          |false=>
           have F:=iQ a;have f:((σ.set q .gone)++[cL.row b.size ((els.drop e).take len++xs)]).length=σ.length+1:=by simp
           have G:=al.OQ (els:=(els.drop e).take len++xs) I O Y ak aB (B.H0 q _ _ _ _ _ _ c S) h.len (fun w N=>by rw[iy];exact h.ok w N) h.cell;rw[iy]at G F;refine⟨_,_,Φ,_,_,F,by rw[f];exact jL Φ ρ σ.length st.n,G,.ms (by rw[f];omega),?_⟩;simp only[erase,YV];rw[show iH ρ σ.length st.n σ.length=st.n from if_pos rfl]
       ·exact a.elim
      ·rename_i aF o U d els;obtain⟨⟨X,rfl,L,v⟩,a⟩:=a;rw[M (some ⟨aF,o,none⟩) els.length d rfl (by simpa using L) (by simpa using v)];refine⟨_,σ,Φ,ρ,st,a,.refl _ _ _,B,af,?_⟩;have:YW (els.length+0) d=true:=YM om;simp only[fv,List.length_nil,this,List.flatten_nil,cm];rfl
      ·exact a.elim
    ·exact a.elim
   ·exact a.elim
  ·exact a.elim
 ·exact a.elim
theorem Eb(J:Real Φ ρ σ st){b G:TypeId}(a:II C k b G A σ g):Am Φ ρ σ g (gW C b G (erase ρ A) st):=by
 unfold II at a;split at a
 ·rename_i M L B o;split at a
  ·rename_i E s p h;split at a
   ·rename_i K n;split at a
    ·rename_i H;have f:gW C b G (erase ρ (.d (.str s))) st=some (.val (.slice (some ⟨st.n,0,none⟩) s.length s.length) (st.new (.cells (ofBytes s) 1 st.n 0))):=by
      simp only[gW,B,o,p,h,erase,cx,n,H];rfl
     rw[f];cases k with
     |true=>
      have D:il Φ 0 1 ((s.map fun e=>[sc e]).map fun E=>E.map V.d):=by
       have:((s.map fun e=>[sc e]).map fun E=>E.map V.d)=s.map fun e=>[gq e]:=by
        rw[List.map_map];rfl
       rw[this];exact uV s
      obtain⟨d,I,F⟩:=J.KK D;have t:ofBytes s=(s.map fun e=>[sc e]).flatten.map cx:=by rw[<-xB ρ,Ge]
      exact⟨_,σ,_,ρ,_,a st.n,I,d,.d (F _),by simp only[erase,cx,t,YN]⟩
     |false=>
      have l:=iQ a;have c:(σ++[cL.row 1 (s.map fun e=>[gq e])]).length=σ.length+1:=by simp
      have d:=J.newRow (uV (Φ:=Φ) (m:=σ.length) s);rw[xB]at d;refine⟨_,_,Φ,_,_,l,by rw[c];exact jL Φ ρ σ.length st.n,d,.ms (by rw[c];omega),?_⟩;simp only[erase,YV];rw[show iH ρ σ.length st.n σ.length=st.n from if_pos rfl]
    ·exact a.elim
   ·exact a.elim
  ·exact a.elim
 ·exact a.elim
inductive TA (Φ:Fz) (ρ:Nat->Nat) (σ:VS) (st:St) (K:VR->Prop) (r:Option AR):Prop
 |val (h:Am Φ ρ σ (fun v qv=>K (.val v qv)) r)
 |eE (v:V) (hk:K (.eE v)) (hv:eV Φ σ.length v) (hr:r=some (.eE (erase ρ v) st))
 |enter (f:FuncId) (args:List V) (hk:K (.enter f args)) (hv:eP Φ σ.length args) (hr:r=some (.enter f (cm ρ args)))
 |yield (l:Nat) (args:List V) (hk:K (.yield l args)) (hl:l<σ.length) (hv:eP Φ σ.length args) (hr:r=some (.yield (ρ l) (cm ρ args)))
 |recover (hk:K .recover) (hr:r=some .recover)
 |defer (d:e8) (hk:K (.defer d)) (hv:F7 Φ σ.length d) (hr:r=some (.defer (iv ρ d)))
theorem eP.append{e b:List V}(c:eP Φ m e)(d:eP Φ m b):eP Φ m (e++b):=fun f a=>(YU.1 a).elim (c f) (d f)
theorem Mh(O:Real Φ ρ σ st)(e:mJ Φ ρ σ.length ev lq){o:Oper}{Y:VR->Prop}(b:WZ C k ev o.op σ Y):TA Φ ρ σ st Y (h0 C lq o st):=by
 have t:∀{o:Oper},Ad C ev o.op σ (fun J=>Y (.val J σ))->TA Φ ρ σ st Y (h0 C lq o st):=by
  intro o u;obtain⟨J,d,a,c⟩:=lL O e u;exact .val ⟨J,σ,Φ,ρ,st,d,.refl _ _ _,O,a,c⟩
 obtain⟨dst,op,T,pos,M,R⟩:=o;dsimp only at b;unfold WZ at b;split at b
 ·obtain⟨J,d,a⟩:=cy b;obtain⟨c,h⟩:=e _ _ d;exact .val ⟨J,σ,Φ,ρ,st,a,.refl _ _ _,O,h,by simp only[h0,c];rfl⟩
 ·obtain⟨ae,d,a⟩:=cy b;obtain⟨g,n,a⟩:=cy a;obtain⟨c,h⟩:=e _ _ d;obtain⟨p,l⟩:=e _ _ n;obtain⟨E,D,L,i,N,P,_⟩:=gA O h l a;exact .val ⟨_,E,Φ,ρ,D,L,⟨Fz.le_refl _,fun _ _=>Z,om⟩,N,th,by simp only[h0,c,p];rw[P];rfl⟩
 ·obtain⟨m,d,a⟩:=cy b;obtain⟨g,n,a⟩:=cy a;obtain⟨J,F,a⟩:=cy a;obtain⟨c,h⟩:=e _ _ d;obtain⟨p,l⟩:=e _ _ n;obtain⟨G,H⟩:=e _ _ F;obtain⟨E,D,L,i,N,P⟩:=pR O l H a;exact .val ⟨_,E,Φ,ρ,D,L,⟨Fz.le_refl _,fun _ _=>Z,om⟩,N,th,by simp only[h0,c,p,G];rw[P];rfl⟩
 ·obtain⟨m,d,a⟩:=cy b;obtain⟨g,n,a⟩:=cy a;obtain⟨J,F,a⟩:=cy a;obtain⟨c,h⟩:=e _ _ d;obtain⟨p,l⟩:=e _ _ n;obtain⟨G,H⟩:=e _ _ F;obtain⟨E,D,L,i,N,P⟩:=pR O l H a;exact .val ⟨_,E,Φ,ρ,D,L,⟨Fz.le_refl _,fun _ _=>Z,om⟩,N,th,by simp only[h0,c,p,G];rw[P];rfl⟩
 ·rename_i X;split at b
  ·rename_i ab I;obtain⟨f,d,a⟩:=cy b;obtain⟨J,n,a⟩:=cy a;obtain⟨c,h⟩:=lK e d;obtain⟨p,l⟩:=e _ _ n;have s:h0 C lq {dst:=dst,op:=.call X,type:=T,pos:=pos,after:=M,guard:=R} st=kp C (erase ρ J) (cm ρ f) st:=by simp only[h0,c,I,p]
   rw[s];unfold Ac at a;split at a
   ·rename_i q first B
    cases l with
    |fn V W=>
    have U:eP Φ σ.length (first++f++B):=(eP.append V h).append W;unfold KF at a;cases K:C.ff.get q with
    |some ad=>
     rw[K]at a;have a:Y (.enter q (first++f++B)):=a;refine .enter q _ a U ?_;simp only[erase,kp,K,e9]
    |none=>
     rw[K]at a;simp only[Option.isSome_none,hz]at a;split at a
     ·rename_i j S;obtain⟨g,z,x,a⟩:=a;have Q:cm ρ first++cm ρ f++cm ρ B=j.map cx:=by rw[<-e9,<-e9,nc S,mc]
      have r:uS Φ g:=by cases g<;>first|(cases x;done)|constructor
      exact .val ⟨_,σ,Φ,ρ,st,a,.refl _ _ _,O,.d r,by simp only[erase,kp,K,Q,z];rfl⟩
     ·exact a.elim
   ·rename_i j;cases l with
    |rN S=>exact .yield j f a S h (by simp only[erase,kp])
   ·exact a.elim
  ·rename_i I;obtain⟨f,d,a⟩:=cy b;obtain⟨c,h⟩:=lK e d;have s:h0 C lq {dst:=dst,op:=.call X,type:=T,pos:=pos,after:=M,guard:=R} st=mV C X.argTypes.toList (cm ρ f) st:=by simp only[h0,c,I,iE]
   rw[s];exact .val (BW O h a)
  ·rename_i I;obtain⟨f,d,a⟩:=cy b;obtain⟨c,h⟩:=lK e d;exact .recover a (by simp only[h0,c,I,iE])
  ·exact t b
 ·rename_i X;obtain⟨f,d,a⟩:=cy b;obtain⟨c,h⟩:=lK e d;split at a
  ·rename_i ab I;obtain⟨J,n,a⟩:=cy a;obtain⟨p,l⟩:=e _ _ n;unfold ON at a;split at a
   ·rename_i q first B
    cases l with
    |fn V W=>exact .defer _ a ⟨W,eP.append V h⟩ (by simp only[h0,c,I,p,erase,zH,iv,e9])
   ·exact a.elim
  ·exact a.elim
 ·split at b
  ·rename_i A J aa;obtain⟨c,h⟩:=e _ _ aa;exact .eE _ b h (by simp only[h0,c,erase])
  ·exact b.elim
 ·split at b
  ·obtain⟨J,d,a⟩:=cy b;obtain⟨c,h⟩:=e _ _ d;refine .val ?_;have:=Eb (C:=C) (ρ:=ρ) O a;simpa only[h0,c]using this
  ·exact t b
 ·rename_i A j X;obtain⟨J,d,a⟩:=cy b;obtain⟨ac,v,y⟩:=cy a;obtain⟨c,_⟩:=e _ _ d;obtain⟨w,_⟩:=e _ _ v;have s:h0 C lq {dst:=dst,op:=.makeSlice A j X,type:=T,pos:=pos,after:=M,guard:=R} st=iq C A (erase ρ J) (erase ρ ac) st:=by simp only[h0,c,w]
  rw[s];exact .val (xA O y)
 ·split at b
  ·exact .val (Gh O e b)
  ·exact t b
end
structure Oa (rc zm:Rec):Prop where
 code:∀fc c fr ps st r,rc.code fc c fr ps st=some r->zm.code fc c fr ps st=some r
 call:∀f args BA ps st r,rc.call f args BA ps st=some r->zm.call f args BA ps st=some r
 round:∀l args st r,rc.round l args st=some r->zm.round l args st=some r
variable{u:ec} {y:Fr} {z:yb} {w:FC} {r:List Oper} {q:CR×ec×St} {x:List Value}
section
variable{C:dU} {rc zm:Rec} {cD:FuncId->List Value->Option Value}
theorem IT(e:Oa rc zm){o:Oper}{st:St}(c:kS C rc w o y u st=some z):kS C zm w o y u st=some z:=by
 unfold kS at c⊢;cases d:h0 C (iF y) o st with
 |none=>rw[d]at c;cases c
 |some l=>
  rw[d]at c;cases l with
  |enter f a=>
   simp only at c⊢;cases b:rc.call f a false .none st with
   |none=>rw[b]at c;cases c
   |some h=>rw[b]at c;rw[e.call _ _ _ _ _ _ b];exact c
  |yield m a=>
   simp only at c⊢;cases b:rc.round m a st with
   |none=>rw[b]at c;cases c
   |some h=>rw[b]at c;rw[e.round _ _ _ _ b];exact c
  |_=>exact c
theorem oR(c:Oa rc zm){o:Oper}{st:St}(a:ji C rc w r o y u st=some z):ji C zm w r o y u st=some z:=by
 unfold ji at a⊢;cases b:gw r y o with
 |none=>rw[b]at a;cases a
 |some d=>
  rw[b]at a;cases d with
  |true=>exact IT c a
  |false=>exact a
theorem yo(m:Oa rc zm):∀(e:List Oper) {b:Fr} {a:ec} {st:St} {f:Ex×Fr×ec×St},nF C rc w r e b a st=some f->nF C zm w r e b a st=some f:=by
 intro e;induction e with
 |nil=>intro b a st f c;exact c
 |cons n e h=>
  intro b a st f c;unfold nF at c⊢;cases d:ji C rc w r n b a st with
  |none=>rw[d]at c;cases c
  |some l=>
   rw[d]at c;rw[oR m d];cases l with
   |next b a st=>exact h c
   |eE o b a st=>exact c
theorem vU(M:Oa rc zm){s:List Nat}:∀(D:List Nat) {F:Nat} {b:List rF} {e:Fr} {d:ec} {st:St} {E:Ex×Fr×ec×St},eM C rc w r s D F b e d st=some E->eM C zm w r s D F b e d st=some E:=by
 intro D;induction D with
 |nil=>intro F b e d st E a;exact a
 |cons N D f=>
  intro F b e d st E a;unfold eM at a⊢;split at a
  ·rename_i I L n m;split at a
   ·rename_i l;split at a
    ·cases a
    ·rename_i h;cases c:ji C rc w r I e d st with
     |none=>rw[c]at a;cases a
     |some J=>
      rw[c]at a;simp only[n,m,l,h,oR M c];cases J with
      |next e d st=>exact f a
      |eE H e d st=>exact a
   ·rename_i l;split at a
    ·cases a
    ·rename_i h;split at a
     ·rename_i t c;first|exact f a|(simp only[n,m,l,h,c];exact f a)
     ·cases a
    ·rename_i h;split at a
     ·rename_i H G c;split at a
      ·cases a
      ·rename_i t B;split at a
       ·rename_i o;split at a
        ·rename_i K p;first|exact f a|(simp only[n,m,l,h,c,B,o,p];exact f a)
        ·cases a
       ·rename_i o;split at a
        ·rename_i p;first|exact f a|(simp only[n,m,l,h,c,B,o,p];exact f a)
        ·cases a
     ·cases a
  ·cases a
theorem Gk(e:Oa rc zm){a:Array Oper}{st:St}{d:Ex×Fr×ec×St}(c:region C rc w a k y u st=some d):region C zm w a k y u st=some d:=by
 unfold region at c⊢;cases k with
 |false=>exact yo e _ c
 |true=>
  simp only at c⊢;cases b:eM C rc w a.toList (pK a.toList).bs (pK a.toList).order 0 [] y u st with
  |none=>rw[b]at c;cases c
  |some f=>rw[b]at c;rw[vU e _ b];exact c
theorem gG(I:Oa rc zm):∀(E:Code) {d:Fr} {b:ec} {st:St} {l:Ex×Fr×ec×St},code C rc w E d b st=some l->code C zm w E d b st=some l:=by
 intro E;induction E with
 |region id K H=>intro d b st l a;exact Gk I a
 |seq J B e h=>
  intro d b st l a;unfold code at a⊢;cases c:code C rc w J d b st with
  |none=>rw[c]at a;cases a
  |some m=>
   rw[c]at a;rw[e c];obtain⟨m,n,D,f⟩:=m;cases m with
   |norm=>exact h a
   |_=>exact a
 |cond E J B e h=>
  intro d b st l a;unfold code at a⊢;split at a
  ·exact e a
  ·exact h a
  ·cases a
 |block id B s=>
  intro d b st l a;unfold code at a⊢;cases c:code C rc w B d b st with
  |none=>rw[c]at a;cases a
  |some m=>rw[c]at a;rw[s c];exact a
 |loop B s=>
  intro d b st l a;unfold code at a⊢;cases c:code C rc w B d b st with
  |none=>rw[c]at a;cases a
  |some m=>
   rw[c]at a;rw[s c];obtain⟨m,n,D,f⟩:=m;cases m with
   |norm=>exact I.code _ _ _ _ _ _ a
   |_=>exact a
 |rangeFunc Q F t G=>
  intro d b st l a;unfold code at a⊢;split at a
  ·rename_i M first p P n f c L
   split at a
   ·cases a
   ·rename_i O N;cases o:rc.call M (first.toList++[.func (.yield P) #[] #[]]++p.toList) false .none f with
    |none=>rw[o]at a;cases a
    |some m=>rw[o]at a;rw[I.call _ _ _ _ _ _ o];exact a
  ·cases a
 |_=>intro d b st l a;exact a
theorem vV(o:Oa rc zm):∀(c:List Deferred) {m:AM.Mode} {st:St} {d:AM.Mode×St},jI C rc c m st=some d->jI C zm c m st=some d:=by
 intro c;induction c with
 |nil=>intro m st d a;exact a
 |cons s c b=>
  intro m st d a;unfold jI at a⊢;split at a
  ·split at a
   ·exact b a
   ·cases a
  ·rename_i t f _;split at a
   ·rename_i p B n l h e;rw[h,o.call _ _ _ _ _ _ e];exact b a
   ·cases a
  ·cases a
theorem oS(d:Oa rc zm){c:FI}{m:AM.Mode}{st:St}(b:finish C rc c m y u st=some q):finish C zm c m y u st=some q:=by
 unfold finish at b⊢;cases a:jI C rc y.df m st with
 |none=>rw[a]at b;cases b
 |some e=>rw[a]at b;rw[vV d _ a];exact b
theorem IU(d:Oa rc zm){f:FuncId}{st:St}(a:vx C rc f x k u st=some q):vx C zm f x k u st=some q:=by
 unfold vx at a⊢;split at a
 ·cases a
 ·rename_i c o;split at a
  ·cases a
  ·rename_i n;cases b:code C rc ⟨f,c.nt,none,k⟩ c.body ⟨eD 0 x .nil,[]⟩ u st with
   |none=>rw[b]at a;cases a
   |some e=>
    rw[b]at a;rw[gG d _ b];obtain⟨e,h,m,l⟩:=e;cases e with
    |norm=>exact oS d a
    |ret=>exact oS d a
    |panic p=>exact oS d a
    |exit id=>cases a
theorem Gl(s:Oa rc zm){l:Nat}{st:St}{o:CR×St}(a:rX C rc l x st=some o):rX C zm l x st=some o:=by
 unfold rX at a⊢;split at a
 ·rename_i b B;split at a
  ·cases a
  ·cases a
  ·rename_i F n E t;simp only at a⊢;cases d:code C rc ⟨b.fn,b.nt,some l,false⟩ b.assign ⟨n,[]⟩ .none st with
   |none=>rw[d]at a;cases a
   |some m=>
    rw[d]at a;rw[gG s _ d];obtain⟨m,f,p,e⟩:=m;cases m with
    |norm=>
     simp only at a⊢;split at a
     ·rename_i h D;split at a
      ·cases c:code C rc ⟨b.fn,b.nt,some l,false⟩ b.body f .none (e.put l (.loop {h with state:=.busy}))with
       |none=>rw[c]at a;cases a
       |some G=>rw[c]at a;rw[gG s _ c];exact a
      ·cases a
     ·cases a
    |_=>exact a
 ·cases a
theorem Mi:∀d,Oa (iS C cD d) (iS C cD (d+1)):=by
 intro d;induction d with
 |zero=>exact⟨fun _ _ _ _ _ _ a=>(by cases a),fun _ _ _ _ _ _ a=>(by cases a),fun _ _ _ _ a=>(by cases a)⟩
 |succ d b=>
  refine⟨fun l m n e st f a=>gG b m a,fun o c h e st f a=>?_,fun p c st f a=>Gl b a⟩;simp only[iS]at a⊢;split at a
  ·exact a
  ·exact IU b a
theorem gP{n m:Nat}(c:n<=m):Oa (iS C cD n) (iS C cD m):=by
 induction c with
 |refl=>exact⟨fun _ _ _ _ _ _ a=>a,fun _ _ _ _ _ _ a=>a,fun _ _ _ _ a=>a⟩
 |step _ b=>
  have:=Mi (C:=C) (cD:=cD) ‹_›;exact⟨fun _ _ _ _ _ _ a=>this.code _ _ _ _ _ _ (b.code _ _ _ _ _ _ a),fun _ _ _ _ _ _ a=>this.call _ _ _ _ _ _ (b.call _ _ _ _ _ _ a),fun _ _ _ _ a=>this.round _ _ _ _ (b.round _ _ _ _ a)⟩
end
end Go.VM
