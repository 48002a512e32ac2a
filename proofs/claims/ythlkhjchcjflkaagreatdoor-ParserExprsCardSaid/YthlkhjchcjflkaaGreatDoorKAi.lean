/- Part of the proof. -/
import Derived.Test.YthlkhjchcjflkaaGreatDoorKAh
set_option linter.all false
set_option maxHeartbeats 16000000
set_option maxRecDepth 100000
open Bool renaming and_eq_true->Yl
open Int renaming ofNat->Ym,ofNat_eq_natCast->Yo
open Nat renaming le_refl->Yn,le_of_ble_eq_true->Yq,not_lt_zero->Ys,ble->YA,le_max_right->YB,le_max_left->YD,lt_of_succ_lt_succ->YE,le_trans->YF,eq_of_beq_eq_true->YG
open List renaming getElem?_eq_some_iff->Yp,map_congr_left->Yr,length_set->Yt,range'->Yu,mem_cons->Yv,length_take->Yw,length_cons->Yx,mem_cons_of_mem->Yy,map_id->Yz,cons_append->YC,mem_of_mem_take->YH,mem_of_mem_drop->YI,getElem?_set_ne->YJ,mem_cons_self->YK
namespace Go.VM
open Go.AM
mutual
theorem AA:∀v:V,iv (fun i=>i) v=v
 |.d _=>by simp only[iv]
 |.bp _ _=>by simp only[iv]
 |.ptr _ _ _ _=>by simp only[iv]
 |.fp _ _ _=>by simp only[iv]
 |.ms _ _ _ _ _=>by simp only[iv]
 |.map _=>by simp only[iv]
 |.fn _ a c=>by simp only[iv,pM a,pM c]
 |.so _=>by simp only[iv]
 |.iface _ v=>by simp only[iv,AA v]
 |.agg l=>by simp only[iv,pM l]
 |.dN l=>by simp only[iv,pM l]
theorem pM:∀l:List V,iw (fun i=>i) l=l
 |[]=>by simp only[iw]
 |v::l=>by simp only[iw,AA v,pM l]
end
variable{y:V} {t:cZ} {h:List V} {w:Tm} {e:List gd} {k:uw} {d:Ab->Tm->List gd->mg->VS->Prop} {q:mg}
section
variable{C:eD} {cO:FuncId->List Value->Option Value} {Φ dE:Fz} {ρ dx:Nat->Nat} {σ:VS} {st:St} {m m':Nat}
theorem GP{b M:Nat}(f:fJ Φ M y)(a:bd b y=true):fJ Φ b y:=lN (π:=fun i=>i) (M:=M) y (by rw[AA];exact f) a
theorem Jq{b M:Nat}{l:List V}(f:fB Φ M l)(a:gC b l=true):fB Φ b l:=km (π:=fun i=>i) (M:=M) l (by rw[pM];exact f) a
theorem QM(o:cU):eC (fun i=>i) o=o:=by
 cases o with
 |box n=>simp only[eC,pM]
 |row c f=>simp only[eC];congr 1;rw[Yr (g:=id) (fun j _=>pM j),Yz]
 |map c s=>simp only[eC];congr 1;rw[Yr (g:=id) (fun j _=>by simp only[Jp,AA];rfl),Yz]
 |loop p=>
  simp only[eC];have:∀a:Tm,r6 (fun i=>i) a=a:=by
   intro a;induction a with
   |nil=>rfl
   |cons l a b=>obtain⟨m,v⟩:=l;simp only[r6,AA,b]
  rw[this]
 |fg m=>rfl
 |gone=>rfl
def mZ(a:Nat):VS->Nat->Bool
 |_,0=>true
 |[],_+1=>true
 |o::σ,b+1=>gY a o&&mZ a σ b
theorem zp:∀{σ:VS} {c n:Nat},mZ c σ n=true->∀{i:Nat} {f:cU},i<n->σ[i]?=some f->gY c f=true:=by
 intro σ;induction σ with
 |nil=>intro c n _ i f _ b;simp at b
 |cons l σ g=>
  intro c n a i f j b;cases n with
  |zero=>omega
  |succ n=>
   simp only[mZ,Yl]at a;cases i with
   |zero=>simp at b;subst b;exact a.1
   |succ i=>exact g (n:=n) a.2 (YE j) (by simpa using b)
theorem Real.take(c:Real Φ ρ σ st){n:Nat}(O:n<=σ.length)(D:mZ n σ n=true):Real Φ ρ (σ.take n) st:=by
 have b:∀i m,(σ.take n)[i]?=some m->i<n/\σ[i]?=some m:=fun i m a=>by
  rw[List.getElem?_take]at a;split at a
  ·rename_i c;exact⟨c,a⟩
  ·cases a
 have o:(σ.take n).length=n:=by rw[Yw];omega
 refine⟨c.wf,c.wm,c.fz,c.NE,c.r4,c.NF,fun i v j J K f p a g=>c.I9 i v j J K f p (b _ _ a).2 g,fun i m a s=>?_,fun i E F L a z=>c.inj i E F L (b _ _ a).2 (b _ _ z).2,fun i v j J K f p C N a g I H A=>?_⟩
 ·obtain⟨G,B⟩:=b _ _ a;obtain⟨l,x⟩:=c.obj i m B s;refine⟨?_,x⟩;rw[o];exact FF.Ou (π:=fun i=>i) (M:=σ.length) (by rw[QM];exact l) (zp D G B)
 ·obtain⟨l,x⟩:=c.en i v j J K f p C N (b _ _ a).2 g I H A;exact⟨l,fun E m z s=>x E m (b _ _ z).2 s⟩
structure cR (m:Nat) (r:cZ) (σ:VS) (K:cZ->VS->Prop):Prop where
 go:∀Φ ρ st,Real Φ ρ σ st->B6 Φ σ.length r->∃r' dE dx ra,Φ.le dE/\(∀i,i<m->dx i=ρ i)/\m<=ra.length/\Real dE dx ra st/\B6 dE ra.length r'/\e3 dx r'=e3 ρ r/\K r' ra
theorem cR.now{K:cZ->VS->Prop}(a:YA m σ.length=true)(b:K t σ):cR m t σ K:=
 ⟨fun Φ ρ st f c=>⟨t,Φ,ρ,σ,Fz.le_refl _,fun _ _=>rfl,Yq a,f,c,rfl,b⟩⟩
def Ov(b:Nat):cZ->Bool
 |.ret a=>bd b a
 |.fO a=>bd b a
theorem cR.drop(n:Nat){K:cZ->VS->Prop}(b:YA n σ.length=true)(i:mZ n σ n=true)(c:Ov n t=true)(g:cR m t (σ.take n) K):cR m t σ K:=by
 refine⟨fun Φ ρ st j f=>?_⟩;have b:=Yq b;have a:(σ.take n).length=n:=by rw[Yw];omega
 refine g.go Φ ρ st (j.take b i) ?_;rw[a];cases t with
 |ret l=>exact GP (M:=σ.length) f c
 |fO l=>exact GP (M:=σ.length) f c
mutual
def iW(i b:Nat)(l:List (List D)):V->V
 |.ms j es k len cap=>match Nat.beq j i with
  |true=>.d (.ps b (k*es) es cap ((l.drop k).take len))
  |false=>.ms j es k len cap
 |.fn f a c=>.fn f (wx i b l a) (wx i b l c)
 |.iface t v=>.iface t (iW i b l v)
 |.agg vs=>.agg (wx i b l vs)
 |.dN vs=>.dN (wx i b l vs)
 |v=>v
def wx(i b:Nat)(l:List (List D)):List V->List V
 |[]=>[]
 |v::vs=>iW i b l v::wx i b l vs
end
mutual
def pi(i BI n:Nat):V->Prop
 |.ms j es k len _=>j=i->es=BI/\k+len<=n
 |.fn _ a c=>pN i BI n a/\pN i BI n c
 |.iface _ v=>pi i BI n v
 |.agg vs=>pN i BI n vs
 |.dN vs=>pN i BI n vs
 |_=>True
def pN(i BI n:Nat):List V->Prop
 |[]=>True
 |v::vs=>pi i BI n v/\pN i BI n vs
end
section
variable{i b BI:Nat} {l:List (List D)} {f p M:Nat}
mutual
theorem oq(hb:b=ρ i)(QN:Φ b=some (.cells (l.flatten.map cH) BI f p))(hd:Φ.B0 b)(hl:∀e∈l,e.length=BI)(hs:∀e∈l,∀d∈e,vb Φ d):
  ∀v:V,fJ Φ M v->pi i BI l.length v->fJ Φ M (iW i b l v)/\erase ρ (iW i b l v)=erase ρ v
 |.ms j es k len cap,hv,ho=>by
  simp only[pi]at ho;unfold iW;split
  ·rename_i hj;have:=YG hj;subst this;obtain⟨rfl,hlen⟩:=ho rfl;have V4:((l.drop k).take len).length=len:=by rw[Yw,List.length_drop];omega
   refine⟨.d (.ps QN (fun e he=>hl e (YI (YH he))) ?_ ?_ (fun e he=>hs e (YI (YH he))) hd),?_⟩
   ·rw[V4,List.length_map,qy hl,<-Nat.add_mul];exact Nat.mul_le_mul_right _ hlen
   ·rw[V4,<-List.map_drop,<-List.map_take,GG hl]
   ·simp only[erase,cH,V4,hb]
  ·exact⟨hv,Z⟩
 |.fn f' a c,hv,ho=>by
  simp only[pi]at ho;simp only[iW];cases hv with
  |fn h1 h2=>
   obtain⟨x1,x2⟩:=qH hb QN hd hl hs a h1 ho.1;obtain⟨y1,y2⟩:=qH hb QN hd hl hs c h2 ho.2;exact⟨.fn x1 y1,by simp only[erase,x2,y2]⟩
 |.iface t v,hv,ho=>by
  simp only[pi]at ho;simp only[iW];cases hv with
  |iface h1=>
   obtain⟨x1,x2⟩:=oq hb QN hd hl hs v h1 ho;exact⟨.iface x1,by simp only[erase,x2]⟩
 |.agg vs,hv,ho=>by
  simp only[pi]at ho;simp only[iW];cases hv with
  |agg h1=>
   obtain⟨x1,x2⟩:=qH hb QN hd hl hs vs h1 ho;exact⟨.agg x1,by simp only[erase,x2]⟩
 |.dN vs,hv,ho=>by
  simp only[pi]at ho;simp only[iW];cases hv with
  |dN h1=>
   obtain⟨x1,x2⟩:=qH hb QN hd hl hs vs h1 ho;exact⟨.dN x1,by simp only[erase,x2]⟩
 |.d _,hv,_=>by simp only[iW];exact⟨hv,tv⟩
 |.bp _ _,hv,_=>by simp only[iW];exact⟨hv,tv⟩
 |.ptr _ _ _ _,hv,_=>by simp only[iW];exact⟨hv,tv⟩
 |.fp _ _ _,hv,_=>by simp only[iW];exact⟨hv,tv⟩
 |.map _,hv,_=>by simp only[iW];exact⟨hv,tv⟩
 |.so _,hv,_=>by simp only[iW];exact⟨hv,tv⟩
theorem qH(hb:b=ρ i)(QN:Φ b=some (.cells (l.flatten.map cH) BI f p))(hd:Φ.B0 b)(hl:∀e∈l,e.length=BI)(hs:∀e∈l,∀d∈e,vb Φ d):
  ∀vs:List V,fB Φ M vs->pN i BI l.length vs->fB Φ M (wx i b l vs)/\cx ρ (wx i b l vs)=cx ρ vs
 |[],_,_=>⟨fun _ h=>by simp[wx]at h,by simp only[wx]⟩
 |v::vs,hv,ho=>by
  simp only[pN]at ho;obtain⟨x1,x2⟩:=oq hb QN hd hl hs v (hv v (YK ..)) ho.1;obtain⟨y1,y2⟩:=qH hb QN hd hl hs vs (fun x hx=>hv x (Yy _ hx)) ho.2;simp only[wx];refine⟨fun x hx=>?_,by simp only[cx,x2,y2]⟩;rcases Yv.1 hx with e|hx
  ·rw[e];exact x1
  ·exact y1 x hx
end
end
def sU(i b:Nat)(l:List (List D)):cZ->cZ
 |.ret a=>.ret (iW i b l a)
 |.fO a=>.fO (iW i b l a)
def xS(i BI n:Nat):cZ->Prop
 |.ret a=>pi i BI n a
 |.fO a=>pi i BI n a
theorem cR.freeze(i:Nat){o:cZ}{K:cZ->VS->Prop}{es:Nat}{els:List (List V)}{l:List (List D)}(n:nth σ i=some (.row es els))(A:pC els=some l)(z:xS i es l.length o) 
  (N:∀b,cR m (sU i b l o) (σ.set i .gone) K):cR m o σ K:=by
 refine⟨fun Φ ρ st X F=>?_⟩;rw[cz]at n;obtain⟨c,f,p,v⟩:=pI X n;have T:=(X.obj i _ n rfl).2;have B:cx ρ els.flatten=l.flatten.map cH:=by rw[gw A,sR]
 rw[B]at v;have S:=X.freeze n v;have j:=tI (o:=gz.cells (l.flatten.map cH) es f p) T;rw[gw A]at c;obtain⟨d1,d2⟩:=c.d;have x:∀e∈l,∀R∈e,vb (nC Φ (ρ i) (.cells (l.flatten.map cH) es f p)) R:=fun e Y R G=>(d2 e Y R G).mono j;have s:(σ.set i .gone).length=σ.length:=Yt;have E:∀a,fJ Φ σ.length a->pi i es l.length a->fJ (nC Φ (ρ i) (.cells (l.flatten.map cH) es f p)) σ.length (iW i (ρ i) l a)/\erase ρ (iW i (ρ i) l a)=erase ρ a:=
  fun a P J=>oq (Φ:=nC Φ (ρ i) (.cells (l.flatten.map cH) es f p)) (f:=f) (p:=p) rfl (by rw[kQ];exact if_pos rfl) (Or.inl rfl) d1 x a (P.mono j (Yn _)) J
 have g:B6 (nC Φ (ρ i) (.cells (l.flatten.map cH) es f p)) (σ.set i .gone).length (sU i (ρ i) l o)/\e3 ρ (sU i (ρ i) l o)=e3 ρ o:=by
  rw[s];cases o with
  |ret a=>obtain⟨M,b⟩:=E a F z;exact⟨M,by simp only[sU,e3,b]⟩
  |fO a=>obtain⟨M,b⟩:=E a F z;exact⟨M,by simp only[sU,e3,b]⟩
 obtain⟨I,dE,dx,C,U,Q,W,d,H,O,L⟩:=(N (ρ i)).go _ ρ st S g.1;exact⟨I,dE,dx,C,j.trans U,Q,W,d,H,by rw[O];exact g.2,L⟩
theorem cy(x:Nat->Bool){f:FuncId}{K:cZ->VS->Prop}(a:∀l,cO f l=none)(z:As C cO x f h false .none σ fun M _ c=>cR σ.length M c K):b3 C cO f h σ K:=by
 refine⟨fun Φ ρ st O I=>?_⟩;obtain⟨N,M,n,dE,dx,c,b,G,m,H,J,_,s⟩:=sT z O I trivial;obtain⟨v,j,g,o,E,A,L,D,F,p,B⟩:=s.go dE dx b H J;refine⟨N+1,v,dj dx n,b,j,g,o,?_,⟨m.le.trans E,fun i a=>(A i a).trans (m.sg i a),L⟩,D,F,B⟩;simp only[jr,a];rw[p];exact G
def Ew(b:Nat):List gd->Bool
 |[]=>true
 |⟨.D1 f,a⟩::l=>Nat.blt f b&&gC b a&&Ew b l
 |⟨.fn _ c,a⟩::l=>gC b c&&gC b a&&Ew b l
theorem KX{n M:Nat}:∀{l:List gd},Ew n l=true->(∀c∈l,Gu Φ M c)->∀c∈l,Gu Φ n c:=by
 intro l;induction l with
 |nil=>intro _ _ c i;simp at i
 |cons o l j=>
  intro b i c a;obtain⟨p,m⟩:=o;have g:=i _ (YK ..);cases p with
  |D1 v=>
   simp only[Ew,Yl]at b;rcases Yv.1 a with rfl|a
   ·exact⟨gV b.1.1,Jq g.2 b.1.2⟩
   ·exact j b.2 (fun c a=>i c (Yy _ a)) c a
  |fn f s=>
   simp only[Ew,Yl]at b;rcases Yv.1 a with rfl|a
   ·exact⟨Jq (show fB Φ M s from g.1) b.1.1,Jq g.2 b.1.2⟩
   ·exact j b.2 (fun c a=>i c (Yy _ a)) c a
def QO(a:Nat):mg->Bool
 |.gu b=>bd a b
 |_=>true
theorem b5.drop(n:Nat){c:Code}{f:Tm}(E:qF f w)(g:YA n σ.length=true)(l:YA k.fl n=true)(x:mZ n σ n=true)(s:Aw n f=true)(j:Ew n e=true)(m:QO n q=true) 
  (H:b5 C cO k c f e q (σ.take n) d):b5 C cO k c w e q σ d:=by
 refine⟨fun Φ ρ st z D p i A B=>?_⟩;have g:=Yq g;have a:(σ.take n).length=n:=by rw[Yw];omega
 refine H.go Φ ρ st z (D.take g x) (fun F v o=>?_) ⟨i.1,?_⟩ ?_ ⟨B.1,by rw[a];exact Yq l⟩
 ·obtain⟨G,b⟩:=p F v (oR E F v o);rw[a];exact⟨G,GP b (xR s o)⟩
 ·rw[a];exact KX j i.2
 ·rw[a];cases q with
  |gu v=>exact GP (M:=σ.length) A m
  |none=>trivial
  |qn=>trivial
theorem xT:∀(i:List Tmp) (a:List V) (f:Nat) {g:Tm} {o:Tr Value} {p:Tm->Prop},rf i a f g p->hL Φ ρ m g o->fB Φ m a->∃c j,p c/\mw i (cx ρ a) f o=some j/\hL Φ ρ m c j:=by
 intro i;induction i with
 |nil=>
  intro a f g o p b l n;cases a with
  |nil=>exact⟨g,o,b,rfl,l⟩
  |cons _ _=>exact b.elim
 |cons E i B=>
  intro a f g o p b l n;cases a with
  |nil=>exact b.elim
  |cons C a=>
   unfold rf at b;split at b
   ·rename_i v;obtain⟨c,j,x,s,A⟩:=B a f b (l.set (n C sm)) (fun D z=>n D (by simp[z]));exact⟨c,j,x,by simp only[mw,cx,v];exact s,A⟩
   ·exact b.elim
theorem nD{l:Nat}{b:Bool}{s:LoopState}{gu:Option Code}{K:cZ->VS->Prop}(c:qC l b s gu e σ K)(o:Real Φ ρ σ st){i:List Deferred}(n:Ai Φ ρ σ.length e i):
  ∃f g,st.get (ρ l)=some (.loop f)/\i=[]/\K (.ret (.d (.bool b))) g/\g.length=σ.length/\Real Φ ρ g (st.put (ρ l) (.loop {f with state:=s,pending:=gu})):=by
 unfold qC at c;split at c
 ·rename_i v j;rw[cz]at j;obtain⟨⟨f,m,a⟩,_⟩:=o.obj l _ j rfl;obtain⟨_,c⟩:=kl _ _ _ _ c;refine⟨f,_,m,n.1,c,jg _ _,o.put j Z Z Z (fun _ _ _ _ p=>by cases p) ⟨{f with state:=s,pending:=gu},by rw[de,if_pos rfl],⟨rfl,rfl,a.fn,a.tm,a.nt,a.params,a.assign,a.body,a.defers,a.fq⟩⟩⟩
 ·exact c.elim
theorem h7.intro{l:Nat}{f:List V}{K:cZ->VS->Prop}(p:Oq C cO l f σ K):h7 C cO l f σ K:=by
 refine⟨fun Φ ρ st av aC y=>?_⟩;unfold Oq KU at p;split at p
 ·rename_i H am;rw[cz]at am;obtain⟨⟨c,ad,g⟩,_⟩:=av.obj l _ am rfl;split at p
  ·exact p.elim
  ·rename_i aA aq;obtain⟨aK,aJ,p,u,ao⟩:=xT H.params f H.nt p g.tm aC;have W:vg σ.length ⟨H.fn,H.nt,some l,false,H.fz,σ.length⟩:=⟨fun aL ay=>by cases ay;exact y,Yn _⟩;obtain⟨S,aN,az,ai,I,ah,ak,aD,an,ar,aG,aj,j,r,U,aM,rfl⟩:=qE H.assign p (fr:=⟨aJ,[]⟩) ⟨av,ao,⟨rfl,fun _ av=>by simp at av⟩,tv⟩ W;cases aD with
   |norm=>
    simp only at j;split at j
    ·rename_i ac L;rw[cz]at L;obtain⟨⟨F,N,b⟩,_⟩:=U.real.obj l _ L rfl;split at j
     ·rename_i J;obtain⟨_,j⟩:=kl _ _ _ _ j;have Y:I l=ρ l:=r.sg l y;have aa:=U.real.put (o':=.loop {ac with state:=.busy}) (a:=.loop {F with state:=.busy}) L rfl rfl rfl (fun _ _ _ _ ay=>by cases ay)
       ⟨{F with state:=.busy},by rw[de,if_pos rfl],⟨rfl,b.pending,b.fn,b.tm,b.nt,b.params,b.assign,b.body,b.defers,b.fq⟩⟩
      have af:SR ai I (ah.set l (.loop {ac with state:=.busy})) (ak.put (I l) (.loop {F with state:=.busy})) an ar .none aj:=⟨aa,by rw[jg];exact U.tm,by rw[jg];exact U.df,tv⟩;have P:=(r.GL W);obtain⟨T,aO,ab,o,i,e,d,q,aI,ag,aH,X,G,ap,n,aF,rfl⟩:=qE H.body j af (by rw[jg];exact P.2);rw[P.1]at ab;have A:i l=ρ l:=(ap.sg l y).trans Y;have B:iC Φ ρ σ.length o i e.length:=r.then ap (Yn _);have E:=gO (gP (C:=C) (cO:=cO) (YD S T)) _ az;have s:=gO (gP (C:=C) (cO:=cO) (YB S T)) _ ab;have k:ez ρ ⟨H.fn,H.nt,some l,false,H.fz,σ.length⟩=⟨c.fn,c.nt,some (ρ l),false⟩:=by rw[g.fn,g.nt];rfl
      rw[k]at E s;rw[Y]at s N;have ax:H.assign=c.assign:=g.assign.symm;have aB:H.body=c.body:=g.body.symm;rw[ax]at E;rw[aB]at s;have R:mw c.params (cx ρ f) c.nt c.tm=some aJ:=by rw[g.params,g.nt];exact u
      have w:C.ff.get c.fn=some aA:=by rw[g.fn];exact aq
      have t:F.state=.ready:=by rw[b.state];exact J
      have D:∀aw,(match(generalizing:=false) ey i q,X,d with
        |.norm,v,st=>match st.get (ρ l),v.df with
         |some (.loop c),[]=>some (CR.ret (.bool true),st.put (ρ l) (.loop {c with state:=.ready,pending:=none}))
         |_,_=>none
        |.ret,v,st=>match st.get (ρ l),v.df with
         |some (.loop c),[]=>some (.ret (.bool false),st.put (ρ l) (.loop {c with state:=.done,pending:=some .ret}))
         |_,_=>none
        |.exit id,v,st=>match st.get (ρ l),v.df with
         |some (.loop c),[]=>some (.ret (.bool false),st.put (ρ l) (.loop {c with state:=.done,pending:=some (.exit id)}))
         |_,_=>none
        |.panic aE,v,st=>match v.df with
         |[]=>some (.fO aE,st)
         |_=>none)=some aw->(jr C cO (max S T+1)).round (ρ l) (cx ρ f) st=some aw:=by
       intro aw au;show sA C (jr C cO (max S T)) (ρ l) (cx ρ f) st=some aw;unfold sA;simp only[dj,ey]at E;simp only[dj]at s;simp only[ad,w,R,E,N,t,s];cases q<;>simp only[ey]at au⊢ <;>exact au
      cases q with
      |norm=>
       obtain⟨h,m,z,O,Q,M,x⟩:=nD G n.real n.df;rw[A]at z x;exact⟨_,.ret (.d (.bool true)),_,o,i,m,D _ (by simp only[ey,z,O];rfl),by rw[M];exact B,x,.d (.bool _),Q⟩
      |ret=>
       obtain⟨h,m,z,O,Q,M,x⟩:=nD G n.real n.df;rw[A]at z x;exact⟨_,.ret (.d (.bool false)),_,o,i,m,D _ (by simp only[ey,z,O];rfl),by rw[M];exact B,x,.d (.bool _),Q⟩
      |exit id=>
       obtain⟨h,m,z,O,Q,M,x⟩:=nD G n.real n.df;rw[A]at z x;exact⟨_,.ret (.d (.bool false)),_,o,i,m,D _ (by simp only[ey,z,O];rfl),by rw[M];exact B,x,.d (.bool _),Q⟩
      |panic aE=>
       simp only at G;cases ag with
       |nil=>
        have ae:X.df=[]:=n.df.1;exact⟨_,.fO aE,d,o,i,e,D _ (by simp only[ey,ae];rfl),B,n.real,aF,G⟩
       |cons _ _=>exact G.elim
     ·exact j.elim
    ·exact j.elim
   |_=>exact j.elim
 ·exact p.elim
theorem b3.run{f:FuncId}{args:List D}{K:cZ->VS->Prop}(a:b3 C cO f (args.map V.d) [] K)(G:∀Φ,∀B∈args,vb Φ B):
  ∃E v j g dx l,(jr C cO E).call f (args.map cH) false .none ⟨.nil,0,.nil⟩=some (e3 dx v,j,g)/\K v l:=by
 have c:∀n,(⟨.nil,0,.nil⟩:St).get n=none:=fun n=>oF n;have m:∀n,(⟨.nil,0,.nil⟩:St).fm.get n=none:=fun n=>oF n;have F:Real ⟨fun _=>none,fun _=>False,fun _=>False⟩ (fun _=>0) [] ⟨.nil,0,.nil⟩:=by
  refine⟨⟨fun b A a=>?_,fun b O P f p a=>?_,fun f o a=>?_⟩,⟨fun f o n a=>?_,fun f o n A a=>?_⟩,fun b A a=>(by cases a),fun b a=>(by cases a),fun f a=>a.elim,fun n N _ _ _ _ _ _ _ a=>(by cases a),fun i _ _ _ _ _ _ a=>(by simp at a),fun i A a=>(by simp at a),fun i M I J a=>(by simp at a),fun i _ _ _ _ _ _ _ _ a=>(by simp at a)⟩
  ·rw[c]at a;cases a
  ·rw[c]at a;cases a
  ·rw[m]at a;cases a
  ·rw[m]at a;cases a
  ·rw[m]at a;cases a
 obtain⟨E,v,j,g,dE,dx,l,s,_,_,_,z⟩:=a.go _ _ _ F (fun L H=>by obtain⟨B,x,rfl⟩:=List.mem_map.1 H;exact .d (G _ B x));rw[nh]at s;exact⟨E,v,j,g,dx,l,s,z⟩
end
def Jr:Nat->Bool:=fun _=>false
theorem aZ{b:Bool}{p f:Prop}(a:b=true->p)(c:b=false->f):hT p f b:=by
 cases b
 ·exact c Z
 ·exact a Z
theorem a8{b:Bool}{p f:Prop}(c:b=true)(a:p):hT p f b:=by rw[c];exact a
theorem a1{b:Bool}{p c:Prop}(f:b=false)(a:c):hT p c b:=by rw[f];exact a
theorem a7{p b:Prop}(c:p)(a:b):jI p b:=⟨c,a⟩
theorem bZ{n:Int}{m:Nat}{b:Nat->Prop}(c:n=Ym m)(a:b m):Gr n b:=⟨m,c,a⟩
theorem b1{p b:Prop}(a:b)(c:p:=by repeat' (first|exact tv|exact rfl|refine bZ rfl ?_|refine And.intro ?_ ?_)):jI p b:=⟨c,a⟩
theorem b7{a:Type}{p:a->Prop}{f:a->Prop}(b:a)(g:p b)(c:f b):∃b,p b/\f b:=⟨b,g,c⟩
variable{u:Prop}
theorem vI(a:u:=by simp only[List.length_map,List.length_take,List.length_drop,List.length_append,List.length_cons,List.length_nil,u7];omega):u:=a
theorem gM(a:u:=by simp only[List.length_map,List.length_take,List.length_drop,List.length_append,List.length_cons,List.length_nil,ju,u7];omega):u:=a
theorem b4{p b:Prop}(a:b)(c:p:=by repeat' (first|exact tv|exact rfl|refine bZ rfl ?_|with_reducible assumption|exact Nat.zero_le _|exact Nat.le_refl _|exact Nat.le_of_ble_eq_true rfl|refine bZ (by with_reducible assumption) ?_|refine b7 _ rfl ?_|refine b7 _ (by with_reducible assumption) ?_|refine a8 (by with_reducible assumption) ?_|refine a1 (by with_reducible assumption) ?_|refine a7 ?_ ?_|refine And.intro ?_ ?_|refine UM ?_ (Nat.le_of_ble_eq_true rfl)|refine UN ?_|refine b7 _ (by assumption) ?_|refine bZ (by assumption) ?_|assumption|exact vI|omega)):jI p b:=⟨c,a⟩
theorem e4{b:Bool}{p f c:Prop}(a:c)(g:(b=true/\c=p)∨(b=false/\c=f):=by first|exact .inl ⟨by with_reducible assumption,rfl⟩|exact .inr ⟨by with_reducible assumption,rfl⟩):hT p f b:=by
 rcases g with⟨rfl,rfl⟩|⟨rfl,rfl⟩<;>exact a
theorem rk{b:Bool}{p f c:Prop}(a:c)(g:(b=true/\c=p)∨(b=false/\c=f):=by first|exact .inl ⟨rfl,rfl⟩|exact .inr ⟨rfl,rfl⟩|exact .inl ⟨lO vI,rfl⟩|exact .inr ⟨n5 vI,rfl⟩|exact .inr ⟨wy vI,rfl⟩):hT p f b:=e4 a g
theorem Js{b:Type}{p g i:b->Prop}(a:b)(j:p a)(f:g a)(c:i a):∃a,p a/\g a/\i a:=⟨a,j,f,c⟩
theorem jF{K:cZ->VS->Prop}{a:V}{σ:VS}(c:y=a)(b:K (.ret a) σ):K (.ret y) σ:=c▸b
theorem dB{K:cZ->VS->Prop}{a b:Bool}{σ:VS}(f:a=b)(c:K (.ret (b0 b)) σ):K (.ret (b0 a)) σ:=f▸c
variable{r:IntKind}
theorem kR{K:cZ->VS->Prop}{a b:Int}{σ:VS}(f:a=b)(c:K (.ret (.d (.int r b))) σ):K (.ret (.d (.int r a))) σ:=f▸c
def b6(n:Nat):V:=.d (.int .i64 (Ym n))
def cE(a:List UInt8):V:=.d (.str a)
theorem int_eq{a b:Int}(c:a=b):some (V.d (.int r a))=some (V.d (.int r b)):=by rw[c]
theorem wrap64{n:Int}(b: -9223372036854775808<=n)(a:n<9223372036854775808):IntKind.i64.wrap n=n:=by
 unfold IntKind.wrap;simp only[IntKind.signed,IntKind.bits];first
  |(show(if _ then _ else _)=_;split<;>omega)
  |(simp;omega)
theorem eb{a b:Nat}(c:a+b<9223372036854775808):IntKind.i64.wrap (Ym a+Ym b)=Ym (a+b):=by
 simp only[Yo];rw[wrap64 om om];omega
theorem cq{a:Nat}(c:a<9223372036854775807):IntKind.i64.wrap (Ym a+1)=Ym (a+1):=eb (b:=1) om
theorem C3{a b:Nat}(c:decide (Ym a<=Ym b)=true):a<=b:=by
 have:=of_decide_eq_true c;simp only[Yo]at this;omega
theorem fq{a b:Nat}(c:decide (Ym a<Ym b)=true):a<b:=by
 have:=of_decide_eq_true c;simp only[Yo]at this;omega
theorem BJ{a b:Nat}(c:decide (Ym a=Ym b)=true):a=b:=by
 have:=of_decide_eq_true c;simp only[Yo]at this;omega
theorem wz{a b:Nat}(c:decide (Ym a<=Ym b)=false):b<a:=by
 have:=of_decide_eq_false c;simp only[Yo]at this;omega
theorem dM{a b:Nat}(c:decide (Ym a<Ym b)=false):b<=a:=by
 have:=of_decide_eq_false c;simp only[Yo]at this;omega
theorem wA{a b:Nat}(c:decide (Ym a=Ym b)=false):a≠b:=by
 have:=of_decide_eq_false c;simp only[Yo]at this;omega
section
variable{C:eD} {cO:FuncId->List Value->Option Value}
theorem cA{f:FuncId}{σ:VS}{K:cZ->VS->Prop}(a:As C cO Jr f h false .none σ fun c _ σ=>K c σ)(b:∀l,cO f l=none:=by exact fun _=>rfl):b3 C cO f h σ K:=b3.body Jr b a
theorem cB{f:FuncId}{σ:VS}{K:cZ->VS->Prop}(b:As C cO Jr f h false .none σ fun g _ a=>cR σ.length g a K)(c:∀l,cO f l=none:=by exact fun _=>rfl):b3 C cO f h σ K:=cy Jr c b
def AB:Nat->List Nat->Nat->Bool
 |0,_,_=>true
 |_+1,[],_=>false
 |p+1,i::a,b=>Nat.beq i b&&AB p a (b+1)
theorem tP:∀{p:Nat} {a:List Nat} {f b:Nat},AB p a f=true->b<p->a[b]?=some (f+b):=by
 intro p;induction p with
 |zero=>intro a f b _ c;omega
 |succ p j=>
  intro a f b c g;cases a with
  |nil=>cases c
  |cons i a=>
   simp only[AB,Yl]at c;cases b with
   |zero=>simp[YG c.1]
   |succ b=>
    have:=j c.2 (YE g);simp only[List.getElem?_cons_succ,this];congr 1;omega
def vj(a:Nat->Nat)(f:Nat)(σ:VS):List Nat->VS->Prop
 |[],[]=>True
 |i::c,g::b=>nth σ i=some (eC a g)/\gY f g=true/\vj a f σ c b
 |_,_=>False
theorem AC{j:Nat->Nat}{B:Nat}{σ:VS}:∀{c:List Nat} {a:VS},vj j B σ c a->c.length=a.length/\∀(g:Nat) (l:cU),a[g]?=some l->∃i,c[g]?=some i/\σ[i]?=some (eC j l)/\gY B l=true:=by
 intro c;induction c with
 |nil=>
  intro a m;cases a with
  |nil=>exact⟨rfl,fun g l f=>by simp at f⟩
  |cons _ _=>exact m.elim
 |cons i c x=>
  intro a m;cases a with
  |nil=>exact m.elim
  |cons l a=>
   obtain⟨z,n,p⟩:=m;obtain⟨v,o⟩:=x p;refine⟨by simp[v],fun g s f=>?_⟩;cases g with
   |zero=>simp at f;subst f;exact⟨i,rfl,by rw[<-cz];exact z,n⟩
   |succ g=>obtain⟨A,C,b,D⟩:=o g s (by simpa using f);exact⟨A,by simpa using C,b,D⟩
theorem Real.pick{Φ:Fz}{ρ:Nat->Nat}{σ fN:VS}{st:St}{m:List Nat}(o:Real Φ ρ σ st)(K:m.Nodup)(T:vj (jO m σ.length) fN.length σ m fN):Real Φ (fun l=>ρ (jO m σ.length l)) fN st:=by
 obtain⟨d,n⟩:=AC T;have a:∀{l i:Nat},m[l]?=some i->ρ (jO m σ.length l)=ρ i:=fun{l i} c=>by rw[k7 c]
 refine⟨o.wf,o.wm,o.fz,o.NE,o.r4,o.NF,fun l U M W Q f p c j=>?_,fun l k c O=>?_,fun l P h Y c S N L Q=>?_,fun l U M W Q f p R G c j V v x=>?_⟩
 ·obtain⟨i,z,b,_⟩:=n l _ c;rw[a z]at j;exact o.I9 i _ _ _ _ _ _ b j
 ·obtain⟨i,z,b,W⟩:=n l _ c;obtain⟨B,D⟩:=o.obj i _ b (by rw[iM];exact O);rw[a z];exact⟨B.Ou W,D⟩
 ·obtain⟨i,z,b,_⟩:=n l _ c;obtain⟨E,s,C,_⟩:=n P _ S;rw[a z,a s]at Q;have:=o.inj i E _ _ b C (by rw[iM];exact N) (by rw[iM];exact L) Q;subst this;obtain⟨G,v⟩:=Yp.1 z;obtain⟨X,I⟩:=Yp.1 s;have A:=List.pairwise_iff_getElem.1 K;rcases Nat.lt_trichotomy l P with g|g|g
  ·exact absurd (v.trans I.symm) (A l P G X g)
  ·exact g
  ·exact absurd (I.trans v.symm) (A P l X G g)
 ·obtain⟨i,z,b,_⟩:=n l _ c;rw[a z]at j x;obtain⟨B,D⟩:=o.en i _ _ _ _ _ _ R G b j V v x;refine⟨B,fun F e H J=>?_⟩;obtain⟨E,s,C,_⟩:=n F _ H;show ρ (jO m σ.length F)≠G;rw[a s];exact D E _ C (by rw[iM];exact J)
theorem b5.pick(p:Nat)(f:List Nat){n:uw}{c:Code}{P eh:Tm}{σ fN:VS}{v:List gd}{l:mg}{y:Ab->Tm->List gd->mg->VS->Prop}(q:qF (r6 (jO f σ.length) eh) P)(E:Aw fN.length eh=true)(g:YA n.fl p=true)(hid:AB p f 0=true) 
  (D:Ew p v=true) (O:QO p l=true) (J:f.Nodup) (F:vj (jO f σ.length) fN.length σ f fN) (af:b5 C cO n c eh v l fN y):b5 C cO n c P v l σ y:=by
 refine⟨fun Φ ρ st d h T A U G=>?_⟩;obtain⟨e,_⟩:=AC F;have g:=Yq g;have z:∀o,o<p->jO f σ.length o=o:=fun o u=>by
  have:=tP hid u;rw[k7 this];omega
 have s:p<=fN.length:=by
  rcases Nat.lt_or_ge fN.length p with h1|h1
  ·have:=tP hid h1;rw[<-e,List.getElem?_eq_none (Yn _)]at this;cases this
  ·exact h1
 have a:iC Φ ρ p Φ (fun o=>ρ (jO f σ.length o)) fN.length:=⟨Fz.le_refl _,fun i r=>by show ρ (jO f σ.length i)=_;rw[z i r],s⟩;have x:=KX D A.2;have j:yV Φ p l:=by
  cases l with
  |gu ab=>exact GP (M:=σ.length) U O
  |none=>trivial
  |qn=>trivial
 have K:ez (fun o=>ρ (jO f σ.length o)) n=ez ρ n:=((a.weaken g).GL (m:=σ.length) G).1;obtain⟨ae,ad,L,B,R,I,H,dE,dx,N,Q,Y,t,w,V,X,W,k⟩:=af.go Φ (fun o=>ρ (jO f σ.length o)) st d (h.pick J F) (fun ac ab S=>by
   obtain⟨aa,b⟩:=T ac (iv (jO f σ.length) ab) (oR q ac _ (by rw[vh,S];rfl));rw[iL]at aa;exact⟨aa,lN _ b (xR E S)⟩) (a.df ⟨A.1,x⟩) (a.ps j).2 ⟨G.1,YF g s⟩
 refine⟨ae,ad,L,B,R,I,H,dE,dx,N,?_,?_,t,w,V,X,W,k⟩
 ·rw[K,(a.ps j).1]at Q;exact Q
 ·exact(a.weaken g).then Y (Yn _)
inductive KI (fl:Nat) (eh:Tm) (fN:VS) (df:List gd) (ps:mg) (tm:Tm) (σ:VS):Prop
 |same (hs:qF eh tm) (h:σ=fN)
 |drop (n:Nat) (hs:qF eh tm) (hn:YA n σ.length=true) (XO:YA fl n=true) (hb:mZ n σ n=true) (ht:Aw n eh=true) (XP:Ew n df=true) (XQ:QO n ps=true) (h:σ.take n=fN)
 |pick (p:Nat) (ix:List Nat) (hs:qF (r6 (jO ix σ.length) eh) tm) (Yg:Aw fN.length eh=true) (XO:YA fl p=true) (hid:AB p ix 0=true) (XP:Ew p df=true) (XQ:QO p ps=true) (Yh:ix.Nodup) (hp:vj (jO ix σ.length) fN.length σ ix fN)
theorem cw{c:Code}{l eh:Tm}{σ fN:VS}(z:KI k.fl eh fN e q l σ)(x:b5 C cO k c eh e q fN d):b5 C cO k c l e q σ d:=by
 cases z with
 |same f A=>subst A;exact x.less f
 |drop B f v b n m a g A=>subst A;exact b5.drop B f v b n m a g x
 |pick p s f i b hid a g j o=>exact b5.pick p s f i b hid a g j o x
theorem b5.iter{E:Type}(f:E->Tm)(g:E->VS)(H:E->Nat)(I:E->Prop){b:Code} 
  (al:∀m,I m->vc C cO k b (f m) e q (g m) fun x T s l σ=>match x with
   |.norm=>∃n,I n/\H n<H m/\KI k.fl (f n) (g n) e q T σ/\s=e/\l=q
   |x=>d x T s l σ) (m:E) (N:I m):b5 C cO k (.loop b) (f m) e q (g m) d:=by
 have Q:∀U m,H m=U->I m->b5 C cO k (.loop b) (f m) e q (g m) d:=by
  intro U;induction U using Nat.strongRecOn with
  |_ U ag=>
   intro m ad N;refine⟨fun Φ ρ st P ab h V w M=>?_⟩;obtain⟨A,am,J,o,c,D,j,x,F,B,p,i,v,z,a,aj,rfl⟩:=qE b (al m N) (fr:=P) ⟨ab,h,V,w⟩ M;cases x with
   |norm=>
    obtain⟨n,ae,X,aa,rfl,rfl⟩:=v;have v:=cw aa (ag (H n) (ad▸X) n rfl ae);obtain⟨G,x,L,O,s,l,K,dE,dx,S,af,t,ah,ai,W,r,Y,ac⟩:=v.go o c j i a.real a.tm a.df a.ps (z.GL M).2;refine⟨max A (G+1),x,L,O,s,l,K,dE,dx,S,?_,z.then t (Yn _),ah,ai,W,r,Y,ac⟩;have u:=gO (gP (C:=C) (cO:=cO) (YD A (G+1))) _ J;have y:(jr C cO (G+1)).code (ez c k) (.loop b) i (dj c p) j=some (ey dx x,L,dj dx l,K):=af;have R:=(gP (C:=C) (cO:=cO) (YB A (G+1))).code _ _ _ _ _ _ y;unfold code;rw[u];simp only[ey];rw[(z.GL M).1]at R;exact R
   |exit id=>exact⟨A,.exit id,i,F,B,p,j,o,c,D,by unfold code;rw[J];rfl,z,a.real,a.tm,a.df,a.ps,tv,v⟩
   |ret=>exact⟨A,.ret,i,F,B,p,j,o,c,D,by unfold code;rw[J];rfl,z,a.real,a.tm,a.df,a.ps,tv,v⟩
   |panic ak=>exact⟨A,.panic ak,i,F,B,p,j,o,c,D,by unfold code;rw[J];rfl,z,a.real,a.tm,a.df,a.ps,aj,v⟩
 exact Q _ m Z N
mutual
theorem jh(π:Nat->Nat):∀v:V,bd 0 v=true->iv π v=v
 |.d _,_=>by simp only[iv]
 |.bp _ _,h=>by simp only[bd]at h;exact absurd (gV h) (Ys _)
 |.ptr _ _ _ _,h=>by simp only[bd]at h;exact absurd (gV h) (Ys _)
 |.fp _ _ _,_=>by simp only[iv]
 |.ms _ _ _ _ _,h=>by simp only[bd]at h;exact absurd (gV h) (Ys _)
 |.map _,h=>by simp only[bd]at h;exact absurd (gV h) (Ys _)
 |.fn _ a c,h=>by simp only[bd,Yl]at h;simp only[iv,gk π a h.1,gk π c h.2]
 |.so _,h=>by simp only[bd]at h;exact absurd (gV h) (Ys _)
 |.iface _ v,h=>by simp only[bd]at h;simp only[iv,jh π v h]
 |.agg l,h=>by simp only[bd]at h;simp only[iv,gk π l h]
 |.dN l,h=>by simp only[bd]at h;simp only[iv,gk π l h]
theorem gk(π:Nat->Nat):∀l:List V,gC 0 l=true->iw π l=l
 |[],_=>by simp only[iw]
 |v::l,h=>by simp only[gC,Yl]at h;simp only[iw,jh π v h.1,gk π l h.2]
end
def cX:cZ->Bool
 |.ret a=>bd 0 a
 |.fO a=>bd 0 a
theorem a6{m:Nat}{σ:VS}{K:cZ->VS->Prop}(n:Nat)(b:K t (σ.take n))(g:Nat.ble n σ.length=true:=by exact rfl)(f:mZ n σ n=true:=by exact rfl)(c:Ov n t=true:=by exact rfl)(a:Nat.ble m (σ.take n).length=true:=by exact rfl):cR m t σ K:=
 cR.drop n g f c (cR.now a b)
theorem b3.closed{f:FuncId}{P:cZ->Prop}(o:b3 C cO f h [] fun b j=>j=[]/\cX b=true/\P b)(c:gC 0 h=true){σ:VS}{K:cZ->VS->Prop}(l:∀b,P b->K b σ):b3 C cO f h σ K:=by
 refine o.frame [] Z List.nodup_nil (fun v i n=>by simp at n) c (gk _ h c).symm (fun a m n _=>?_);obtain⟨rfl,g,p⟩:=n;have:nj (jO [] σ.length) a=a:=by
  cases a with
  |ret s=>simp only[nj];rw[jh _ s g]
  |fO s=>simp only[nj];rw[jh _ s g]
 rw[this];simp only[List.map_nil,merge,List.append_nil];exact l a p
theorem cN{f:FuncId}{v:V}(l:b3 C cO f h [] fun b a=>a=[]/\b=.ret v)(j:gC 0 h=true)(i:bd 0 v=true){σ:VS}{K:cZ->VS->Prop}(g:K (.ret v) σ):b3 C cO f h σ K:=
 b3.closed (P:=fun b=>b=.ret v) (l.mono fun b a c=>⟨c.1,by rw[c.2];exact i,c.2⟩) j fun b c=>by rw[c];exact g
end
mutual
theorem rl(π:Nat->Nat)(k:Nat)(h:∀i,i<k->π i=i):∀v:V,bd k v=true->iv π v=v
 |.d _,_=>by simp only[iv]
 |.bp _ _,hb=>by simp only[bd]at hb;simp only[iv,h _ (gV hb)]
 |.ptr _ _ _ _,hb=>by simp only[bd]at hb;simp only[iv,h _ (gV hb)]
 |.fp _ _ _,_=>by simp only[iv]
 |.ms _ _ _ _ _,hb=>by simp only[bd]at hb;simp only[iv,h _ (gV hb)]
 |.map _,hb=>by simp only[bd]at hb;simp only[iv,h _ (gV hb)]
 |.fn _ a c,hb=>by simp only[bd,Yl]at hb;simp only[iv,nk π k h a hb.1,nk π k h c hb.2]
 |.so _,hb=>by simp only[bd]at hb;simp only[iv,h _ (gV hb)]
 |.iface _ v,hb=>by simp only[bd]at hb;simp only[iv,rl π k h v hb]
 |.agg l,hb=>by simp only[bd]at hb;simp only[iv,nk π k h l hb]
 |.dN l,hb=>by simp only[bd]at hb;simp only[iv,nk π k h l hb]
theorem nk(π:Nat->Nat)(k:Nat)(h:∀i,i<k->π i=i):∀l:List V,gC k l=true->iw π l=l
 |[],_=>by simp only[iw]
 |v::l,hb=>by simp only[gC,Yl]at hb;simp only[iw,rl π k h v hb.1,nk π k h l hb.2]
end
theorem Mk(a:Nat->Nat)(f:Nat)(j:∀i,i<f->a i=i):∀l:Tm,Aw f l=true->r6 a l=l:=by
 intro l;induction l with
 |nil=>intro _;rfl
 |cons g l c=>
  obtain⟨n,m⟩:=g;intro b;simp only[Aw,Yl]at b;simp only[r6,rl a f j m b.1,c b.2]
theorem Ow(c:Nat->Nat)(g:Nat)(j:∀i,i<g->c i=i)(o:cU)(a:gY g o=true):eC c o=o:=by
 cases o with
 |box p=>simp only[eC];rw[nk c g j p a]
 |row m l=>
  simp only[eC];congr 1;simp only[gY,List.all_eq_true]at a;conv=>rhs;rw[<-Yz l]
  exact Yr fun n f=>nk c g j n (a n f)
 |map m A=>
  simp only[eC];congr 1;simp only[gY,List.all_eq_true,Yl]at a;conv=>rhs;rw[<-Yz m]
  exact Yr fun n f=>by
   obtain⟨s,x,b⟩:=n;have:=a _ f;simp only[Jp,rl c g j s this.1,rl c g j x this.2,id]
 |loop v=>
  simp only[gY,Yl]at a;simp only[eC,Mk c g j v.tm a.1,j _ (gV a.2)]
 |fg z=>rfl
 |gone=>rfl
theorem QP(a:VS)(o b:cU)(c:VS):(a++o::c).set a.length b=a++b::c:=by
 induction a with
 |nil=>rfl
 |cons g a f=>simp only[YC,Yx,List.set_cons_succ,f]
theorem Ml:∀(l a c ext:VS),l.length=a.length->merge (c++(a++ext)) (Yu c.length a.length) l=c++(l++ext):=by
 intro l;induction l with
 |nil=>
  intro a c ext f;have:a=[]:=List.eq_nil_of_length_eq_zero f.symm;subst this;simp[merge]
 |cons b l g=>
  intro a c ext f;cases a with
  |nil=>simp at f
  |cons i a=>
   simp only[Yx,List.range'_succ,merge];rw[YC,QP];have:=g a (c++[b]) ext (by simpa using f);simp only[List.length_append,Yx,List.length_nil,List.append_assoc,YC,List.nil_append]at this;exact this
section
variable{C:eD} {cO:FuncId->List Value->Option Value}
theorem b3.pre{f:FuncId}{a:VS}{v K:cZ->VS->Prop}(D:b3 C cO f h a v)(ext:VS)(s:mZ a.length a a.length=true)(z:gC a.length h=true) 
  (G:∀A g,v A g->g.length=a.length/\mZ a.length g g.length=true/\Ov a.length A=true/\K A (g++ext)):b3 C cO f h (a++ext) K:=by
 have hid:∀M i,i<a.length->jO (Yu 0 a.length) M i=i:=fun M i o=>by
  rw[k7 (i:=i) (by rw[List.getElem?_range' o];simp)]
 have j:∀p,gY a.length p=true->eC (jO (Yu 0 a.length) (a++ext).length) p=p:=fun p c=>Ow _ _ (hid _) p c;refine D.frame (Yu 0 a.length) sm (List.nodup_range') (fun P i L=>?_) z (nk _ _ (hid _) _ z).symm (fun n b L O=>?_)
 ·obtain⟨m,N⟩:=Yp.1 L;simp only[List.length_range']at m;simp only[List.getElem_range',Nat.one_mul,Nat.zero_add]at N;subst N;have c:=List.getElem?_eq_getElem (l:=a) m;refine⟨_,c,?_,zp s m c⟩;rw[j _ (zp s m c),List.getElem?_append_left m,c]
 ·obtain⟨H,B,x,F⟩:=G n b L;have J:nj (jO (Yu 0 a.length) (a++ext).length) n=n:=by
   cases n with
   |ret E=>simp only[nj];rw[rl _ _ (hid _) E x]
   |fO E=>simp only[nj];rw[rl _ _ (hid _) E x]
  have I:b.map (eC (jO (Yu 0 a.length) (a++ext).length))=b:=by
   conv=>rhs;rw[<-Yz b]
   refine Yr fun p c=>?_;obtain⟨i,o⟩:=List.getElem?_of_mem c;exact j p (zp B (Yp.1 o).1 o)
  rw[J,I];have:=Ml b a [] ext H;simp only[List.nil_append,List.length_nil]at this;rw[this];exact F
end
section
variable{C:eD} {cO:FuncId->List Value->Option Value} {Φ:Fz} {ρ:Nat->Nat} {σ:VS} {st:St}
theorem Real.gone(m:Real Φ ρ σ st):Real Φ ρ (σ++[.gone]) st:=by
 have F:iC Φ ρ σ.length Φ ρ (σ++[cU.gone]).length:=⟨Fz.le_refl _,fun _ _=>rfl,by simp⟩;have c:∀(j:Nat) (g:cU),(σ++[cU.gone]:VS)[j]?=some g->live g=true->σ[j]?=some g:=by
  intro j g a n;rw[jU]at a;by_cases s:j=σ.length
  ·rw[if_pos s]at a;cases a;cases n
  ·rw[if_neg s]at a;exact a
 refine⟨m.wf,m.wm,m.fz,m.NE,m.r4,m.NF,fun j A l J s f p a v=>m.I9 j A l J s f p (c j _ a Z) v,fun j g a n=>?_,fun j C g z a x o i s=>m.inj j C g z (c j _ a o) (c C _ x i) o i s,fun j A l J s f p D L a v H G B=>?_⟩
 ·obtain⟨E,I⟩:=m.obj j g (c j g a n) n;exact⟨F.obj (st:=st) (eB:=st) Z (fun _ _ _ _ _ B=>B) E,I⟩
 ·obtain⟨K,b⟩:=m.en j A l J s f p D L (c j _ a rfl) v H G B;exact⟨K,fun C z x i=>b C z (c C _ x i) i⟩
theorem b5.gone{j:uw}{c:Code}{s:Tm}{f:List gd}{i:mg}{M:Ab->Tm->List gd->mg->VS->Prop}(R:b5 C cO j c s f i (σ++[.gone]) M):b5 C cO j c s f i σ M:=by
 refine⟨fun Φ ρ st G H a A z l=>?_⟩;have b:iC Φ ρ σ.length Φ ρ (σ++[cU.gone]).length:=⟨Fz.le_refl _,fun _ _=>rfl,by simp⟩;obtain⟨Q,P,o,g,v,n,m,dE,dx,p,J,F,K,L,B,E,D,I⟩:=R.go Φ ρ st G H.gone (fun O N x=>⟨(a O N x).1,(a O N x).2.mono (Fz.le_refl _) vI⟩) (b.df A) (b.ps z).2 ⟨l.1,YF l.2 b.len⟩;exact⟨Q,P,o,g,v,n,m,dE,dx,p,J,F,K,L,B,E,D,I⟩
theorem b3.gone{f:FuncId}{a:List V}{K:cZ->VS->Prop}(A:b3 C cO f a (σ++[.gone]) K):b3 C cO f a σ K:=by
 refine⟨fun Φ ρ st v n=>?_⟩;obtain⟨x,z,g,c,dE,dx,j,m,b,o,s,l⟩:=A.go Φ ρ st v.gone (fun D p=>(n D p).mono (Fz.le_refl _) vI);exact⟨x,z,g,c,dE,dx,j,m,⟨b.le,fun i B=>b.sg i vI,YF vI b.len⟩,o,s,l⟩
theorem cR.pick{m:Nat}(a:List Nat){E r0:cZ}{fN:VS}{K:cZ->VS->Prop}(A:E=nj (jO a σ.length) r0)(c:Ov fN.length r0=true)(hid:AB m a 0=true)(f:a.Nodup)(z:vj (jO a σ.length) fN.length σ a fN)(s:cR m r0 fN K):cR m E σ K:=by
 subst A;refine⟨fun Φ ρ st G l=>?_⟩;obtain⟨o,dE,dx,g,B,x,C,D,n,v,p⟩:=s.go Φ (fun F=>ρ (jO a σ.length F)) st (G.pick f z) (by
  cases r0 with
  |ret b=>exact lN b l c
  |fO b=>exact lN b l c)
 refine⟨o,dE,dx,g,B,fun i j=>(x i j).trans ?_,C,D,n,v.trans ?_,p⟩
 ·have:=tP hid j;show ρ (jO a σ.length i)=ρ i;rw[k7 this,Nat.zero_add]
 ·cases r0 with
  |ret b=>simp only[nj,e3,iL]
  |fO b=>simp only[nj,e3,iL]
theorem Ox{a:D}(b:flat (cH a)=true):vb Φ a:=by
 cases a<;>first|(cases b;done)|constructor
theorem xU{f:FuncId}{args xs:List D}{K:cZ->VS->Prop}(i:cO f (args.map cH)=some (.tuple ⟨xs.map cH⟩))(j:∀b∈xs,flat (cH b)=true)(c:K (.ret (.dN (xs.map V.d))) σ):b3 C cO f (args.map V.d) σ K:=by
 refine⟨fun Φ ρ st l m=>⟨1,.ret (.dN (xs.map V.d)),.none,st,Φ,ρ,σ,?_,.refl _ _ _,l,.dN ?_,c⟩⟩
 ·rw[nh];simp only[jr,i,e3,erase,nh];rfl
 ·intro n g;obtain⟨b,a,rfl⟩:=List.mem_map.1 g;exact .d (Ox (j b a))
end
section
variable{C:eD} {cO:FuncId->List Value->Option Value} {σ:VS}
def Oy(i b:Nat)(l:List (List D)):Tm->Tm
 |[]=>[]
 |(a,c)::f=>(a,iW i b l c)::Oy i b l f
def Ey(i es n:Nat):Tm->Prop
 |[]=>True
 |(_,a)::b=>pi i es n a/\Ey i es n b
theorem C4{i b:Nat}{l:List (List D)}:∀{a:Tm} {g:Nat} {j:V},gf (Oy i b l a) g=some j->∃f,gf a g=some f/\j=iW i b l f:=by
 intro a;induction a with
 |nil=>intro g j c;cases c
 |cons n v m=>
  intro g j c;obtain⟨s,p⟩:=n;simp only[Oy,gf]at c⊢;split at c
  ·rename_i o;cases c;exact⟨p,Z,Z⟩
  ·exact m c
theorem yv{i es n:Nat}:∀{a:Tm},Ey i es n a->∀{j:Nat} {f:V},gf a j=some f->pi i es n f:=by
 intro a;induction a with
 |nil=>intro _ j f b;cases b
 |cons l o g=>
  intro c j f b;obtain⟨m,p⟩:=l;simp only[gf]at b;split at b
  ·cases b;exact c.1
  ·exact g c.2 b
theorem b5.freeze(i:Nat)(m:Tm){H:uw}{c:Code}{P:Tm}{z:List gd}{G:mg}{aj:Ab->Tm->List gd->mg->VS->Prop}{es:Nat}{els:List (List V)}{l:List (List D)}(o:nth σ i=some (.row es els))(J:pC els=some l)(aa:qF m P)(u:Ey i es l.length m) 
  (X:∀b,b5 C cO H c (Oy i b l m) z G (σ.set i .gone) aj):b5 C cO H c P z G σ aj:=by
 refine⟨fun Φ ρ st k ae S v r x=>?_⟩;rw[cz]at o;obtain⟨j,f,p,A⟩:=pI ae o;have ab:=(ae.obj i _ o rfl).2;have M:cx ρ els.flatten=l.flatten.map cH:=by rw[gw J,sR]
 rw[M]at A;have w:=ae.freeze o A;have n:=tI (o:=gz.cells (l.flatten.map cH) es f p) ab;rw[gw J]at j;obtain⟨d1,d2⟩:=j.d;have B:∀ai∈l,∀q∈ai,vb (nC Φ (ρ i) (.cells (l.flatten.map cH) es f p)) q:=fun ai af q v=>(d2 ai af q v).mono n;have g:(σ.set i .gone).length=σ.length:=Yt;have ag:∀s,fJ Φ σ.length s->pi i es l.length s->fJ (nC Φ (ρ i) (.cells (l.flatten.map cH) es f p)) σ.length (iW i (ρ i) l s)/\erase ρ (iW i (ρ i) l s)=erase ρ s:=
  fun s d U=>oq (Φ:=nC Φ (ρ i) (.cells (l.flatten.map cH) es f p)) (f:=f) (p:=p) rfl (by rw[kQ];exact if_pos rfl) (Or.inl rfl) d1 B s (d.mono n (Yn _)) U
 have a:iC Φ ρ σ.length (nC Φ (ρ i) (.cells (l.flatten.map cH) es f p)) ρ (σ.set i .gone).length:=⟨n,fun _ _=>rfl,by rw[g];exact Yn _⟩;obtain⟨an,am,N,E,Q,L,K,dE,dx,O,ac,e,ad,ah,T,Y,W,y⟩:=(X (ρ i)).go _ ρ st k w (fun ak s F=>by
  obtain⟨R,I,rfl⟩:=C4 F;obtain⟨al,b⟩:=S ak R (oR aa ak _ I);obtain⟨h,t⟩:=ag R b (yv u I);rw[g];exact⟨by rw[t];exact al,h⟩) (a.df v) (a.ps r).2 ⟨x.1,by rw[g];exact x.2⟩
 refine⟨an,am,N,E,Q,L,K,dE,dx,O,ac,?_,ad,ah,T,Y,W,y⟩;exact(a.weaken x.2).then e (Yn _)
end
section
variable{C:eD} {cO:FuncId->List Value->Option Value} {σ:VS}
theorem Oz(i b:Nat)(l:List (List D))(c:V)(f:hA c=true):hA (iW i b l c)=true:=by
 cases c with
 |ms o m n j g=>
  unfold iW;split<;>rfl
 |agg a=>cases f
 |dN a=>cases f
 |_=>rfl
theorem Jt{Φ:Fz}{ρ:Nat->Nat}{i b BI n M:Nat}{l:List (List D)}(o:∀c,fJ Φ M c->pi i BI n c->fJ Φ M (iW i b l c)/\erase ρ (iW i b l c)=erase ρ c):
  ∀a:List V,fB Φ M a->pN i BI n a->fB Φ M (wx i b l a)/\cx ρ (wx i b l a)=cx ρ a/\(wx i b l a).length=a.length:=by
 intro a;induction a with
 |nil=>intro _ _;exact⟨fun c g=>(by simp[wx]at g),rfl,rfl⟩
 |cons c A p=>
  intro g f;obtain⟨x,s⟩:=o c (g c sm) f.1;obtain⟨j,z,v⟩:=p (fun m hu=>g m (by simp[hu])) f.2;refine⟨fun m hu=>?_,?_,?_⟩
  ·simp only[wx,Yv]at hu;rcases hu with rfl|hu
   ·exact x
   ·exact j m hu
  ·simp only[wx,cx,s,z]
  ·simp only[wx,Yx,v]
theorem OA{i b:Nat}{l:List (List D)}:∀c:List V,(∀f∈c,hA f=true)->∀f∈wx i b l c,hA f=true:=by
 intro c;induction c with
 |nil=>intro _ f g;simp[wx]at g
 |cons n o m=>
  intro g f a;simp only[wx,Yv]at a;rcases a with rfl|a
  ·exact Oz _ _ _ _ (g n sm)
  ·exact m (fun p j=>g p (by simp[j])) f a
theorem Real.UO{Φ:Fz}{ρ:Nat->Nat}{st:St}(s:Real Φ ρ σ st){j:Nat}{cs cs':List V}(E:σ[j]?=some (.box cs))(W:cx ρ cs'=cx ρ cs)(S:cs'.length=cs.length)(X:fB Φ σ.length cs')(h:∀k∈cs',hA k=true):
  Real Φ ρ (σ.set j (.box cs')) st:=by
 have I:j<σ.length:=(Yp.1 E).1;have g:∀i m,(σ.set j (.box cs'))[i]?=some m->(i=j/\m=.box cs')∨(i≠j/\σ[i]?=some m):=fun i m a=>by
  by_cases v:i=j
  ·subst v;rw[List.getElem?_set_self I]at a;exact .inl ⟨Z,(Option.some.inj a).symm⟩
  ·rw[YJ (fun O=>v O.symm)]at a;exact .inr ⟨v,a⟩
 have c:∀i m,(σ.set j (.box cs'))[i]?=some m->live m=true->∃K,σ[i]?=some K/\live K=true:=fun i m a l=>by
  rcases g i m a with⟨rfl,rfl⟩|⟨_,b⟩
  ·exact⟨_,E,Z⟩
  ·exact⟨_,b,l⟩
 refine⟨s.wf,s.wm,s.fz,s.NE,s.r4,s.NF,fun i D o e v f p a x=>?_,fun i m a l=>?_,fun i J N R a z Y d v=>?_,fun i D o e v f p M q a x U T F=>?_⟩
 ·rcases g i _ a with⟨_,b⟩|⟨_,b⟩
  ·cases b
  ·exact s.I9 i D o e v f p b x
 ·rw[Yt];rcases g i m a with⟨rfl,rfl⟩|⟨_,b⟩
  ·obtain⟨⟨⟨C,G⟩,H,r⟩,Q⟩:=s.obj i _ E rfl;exact⟨⟨⟨by rw[W,S];exact C,G⟩,X,h⟩,Q⟩
  ·exact s.obj i m b l
 ·obtain⟨B,A,n⟩:=c i N a Y;obtain⟨P,b,L⟩:=c J R z d;exact s.inj i J B P A b n L v
 ·rcases g i _ a with⟨_,b⟩|⟨_,b⟩
  ·cases b
  ·obtain⟨C,H⟩:=s.en i D o e v f p M q b x U T F;refine⟨C,fun J m z l=>?_⟩;obtain⟨B,A,n⟩:=c J m z l;exact H J B A n
theorem Ce(i j:Nat)(z:Tm){c:Code}{es:Nat}{B:List (List V)}{l:List (List D)}{cs:List V}(A:nth σ i=some (.row es B))(E:nth σ j=some (.box cs))(R:pC B=some l)(aq:qF z w)(am:Ey i es l.length z)(ac:pN i es l.length cs) 
  (ae:∀b,b5 C cO k c (Oy i b l z) e q ((σ.set i .gone).set j (.box (wx i b l cs))) d):b5 C cO k c w e q σ d:=by
 refine⟨fun Φ ρ st ai u r G ak J=>?_⟩;rw[cz]at A E;have O:i≠j:=fun t=>by subst t;rw[A]at E;cases E
 obtain⟨o,f,p,N⟩:=pI u A;have ar:=(u.obj i _ A rfl).2;have U:cx ρ B.flatten=l.flatten.map cH:=by rw[gw R,sR]
 rw[U]at N;have an:=u.freeze A N;have n:=tI (o:=gz.cells (l.flatten.map cH) es f p) ar;rw[gw R]at o;obtain⟨d1,d2⟩:=o.d;have F:∀t∈l,∀aj∈t,vb (nC Φ (ρ i) (.cells (l.flatten.map cH) es f p)) aj:=fun t aw aj G=>(d2 t aw aj G).mono n;have x:(σ.set i .gone).length=σ.length:=Yt;have K:∀g,fJ Φ σ.length g->pi i es l.length g->fJ (nC Φ (ρ i) (.cells (l.flatten.map cH) es f p)) σ.length (iW i (ρ i) l g)/\erase ρ (iW i (ρ i) l g)=erase ρ g:=
  fun g I H=>oq (Φ:=nC Φ (ρ i) (.cells (l.flatten.map cH) es f p)) (f:=f) (p:=p) rfl (by rw[kQ];exact if_pos rfl) (Or.inl rfl) d1 F g (I.mono n (Yn _)) H
 have v:=(u.obj j _ E rfl).1;have M:fB (nC Φ (ρ i) (.cells (l.flatten.map cH) es f p)) σ.length cs:=fun g K=>(v.2.1 g K).mono n (Yn _);have s:∀g,fJ (nC Φ (ρ i) (.cells (l.flatten.map cH) es f p)) σ.length g->pi i es l.length g->fJ (nC Φ (ρ i) (.cells (l.flatten.map cH) es f p)) σ.length (iW i (ρ i) l g)/\erase ρ (iW i (ρ i) l g)=erase ρ g:=
  fun g I H=>oq (Φ:=nC Φ (ρ i) (.cells (l.flatten.map cH) es f p)) (f:=f) (p:=p) rfl (by rw[kQ];exact if_pos rfl) (Or.inl rfl) d1 F g I H
 obtain⟨aa,ao,ad⟩:=Jt s cs M ac;have L:=an.UO (j:=j) (cs:=cs) (cs':=wx i (ρ i) l cs) (by rw[YJ O];exact E) ao ad (by rw[x];exact aa) (OA cs v.2.2);have a:((σ.set i .gone).set j (.box (wx i (ρ i) l cs))).length=σ.length:=by rw[Yt,x]
 have m:iC Φ ρ σ.length (nC Φ (ρ i) (.cells (l.flatten.map cH) es f p)) ρ ((σ.set i .gone).set j (.box (wx i (ρ i) l cs))).length:=⟨n,fun _ _=>rfl,by rw[a];exact Yn _⟩;obtain⟨aB,aA,W,P,Y,T,S,dE,dx,X,au,ag,av,ax,y,af,ab,ap⟩:=(ae (ρ i)).go _ ρ st ai L (fun ay g s=>by
  obtain⟨h,Q,rfl⟩:=C4 s;obtain⟨az,b⟩:=r ay h (oR aq ay _ Q);obtain⟨ah,al⟩:=K h b (yv am Q);rw[a];exact⟨by rw[al];exact az,ah⟩) (m.df G) (m.ps ak).2 ⟨J.1,by rw[a];exact J.2⟩
 refine⟨aB,aA,W,P,Y,T,S,dE,dx,X,au,?_,av,ax,y,af,ab,ap⟩;exact(m.weaken J.2).then ag (Yn _)
theorem GQ{H:Type}(c:H->Tm)(f:H->VS)(L:H->Nat)(I:H->Prop){b:Code} 
  (ao:∀l,I l->b5 C cO k b (c l) e q (f l) fun x V z j σ=>match x with
   |.norm=>∃m,I m/\L m<L l/\KI k.fl (c m) (f m) e q V σ/\z=e/\j=q
   |x=>d x V z j σ) (l:H) (Q:I l):b5 C cO k (.loop b) (c l) e q (f l) d:=by
 have S:∀W l,L l=W->I l->b5 C cO k (.loop b) (c l) e q (f l) d:=by
  intro W;induction W using Nat.strongRecOn with
  |_ W aj=>
   intro l ag Q;refine⟨fun Φ ρ st aa ae t X ab P=>?_⟩;obtain⟨E,x,g,J,F,v,i,p,a,G,M,D,s,n,o,A,am,B⟩:=(ao l Q).go Φ ρ st aa ae t X ab P;cases x with
   |norm=>
    obtain⟨m,ah,h,ad,rfl,rfl⟩:=B;have B:=cw ad (aj (L m) (ag▸h) m rfl ah);obtain⟨K,x,O,R,z,j,N,dE,dx,U,ai,w,ak,al,Y,u,r,af⟩:=B.go p a i g s n o A (D.GL P).2;refine⟨max E (K+1),x,O,R,z,j,N,dE,dx,U,?_,D.then w (Yn _),ak,al,Y,u,r,af⟩;have y:=gO (gP (C:=C) (cO:=cO) (YD E (K+1))) _ M;have ac:(jr C cO (K+1)).code (ez a k) (.loop b) g (dj a v) i=some (ey dx x,O,dj dx j,N):=ai;have T:=(gP (C:=C) (cO:=cO) (YB E (K+1))).code _ _ _ _ _ _ ac;unfold code;rw[y];simp only[ey];rw[(D.GL P).1]at T;exact T
   |exit id=>exact⟨E,.exit id,g,J,F,v,i,p,a,G,by unfold code;rw[M];rfl,D,s,n,o,A,tv,B⟩
   |ret=>exact⟨E,.ret,g,J,F,v,i,p,a,G,by unfold code;rw[M];rfl,D,s,n,o,A,tv,B⟩
   |panic an=>exact⟨E,.panic an,g,J,F,v,i,p,a,G,by unfold code;rw[M];rfl,D,s,n,o,A,am,B⟩
 exact S _ l Z Q
end
end Go.VM
