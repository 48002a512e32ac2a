/- Part of the proof. -/
import Derived.Test.YthlkhjchcjflkaaGreatDoorKAg
set_option linter.all false
set_option maxHeartbeats 16000000
set_option maxRecDepth 100000
open Nat renaming beq_refl->Yl,le_max_right->Yp,le_max_left->Yr,eq_of_beq_eq_true->Yu,blt->Yv,lt_of_lt_of_le->Yz,le_refl->YD
open Bool renaming and_self->Ym,and_eq_true->Ys
open List renaming mem_map->Yn,getElem?_eq_some_iff->Yo,getElem?_eq_getElem->Yq,length_set->Yt,length_map->Yw,mem_of_getElem?->Yx,map_congr_left->Yy,mem_cons->YA,map_cons->YB,getElem?_map->YC,mem_cons_of_mem->YE,getElem?_of_mem->YF,mem_cons_self->YG
namespace Go.VM
open Go.AM
theorem GM(k:IntKind):sp k k=true:=by cases k<;>rfl
mutual
theorem li(ρ:Nat->Nat):∀v:V,mh (erase ρ v) (erase ρ v)=true
 |.d x=>by
  cases x<;>simp only[erase,cH,mh,addrEq,Yl,Ym]
  ·simp
  ·rw[GM,ol];simp
  ·rw[tL];simp
 |.bp i f=>by simp only[erase,mh,addrEq,Yl,Ym]
 |.ptr i es k f=>by simp only[erase,mh,addrEq,Yl,Ym]
 |.fp b off cs=>by simp only[erase,mh,addrEq,Yl,Ym]
 |.ms i es k len cap=>by simp only[erase,mh,addrEq,Yl,Ym]
 |.map i=>by simp only[erase,mh,Yl]
 |.fn f a c=>by simp only[erase,mh,NH,Yl,jX ρ a,jX ρ c,Ym]
 |.so l=>by simp only[erase,mh,NH,Yl];rfl
 |.iface t v=>by simp only[erase,mh,Yl,li ρ v,Ym]
 |.agg l=>by simp only[erase,mh,jX ρ l]
 |.dN l=>by simp only[erase,mh,jX ρ l]
theorem jX(ρ:Nat->Nat):∀l:List V,xv (cx ρ l) (cx ρ l)=true
 |[]=>by simp only[cx,xv]
 |v::l=>by simp only[cx,xv,li ρ v,jX ρ l,Ym]
end
variable{A:Op} {w:cU} {h:List Oper} {B:sf} {p:Tm} {s:Fr} {u:Nat} {F:gz} {y:Value} {z:Bool} {r:uw} {v:List Nat}
section
variable{C:eD} {cO:FuncId->List Value->Option Value} {Φ dE:Fz} {ρ dx:Nat->Nat} {σ:VS} {st:St} {m m':Nat}
theorem jt.UL{es:Nat}{a:List (List V)}(c:jt Φ m es a)(b:iC Φ ρ m dE dx m'):jt dE m' es a:=c.mono b.le b.len
theorem oP.mono(a:oP Φ m A w)(b:iC Φ ρ m dE dx m'):oP dE m' A w:=by
 unfold oP at a⊢;split at a
 ·exact⟨b.KN a.1,a.2⟩
 ·exact⟨b.KN a.1,a.2⟩
 ·exact a
 ·exact⟨a.1.UL b,a.2⟩
 ·exact a.elim
theorem ni(b:oP Φ m A w)(a:iC Φ ρ m dE dx m')(n:Nat):iG A w dx n=iG A w ρ n:=by
 unfold oP at b;split at b
 ·simp only[iG,a.cx b.1]
 ·simp only[iG,a.cx b.1]
 ·rfl
 ·simp only[iG,a.cx (Ea b.1.ok)]
 ·exact b.elim
inductive k6 (Φ:Fz) (ρ:Nat->Nat) (m:Nat) (ops:List Oper) (st:St):lL->sf->Prop
 |val {i:Nat} {v:V} {o:Oper} (ho:nth ops i=some o) (hm:gp o.op=false) (hv:fJ Φ m v):k6 Φ ρ m ops st (.val i v) (.val i (erase ρ v))
 |obj {i:Nat} {v:V} {ob:cU} {j:Option Nat} {o:Oper} {bl:Nat} {a:gz} (ho:nth ops i=some o) (hm:gp o.op=true) (hv:fJ Φ m v) (hk:oP Φ m o.op ob)
   (XN:iG o.op ob ρ bl=some (erase ρ v,a)) (hj:match j with|some j=>j<m/\ρ j=bl/\mA o.op=false|none=>Φ bl=some a):k6 Φ ρ m ops st (.obj i v ob j) (.obj i (erase ρ v) bl a)
 |skip {i:Nat}:k6 Φ ρ m ops st (.skip i) (.skip i)
 |fresh {i:Nat} {v:V} {ob:cU} {j:Nat} {o:Oper} {bl:Nat} {a:gz} (ho:nth ops i=some o) (hm:gp o.op=true) (hv:fJ Φ m v) (hk:oP Φ m o.op ob)
   (XN:iG o.op ob ρ bl=some (erase ρ v,a)) (hg:st.get bl=some a) (hl:bl<st.n):k6 Φ ρ m ops st (.fresh i v ob j) (.obj i (erase ρ v) bl a)
 |never {i:Nat} {c:sf} (h:c.idx=i):k6 Φ ρ m ops st (.never i) c
theorem k6.mono{o:List Oper}{st i:St}{c:lL}{x:sf}(I:k6 Φ ρ m o st c x)(a:iC Φ ρ m dE dx m')(C:∀G,G<st.n->i.get G=st.get G)(H:st.n<=i.n):k6 dE dx m' o i c x:=by
 cases I with
 |val f k b=>rw[<-a.erase b];exact .val f k (a.ok b)
 |obj f k b d n l=>
  rename_i P N L J O K M;rw[<-a.erase b];refine .obj f k (a.ok b) (d.mono a) (by rw[ni d a,n,a.erase b]) ?_;cases J with
  |some J=>exact⟨Yz l.1 a.len,by rw[a.sg _ l.1];exact l.2.1,l.2.2⟩
  |none=>exact a.le.L6 _ _ l
 |skip=>exact .skip
 |fresh f k b d n D t=>
  rw[<-a.erase b];exact .fresh f k (a.ok b) (d.mono a) (by rw[ni d a,n,a.erase b]) (by rw[C _ t];exact D) (Yz t H)
 |never I=>exact .never I
theorem k6.Jn{st n:St}{c:lL}(o:k6 Φ ρ m h st c B)(a:iC Φ ρ m dE dx m'):k6 dE dx m' h n (El c) B:=by
 cases o with
 |val f i b=>rw[<-a.erase b];exact .val f i (a.ok b)
 |obj f i b l k d=>
  rename_i K I G t J C H;rw[<-a.erase b];refine .obj f i (a.ok b) (l.mono a) (by rw[ni l a,k,a.erase b]) ?_;cases t with
  |some t=>exact⟨Yz d.1 a.len,by rw[a.sg _ d.1];exact d.2.1,d.2.2⟩
  |none=>exact a.le.L6 _ _ d
 |skip=>exact .skip
 |fresh f i b l k D x=>exact .never rfl
 |never o=>exact .never o
theorem rh(c:hL Φ ρ m p s.tm){a:Option Tmp}{d:V}(b:Mg p a d):yg s a (erase ρ d)=true:=by
 unfold Mg at b;split at b
 ·rfl
 ·simp only[yg,(c _ _ b).1,li]
theorem yu(a:iG A w ρ u=some (y,F)):sy F F=true:=by
 unfold iG at a;split at a<;>first|cases a|skip
 ·simp only[sy,jX,Yl,Ym]
 ·simp only[sy,jX,Yl,Ym]
 ·rfl
 ·simp only[sy,jX,Yl,Ym]
theorem Jo(d:Real Φ ρ σ st)(a:iG A w ρ (ρ u)=some (y,F))(c:oP Φ m A w)(f:mA A=false)(b:nth σ u=some w):st.get (ρ u)=some F:=by
 rw[cz]at b;unfold iG at a;split at a
 ·cases a;exact(d.obj u _ b rfl).1.1.1
 ·cases a;exact(d.obj u _ b rfl).1.1.1
 ·obtain⟨rfl,rfl⟩:=c;cases a;exact(d.obj u _ b Z).1.1
 ·cases f
 ·cases a
theorem Ca(O:Real Φ ρ σ st)(f:hL Φ ρ σ.length p s.tm){c:lL}(W:k6 Φ ρ σ.length h st c B)(a:tN C h p σ c):oD C h s st B=true:=by
 cases W with
 |val d x M=>
  unfold tN at a;simp only[d]at a;rcases mF a f with⟨I,l,o⟩|⟨_,m⟩
  ·obtain⟨j,rfl,_,U⟩:=mD O (hB f) o;simp only[oD,d,I,isSome,x,rh f l,U,li,Yl];rfl
  ·exact m.elim
 |obj d x M D i N=>
  rename_i V Y T Q X b J;unfold tN at a;simp only[d]at a;rcases mF a f with⟨I,l,o,L⟩|⟨_,m⟩
  ·obtain⟨_,n⟩:=pH (hB f) o;obtain⟨g,S,t,G⟩:=n ⟨.nil,b,.nil⟩;rw[show(⟨.nil,b,.nil⟩:St).n=b from rfl,i]at t;cases t;have H:st.get b=some J:=by
    cases Q with
    |some Q=>
     obtain⟨_,P,K⟩:=N;subst P;exact Jo O i D K L
    |none=>exact O.fz _ _ N
   have k:((⟨.nil,b,.nil⟩:St).new J).get b=some J:=by rw[dH];exact if_pos rfl
   simp only[oD,d,I,isSome,x,rh f l,H,G,li,yu i,k,Ym]
  ·exact m.elim
 |fresh d x M D i R e=>
  rename_i V Y T Q X b J;unfold tN at a;simp only[d]at a;rcases mF a f with⟨I,l,o,L⟩|⟨_,m⟩
  ·obtain⟨_,n⟩:=pH (hB f) o;obtain⟨g,S,t,G⟩:=n ⟨.nil,b,.nil⟩;rw[show(⟨.nil,b,.nil⟩:St).n=b from rfl,i]at t;cases t;have k:((⟨.nil,b,.nil⟩:St).new J).get b=some J:=by rw[dH];exact if_pos rfl
   simp only[oD,d,I,isSome,x,rh f l,R,G,li,yu i,k,Ym]
  ·exact m.elim
 |never O=>exact a.elim
 |skip=>
  rename_i V;unfold tN at a;cases d:nth h V with
  |none=>simp only[d]at a
  |some X=>
   simp only[d]at a;rcases mF a f with⟨_,m⟩|⟨I,l⟩
   ·exact m.elim
   ·have:=rh (ρ:=ρ) f l;simp only[oD,d,I,isSome];exact this
inductive lM (Φ:Fz) (ρ:Nat->Nat) (m:Nat) (ops:List Oper) (st:St):List lL->List sf->Prop
 |nil:lM Φ ρ m ops st [] []
 |cons {c:lL} {c':sf} {l:List lL} {l':List sf} (h:k6 Φ ρ m ops st c c') (t:lM Φ ρ m ops st l l'):lM Φ ρ m ops st (c::l) (c'::l')
theorem lM.mono{b:List Oper}{st a:St}{l:List lL}{c:List sf}(d:lM Φ ρ m b st l c)(k:iC Φ ρ m dE dx m')(n:∀i,i<st.n->a.get i=st.get i)(o:st.n<=a.n):lM dE dx m' b a l c:=by
 induction d with
 |nil=>exact .nil
 |cons d _ f=>exact .cons (d.mono k n o) f
theorem lM.Jn{a:List Oper}{st c:St}{l:List lL}{b:List sf}(d:lM Φ ρ m a st l b)(i:iC Φ ρ m dE dx m'):lM dE dx m' a c (wk l) b:=by
 induction d with
 |nil=>exact .nil
 |cons d _ f=>rw[B7];exact .cons (d.Jn i) f
theorem QK{st:St}{c:lL}(a:k6 Φ ρ m h st c B):B.idx=c.idx:=by cases a<;>first|rfl|assumption
theorem sS(m:Real Φ ρ σ st)(i:hL Φ ρ σ.length p s.tm){b:Nat}{l:List lL}{f:List sf}(c:lM Φ ρ σ.length h st l f)(a:qA C h p σ b l):nX C h s st b f=true:=by
 induction c with
 |nil=>rfl
 |cons c _ d=>
  unfold qA at a;unfold nX;rw[QK c];split at a
  ·rename_i k;rw[Em]at k;rw[k,d a];rfl
  ·rename_i k;rw[Ca m i c a.1,d a.2,Bool.or_true];rfl
theorem Mh(f t:Nat):∀a:Tm,gf (qB f a) t=if t=f then none else gf a t:=by
 intro a;induction a with
 |nil=>simp[qB,gf]
 |cons i a c=>
  obtain⟨k,l⟩:=i;unfold qB;split
  ·rename_i d;have:=Yu d;subst this;rw[c,jW];by_cases b:t=k
   ·rw[if_pos b,if_pos b]
   ·rw[if_neg b,if_neg b,if_neg b]
  ·rename_i d;rw[jW,c,jW];by_cases b:t=k
   ·subst b;rw[if_pos rfl,if_pos rfl,if_neg];intro b;subst b;rw[Yl]at d;cases d
   ·rw[if_neg b,if_neg b]
theorem hL.del{t:Tr Value}(d:hL Φ ρ m p t)(b:Nat):hL Φ ρ m (qB b p) (t.put b none):=by
 intro f c a;rw[Mh]at a;rw[da];split at a
 ·cases a
 ·rename_i i;rw[if_neg i];exact d f c a
theorem hL.erase(a:List Oper):∀{b:Tm} {f:Tr Value},hL Φ ρ m b f->hL Φ ρ m (mE a b) (oh a f):=by
 induction a with
 |nil=>intro b f d;exact d
 |cons i a c=>
  intro b f d;unfold mE;simp only[oh,List.foldl_cons];cases k:i.dst with
  |none=>exact c d
  |some l=>
   simp only;cases n:gH i.op with
   |true=>exact c d
   |false=>exact c (d.del l)
theorem GN(g:Real Φ ρ σ st){q:Operand->Option V}{S:Operand->Option Value}(ab:nJ Φ ρ σ.length q S){o:Oper}(Y:nth h u=some o)(L:gp o.op=true) 
  {k:V->lL->VS->Prop} (d:Jj C z q o.op u σ k):
  ∃W ae t dE dx P,k W ae t/\iC Φ ρ σ.length dE dx t.length/\Real dE dx t (st.new P)/\fJ dE t.length W/\iX C S o st=some (.val (erase dx W) (st.new P))/\
   k6 dE dx t.length h (st.new P) ae (.obj u (erase dx W) st.n P):=by
 unfold Jj at d;split at d
 ·rename_i N s;obtain⟨c,p⟩:=pH ab s;obtain⟨W,P,f,T⟩:=p st;have H:=kP Φ ρ σ.length st.n;have i:jM ρ σ.length st.n σ.length=st.n:=if_pos rfl;split at d
  ·rename_i R;have n:=kj d;clear d;obtain⟨B,m,X⟩:=cI n;clear n;have b:(σ++[N]).length=σ.length+1:=by simp
   cases a:o.op with
   |buildSlice af G aa=>
    cases N with
    |row K x=>
     rw[a]at f m c;cases f;cases m;refine⟨_,_,_,Φ,_,_,X,by rw[b];exact H,g.newRow c.1,by rw[b];exact .ms om,by rw[T];simp only[erase,i,Nat.zero_mul],?_⟩;have D:oP Φ σ.length o.op (.row K x):=by rw[a];exact c
     have M:iG o.op (.row K x) ρ st.n=some (.slice (some ⟨st.n,0,none⟩) G G,.cells (cx ρ x.flatten) K st.n 0):=by rw[a];rfl
     refine .fresh Y L (by rw[b];exact .ms om) (by rw[b];exact D.mono H) ?_ (by rw[dH,if_pos rfl]) (Nat.lt_succ_self _);rw[ni D H,M];simp only[erase,i,Nat.zero_mul]
    |_=>rw[a]at f;cases f
   |_=>rw[a]at R;simp[wl,mA]at R
  split at d
  ·rename_i l;split at d
   ·rename_i K x;split at d
    ·rename_i ac e;cases a:o.op with
     |buildSlice af G aa=>
      have M:=f;have D:=c;rw[a]at f c;cases f;obtain⟨I,J⟩:=c;have ad:=I;rw[gw e]at I;obtain⟨F,w,j⟩:=g.KR I;have O:ac.length=G:=by rw[<-J,gw e,Yw]
      have Q:cx ρ x.flatten=ac.flatten.map cH:=by rw[gw e,sR]
      refine⟨_,_,σ,_,ρ,.cells (ac.flatten.map cH) K st.n 0,d st.n,w,F,.d (j _),?_,.obj Y L (.d (j _)) (D.mono w) ?_ (if_pos Z)⟩
      ·rw[T];simp only[erase,cH,O,Q]
      ·rw[M];simp only[erase,cH,O,Q]
     |_=>rw[a]at l;cases l
    ·exact d.elim
   ·exact d.elim
  ·rename_i l;have n:=kj d;clear d;obtain⟨B,m,X⟩:=cI n;clear n;have b:∀o:cU,(σ++[o]).length=σ.length+1:=fun o=>by simp
   have U:jM ρ σ.length st.n σ.length=st.n:=i;have A:iG o.op N (jM ρ σ.length st.n) st.n=some (W,P):=by rw[ni c H];exact f
   have v:Real Φ (jM ρ σ.length st.n) (σ++[N]) (st.new P)/\fJ Φ (σ.length+1) B/\erase (jM ρ σ.length st.n) B=W:=by
    unfold iG at f;split at f
    ·rename_i a;rw[a]at m c;cases f;cases m;exact⟨g.Eh c.1 c.2,.bp om,by simp only[erase,i];rfl⟩
    ·rename_i a;rw[a]at m c;cases f;cases m;exact⟨g.Eh c.1 c.2,.bp om,by simp only[erase,i];rfl⟩
    ·rename_i a;rw[a]at m c;obtain⟨rfl,rfl⟩:=c;cases f;cases m;exact⟨g.new trivial ⟨by rw[dH,if_pos rfl];rfl,fun _ g=>by simp at g⟩,.map om,by simp only[erase,i]⟩
    ·rename_i a;rw[a]at l;cases l
    ·cases f
   obtain⟨E,y,r⟩:=v;have J:=c.mono H;refine⟨B,_,_,Φ,_,P,X,by rw[b];exact H,E,by rw[b];exact y,by rw[T,r],?_⟩;rw[b];exact .obj Y L y J (by rw[A,r]) ⟨om,U,by simpa using l⟩
 ·exact d.elim
theorem At:∀(A:List Nat) {y:Nat} {t:List lL} {f:List sf} {Φ:Fz} {ρ:Nat->Nat} {σ:VS} {st:St} {tm:Tm} {D:List gd} {n:mg} {B:Ab->Tm->List gd->mg->VS->Prop},
  wo C cO r h v A y t tm D n σ B->∀{x:Fr},SR Φ ρ σ st tm D n x->vg σ.length r->lM Φ ρ σ.length h st t f->
  ∃u F,fy C (jr C cO u) (ez ρ r) h v A y f x (dj ρ n) st=some F/\Ot Φ ρ r.fl B F:=by
 intro A;induction A with
 |nil=>
  intro y t f Φ ρ σ st tm D n B b x l d P;refine⟨0,(.norm,x,dj ρ n,st),?_,Φ,ρ,σ,st,.norm,tm,D,n,x,b.2,(iC.refl _ _ _).weaken d.2,l,tv,Z⟩;unfold fy;rw[sS l.real l.tm P b.1]
 |cons ag A e=>
  intro y t f Φ ρ σ st tm D n B b x l d P;rw[B8]at b;unfold xO at b;split at b
  ·rename_i ac af O H;split at b
   ·rename_i S;have g:=sS l.real l.tm P b.1;obtain⟨u,F,w,aa⟩:=uS b.2 l d;cases aa with
    |next dE dx Q U i j V a L c k X=>
     subst X;obtain⟨o,M,J,N⟩:=e L k (c.fc d).2 (P.Jn c);refine⟨max u o,M,?_,N.after (c.weaken d.2)⟩;unfold fy;simp only[O,H,S,g];rw[pJ (gP (Yr u o)) w];simp only;rw[(c.fc d).1]at J;exact wi (gP (Yp u o)) _ J
    |fO s dE dx Q U i j V a L c k X q=>
     subst q;refine⟨u,(.panic (erase dx s),{a with tm:=oh h a.tm},dj dx V,U),?_,dE,dx,Q,U,.panic s,_,j,V,{a with tm:=oh h a.tm},L,c.weaken d.2,⟨k.real,k.tm.erase h,k.df,k.ps⟩,X,Z⟩;unfold fy;simp only[O,H,S,g,w]
   ·rename_i S;rcases mF b l.tm with⟨E,b⟩|⟨E,b⟩
    ·split at b
     ·rename_i K;obtain⟨s,ah,Q,dE,dx,ab,L,c,k,X,q,ad⟩:=GN l.real (hB l.tm) O K b;have p:=l.move c k;obtain⟨i,a,J,N,Y,T⟩:=qD L p.tm X;have G:SR dE dx Q (st.new ab) i D n a:=⟨k,Y,by rw[T];exact p.df,p.ps⟩;obtain⟨o,M,R,W⟩:=e J G (c.fc d).2 (.cons ad (P.mono c (fun y ae=>by rw[dH,if_neg om]) (Nat.le_succ _)));refine⟨o,M,?_,W.after (c.weaken d.2)⟩;unfold fy;have z:(st.new ab).get st.n=some ab:=by rw[dH,if_pos rfl]
      rw[(c.fc d).1,(c.ps l.ps).1]at R;simp only[O,H,S,E,q];have I:hS (ez ρ r).nt x ac.dst (erase dx s)=some a:=N;simp only[I,K,z];exact R
     ·rename_i K;obtain⟨s,L,c,k⟩:=mD l.real (hB l.tm) b;obtain⟨i,a,J,N,Y,T⟩:=qD L l.tm c;have G:SR Φ ρ σ st i D n a:=⟨l.real,Y,by rw[T];exact l.df,l.ps⟩;obtain⟨o,M,R,W⟩:=e J G d (.cons (.val O K c) P);refine⟨o,M,?_,W⟩;unfold fy;have I:hS (ez ρ r).nt x ac.dst (erase ρ s)=some a:=N;simp only[O,H,S,E,k,I,K,Yl];exact R
    ·obtain⟨i,a,J,N,Y,T⟩:=qD b l.tm (tM (Φ:=Φ) (m:=σ.length));have G:SR Φ ρ σ st i D n a:=⟨l.real,Y,by rw[T];exact l.df,l.ps⟩;obtain⟨o,M,R,W⟩:=e J G d (.cons .skip P);refine⟨o,M,?_,W⟩;unfold fy;have I:hS (ez ρ r).nt x ac.dst kX=some a:=N;simp only[O,H,S,E,I];exact R
  ·exact b.elim
end
variable{g:List gd} {e:Ab->Tm->List gd->mg->VS->Prop} {j:mg}
section
variable{C:eD} {cO:FuncId->List Value->Option Value} {Φ dE:Fz} {ρ dx:Nat->Nat} {σ:VS} {st:St} {m m':Nat}
theorem KV{t:TypeId}{c d:Value}{st:St}(a:gT C t y c st=some (.val d st))(b:St):gT C t y c b=some (.val d b):=by
 unfold gT at a⊢;split at a
 ·split at a
  ·split at a
   ·split at a
    ·cases a;rfl
    ·cases a
   ·cases a
  ·cases a
 ·split at a
  ·split at a
   ·split at a
    ·cases a;rfl
    ·cases a
   ·cases a
  ·cases a
 ·cases a
theorem Es{fc:uw}{U al ao:Oper}(K:Jk C fc.nt U al ao p g j σ e)(m:SR Φ ρ σ st p g j s)(aB:vg σ.length fc):
  ∃be,FN C (ez ρ fc) U al ao s (dj ρ j) st=some be/\Ot Φ ρ fc.fl e be:=by
 unfold Jk at K;split at K
 ·rename_i av t1 br bo t2 bn bs aH aj B ak ae o;obtain⟨bh,aJ,ax,x⟩:=mD m.real (hB m.tm) K;obtain⟨aq,H,E,aM,r,aF⟩:=qD aJ m.tm ax;obtain⟨bu,ay,aa⟩:=cI E;obtain⟨bm,aE,A⟩:=cI aa;obtain⟨bl,aP,y⟩:=cI A;obtain⟨bt,aI,h⟩:=cI y;clear E aa A y;obtain⟨f1,ac⟩:=hB r _ _ ay;obtain⟨f2,ab⟩:=hB r _ _ aE;have n:hL Φ ρ σ.length (qB av p) (⟨s.tm.put av none,s.df⟩:Fr).tm:=m.tm.del av;obtain⟨f3,z⟩:=hB n _ _ aP;obtain⟨f4,ar⟩:=hB n _ _ aI;split at h
  ·rename_i D aT bb bk f bc;obtain⟨b,c⟩:=h;obtain⟨aY,bf,aO,G,aw,ap,bq⟩:=hC m.real ac ab c;obtain⟨am,Q,aK,q,aA,ag,bw⟩:=hC aw (by rw[G];exact z) (by rw[G];exact ar) aO;obtain⟨aN,k,F,T,v,P,bj⟩:=hC m.real z ar b;obtain⟨aC,aG,aU,bg,aR,R,aV⟩:=hC v (by rw[T];exact ac) (by rw[T];exact ab) F;have N:∃ad J,σ[D]?=some (.row ad J):=by
    unfold k5 at c;split at c
    ·split at c
     ·dsimp only at c;split at c
      ·rename_i aX J I;rw[cz]at I;exact⟨_,_,I⟩
      ·exact c.elim
     ·exact c.elim
    ·exact c.elim
   have M:∃Y,σ[f]?=some (.box Y):=by
    unfold k5 at b;split at b
    ·split at b
     ·dsimp only at b;split at b
      ·rename_i Y I;rw[cz]at I;exact⟨_,I⟩
      ·exact b.elim
     ·exact b.elim
    ·exact b.elim
   obtain⟨ad,J,d⟩:=N;obtain⟨Y,a⟩:=M;have u:D≠f:=fun i=>by subst i;rw[d]at a;cases a
   have l:ρ D≠ρ f:=fun i=>u (m.real.inj _ _ _ _ d a rfl rfl i);obtain⟨_,O,ba,t⟩:=pI m.real d;obtain⟨⟨⟨S,au⟩,_⟩,_⟩:=m.real.obj f _ a rfl;have V:ρ f≠O:=fun i=>by
    have W:=m.real.mB d rfl t S (fun i=>l i.symm) (.inr ⟨f,_,a,rfl,rfl⟩);exact W i
   have ai:apart st (ρ D) (ρ f)=true:=by
    unfold apart;rw[t,S];simp only[oO l,oO (fun i=>V i.symm),au];cases af:st.fm.get O with
    |none=>rfl
    |some az=>
     simp only[Bool.not_false,Bool.true_and];rw[Bool.not_eq_true'];refine List.any_eq_false.2 fun bi W=>?_;intro i;have i:=Yu i;subst i;exact(m.real.en D _ _ _ _ _ _ az _ d t af W (fun i=>l i.symm)).2 f _ a Z Z
   have L:iX C (jq s) U k=some (.val (erase ρ bh) k):=by
    obtain⟨aD,X,aS,aQ,aL,aW⟩:=U;cases X with
    |indexAddr bv bi bp=>
     simp only[iX]at x⊢;split at x
     ·exact KV x k
     ·cases x
    |_=>cases o
   have w:(gH U.op||gp U.op)=false:=by
    cases an:U.op with
    |indexAddr bv bi bp=>rfl
    |_=>rw[an]at o;cases o
   have ah:hS (ez ρ fc).nt s (some av) (erase ρ bh)=some H:=aM;refine⟨(.norm,H,dj ρ j,Q),?_,Φ,ρ,am,Q,.norm,aq,g,j,H,aK,⟨Fz.le_refl _,fun _ _=>Z,by have:=aB.2;omega⟩,⟨aA,?_,?_,?_⟩,tv,rfl⟩
   ·unfold FN;simp only[aH,aj,B,ak,ae,w,x,Yl,ah,f1,f2,f3,f4,erase];simp only[erase]at ap ag P R;simp only[ai,ap,P,L,li,Yl,Ym,ag,R]
   ·rw[q,G];exact r
   ·rw[q,G,aF];exact m.df
   ·rw[q,G];exact m.ps
  ·exact h.elim
 ·exact K.elim
theorem Et{fc:uw}{r aB f aE:Oper}(k:Jl C fc.nt r aB f aE p g j σ e)(D:SR Φ ρ σ st p g j s)(aR:vg σ.length fc):
  ∃bw,FO C (ez ρ fc) r aB f aE s (dj ρ j) st=some bw/\Ot Φ ρ fc.fl e bw:=by
 unfold Jl at k;split at k
 ·rename_i x a aY az aj ag;split at k
  ·rename_i t1 bK bH aX bf aM t2 bG bL aA X ar I;split at k
   ·rename_i W ah aG;have aS:x≠a:=Nat.ne_of_beq_eq_false W;have G:hL Φ ρ σ.length (qB a p) (⟨s.tm.put a none,s.df⟩:Fr).tm:=D.tm.del a;have t:hL Φ ρ σ.length (qB x p) (⟨s.tm.put x none,s.df⟩:Fr).tm:=D.tm.del x;obtain⟨z,bc,ai,L⟩:=mD D.real (hB G) k;obtain⟨n,bb,ay,H⟩:=mD D.real (hB t) bc;have am:hL Φ ρ σ.length ((x,z)::qB a p) (⟨(s.tm.put a none).set x (erase ρ z),s.df⟩:Fr).tm:=G.set ai;have aF:hL Φ ρ σ.length ((a,n)::qB x p) (⟨(s.tm.put x none).set a (erase ρ n),s.df⟩:Fr).tm:=t.set ay;obtain⟨bN,aL,an⟩:=cI bb;obtain⟨bE,aV,af⟩:=cI an;obtain⟨bD,bj,ad⟩:=cI af;obtain⟨bM,ba,B⟩:=cI ad;clear an af ad;obtain⟨f1,ap⟩:=hB am _ _ aL;obtain⟨f2,ao⟩:=hB am _ _ aV;obtain⟨f3,ae⟩:=hB aF _ _ bj;obtain⟨f4,aI⟩:=hB aF _ _ ba;split at B
    ·rename_i M bn bu bC l bv;obtain⟨c,d⟩:=B;obtain⟨bs,bx,bi,N,aK,aH,bJ⟩:=hC D.real ap ao d;obtain⟨aC,V,be,F,aP,av,bP⟩:=hC aK (by rw[N];exact ae) (by rw[N];exact aI) bi;obtain⟨bh,m,ak,q,ab,U,bB⟩:=hC D.real ae aI c;obtain⟨aT,aW,bo,bz,bl,Y,bp⟩:=hC ab (by rw[q];exact ap) (by rw[q];exact ao) ak;have S:∃aq P,σ[M]?=some (.row aq P):=by
      unfold k5 at d;split at d
      ·split at d
       ·dsimp only at d;split at d
        ·rename_i br P O;rw[cz]at O;exact⟨_,_,O⟩
        ·exact d.elim
       ·exact d.elim
      ·exact d.elim
     have R:∃y,σ[l]?=some (.box y):=by
      unfold k5 at c;split at c
      ·split at c
       ·dsimp only at c;split at c
        ·rename_i y O;rw[cz]at O;exact⟨_,O⟩
        ·exact c.elim
       ·exact c.elim
      ·exact c.elim
     obtain⟨aq,P,i⟩:=S;obtain⟨y,b⟩:=R;have aa:M≠l:=fun a=>by subst a;rw[i]at b;cases b
     have o:ρ M≠ρ l:=fun a=>aa (D.real.inj _ _ _ _ i b rfl rfl a);obtain⟨_,T,bt,J⟩:=pI D.real i;obtain⟨⟨⟨h,aJ⟩,_⟩,_⟩:=D.real.obj l _ b rfl;have u:ρ l≠T:=fun a=>by
      have v:=D.real.mB i rfl J h (fun a=>o a.symm) (.inr ⟨l,_,b,rfl,rfl⟩);exact v a
     have ax:apart st (ρ M) (ρ l)=true:=by
      unfold apart;rw[J,h];simp only[oO o,oO (fun a=>u a.symm),aJ];cases au:st.fm.get T with
      |none=>rfl
      |some aN=>
       simp only[Bool.not_false,Bool.true_and];rw[Bool.not_eq_true'];refine List.any_eq_false.2 fun bA v=>?_;intro a;have a:=Yu a;subst a;exact(D.real.en M _ _ _ _ _ _ aN _ i J au v (fun a=>o a.symm)).2 l _ b Z Z
     have Q:iX C (jq ⟨s.tm.put a none,s.df⟩) r m=some (.val (erase ρ z) m):=by
      obtain⟨aU,w,bm,bk,bg,bq⟩:=r;cases w with
      |indexAddr bO bA bI=>
       simp only[iX]at L⊢;split at L
       ·exact KV L m
       ·cases L
      |_=>cases I
     have ac:(gH r.op||gp r.op)=false:=by
      cases aD:r.op with
      |indexAddr bO bA bI=>rfl
      |_=>rw[aD]at I;cases I
     obtain⟨K,aQ,aO⟩:∃K,jq ⟨s.tm.put x none,s.df⟩ bf=some K/\gb C aX K aM st=some (.val (erase ρ n) st):=by
      unfold iX at H;rw[X]at H;simp only at H;split at H
      ·rename_i K al;exact⟨K,al,H⟩
      ·cases H
     have aw:Yv x (ez ρ fc).nt=true:=ah;have E:Yv a (ez ρ fc).nt=true:=aG;have A:hL Φ ρ σ.length ((a,n)::(x,z)::p) (⟨(s.tm.set x (erase ρ z)).set a (erase ρ n),s.df⟩:Fr).tm:=(D.tm.set ai).set ay;refine⟨(.norm,⟨(s.tm.set x (erase ρ z)).set a (erase ρ n),s.df⟩,dj ρ j,V),?_,Φ,ρ,aC,V,.norm,(a,n)::(x,z)::p,g,j,_,be,⟨Fz.le_refl _,fun _ _=>Z,by have:=aR.2;omega⟩,⟨aP,?_,?_,?_⟩,tv,rfl⟩
     ·unfold FO;simp only[aY,az,ag,aj,aA,X,ar,ac,W,L,aQ,aO,Yl,aw,E,f1,f2,f3,f4,erase,Ym];simp only[erase]at aH av U Y;simp only[ax,aH,U,Q,li,Yl,Ym,av,Y]
     ·rw[F,N];exact A
     ·rw[F,N];exact D.df
     ·rw[F,N];exact D.ps
    ·exact B.elim
   ·exact k.elim
  ·exact k.elim
 ·exact k.elim
theorem Cb{I:Array Oper}(H:En C cO r I z p g j σ e)(X:SR Φ ρ σ st p g j s)(G:vg σ.length r):
  ∃M N,region C (jr C cO M) (ez ρ r) I z s (dj ρ j) st=some N/\Ot Φ ρ r.fl e N:=by
 unfold En at H;split at H
 ·exact B9 _ H X G
 ·split at H;rename_i q m R D;obtain⟨M,N,x,T⟩:=At _ H X G .nil;obtain⟨dE,dx,k,f,v,d,n,i,l,a,c,t,W,rfl⟩:=T;cases v with
  |norm=>
   simp only at a;cases L:Nat.beq m I.toList.length with
   |true=>
    rw[L]at a;refine⟨M,_,?_,dE,dx,k,f,.norm,d,n,i,l,a,c,t,tv,Z⟩;unfold region;simp only[D,x,ey,L]
   |false=>
    rw[L]at a;simp only at a;split at a
    ·rename_i Y V U S K O;split at a
     ·rename_i b;rw[Em]at b;obtain⟨N,J,P⟩:=Es (fc:=r) a t (c.GL G).2;refine⟨M,N,?_,P.after c⟩;rw[(c.GL G).1]at J;unfold region;simp only[D,x,ey,L,K,O,b,J]
     ·exact a.elim
    ·rename_i Y V w U S K O;split at a
     ·rename_i u b Q;split at a
      ·rename_i o;rw[Em]at b o;obtain⟨N,J,P⟩:=Et (fc:=r) a t (c.GL G).2;refine⟨M,N,?_,P.after c⟩;rw[(c.GL G).1]at J;unfold region;simp only[D,x,ey,L,K,O,b,Q,o,J]
      ·exact a.elim
     ·exact a.elim
    ·exact a.elim
  |exit id=>
   refine⟨M,_,?_,dE,dx,k,f,.exit id,d,n,i,l,a,c,t,tv,Z⟩;unfold region;simp only[D,x,ey]
  |ret=>
   refine⟨M,_,?_,dE,dx,k,f,.ret,d,n,i,l,a,c,t,tv,Z⟩;unfold region;simp only[D,x,ey]
  |panic h=>
   refine⟨M,_,?_,dE,dx,k,f,.panic h,d,n,i,l,a,c,t,W,Z⟩;unfold region;simp only[D,x,ey]
theorem wu{fc:uw}{y:FuncId}{first d:List V}(t:Eo C cO y first d u p g j σ e)(w:SR Φ ρ σ st p g j s) 
  (W:vg σ.length fc) (L:u<σ.length) (o:fB Φ σ.length first) (D:fB Φ σ.length d):
  ∃I v r,C.ff.get y=some I/\(match(jr C cO v).call y (cx ρ first++[.func (.yield (ρ u)) #[] #[]]++cx ρ d) false .none st with
    |some (.ret _,_,st)=>match st.get (ρ u)with
     |some (.loop f)=>match f.state with
      |.busy=>none
      |_=>match Dw f.pending with
       |some J=>some (J,s,dj ρ j,st.put (ρ u) (.loop {f with state:=.exhausted}))
       |none=>none
     |_=>none
    |some (.fO T,_,st)=>some (.panic T,s,dj ρ j,st)
    |none=>none)=some r/\Ot Φ ρ fc.fl e r:=by
 unfold Eo at t;split at t
 ·exact t.elim
 ·rename_i I M;have G:fB Φ σ.length (first++[.so u]++d):=(o.append (fun T Y=>by simp at Y;subst Y;exact .so L)).append D;obtain⟨v,r,A,m,dE,dx,n,H,k,P,z,c⟩:=t.go Φ ρ st w.real G;have x:=w.move k P;rw[ga,ga]at H;simp only[cx,erase]at H;cases r with
  |ret T=>
   simp only at c;split at c
   ·rename_i S N;rw[cz]at N;obtain⟨⟨f,h,b⟩,_⟩:=P.obj u _ N rfl;have U:S.state≠.busy/\dO (Om S.pending) fun J=>yT n u (.loop {S with state:=.exhausted}) fun O=>e J p g j O:=by
     cases i:S.state with
     |busy=>rw[i]at c;exact c.elim
     |_=>rw[i]at c;exact⟨by simp,c⟩
    obtain⟨q,c⟩:=U;obtain⟨J,l,c⟩:=cI c;obtain⟨_,c⟩:=kl _ _ _ _ c;have Q:=P.put (o':=.loop {S with state:=.exhausted}) (a:=.loop {f with state:=.exhausted}) N rfl rfl rfl (fun _ _ _ _ R=>by cases R)
     ⟨{f with state:=.exhausted},by rw[de,if_pos rfl],⟨rfl,b.pending,b.fn,b.tm,b.nt,b.params,b.assign,b.body,b.defers,b.fq⟩⟩
    have K:Dw f.pending=some (ey dx J)/\Mf dE n.length J:=by
     rw[b.pending];unfold Om at l;split at l
     ·rename_i R;cases l;rw[R];exact⟨rfl,tv⟩
     ·rename_i R;cases l;rw[R];exact⟨rfl,tv⟩
     ·rename_i R;cases l;rw[R];exact⟨rfl,tv⟩
     ·cases l
    have X:ρ u=dx u:=(k.sg u L).symm;refine⟨I,v,(ey dx J,s,dj dx j,m.put (dx u) (.loop {f with state:=.exhausted})),M,?_,dE,dx,_,_,J,p,g,j,s,c,by rw[jg];exact k.weaken W.2,⟨Q,by rw[jg];exact x.tm,by rw[jg];exact x.df,by rw[jg];exact x.ps⟩,by rw[jg];exact K.2,rfl⟩;rw[H];simp only[e3];rw[X,h];simp only;rw[b.state];cases i:S.state with
    |busy=>exact absurd i q
    |_=>simp only[K.1,(k.ps w.ps).1]
   ·exact c.elim
  |fO T=>
   refine⟨I,v,(.panic (erase dx T),s,dj dx j,m),M,?_,dE,dx,n,m,.panic T,p,g,j,s,c,k.weaken W.2,x,z,Z⟩;rw[H];simp only[e3,(k.ps w.ps).1]
theorem qE:∀(ay:Code) {Φ:Fz} {ρ:Nat->Nat} {σ:VS} {st:St} {f:Tm} {df:List gd} {i:mg} {R:Ab->Tm->List gd->mg->VS->Prop},
  vc C cO r ay f df i σ R->∀{fr:Fr},SR Φ ρ σ st f df i fr->vg σ.length r->
  ∃M Y,code C (jr C cO M) (ez ρ r) ay fr (dj ρ i) st=some Y/\Ot Φ ρ r.fl R Y:=by
 intro ay;induction ay with
 |skip=>intro Φ ρ σ st f df i R a fr G b;exact⟨0,_,rfl,Φ,ρ,σ,st,.norm,f,df,i,fr,a,(iC.refl _ _ _).weaken b.2,G,tv,rfl⟩
 |region id aV aM=>intro Φ ρ σ st f df i R a fr G b;exact Cb a G b
 |seq aW ae X V=>
  intro Φ ρ σ st f df i R a fr G b;rw[Ta]at a;unfold On at a;obtain⟨M,Y,k,dE,dx,o,l,aF,n,x,m,t,D,J,L,T,rfl⟩:=X a G b;cases aF with
  |norm=>
   cases F:cutAt r ae with
   |false=>
    rw[F]at D;obtain⟨S,aL,aG,an⟩:=V D L (J.GL b).2;refine⟨max M S,aL,?_,an.after J⟩;unfold code;rw[gO (gP (Yr M S)) _ k];simp only[ey];rw[(J.GL b).1]at aG;exact gO (gP (Yp M S)) _ aG
   |true=>
    rw[F]at D;have D:b5 C cO r ae n x m o R:=D;obtain⟨S,av,z,aE,aA,A,E,au,p,aD,v,ah,ar,ak,ag,ad,ac,aq⟩:=D.go dE dx l t L.real L.tm L.df L.ps (J.GL b).2;have an:Ot dE dx r.fl R (ey p av,z,dj p A,E):=⟨au,p,aD,E,av,aE,aA,A,z,aq,ah,⟨ar,ak,ag,ad⟩,ac,rfl⟩;refine⟨max M S,_,?_,an.after J⟩;unfold code;rw[gO (gP (Yr M S)) _ k];simp only[ey];rw[(J.GL b).1]at v;exact gO (gP (Yp M S)) _ v
  |exit id=>exact⟨M,_,by unfold code;rw[k];rfl,dE,dx,o,l,.exit id,n,x,m,t,D,J,L,T,rfl⟩
  |ret=>exact⟨M,_,by unfold code;rw[k];rfl,dE,dx,o,l,.ret,n,x,m,t,D,J,L,T,rfl⟩
  |panic aR=>exact⟨M,_,by unfold code;rw[k];rfl,dE,dx,o,l,.panic aR,n,x,m,t,D,J,L,T,rfl⟩
 |cond ay aW ae X V=>
  intro Φ ρ σ st f df i R a fr G b;rw[QJ]at a;unfold Jm at a;split at a
  ·rename_i aY aI;have az:=(hB G.tm _ _ aI).1;cases aY with
   |true=>
    obtain⟨M,Y,k,Q⟩:=X a G b;exact⟨M,Y,by unfold code;simp only[az,erase,cH];exact k,Q⟩
   |false=>
    obtain⟨M,Y,k,Q⟩:=V a G b;exact⟨M,Y,by unfold code;simp only[az,erase,cH];exact k,Q⟩
  ·exact a.elim
 |block id ae ab=>
  intro Φ ρ σ st f df i R a fr G b;obtain⟨M,Y,k,dE,dx,o,l,aF,n,x,m,t,D,J,L,T,rfl⟩:=ab a G b;cases aF with
  |exit B=>
   simp only at D;cases s:Nat.beq B id with
   |true=>
    rw[s]at D;exact⟨M,_,by unfold code;rw[k];simp only[ey,s],dE,dx,o,l,.norm,n,x,m,t,D,J,L,tv,rfl⟩
   |false=>
    rw[s]at D;exact⟨M,_,by unfold code;rw[k];simp only[ey,s],dE,dx,o,l,.exit B,n,x,m,t,D,J,L,tv,rfl⟩
  |norm=>exact⟨M,_,by unfold code;rw[k];rfl,dE,dx,o,l,.norm,n,x,m,t,D,J,L,T,rfl⟩
  |ret=>exact⟨M,_,by unfold code;rw[k];rfl,dE,dx,o,l,.ret,n,x,m,t,D,J,L,T,rfl⟩
  |panic aR=>exact⟨M,_,by unfold code;rw[k];rfl,dE,dx,o,l,.panic aR,n,x,m,t,D,J,L,T,rfl⟩
 |loop ae ab=>
  intro Φ ρ σ st f df i R a fr G b;have a:b5 C cO r (.loop ae) f df i σ R:=a;obtain⟨M,aF,t,n,x,m,l,dE,dx,o,v,ah,ar,ak,ag,ad,ac,aq⟩:=a.go Φ ρ st fr G.real G.tm G.df G.ps b;exact⟨M,_,v,dE,dx,o,l,aF,n,x,m,t,aq,ah,⟨ar,ak,ag,ad⟩,ac,Z⟩
 |rangeFunc ba d c I X V=>
  intro Φ ρ σ st f df i R a fr G b;rw[Oo]at a;unfold Ep at a;split at a
  ·rename_i bb first aS aP
   obtain⟨az,aw⟩:=hB G.tm _ _ aP;cases aw with
   |fn K O=>
   have H:∀(σ:VS) (aT:cU),(σ++[aT]).length=σ.length+1:=fun σ aT=>by simp
   split at a
   ·rename_i aQ aj;split at a
    ·rename_i aU aB;rw[cz]at aB;obtain⟨⟨aH,ax,e⟩,_⟩:=G.real.obj aQ _ aB rfl;have a:=kj a;have af:=kP Φ ρ σ.length st.n;have ai:jM ρ σ.length st.n σ.length=st.n:=if_pos rfl;have ap:Real Φ (jM ρ σ.length st.n) (σ++[.loop ⟨.ready,none,r.fn,f,r.nt,d.toList,c,I,aU.defers,r.fz⟩]) (st.new (.loop ⟨.ready,none,r.fn,fr.tm,r.nt,d.toList,c,I,aH.defers⟩)):=
      G.real.new trivial ⟨_,by rw[dH,if_pos rfl],⟨rfl,rfl,rfl,af.tm G.tm,rfl,rfl,rfl,rfl,by show aH.defers=_;rw[e.defers];exact(af.sg _ e.fq).symm,Nat.lt_succ_of_lt e.fq⟩⟩
     have N:iC Φ ρ σ.length Φ (jM ρ σ.length st.n) (σ++[cU.loop ⟨.ready,none,r.fn,f,r.nt,d.toList,c,I,aU.defers,r.fz⟩]).length:=by rw[H];exact af
     have aO:=G.move N ap;obtain⟨aN,M,Y,ao,j,aa⟩:=wu (fc:=r) a aO (N.fc b).2 (by rw[H];omega) (N.KN K) (N.KN O);refine⟨M,Y,?_,aa.after (N.weaken b.2)⟩;unfold code;rw[N.cx K,N.cx O,ai,(N.ps G.ps).1]at j;simp only[az,erase,ez,oE,aj,Option.map_some,ax,ao];exact j
    ·exact a.elim
   ·rename_i aj;have a:=kj (kj a);have aC:=kP Φ ρ σ.length st.n;have W:jM ρ σ.length st.n σ.length=st.n:=if_pos rfl;have y:Real Φ (jM ρ σ.length st.n) (σ++[.fg false]) (st.new (.fg false)):=G.real.new trivial (by show(st.new (.fg false)).get st.n=_;rw[dH,if_pos rfl]);have g:iC Φ ρ σ.length Φ (jM ρ σ.length st.n) (σ++[cU.fg false]).length:=by rw[H];exact aC
    have k:=G.move g y;have U:=kP Φ (jM ρ σ.length st.n) (σ++[cU.fg false]).length (st.new (.fg false)).n;have u:jM (jM ρ σ.length st.n) (σ++[cU.fg false]).length (st.new (.fg false)).n (σ++[cU.fg false]).length=(st.new (.fg false)).n:=if_pos rfl;have h:σ.length<(σ++[cU.fg false]).length:=by rw[H];omega
    have w:Real Φ (jM (jM ρ σ.length st.n) (σ++[cU.fg false]).length (st.new (.fg false)).n) ((σ++[cU.fg false])++[cU.loop ⟨.ready,none,r.fn,f,r.nt,d.toList,c,I,σ.length,r.fz⟩])
      ((st.new (.fg false)).new (.loop ⟨.ready,none,r.fn,fr.tm,r.nt,d.toList,c,I,st.n⟩)):=
     k.real.new trivial ⟨_,by rw[dH,if_pos rfl],⟨rfl,rfl,rfl,U.tm k.tm,rfl,rfl,rfl,rfl,by show st.n=_;rw[U.sg _ h,W],Nat.lt_succ_of_lt h⟩⟩
    have q:iC Φ (jM ρ σ.length st.n) (σ++[cU.fg false]).length Φ (jM (jM ρ σ.length st.n) (σ++[cU.fg false]).length (st.new (.fg false)).n) ((σ++[cU.fg false])++[cU.loop ⟨.ready,none,r.fn,f,r.nt,d.toList,c,I,σ.length,r.fz⟩]).length:=by
     rw[H (σ++[cU.fg false])];exact U
    have Q:=k.move q w;have P:=g.trans q;have aJ:SR Φ (jM (jM ρ σ.length st.n) (σ++[cU.fg false]).length (st.new (.fg false)).n) ((σ++[cU.fg false])++[cU.loop ⟨.ready,none,r.fn,f,r.nt,d.toList,c,I,σ.length,r.fz⟩])
      ((st.new (.fg false)).new (.loop ⟨.ready,none,r.fn,fr.tm,r.nt,d.toList,c,I,st.n⟩)) f (⟨.D1 σ.length,[]⟩::df) i {fr with df:={target:=.collected st.n,args:= #[]}::fr.df}:=by
     refine⟨Q.real,Q.tm,⟨?_,fun aX am=>?_⟩,Q.ps⟩
     ·have aK:=Q.df.1;simp only[YB];rw[<-aK];congr 1;simp only[je,U.sg _ h,W,cx]
     ·rcases YA.1 am with rfl|am
      ·exact⟨by show σ.length<_;rw[H (σ++[cU.fg false]),H];omega,fun _ G=>by simp at G⟩
      ·exact Q.df.2 aX am
    obtain⟨aN,M,Y,ao,j,aa⟩:=wu (fc:=r) a aJ (P.fc b).2 (by rw[H (σ++[cU.fg false])];omega) (P.KN K) (P.KN O);refine⟨M,Y,?_,aa.after (P.weaken b.2)⟩;unfold code;rw[P.cx K,P.cx O,u,(P.ps G.ps).1]at j;simp only[az,erase,ez,oE,aj,Option.map_none,ao];exact j
  ·exact a.elim
 |exit id=>intro Φ ρ σ st f df i R a fr G b;exact⟨0,_,rfl,Φ,ρ,σ,st,.exit id,f,df,i,fr,a,(iC.refl _ _ _).weaken b.2,G,tv,rfl⟩
 |ret=>intro Φ ρ σ st f df i R a fr G b;exact⟨0,_,rfl,Φ,ρ,σ,st,.ret,f,df,i,fr,a,(iC.refl _ _ _).weaken b.2,G,tv,rfl⟩
 |scope ae ab=>intro Φ ρ σ st f df i R a fr G b;exact a.elim
 |label aQ=>intro Φ ρ σ st f df i R a fr G b;exact a.elim
 |goto aQ=>intro Φ ρ σ st f df i R a fr G b;exact a.elim
 |refuse bc=>intro Φ ρ σ st f df i R a fr G b;exact a.elim
end
variable{E:r5} {q:List V}
section
variable{C:eD} {cO:FuncId->List Value->Option Value} {Φ dE:Fz} {ρ dx:Nat->Nat} {σ:VS} {st:St} {m m':Nat}
def mG(ρ:Nat->Nat):r5->AM.Mode
 |.returning=>.returning
 |.panicking a=>.panicking (erase ρ a)
def Tb(Φ:Fz)(m:Nat):r5->Prop
 |.returning=>True
 |.panicking a=>fJ Φ m a
theorem iC.mode(b:iC Φ ρ m dE dx m')(a:Tb Φ m E):mG dx E=mG ρ E/\Tb dE m' E:=by
 cases E with
 |returning=>exact⟨rfl,tv⟩
 |panicking c=>exact⟨by simp only[mG,b.erase a],b.ok a⟩
theorem Cc:∀(H:List gd) {f:r5} {Φ:Fz} {ρ:Nat->Nat} {σ:VS} {st:St} {k:r5->VS->Prop},rb C cO H f σ k->Real Φ ρ σ st->(∀D∈H,Gu Φ σ.length D)->Tb Φ σ.length f->
  ∃M i dE dx c n,kg C (jr C cO M) (H.map (je ρ)) (mG ρ f) st=some (mG dx i,n)/\iC Φ ρ σ.length dE dx c.length/\Real dE dx c n/\Tb dE c.length i/\k i c:=by
 intro H;induction H with
 |nil=>intro f Φ ρ σ st k d Q _ o;exact⟨0,f,Φ,ρ,σ,st,rfl,.refl _ _ _,Q,o,d⟩
 |cons D H h=>
  intro f Φ ρ σ st k d Q x o;obtain⟨aa,s⟩:=D;have q:=x _ (YG ..);have G:∀D∈H,Gu Φ σ.length D:=fun D Q=>x D (YE _ Q);cases aa with
  |D1 S=>
   unfold rb at d;split at d
   ·rename_i N;rw[cz]at N;obtain⟨_,d⟩:=kl _ _ _ _ d;have w:=(Q.obj S _ N rfl).1;have R:=Q.put (o':=.fg true) (a:=.fg true) N rfl rfl rfl (fun _ _ _ _ ab=>by cases ab) (by show(st.put (ρ S) (.fg true)).get (ρ S)=_;rw[de,if_pos rfl]);obtain⟨M,i,dE,dx,c,n,O,l,P,p,T⟩:=h d R (by rw[jg];exact G) (by rw[jg];exact o);rw[jg]at l;refine⟨M,i,dE,dx,c,n,?_,l,P,p,T⟩;have X:st.get (ρ S)=some (.fg false):=w;simp only[YB,je,kg,X];exact O
   ·exact d.elim
  |fn ad K=>
   unfold rb at d;split at d
   ·rename_i ac r;obtain⟨L,u⟩:=q;have L:fB Φ σ.length K:=L;have g:yV Φ σ.length (L2 f):=by
     cases f with
     |returning=>trivial
     |panicking v=>exact o
    obtain⟨M,S,t,n,dE,dx,c,O,l,P,p,T,I⟩:=d.go Φ ρ st Q (u.append L) g;cases S with
    |fO v=>exact I.elim
    |ret v=>
     have U:Tb dE c.length (oo f t):=by
      cases f with
      |returning=>trivial
      |panicking v=>
       cases t with
       |qn=>trivial
       |none=>exact l.ok o
       |gu F=>exact l.ok o
     have I:rb C cO H (oo f t) c k:=I;obtain⟨J,i,Y,V,j,W,e,y,E,z,B⟩:=h I P (fun D x=>(l.V2 (G D x)).2) U;refine⟨max M J,i,Y,V,j,W,?_,l.trans y,E,z,B⟩;have A:H.map (je dx)=H.map (je ρ):=Yy fun D x=>(l.V2 (G D x)).1;rw[A]at e;have m:=(gP (C:=C) (cO:=cO) (Yr M J)).call _ _ _ _ _ _ O;have b:=wj (gP (C:=C) (cO:=cO) (Yp M J)) _ e;rw[ga]at m;unfold kg;simp only[YB,je,r];cases f with
     |returning=>
      simp only[L2,dj]at m;simp only[oo,mG]at b⊢;rw[m];simp only[e3];exact b
     |panicking F=>
      simp only[L2,dj]at m;simp only[mG];rw[m];simp only[e3];cases t with
      |qn=>exact b
      |none=>
       simp only[oo,mG]at b;rw[l.erase o]at b;exact b
      |gu ae=>
       simp only[oo,mG]at b;rw[l.erase o]at b;exact b
   ·exact d.elim
theorem Au(L:Real Φ ρ σ st){t:Tr Value}(m:hL Φ ρ σ.length p t):∀(o:List ResultVar) {k:List V->Prop},wq C p σ o k->∃a,k a/\fB Φ σ.length a/\pr C t st o=some (cx ρ a):=by
 intro o;induction o with
 |nil=>intro k b;exact⟨[],b,fun _ L=>by simp at L,rfl⟩
 |cons M o n=>
  intro k b;cases M with
  |tmp O=>
   obtain⟨D,f,c⟩:=cI b;obtain⟨a,l,d,i⟩:=n c;obtain⟨x,J⟩:=m _ _ f;refine⟨D::a,l,fun G hx=>?_,by simp only[pr,zN,x,i,cx]⟩;rcases YA.1 hx with rfl|hx
   ·exact J
   ·exact d G hx
  |cell O N=>
   obtain⟨P,f,c⟩:=cI b;obtain⟨x,J⟩:=m _ _ f;obtain⟨D,l,d,i⟩:=yo L J c;obtain⟨a,K,H,I⟩:=n l;refine⟨D::a,K,fun G hx=>?_,by simp only[pr,zN,x,i,I,cx]⟩;rcases YA.1 hx with rfl|hx
   ·exact d
   ·exact H G hx
theorem Av(ρ:Nat->Nat)(a:List V):tB (cx ρ a)=erase ρ (oQ a):=by
 cases a with
 |nil=>simp[oQ,tB,cx,erase]
 |cons c a=>
  cases a with
  |nil=>simp[oQ,tB,cx]
  |cons b a=>simp[oQ,tB,cx,erase,List.toArray]
theorem GO(a:fB Φ m q):fJ Φ m (oQ q):=by
 cases q with
 |nil=>exact .dN a
 |cons b q=>
  cases q with
  |nil=>exact a b sm
  |cons c q=>exact .dN a
theorem Cd{fi:FI}{K:cZ->VS->Prop}(k:tO C cO fi.Qn E p g σ K)(f:SR Φ ρ σ st p g j s)(H:Tb Φ σ.length E):
  ∃n o dE dx a b,finish C (jr C cO n) fi (mG ρ E) s (dj ρ j) st=some (e3 dx o,dj dx j,b)/\iC Φ ρ σ.length dE dx a.length/\Real dE dx a b/\B6 dE a.length o/\K o a:=by
 unfold tO at k;obtain⟨n,l,dE,dx,a,b,m,c,d,I,i⟩:=Cc g k f.real f.df.2 H;cases l with
 |panicking J=>
  refine⟨n,.fO J,dE,dx,a,b,?_,c,d,I,i⟩;unfold finish;rw[f.df.1,m];simp only[mG,e3,(c.ps f.ps).1]
 |returning=>
  obtain⟨x,D,t,G⟩:=Au d (c.tm f.tm) fi.Qn i;refine⟨n,.ret (oQ x),dE,dx,a,b,?_,c,d,GO t,D⟩;unfold finish;rw[f.df.1,m];simp only[mG,G,e3,(c.ps f.ps).1,Av]
theorem Eu(a:List V):∀(c b:Nat),gf (re c a) b=if c<=b/\b<c+a.length then a[b-c]? else none:=by
 induction a with
 |nil=>
  intro c b;simp only[re,gf,List.length_nil,Nat.add_zero];rw[if_neg om]
 |cons k a f=>
  intro c b;simp only[re,jW,f,List.length_cons];by_cases i:b=c
  ·subst i;rw[if_pos rfl,if_pos om,Nat.sub_self];rfl
  ·rw[if_neg i];by_cases d:c+1<=b/\b<c+1+a.length
   ·rw[if_pos d,if_pos om,show b-c=(b-(c+1))+1 from by omega];rfl
   ·rw[if_neg d,if_neg om]
theorem sT{R:Nat->Bool}{f:FuncId}{K:cZ->mg->VS->Prop}(k:As C cO R f q z j σ K)(ad:Real Φ ρ σ st)(ae:fB Φ σ.length q)(B:yV Φ σ.length j):
  ∃I n c dE dx a d,vL C (jr C cO I) f (cx ρ q) z (dj ρ j) st=some (e3 dx n,dj dx c,d)/\iC Φ ρ σ.length dE dx a.length/\Real dE dx a d/\B6 dE a.length n/\yV dE a.length c/\K n c a:=by
 unfold As at k;split at k
 ·exact k.elim
 ·rename_i i v;split at k
  ·exact k.elim
  ·rename_i ab;have u:hL Φ ρ σ.length (re 0 q) (⟨e9 0 (cx ρ q) .nil,[]⟩:Fr).tm:=by
    intro aj M m;rw[Eu]at m;split at m
    ·rename_i N;refine⟨?_,ae M (Yx m)⟩;show(e9 0 (cx ρ q) .nil).get aj=_;rw[pv,if_pos (by rw[dk];exact N),ej,YC,m];rfl
    ·cases m
   have S:SR Φ ρ σ st (re 0 q) [] j ⟨e9 0 (cx ρ q) .nil,[]⟩:=⟨ad,u,⟨rfl,fun _ ad=>by simp at ad⟩,B⟩;obtain⟨I,n,A,e,x,D,ai,y,h,O,G,ah,o,r,U,af,rfl⟩:=qE i.body k S ⟨fun ak aa=>(by cases aa),YD _⟩;have Y:Nat.ble (cx ρ q).length i.nt=true:=by rw[dk];exact ab
   have l:∀t:r5,Tb e D.length t->(match(generalizing:=false) ey x y with|.norm=>some AM.Mode.returning|.ret=>some .returning|.panic M=>some (.panicking M)|.exit _=>none)=some (mG x t)->
     tO C cO i.Qn t h O D (fun n σ=>K n G σ)->
     ∃I n c dE dx a d,vL C (jr C cO I) f (cx ρ q) z (dj ρ j) st=some (e3 dx n,dj dx c,d)/\iC Φ ρ σ.length dE dx a.length/\Real dE dx a d/\B6 dE a.length n/\yV dE a.length c/\K n c a:=by
    intro t p b L;obtain⟨H,w,W,P,s,Q,F,T,ag,E,ac⟩:=Cd (fi:=i) L U p;refine⟨max I H,w,G,W,P,s,Q,?_,r.then T r.len,ag,E,(T.ps U.ps).2,ac⟩;have X:=gO (gP (C:=C) (cO:=cO) (Yr I H)) _ A;have J:=pK (gP (C:=C) (cO:=cO) (Yp I H)) F;unfold vL;simp only[v,Y];have g:ez ρ ⟨f,i.nt,none,z,R,σ.length⟩=⟨f,i.nt,none,z⟩:=rfl;rw[g]at X;rw[X];cases y with
    |norm=>simp only[ey]at b⊢;injection b with b;rw[b];exact J
    |ret=>simp only[ey]at b⊢;injection b with b;rw[b];exact J
    |panic M=>simp only[ey]at b⊢;injection b with b;rw[b];exact J
    |exit id=>cases b
   cases y with
   |norm=>exact l .returning trivial rfl o
   |ret=>exact l .returning trivial rfl o
   |panic M=>exact l (.panicking M) af rfl o
   |exit id=>exact o.elim
theorem b3.body(d:Nat->Bool){f:FuncId}{K:cZ->VS->Prop}(D:∀I,cO f I=none)(i:As C cO d f q false .none σ fun l _ σ=>K l σ):b3 C cO f q σ K:=by
 refine⟨fun Φ ρ st H n=>?_⟩;obtain⟨G,l,b,dE,dx,c,a,m,x,o,t,_,k⟩:=sT i H n trivial;refine⟨G+1,l,dj dx b,a,dE,dx,c,?_,x,o,t,k⟩;simp only[jr,D];exact m
theorem xN.body(k:Nat->Bool){f:FuncId}{K:cZ->mg->VS->Prop}(l:As C cO k f q true j σ K):xN C cO f q j σ K:=by
 refine⟨fun Φ ρ st I o d=>?_⟩;obtain⟨G,H,b,dE,dx,c,a,m,D,n,x,i,t⟩:=sT l I o d;exact⟨G+1,H,b,a,dE,dx,c,m,D,n,x,i,t⟩
theorem dV{f:FuncId}{args:List D}{x:D}{K:cZ->VS->Prop}(b:cO f (args.map cH)=some (cH x))(c:flat (cH x)=true)(a:K (.ret (.d x)) σ):b3 C cO f (args.map V.d) σ K:=by
 refine⟨fun Φ ρ st d i=>⟨1,.ret (.d x),.none,st,Φ,ρ,σ,?_,.refl _ _ _,d,.d ?_,a⟩⟩
 ·rw[nh];simp only[jr,b,e3,erase];cases x<;>rfl
 ·cases x<;>first|(cases c;done)|constructor
theorem b3.mono{f:FuncId}{K d:cZ->VS->Prop}(H:b3 C cO f q σ K)(k:∀i a,K i a->d i a):b3 C cO f q σ d:=by
 refine⟨fun Φ ρ st x n=>?_⟩;obtain⟨G,i,c,b,dE,dx,a,m,D,o,t,l⟩:=H.go Φ ρ st x n;exact⟨G,i,c,b,dE,dx,a,m,D,o,t,k _ _ l⟩
theorem b5.loop{H:uw}{b:Code}{I:Tm}{D:List gd}{G:mg}{V:Ab->Tm->List gd->mg->VS->Prop} 
  (g:vc C cO H b I D G σ fun x I D G σ=>match x with
   |.norm=>b5 C cO H (.loop b) I D G σ V
   |x=>V x I D G σ):b5 C cO H (.loop b) I D G σ V:=by
 refine⟨fun Φ ρ st R A e W q O=>?_⟩;obtain⟨P,B,K,m,c,l,f,x,n,k,i,d,o,t,a,y,rfl⟩:=qE b g (fr:=R) ⟨A,e,W,q⟩ O;cases x with
 |norm=>
  have o:b5 C cO H (.loop b) n k i l V:=o;obtain⟨J,x,N,Q,U,M,L,dE,dx,T,u,j,v,w,X,h,Y,s⟩:=o.go m c f d a.real a.tm a.df a.ps (t.GL O).2;refine⟨max P (J+1),x,N,Q,U,M,L,dE,dx,T,?_,t.then j (YD _),v,w,X,h,Y,s⟩;have p:=gO (gP (C:=C) (cO:=cO) (Yr P (J+1))) _ K;have r:(jr C cO (J+1)).code (ez c H) (.loop b) d (dj c i) f=some (ey dx x,N,dj dx M,L):=u;have S:=(gP (C:=C) (cO:=cO) (Yp P (J+1))).code _ _ _ _ _ _ r;unfold code;rw[p];simp only[ey];rw[(t.GL O).1]at S;exact S
 |exit id=>exact⟨P,.exit id,d,n,k,i,f,m,c,l,by unfold code;rw[K];rfl,t,a.real,a.tm,a.df,a.ps,tv,o⟩
 |ret=>exact⟨P,.ret,d,n,k,i,f,m,c,l,by unfold code;rw[K];rfl,t,a.real,a.tm,a.df,a.ps,tv,o⟩
 |panic z=>exact⟨P,.panic z,d,n,k,i,f,m,c,l,by unfold code;rw[K];rfl,t,a.real,a.tm,a.df,a.ps,y,o⟩
theorem ft{c:Code}(G:vc C cO r c p g j σ e):b5 C cO r c p g j σ e:=by
 refine⟨fun Φ ρ st k O D t I J=>?_⟩;obtain⟨N,P,H,m,i,l,f,M,n,b,o,d,x,K,a,L,rfl⟩:=qE c G (fr:=k) ⟨O,D,t,I⟩ J;exact⟨N,M,d,n,b,o,f,m,i,l,H,K,a.real,a.tm,a.df,a.ps,L,x⟩
theorem eg{ι:Type}{c:Code}{i:Prop}(T:ι->Tm)(S:ι->VS)(I:ι->Prop) 
  (b:(∀a,I a->b5 C cO r c (T a) g j (S a) e)->i) (d:∀a,I a->vc C cO r c (T a) g j (S a) e):i:=b fun a f=>ft (d a f)
theorem b5.mono{c:Code}{k:Ab->Tm->List gd->mg->VS->Prop}(R:b5 C cO r c p g j σ e)(D:∀m p g j σ,e m p g j σ->k m p g j σ):b5 C cO r c p g j σ k:=by
 refine⟨fun Φ ρ st I L x n J K=>?_⟩;obtain⟨Q,m,f,a,l,d,b,dE,dx,i,N,H,O,P,o,G,t,M⟩:=R.go Φ ρ st I L x n J K;exact⟨Q,m,f,a,l,d,b,dE,dx,i,N,H,O,P,o,G,t,D _ _ _ _ _ M⟩
def qF:Tm->Tm->Prop
 |[],_=>True
 |(b,c)::d,a=>gf a b=some c/\qF d a
theorem oR:∀{c i:Tm},qF c i->∀b d,gf c b=some d->gf i b=some d:=by
 intro c;induction c with
 |nil=>intro i _ b d f;cases f
 |cons m c l=>
  intro i f b d a;obtain⟨k,o⟩:=m;rw[jW]at a;split at a
  ·rename_i n;cases a;rw[n];exact f.1
  ·exact l f.2 b d a
theorem b5.less{c:Code}{a eh:Tm}(m:qF eh a)(x:b5 C cO r c eh g j σ e):b5 C cO r c a g j σ e:=by
 refine⟨fun Φ ρ st n k l b d f=>x.go Φ ρ st n k (fun t o i=>l t o (oR m t o i)) b d f⟩
end
mutual
def iv(π:Nat->Nat):V->V
 |.d x=>.d x
 |.bp i f=>.bp (π i) f
 |.ptr i es k f=>.ptr (π i) es k f
 |.fp b off cs=>.fp b off cs
 |.ms i es k len cap=>.ms (π i) es k len cap
 |.map i=>.map (π i)
 |.fn f a c=>.fn f (iw π a) (iw π c)
 |.so l=>.so (π l)
 |.iface t v=>.iface t (iv π v)
 |.agg l=>.agg (iw π l)
 |.dN l=>.dN (iw π l)
def iw(π:Nat->Nat):List V->List V
 |[]=>[]
 |v::l=>iv π v::iw π l
end
mutual
def bd(k:Nat):V->Bool
 |.d _=>true
 |.bp i _=>Yv i k
 |.ptr i _ _ _=>Yv i k
 |.fp _ _ _=>true
 |.ms i _ _ _ _=>Yv i k
 |.map i=>Yv i k
 |.fn _ a c=>gC k a&&gC k c
 |.so l=>Yv l k
 |.iface _ v=>bd k v
 |.agg l=>gC k l
 |.dN l=>gC k l
def gC(k:Nat):List V->Bool
 |[]=>true
 |v::l=>bd k v&&gC k l
end
theorem mY(π:Nat->Nat):∀a:List V,iw π a=a.map (iv π):=by
 intro a;induction a with
 |nil=>simp[iw]
 |cons c a b=>simp[iw,b]
mutual
theorem iL(ρ π:Nat->Nat):∀v:V,erase ρ (iv π v)=erase (fun j=>ρ (π j)) v
 |.d _=>by simp only[iv,erase]
 |.bp _ _=>by simp only[iv,erase]
 |.ptr _ _ _ _=>by simp only[iv,erase]
 |.fp _ _ _=>by simp only[iv,erase]
 |.ms _ _ _ _ _=>by simp only[iv,erase]
 |.map _=>by simp only[iv,erase]
 |.fn _ a c=>by simp only[iv,erase,iy ρ π a,iy ρ π c]
 |.so _=>by simp only[iv,erase]
 |.iface _ v=>by simp only[iv,erase,iL ρ π v]
 |.agg l=>by simp only[iv,erase,iy ρ π l]
 |.dN l=>by simp only[iv,erase,iy ρ π l]
theorem iy(ρ π:Nat->Nat):∀l:List V,cx ρ (iw π l)=cx (fun j=>ρ (π j)) l
 |[]=>by simp only[iw,cx]
 |v::l=>by simp only[iw,cx,iL ρ π v,iy ρ π l]
end
theorem gV{a b:Nat}(c:Yv a b=true):a<b:=Nat.le_of_ble_eq_true c
section
variable{Φ:Fz} {k M:Nat} {π:Nat->Nat}
mutual
theorem lN:∀v:V,fJ Φ M (iv π v)->bd k v=true->fJ Φ k v
 |.d _,h,_=>by simp only[iv]at h;cases h with|d h=>exact .d h
 |.bp _ _,_,hb=>.bp (gV (by simpa only[bd]using hb))
 |.ptr _ _ _ _,_,hb=>.ptr (gV (by simpa only[bd]using hb))
 |.fp _ _ _,h,_=>by simp only[iv]at h;cases h with|fp h1 h2 h3 h4 h5=>exact .fp h1 h2 h3 h4 h5
 |.ms _ _ _ _ _,_,hb=>.ms (gV (by simpa only[bd]using hb))
 |.map _,_,hb=>.map (gV (by simpa only[bd]using hb))
 |.fn _ a c,h,hb=>by
  simp only[iv]at h;simp only[bd,Ys]at hb;cases h with
  |fn h1 h2=>exact .fn (km a h1 hb.1) (km c h2 hb.2)
 |.so _,_,hb=>.so (gV (by simpa only[bd]using hb))
 |.iface _ v,h,hb=>by
  simp only[iv]at h;simp only[bd]at hb;cases h with
  |iface h=>exact .iface (lN v h hb)
 |.agg l,h,hb=>by
  simp only[iv]at h;simp only[bd]at hb;cases h with
  |agg h=>exact .agg (km l h hb)
 |.dN l,h,hb=>by
  simp only[iv]at h;simp only[bd]at hb;cases h with
  |dN h=>exact .dN (km l h hb)
theorem km:∀l:List V,fB Φ M (iw π l)->gC k l=true->fB Φ k l
 |[],_,_=>fun _ h=>by simp at h
 |v::l,h,hb=>by
  simp only[iw]at h;simp only[gC,Ys]at hb;have h1:=lN v (h _ (YG ..)) hb.1;have h2:=km l (fun y hy=>h y (YE _ hy)) hb.2;intro x hx;rcases YA.1 hx with e|hx
  ·rw[e];exact h1
  ·exact h2 x hx
end
theorem xQ(a:∀H,H<k->π H<M):∀{m:V},fJ Φ k m->fJ Φ M (iv π m):=by
 intro m f;induction f with
 |d f=>simp only[iv];exact .d f
 |bp f=>simp only[iv];exact .bp (a _ f)
 |ptr f=>simp only[iv];exact .ptr (a _ f)
 |fp x o G t D=>simp only[iv];exact .fp x o G t D
 |ms f=>simp only[iv];exact .ms (a _ f)
 |map f=>simp only[iv];exact .map (a _ f)
 |fn _ _ n C=>
  simp only[iv,mY];exact .fn (fun m b=>by obtain⟨l,c,rfl⟩:=Yn.1 b;exact n l c) (fun m b=>by obtain⟨l,c,rfl⟩:=Yn.1 b;exact C l c)
 |so f=>simp only[iv];exact .so (a _ f)
 |iface _ i=>simp only[iv];exact .iface i
 |agg _ i=>simp only[iv,mY];exact .agg (fun m b=>by obtain⟨l,c,rfl⟩:=Yn.1 b;exact i l c)
 |dN _ i=>simp only[iv,mY];exact .dN (fun m b=>by obtain⟨l,c,rfl⟩:=Yn.1 b;exact i l c)
theorem KW(b:∀d,d<k->π d<M){l:List V}(i:fB Φ k l):fB Φ M (iw π l):=fun m a=>by
 rw[mY]at a;obtain⟨f,c,rfl⟩:=Yn.1 a;exact xQ b (i f c)
theorem ri(a:V):hA (iv π a)=hA a:=by cases a<;>simp only[iv,hA]
end
def r6(π:Nat->Nat):Tm->Tm
 |[]=>[]
 |(a,b)::c=>(a,iv π b)::r6 π c
theorem vh(π:Nat->Nat):∀(a:Tm) (b:Nat),gf (r6 π a) b=(gf a b).map (iv π):=by
 intro a;induction a with
 |nil=>intro b;rfl
 |cons d a c=>
  intro b;obtain⟨k,f⟩:=d;simp only[r6,jW,c];split<;>rfl
def Aw(k:Nat):Tm->Bool
 |[]=>true
 |(_,a)::b=>bd k a&&Aw k b
theorem xR{k:Nat}:∀{a:Tm},Aw k a=true->∀{i:Nat} {d:V},gf a i=some d->bd k d=true:=by
 intro a;induction a with
 |nil=>intro _ i d c;cases c
 |cons l a f=>
  intro b i d c;obtain⟨m,n⟩:=l;simp only[Aw,Ys]at b;rw[jW]at c;split at c
  ·cases c;exact b.1
  ·exact f b.2 c
def Jp(π:Nat->Nat)(a:qx):qx:=⟨iv π a.key,iv π a.val,a.born⟩
def eC(π:Nat->Nat):cU->cU
 |.box c=>.box (iw π c)
 |.row a b=>.row a (b.map (iw π))
 |.map a i=>.map (a.map (Jp π)) i
 |.loop d=>.loop {d with tm:=r6 π d.tm,defers:=π d.defers}
 |.fg f=>.fg f
 |.gone=>.gone
def gY(k:Nat):cU->Bool
 |.box b=>gC k b
 |.row _ a=>a.all (gC k)
 |.map c _=>c.all fun f=>bd k f.key&&bd k f.val
 |.loop d=>Aw k d.tm&&Yv d.defers k
 |.fg _=>true
 |.gone=>true
theorem iM(π:Nat->Nat)(o:cU):live (eC π o)=live o:=by cases o<;>rfl
theorem C2(π:Nat->Nat)(a:List (List V)):(a.map (iw π)).flatten=iw π a.flatten:=by
 induction a with
 |nil=>rfl
 |cons c a b=>simp only[YB,List.flatten_cons,b,mY,List.map_append]
theorem wv(π:Nat->Nat)(l:List V):(iw π l).length=l.length:=by rw[mY,Yw]
theorem FF.Ou{Φ:Fz}{ρ π:Nat->Nat}{M k:Nat}{st:St}{o:cU}{b:Nat}(G:FF Φ ρ M st (eC π o) b)(c:gY k o=true):FF Φ (fun L=>ρ (π L)) k st o b:=by
 cases o with
 |box I=>
  obtain⟨⟨i,a⟩,t,n⟩:=G;refine⟨⟨by rw[i,iy,wv],a⟩,km I t c,fun x l=>?_⟩;rw[<-ri (π:=π)];exact n _ (by rw[mY];exact Yn.2 ⟨x,l,rfl⟩)
 |row C D=>
  obtain⟨⟨N,O,i⟩,a,t,n⟩:=G;have c:D.all (gC k)=true:=c;rw[List.all_eq_true]at c;refine⟨⟨N,O,by rw[i,C2,iy]⟩,fun f d=>?_,fun f d=>?_,fun f d x l=>?_⟩
  ·rw[<-a (iw π f) (Yn.2 ⟨f,d,rfl⟩),wv]
  ·exact km f (t _ (Yn.2 ⟨f,d,Z⟩)) (c f d)
  ·rw[<-ri (π:=π)];exact n _ (Yn.2 ⟨f,d,Z⟩) _ (by rw[mY];exact Yn.2 ⟨x,l,rfl⟩)
 |map C P=>
  obtain⟨i,a⟩:=G;have c:(C.all fun f=>bd k f.key&&bd k f.val)=true:=c;rw[List.all_eq_true]at c;refine⟨?_,fun f d=>?_⟩
  ·rw[i,List.map_map];congr 2;exact Yy fun f _=>by simp only[Function.comp,jE,Jp,iL]
  ·have:=a (Jp π f) (Yn.2 ⟨f,d,rfl⟩);have m:=c f d;rw[Ys]at m;exact⟨lN _ this.1 m.1,lN _ this.2 m.2⟩
 |loop H=>
  obtain⟨J,i,a⟩:=G;have c:(Aw k H.tm&&Yv H.defers k)=true:=c;rw[Ys]at c;refine⟨J,i,a.state,a.pending,a.fn,fun K x l=>?_,a.nt,a.params,a.assign,a.body,a.defers,gV c.2⟩;have:=a.tm K (iv π x) (by show gf (r6 π H.tm) K=_;rw[vh,l];rfl);rw[iL]at this;exact⟨this.1,lN _ this.2 (xR c.1 l)⟩
 |fg K=>exact G
 |gone=>trivial
theorem QL{Φ:Fz}{ρ π:Nat->Nat}{M k:Nat}{st:St}{o:cU}{b:Nat}(f:∀D,D<k->π D<M)(C:FF Φ (fun D=>ρ (π D)) k st o b):FF Φ ρ M st (eC π o) b:=by
 cases o with
 |box S=>
  obtain⟨⟨i,a⟩,x,n⟩:=C;refine⟨⟨by rw[i,iy,wv],a⟩,KW f x,fun I c=>?_⟩;rw[mY]at c;obtain⟨m,d,rfl⟩:=Yn.1 c;rw[ri];exact n m d
 |row L O=>
  obtain⟨⟨R,T,i⟩,a,x,n⟩:=C;refine⟨⟨R,T,by rw[i,C2,iy]⟩,fun H l=>?_,fun H l=>?_,fun H l I c=>?_⟩
  ·obtain⟨m,d,rfl⟩:=Yn.1 l;rw[wv];exact a m d
  ·obtain⟨m,d,rfl⟩:=Yn.1 l;exact KW f (x m d)
  ·obtain⟨m,d,rfl⟩:=Yn.1 l;rw[mY]at c;obtain⟨U,J,rfl⟩:=Yn.1 c;rw[ri];exact n m d U J
 |map L P=>
  obtain⟨i,a⟩:=C;refine⟨?_,fun H l=>?_⟩
  ·rw[i,List.map_map];congr 2;exact Yy fun H _=>by simp only[Function.comp,jE,Jp,iL]
  ·obtain⟨m,d,rfl⟩:=Yn.1 l;exact⟨xQ f (a m d).1,xQ f (a m d).2⟩
 |loop N=>
  obtain⟨K,i,a⟩:=C;refine⟨K,i,a.state,a.pending,a.fn,fun G I c=>?_,a.nt,a.params,a.assign,a.body,a.defers,f _ a.fq⟩;have c:gf (r6 π N.tm) G=some I:=c;rw[vh]at c;cases t:gf N.tm G with
  |none=>rw[t]at c;cases c
  |some V=>
   rw[t]at c;cases c;obtain⟨Q,P⟩:=a.tm G V t;exact⟨by rw[iL];exact Q,xQ f P⟩
 |fg G=>exact C
 |gone=>trivial
def Fz.C3(Φ dE:Fz):Prop:=∀b a,Φ b=some a->Φ.B0 b->dE b=some a/\dE.B0 b
theorem vb.r7{Φ dE:Fz}(n:Φ.C3 dE){m:D}(c:vb Φ m):vb dE m:=by
 induction c with
 |bool x=>exact .bool x
 |int k o=>exact .int k o
 |str t=>exact .str t
 |DZ=>exact .DZ
 |cC=>exact .cC
 |BY=>exact .BY
 |D0=>exact .D0
 |wa=>exact .wa
 |ps b f l i _ a d=>exact .ps (n _ _ b a).1 f l i d (n _ _ b a).2
theorem fJ.r7{Φ dE:Fz}{m:Nat}(i:Φ.C3 dE){C:V}(l:fJ Φ m C):fJ dE m C:=by
 induction l with
 |d c=>exact .d (c.r7 i)
 |bp a=>exact .bp a
 |ptr a=>exact .ptr a
 |fp a n x o f=>exact .fp (i _ _ a f).1 n x (fun d c=>(o d c).r7 i) (i _ _ a f).2
 |ms a=>exact .ms a
 |map a=>exact .map a
 |fn _ _ k t=>exact .fn k t
 |so a=>exact .so a
 |iface _ b=>exact .iface b
 |agg _ b=>exact .agg b
 |dN _ b=>exact .dN b
theorem FF.r7{Φ dE:Fz}{ρ:Nat->Nat}{m:Nat}{st:St}{o:cU}{b:Nat}(i:Φ.C3 dE)(k:FF Φ ρ m st o b):FF dE ρ m st o b:=by
 cases o with
 |box H=>exact⟨k.1,fun f c=>(k.2.1 f c).r7 i,k.2.2⟩
 |row D G=>exact⟨k.1,k.2.1,fun n d f c=>(k.2.2.1 n d f c).r7 i,k.2.2.2⟩
 |map D l=>exact⟨k.1,fun n d=>⟨(k.2 n d).1.r7 i,(k.2 n d).2.r7 i⟩⟩
 |loop I=>
  obtain⟨C,t,a⟩:=k;exact⟨C,t,a.state,a.pending,a.fn,fun x f c=>⟨(a.tm x f c).1,(a.tm x f c).2.r7 i⟩,a.nt,a.params,a.assign,a.body,a.defers,a.fq⟩
 |fg x=>exact k
 |gone=>trivial
def jO(a:List Nat)(c b:Nat):Nat:=
 match nth a b with
 |some d=>d
 |none=>c+(b-a.length)
def merge:VS->List Nat->VS->VS
 |σ,[],b=>σ++b
 |σ,_::_,[]=>σ
 |σ,d::a,c::b=>merge (σ.set d c) a b
theorem Mi:∀(a:List Nat) (σ b:VS),a.length<=b.length->(merge σ a b).length=σ.length+(b.length-a.length):=by
 intro a;induction a with
 |nil=>intro σ b _;simp[merge]
 |cons f a c=>
  intro σ b d;cases b with
  |nil=>simp at d
  |cons i b=>
   simp only[merge];rw[c _ _ (by simpa using d),Yt];simp
theorem Ax:∀(a:List Nat) (σ d:VS) (b:Nat),b ∉ a->b<σ.length->(merge σ a d)[b]?=σ[b]?:=by
 intro a;induction a with
 |nil=>intro σ d b _ f;simp only[merge];rw[List.getElem?_append_left f]
 |cons l a i=>
  intro σ d b c f;cases d with
  |nil=>rfl
  |cons m d=>
   simp only[merge];rw[i _ _ _ (fun k=>c (by simp[k])) (by rw[Yt];exact f),List.getElem?_set_ne (fun k=>c (by simp[k]))]
theorem ww:∀(a:List Nat) (σ i:VS) (f d:Nat),a.Nodup->(∀d∈a,d<σ.length)->a.length<=i.length->a[f]?=some d->(merge σ a i)[d]?=i[f]?:=by
 intro a;induction a with
 |nil=>intro σ i f d _ _ _ k;simp at k
 |cons t a n=>
  intro σ i f d m b l k;cases i with
  |nil=>simp at l
  |cons x i=>
   simp only[merge];have c:=List.nodup_cons.1 m;cases f with
   |zero=>
    simp at k;subst k;rw[Ax _ _ _ _ c.1 (by rw[Yt];exact b _ sm),List.getElem?_set_self (b _ sm)];rfl
   |succ f=>
    rw[n _ _ f d c.2 (fun d o=>by rw[Yt];exact b d (by simp[o])) (by simpa using l) (by simpa using k)];rfl
theorem Mj:∀(a:List Nat) (σ b:VS) (c:Nat),a.length<=b.length->(merge σ a b)[σ.length+c]?=b[a.length+c]?:=by
 intro a;induction a with
 |nil=>intro σ b c _;simp only[merge,List.length_nil,Nat.zero_add];rw[List.getElem?_append_right om];congr 1;omega
 |cons i a d=>
  intro σ b c f;cases b with
  |nil=>simp at f
  |cons k b=>
   simp only[merge];have:=d (σ.set i k) b c (by simpa using f);rw[Yt]at this;rw[this,List.length_cons,show a.length+1+c=(a.length+c)+1 from by omega];rfl
def nj(π:Nat->Nat):cZ->cZ
 |.ret a=>.ret (iv π a)
 |.fO a=>.fO (iv π a)
section
variable{C:eD} {cO:FuncId->List Value->Option Value} {Φ:Fz} {ρ:Nat->Nat} {σ:VS} {st:St}
def ik(σ:VS)(ρ:Nat->Nat)(a:List Nat)(d:Nat):Prop:=∃b c,σ[b]?=some c/\live c=true/\b ∉ a/\ρ b=d
open Classical in
noncomputable def rj(Φ:Fz)(σ:VS)(ρ:Nat->Nat)(a:List Nat)(st:St):Fz:=
 ⟨fun b=>if ik σ ρ a b then st.get b else Φ b,fun b=>Φ.B0 b/\¬ik σ ρ a b,fun f=>Φ.r4 f∨∃d c,σ[d]?=some (.box c)/\d ∉ a/\ρ d=f⟩
open Classical in
noncomputable def Ay(Φ a:Fz)(σ:VS)(ρ:Nat->Nat)(b:List Nat):Fz:=
 ⟨fun c=>if ik σ ρ b c then none else a c,a.B0,Φ.r4⟩
open Classical in
theorem pL{a:List Nat}{b:Nat}(c:ik σ ρ a b):(rj Φ σ ρ a st) b=st.get b:=by
 show(if ik σ ρ a b then st.get b else Φ b)=_;rw[if_pos c]
open Classical in
theorem mH{a:List Nat}{b:Nat}(c:¬ik σ ρ a b):(rj Φ σ ρ a st) b=Φ b:=by
 show(if ik σ ρ a b then st.get b else Φ b)=_;rw[if_neg c]
open Classical in
theorem mI{a:Fz}{b:List Nat}{c:Nat}(d:ik σ ρ b c):(Ay Φ a σ ρ b) c=none:=by
 show(if ik σ ρ b c then none else a c)=_;rw[if_pos d]
open Classical in
theorem kn{a:Fz}{b:List Nat}{c:Nat}(d:¬ik σ ρ b c):(Ay Φ a σ ρ b) c=a c:=by
 show(if ik σ ρ b c then none else a c)=_;rw[if_neg d]
def Az(ρ a:Nat->Nat)(c k:Nat):Nat->Nat:=fun b=>if b<c then ρ b else a (k+(b-c))
theorem qG(x:Real Φ ρ σ st){o:cU}(i:σ[u]?=some o)(c:live o=true):∃n,st.get (ρ u)=some n/\((∃D b m t,n=.cells D b m t)->pE o=true):=by
 have a:=(x.obj u o i c).1;cases o with
 |box C=>exact⟨_,a.1.1,fun _=>rfl⟩
 |row f l=>obtain⟨⟨m,t,k⟩,_⟩:=a;exact⟨_,k,fun _=>rfl⟩
 |map f d=>exact⟨_,a.1,fun⟨_,_,_,_,b⟩=>by cases b⟩
 |loop I=>obtain⟨G,k,_⟩:=a;exact⟨_,k,fun⟨_,_,_,_,b⟩=>by cases b⟩
 |fg H=>exact⟨_,a,fun⟨_,_,_,_,b⟩=>by cases b⟩
 |gone=>cases c
theorem k7{a i:Nat}(b:v[a]?=some i)(c:Nat):jO v c a=i:=by
 unfold jO;rw[cz,b]
theorem Ev(b:v.length<=u)(a:Nat):jO v a u=a+(u-v.length):=by
 unfold jO;rw[cz,List.getElem?_eq_none b]
theorem b3.frame(a:List Nat){f:FuncId}{X:VS}{eN aO:List V}{bu K:cZ->VS->Prop}(bS:b3 C cO f eN X bu)(bq:a.length=X.length)(bl:a.Nodup) 
  (aU:∀l c:Nat,a[l]?=some c->∃t,X[l]?=some t/\σ[c]?=some (eC (jO a σ.length) t)/\gY X.length t=true)
  (aR:gC X.length eN=true) (aD:aO=iw (jO a σ.length) eN)
  (bV:∀aq ap,bu aq ap->X.length<=ap.length->K (nj (jO a σ.length) aq) (merge σ a (ap.map (eC (jO a σ.length))))):b3 C cO f aO σ K:=by
 refine⟨fun Φ ρ st g aX=>?_⟩;have ac:∀c∈a,c<σ.length:=fun c N=>by
  obtain⟨l,J⟩:=YF N;obtain⟨t,_,d,_⟩:=aU l c J;exact(Yo.1 d).1
 have u:∀l t,X[l]?=some t->∃c,a[l]?=some c/\σ[c]?=some (eC (jO a σ.length) t)/\gY X.length t=true:=fun l t J=>by
  have ac:l<a.length:=by rw[bq];exact(Yo.1 J).1
  refine⟨a[l],Yq ac,?_⟩;obtain⟨F,b,d,m⟩:=aU l _ (Yq ac);rw[J]at b;cases b;exact⟨d,m⟩
 have bo:∀l k c,a[l]?=some c->a[k]?=some c->l=k:=fun l k c J G=>by
  have b:=(Yo.1 J);have d:=(Yo.1 G);obtain⟨aI,aX⟩:=b;obtain⟨y,i⟩:=d;have bI:=List.pairwise_iff_getElem.1 bl;rcases Nat.lt_trichotomy l k with al|al|al
  ·exact absurd (aX.trans i.symm) (bI l k aI y al)
  ·exact al
  ·exact absurd (i.trans aX.symm) (bI k l y aI al)
 have aJ:∀h,ik σ ρ a h->Φ h=none:=fun h ⟨c,t,N,I,_,D⟩=>by rw[<-D];exact(g.obj c t N I).2
 have bv:∀{c:Nat} {t:cU},c∈a->σ[c]?=some t->live t=true->¬ik σ ρ a (ρ c):=fun{c t} N z I ⟨q,F,b,d,m,D⟩=>m (by
  have:=g.inj q c F t b z d I D;rw[this];exact N)
 have B:Φ.le (rj Φ σ ρ a st):=by
  refine⟨fun y t i=>?_,fun y t i=>?_,fun _ g=>.inl g⟩
  ·have:¬ik σ ρ a y:=fun x=>by rw[aJ y x]at i;cases i
   rw[mH this];exact i
  ·have:¬ik σ ρ a y:=fun x=>by rw[aJ y x]at i;cases i
   exact⟨fun ao=>ao.1,fun ao=>⟨ao,this⟩⟩
 have aP:∀h aC D fm aA,(rj Φ σ ρ a st) h=some (.cells aC D fm aA)->st.get h=some (.cells aC D fm aA)/\((Φ h=some (.cells aC D fm aA))∨∃c t,σ[c]?=some t/\pE t=true/\c ∉ a/\ρ c=h):=by
  intro h aC D fm aA P;by_cases x:ik σ ρ a h
  ·have bj:=x;rw[pL x]at P;obtain⟨c,t,b,d,m,w⟩:=x;obtain⟨aI,o,E⟩:=qG g b d;rw[w,P]at o;cases o;exact⟨P,.inr ⟨c,t,b,E ⟨_,_,_,_,Z⟩,m,w⟩⟩
  ·rw[mH x]at P;exact⟨g.fz _ _ P,.inl P⟩
 have bM:∀{t:cU},pE t=true->live t=true:=fun{t} z=>by cases t<;>first|rfl|cases z
 have bj:Real (rj Φ σ ρ a st) (fun l=>ρ (jO a σ.length l)) X st:=by
  refine⟨g.wf,g.wm,fun y t i=>?_,fun y i=>?_,fun fm am=>?_,fun h bt aC D fm aA ai p ah P aF=>?_,fun l ag af aC D fm aA J R=>?_,fun l t J I=>?_,fun l k cb S J G bA n D=>?_,fun l ag af aC D fm aA av h J R v P Q=>?_⟩
  ·by_cases x:ik σ ρ a y
   ·rw[pL x]at i;exact i
   ·rw[mH x]at i;exact g.fz y t i
  ·by_cases x:ik σ ρ a y
   ·rw[pL x]at i;obtain⟨c,t,b,d,m,w⟩:=x;rw[<-w]at i;have G:=(g.obj c t b d).1;cases t with
    |box aG=>rw[G.1.1]at i;cases i
    |row ag af=>obtain⟨⟨_,_,k⟩,_⟩:=G;rw[k]at i;cases i
    |map ag aB=>rw[G.1]at i;cases i
    |loop bX=>obtain⟨_,k,_⟩:=G;rw[k]at i;cases i
    |fg bL=>have k:st.get (ρ c)=some (.fg bL):=G;rw[k]at i;cases i
    |gone=>cases d
   ·rw[mH x]at i;exact g.NE y i
  ·rcases am with am|⟨c,aG,b,_,m⟩
   ·exact g.r4 fm am
   ·obtain⟨⟨⟨j,r⟩,_⟩,_⟩:=g.obj c _ b rfl;rw[<-m];exact⟨r,g.lt b Z⟩
  ·obtain⟨bw,bc⟩:=aP h aC D fm aA P;obtain⟨bG,aH⟩:=aP bt ai p fm ah aF;by_cases aE:h=bt
   ·exact aE
   ·exfalso;rcases bc with bc|⟨c,t,b,d,m,w⟩
    ·rcases aH with aH|⟨c,t,b,d,m,w⟩
     ·exact aE (g.NF h bt _ _ _ _ _ _ _ bc aH)
     ·subst w;exact g.mB b d bG bw aE (.inl (by rw[bc];simp)) rfl
    ·subst w;refine g.mB b d bw bG (fun D=>aE D.symm) ?_ Z;rcases aH with aH|⟨q,F,j,r,bY,bR⟩
     ·exact .inl (by rw[aH];simp)
     ·exact .inr ⟨q,F,j,bM r,bR⟩
  ·obtain⟨c,b,d,m⟩:=u l _ J;have R:st.get (ρ (jO a σ.length l))=some (.cells aC D fm aA):=R;rw[k7 b]at R;rintro(bb|⟨q,aG,o,E,bs⟩)
   ·exact g.I9 c _ _ _ _ _ _ d R bb
   ·obtain⟨⟨⟨j,r⟩,_⟩,_⟩:=g.obj q _ o rfl;have Q:ρ q≠ρ c:=fun D=>E (by
     have:=g.inj q c _ _ o d rfl rfl D;rw[this];exact Yx b)
    exact g.mB d Z R j Q (.inr ⟨q,_,o,Z,Z⟩) bs
  ·obtain⟨c,b,d,m⟩:=u l _ J;have aS:live (eC (jO a σ.length) t)=true:=by rw[iM];exact I
   obtain⟨j,r⟩:=g.obj c _ d aS;show FF _ _ _ _ _ (ρ (jO a σ.length l))/\(rj Φ σ ρ a st) (ρ (jO a σ.length l))=none;rw[k7 b];refine⟨?_,by rw[mH (bv (Yx b) d aS)];exact r⟩;have:=j.Ou m;exact(⟨B,fun _ _=>Z,YD _⟩:iC Φ (fun l=>ρ (jO a σ.length l)) X.length (rj Φ σ ρ a st) (fun l=>ρ (jO a σ.length l)) X.length).obj Z (fun _ _ _ _ _ bb=>bb) this
  ·obtain⟨c,b,d,_⟩:=u l _ J;obtain⟨q,Y,ae,_⟩:=u k _ G;have D:ρ (jO a σ.length l)=ρ (jO a σ.length k):=D;rw[k7 b,k7 Y]at D;have:=g.inj c q _ _ d ae (by rw[iM];exact bA) (by rw[iM];exact n) D;subst this;exact bo l k c b Y
  ·obtain⟨c,b,d,m⟩:=u l _ J;have R:st.get (ρ (jO a σ.length l))=some (.cells aC D fm aA):=R;have Q:h≠ρ (jO a σ.length l):=Q;rw[k7 b]at R Q;obtain⟨j,r⟩:=g.en c _ _ _ _ _ _ av h d R v P Q;refine⟨?_,fun aw F bJ bK=>?_⟩
   ·rw[mH]
    ·exact j
    ·rintro⟨q,F,o,E,_,bf⟩;exact r q F o E bf
   ·obtain⟨q,Y,ae,_⟩:=u aw _ bJ;show ρ (jO a σ.length aw)≠h;rw[k7 Y];exact r q _ ae (by rw[iM];exact bK)
 have aT:fB (rj Φ σ ρ a st) X.length eN:=by
  rw[aD]at aX;exact(km eN aX aR).mono B (YD _)
 obtain⟨ca,aq,bC,ad,e,W,M,bP,aa,L,bD,bQ⟩:=bS.go _ _ st bj aT;have aN:a.length<=(M.map (eC (jO a σ.length))).length:=by rw[Yw,bq];exact aa.len
 have T:∀l,(Az ρ W σ.length a.length) (jO a σ.length l)=W l:=by
  intro l;by_cases J:l<a.length
  ·have b:=Yq J;rw[k7 b];show(if a[l]<σ.length then _ else _)=_;rw[if_pos (ac _ (List.getElem_mem J))];have:=aa.sg l (by rw[<-bq];exact J);rw[this,k7 b]
  ·rw[Ev om];show(if σ.length+(l-a.length)<σ.length then _ else _)=_;rw[if_neg om];congr 1;omega
 have ar:=Mi a σ (M.map (eC (jO a σ.length))) aN;rw[Yw]at ar;have aL:∀l,l<M.length->jO a σ.length l<(merge σ a (M.map (eC (jO a σ.length)))).length:=by
  intro l J;rw[ar];by_cases bm:l<a.length
  ·rw[k7 (Yq bm)];have:=ac _ (List.getElem_mem bm);omega
  ·rw[Ev om];omega
 have U:∀c t,(merge σ a (M.map (eC (jO a σ.length))))[c]?=some t->(∃l O,M[l]?=some O/\t=eC (jO a σ.length) O/\jO a σ.length l=c)∨(c<σ.length/\c ∉ a/\σ[c]?=some t):=by
  intro c t z;by_cases N:c<σ.length
  ·by_cases v:c∈a
   ·obtain⟨l,J⟩:=YF v;rw[ww a σ _ l c bl ac aN J,YC]at z;cases b:M[l]? with
    |none=>rw[b]at z;cases z
    |some O=>rw[b]at z;cases z;exact .inl ⟨l,O,b,rfl,k7 J _⟩
   ·rw[Ax a σ _ c v N]at z;exact .inr ⟨N,v,z⟩
  ·have:=Mj a σ (M.map (eC (jO a σ.length))) (c-σ.length) aN;rw[show σ.length+(c-σ.length)=c from om,z,YC]at this;cases b:M[a.length+(c-σ.length)]? with
   |none=>rw[b]at this;cases this
   |some O=>
    rw[b]at this;cases this;exact .inl ⟨_,O,b,Z,by rw[Ev om];omega⟩
 have H:∀{c:Nat} {t:cU},σ[c]?=some t->live t=true->c ∉ a->ad.get (ρ c)=st.get (ρ c)/\e (ρ c)=st.get (ρ c)/\¬e.B0 (ρ c):=by
  intro c t N I v;have x:ik σ ρ a (ρ c):=⟨c,t,N,I,v,rfl⟩;obtain⟨aI,o,_⟩:=qG g N I;have am:(rj Φ σ ρ a st) (ρ c)=some aI:=by rw[pL x];exact o
  have b:=aa.le.L6 _ _ am;exact⟨by rw[L.fz _ _ b,o],by rw[b,o],fun ao=>((aa.le.B0 _ _ am).1 ao).2 x⟩
 have ay:e.C3 (Ay Φ e σ ρ a):=by
  intro y t i ao;have:¬ik σ ρ a y:=fun⟨c,F,b,d,m,w⟩=>(H b d m).2.2 (w▸ao);exact⟨by rw[kn this];exact i,ao⟩
 have bn:Φ.le (Ay Φ e σ ρ a):=by
  refine⟨fun y t i=>?_,fun y t i=>?_,fun _ g=>g⟩
  ·have:¬ik σ ρ a y:=fun x=>by rw[aJ y x]at i;cases i
   rw[kn this];exact aa.le.L6 _ _ (B.L6 _ _ i)
  ·have b:=B.L6 _ _ i;exact(aa.le.B0 _ _ b).trans (B.B0 _ _ i)
 have aY:iC Φ ρ σ.length (Ay Φ e σ ρ a) (Az ρ W σ.length a.length) (merge σ a (M.map (eC (jO a σ.length)))).length:=
  ⟨bn,fun c N=>if_pos N,by rw[ar];omega⟩
 have ax:(fun l=>(Az ρ W σ.length a.length) (jO a σ.length l))=W:=funext T;have az:∀{l:Nat} {t:cU},M[l]?=some t->live t=true->¬ik σ ρ a (W l):=by
  rintro l t J I ⟨c,F,b,d,m,w⟩;have:=(H b d m).2.1;obtain⟨aI,o,_⟩:=qG g b d;rw[w,(L.obj l t J I).2]at this;rw[w]at o;rw[o]at this;cases this
 have be:Real (Ay Φ e σ ρ a) (Az ρ W σ.length a.length) (merge σ a (M.map (eC (jO a σ.length)))) ad:=by
  have s:∀c,c<σ.length->(Az ρ W σ.length a.length) c=ρ c:=fun c N=>if_pos N;refine⟨L.wf,L.wm,fun y t i=>?_,fun y i=>?_,fun fm am=>L.r4 fm (aa.le.r4 _ (B.r4 _ am)),fun h bt aC D fm aA ai p ah P aF=>?_,fun c ag af aC D fm aA N R=>?_,fun c t N I=>?_,fun c k bO S N G an n D=>?_,fun c ag af aC D fm aA av h N R v P Q=>?_⟩
  ·by_cases x:ik σ ρ a y
   ·rw[mI x]at i;cases i
   ·rw[kn x]at i;exact L.fz y t i
  ·by_cases x:ik σ ρ a y
   ·rw[mI x]at i;cases i
   ·rw[kn x]at i;exact L.NE y i
  ·by_cases bk:ik σ ρ a h
   ·rw[mI bk]at P;cases P
   ·by_cases bh:ik σ ρ a bt
    ·rw[mI bh]at aF;cases aF
    ·rw[kn bk]at P;rw[kn bh]at aF;exact L.NF h bt _ _ _ _ _ _ _ P aF
  ·rcases U c _ N with⟨l,O,b,d,rfl⟩|⟨b,d,m⟩
   ·cases O with
    |row bx bp=>
     rw[T]at R;intro bb;exact L.I9 l _ _ _ _ _ _ b R (aa.le.r4 _ (B.r4 _ bb))
    |_=>cases d
   ·rw[s c b,(H m rfl d).1]at R;exact g.I9 c _ _ _ _ _ _ m R
  ·rcases U c _ N with⟨l,O,b,rfl,rfl⟩|⟨b,d,m⟩
   ·rw[iM]at I;obtain⟨j,r⟩:=L.obj l _ b I;rw[T];refine⟨?_,by rw[kn (az b I)];exact r⟩;refine QL aL ?_;rw[ax];exact j.r7 ay
   ·rw[s c b];obtain⟨j,r⟩:=g.obj c _ m I;refine⟨?_,mI ⟨c,t,m,I,d,Z⟩⟩;refine aY.UJ (H m I d).1 (fun aG D=>?_) j;subst D;exact(L.r4 _ (aa.le.r4 _ (.inr ⟨c,aG,m,d,Z⟩))).1
  ·rcases U c _ N with⟨l,O,b,rfl,rfl⟩|⟨b,d,m⟩
   ·rw[iM]at an;rcases U k _ G with⟨aw,bz,Y,rfl,rfl⟩|⟨Y,ae,aV⟩
    ·rw[iM]at n;rw[T,T]at D;rw[L.inj l aw _ _ b Y an n D]
    ·rw[T,s k Y]at D;exact absurd ⟨k,S,aV,n,ae,D.symm⟩ (az b an)
   ·rcases U k _ G with⟨aw,bz,Y,rfl,rfl⟩|⟨Y,ae,aV⟩
    ·rw[iM]at n;rw[T,s c b]at D;exact absurd ⟨c,bO,m,an,d,D⟩ (az Y n)
    ·rw[s c b,s k Y]at D;exact g.inj c k _ _ m aV an n D
  ·
   have bi:∀k S,(merge σ a (M.map (eC (jO a σ.length))))[k]?=some S->live S=true->(∃l O,M[l]?=some O/\live O=true/\(Az ρ W σ.length a.length) k=W l)∨(ik σ ρ a ((Az ρ W σ.length a.length) k)/\σ[k]?=some S/\k ∉ a/\k<σ.length):=by
    intro k S G n;rcases U k _ G with⟨l,O,b,rfl,rfl⟩|⟨b,d,m⟩
    ·rw[iM]at n;exact .inl ⟨l,O,b,n,T l⟩
    ·exact .inr ⟨by rw[s k b];exact⟨k,S,m,n,d,rfl⟩,m,d,b⟩
   rcases U c _ N with⟨l,O,b,d,rfl⟩|⟨b,d,m⟩
   ·cases O with
    |row bx bp=>
     rw[T]at R Q;obtain⟨j,r⟩:=L.en l _ _ _ _ _ _ av h b R v P Q;have ba:¬ik σ ρ a h:=by
      rintro⟨q,F,o,E,bs,bf⟩;have:=(H o E bs).2.1;obtain⟨aI,A,_⟩:=qG g o E;rw[bf,j]at this;rw[bf]at A;rw[A]at this;cases this
     refine⟨by rw[kn ba];exact j,fun k S G n=>?_⟩;rcases bi k S G n with⟨aw,O,A,ab,aK⟩|⟨A,_⟩
     ·rw[aK];exact r aw O A ab
     ·intro D;rw[D]at A;exact ba A
    |_=>cases d
   ·rw[s c b]at R Q;have aM:=R;rw[(H m rfl d).1]at aM;have bN:∀ai p bg ah,ad.get h=some (.cells ai p bg ah)->bg=fm:=fun ai p bg ah bB=>L.wm.mem fm av h ai p bg ah v P bB;have au:e (ρ c)=some (.cells aC D fm aA):=by rw[(H m rfl d).2.1];exact aM
    have aQ:∀{k:Nat} {S:cU},σ[k]?=some S->live S=true->st.get (ρ k)≠some .dead:=by
     intro k S G n D;have G:=(g.obj k S G n).1;cases S with
     |box aG=>rw[G.1.1]at D;cases D
     |row ag af=>obtain⟨⟨_,_,aW⟩,_⟩:=G;rw[aW]at D;cases D
     |map ag aB=>rw[G.1]at D;cases D
     |loop bX=>obtain⟨_,aW,_⟩:=G;rw[aW]at D;cases D
     |fg bL=>have aW:st.get (ρ k)=some (.fg bL):=G;rw[aW]at D;cases D
     |gone=>cases n
    have bH:e h=none:=by
     cases br:e h with
     |none=>rfl
     |some t=>
      exfalso;rcases L.wm.row fm av h t v P (L.fz _ _ br)with p|⟨ai,p,ah,aj⟩
      ·subst p;exact L.NE h br
      ·subst aj;exact Q (L.NF h (ρ c) _ _ _ _ _ _ _ br au)
    refine⟨?_,fun k S G n=>?_⟩
    ·by_cases x:ik σ ρ a h
     ·exact mI x
     ·rw[kn x];exact bH
    ·rcases bi k S G n with⟨l,O,A,ab,aK⟩|⟨A,ab,aK,bW⟩
     ·rw[aK];intro D;subst D;obtain⟨aI,o,E⟩:=qG L A ab;rcases L.wm.row fm av _ aI v P o with p|⟨ai,p,ah,aj⟩
      ·subst p;have ak:=(L.obj l O A ab).1;cases O with
       |box aG=>rw[ak.1.1]at o;cases o
       |row ag af=>obtain⟨⟨_,_,aW⟩,_⟩:=ak;rw[aW]at o;cases o
       |map ag aB=>rw[ak.1]at o;cases o
       |loop bX=>obtain⟨_,aW,_⟩:=ak;rw[aW]at o;cases o
       |fg bL=>have aW:ad.get (W l)=some (.fg bL):=ak;rw[aW]at o;cases o
       |gone=>cases ab
      ·subst aj;exact L.mB A (E ⟨_,_,_,_,Z⟩) o (L.fz _ _ au) (fun D=>Q D.symm) (.inl (by rw[au];simp)) rfl
     ·rw[s k bW];intro D;subst D;obtain⟨aI,o,E⟩:=qG g ab n;have bE:ad.get (ρ k)=some aI:=by rw[(H ab n aK).1];exact o
      rcases L.wm.row fm av _ aI v P bE with p|⟨ai,p,ah,aj⟩
      ·subst p;exact aQ ab n o
      ·subst aj;exact g.mB m Z aM o Q (.inr ⟨k,S,ab,n,Z⟩) Z
 refine⟨ca,nj (jO a σ.length) aq,bC,ad,Ay Φ e σ ρ a,_,_,?_,aY,be,?_,bV aq M bQ aa.len⟩
 ·rw[aD,iy,bP];congr 2;cases aq with
  |ret bU=>simp only[nj,e3,iL,ax]
  |fO bU=>simp only[nj,e3,iL,ax]
 ·cases aq with
  |ret bU=>exact xQ aL (fJ.r7 ay bD)
  |fO bU=>exact xQ aL (fJ.r7 ay bD)
end
end Go.VM
