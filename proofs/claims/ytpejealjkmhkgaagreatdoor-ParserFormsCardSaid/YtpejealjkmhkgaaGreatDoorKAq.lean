/- Part of the proof. -/
import Derived.Test.YtpejealjkmhkgaaGreatDoorKAp
set_option linter.all false
set_option maxHeartbeats 16000000
set_option maxRecDepth 100000
open List renaming mem_map->abK,mem_cons->aeM,map_cons->aeN,mem_cons_of_mem->aeO,mem_cons_self->aeP
open Nat renaming le_max_right->abL,le_max_left->aeu,blt->aev
open Bool renaming and_eq_true->aet
namespace Go.VM
open Go.AM
variable{q:Tm} {j:List fq} {g:Bu->Tm->List fq->lJ->VS->Prop} {n:lJ} {s:Fr} {r:uw} {v:Bool}
section
variable{C:dR} {cF:ql} {Φ du:Fz} {ρ dk:Nat->Nat} {σ:VS} {st:St} {m m':Nat}
theorem VB{t:TypeId}{b c d:Value}{st:St}(h:gv C t b c st=some (.val d st))(a:St):gv C t b c a=some (.val d a):=by
 unfold gv at h⊢;split at h
 ·exact aeD
 ·exact aeD
 ·cases h
theorem Hi{fc:uw}{a R U:Oper}(d:L9 C fc.nt a R U q j n σ g)(h:SR Φ ρ σ st q j n s)(u:xB σ.length fc):
  ∃au,ID C (dV ρ fc) a R U s (c6 ρ n) st=some au/\S6 Φ ρ fc.fl g au:=by
 unfold L9 at d;split at d
 ·rename_i X t1 aF aD t2 aC aG ad P G Q N hia;obtain⟨ax,af,Y,k3⟩:=np h.real (gF h.tm) d;obtain⟨V,c,H,ah,y,ab⟩:=rR af h.tm Y;obtain⟨aI,p,J⟩:=cA H;obtain⟨aB,aa,F⟩:=cA J;obtain⟨aA,aj,D⟩:=cA F;obtain⟨aH,ae,o⟩:=cA D;clear H J F D;obtain⟨f1,L⟩:=gF y _ _ p;obtain⟨f2,K⟩:=gF y _ _ aa;have b:gK Φ ρ σ.length (rP X q) (⟨s.tm.put X none,s.df⟩:Fr).tm:=h.tm.del X;obtain⟨f3,E⟩:=gF b _ _ aj;obtain⟨f4,W⟩:=gF b _ _ ae;split at o
  ·rename_i i1 al aq az i2 ar;obtain⟨hA,hB⟩:=o;obtain⟨ao,av,q1,q2,q3,q4,aE⟩:=l5 h.real L K hB;obtain⟨S,l,ag,w,r,w4,aJ⟩:=l5 q3 (by rw[q2];exact E) (by rw[q2];exact W) q1;obtain⟨ai,RW,I,m,A,q4',ay⟩:=l5 h.real E W hA;obtain⟨v,ac,am,aw,ak,w4',an⟩:=l5 A (by rw[m];exact L) (by rw[m];exact K) I;have k:∃M els,σ[i1]?=some (.row M els):=by
    exact w5
   have f:∃cs,σ[i2]?=some (.box cs):=by
    exact X9
   obtain⟨M,els,If⟩:=k;obtain⟨cs,RD⟩:=f;have z:i1≠i2:=fun e=>by subst e;rw[If]at RD;cases RD
   have aaa:ρ i1≠ρ i2:=fun e=>z (h.real.inj _ _ _ _ If RD rfl rfl e);obtain⟨_,fm1,ap,hg1⟩:=sf h.real If;obtain⟨⟨⟨hg2,Bn⟩,_⟩,_⟩:=h.real.obj i2 _ RD rfl;have adx:ρ i2≠fm1:=fun e=>by
    exact YU
   have hap:apart st (ρ i1) (ρ i2)=true:=by
    exact q5
   have Y4:j8 C (jy s) a RW=some (.val (erase ρ ax) RW):=by
    exact Y3
   have B:(gb a.op||gh a.op)=false:=by
    cases T:a.op with
    |indexAddr t x i=>rfl
    |_=>rw[T]at hia;cases hia
   have O:gV (dV ρ fc).nt s (some X) (erase ρ ax)=some c:=ah;refine⟨(.norm,c,c6 ρ n,l),?_,Φ,ρ,S,l,.norm,V,j,n,c,ag,⟨Fz.le_refl _,fun _ _=>Z,by have:=u.2;omega⟩,⟨r,?_,?_,?_⟩,tv,Z⟩
   ·unfold ID;simp only[ad,P,G,Q,N,B,k3,Nat.beq_refl,O,f1,f2,f3,f4,erase];exact ab8
   ·rw[w,q2];exact y
   ·rw[w,q2,ab];exact h.df
   ·rw[w,q2];exact h.ps
  ·exact o.elim
 ·exact d.elim
theorem Hj{fc:uw}{a ac f af:Oper}(b:Ma C fc.nt a ac f af q j n σ g)(h:SR Φ ρ σ st q j n s)(ao:xB σ.length fc):
  ∃aM,IE C (dV ρ fc) a ac f af s (c6 ρ n) st=some aM/\S6 Φ ρ fc.fl g aM:=by
 unfold Ma at b;split at b
 ·rename_i k e aw aa S P;split at b
  ·rename_i t1 aW aU av aB ak t2 aT aX ab B r hia;split at b
   ·rename_i A Q ah;have ap:k≠e:=Nat.ne_of_beq_eq_false A;have l:gK Φ ρ σ.length (rP e q) (⟨s.tm.put e none,s.df⟩:Fr).tm:=h.tm.del e;have d:gK Φ ρ σ.length (rP k q) (⟨s.tm.put k none,s.df⟩:Fr).tm:=h.tm.del k;obtain⟨E,az,R,k3⟩:=np h.real (gF l) b;obtain⟨c,ay,v,m⟩:=np h.real (gF d) az;have V:gK Φ ρ σ.length ((k,E)::rP e q) (⟨(s.tm.put e none).set k (erase ρ E),s.df⟩:Fr).tm:=l.set R;have ag:gK Φ ρ σ.length ((e,c)::rP k q) (⟨(s.tm.put k none).set e (erase ρ c),s.df⟩:Fr).tm:=d.set v;obtain⟨ba,aj,W⟩:=cA ay;obtain⟨aS,ar,O⟩:=cA W;obtain⟨aR,aD,M⟩:=cA O;obtain⟨aY,ax,G⟩:=cA M;clear W O M;obtain⟨f1,Y⟩:=gF V _ _ aj;obtain⟨f2,X⟩:=gF V _ _ ar;obtain⟨f3,N⟩:=gF ag _ _ aD;obtain⟨f4,ai⟩:=gF ag _ _ ax;split at G
    ·rename_i i1 aF aK aQ i2 aL;obtain⟨hA,hB⟩:=G;obtain⟨aI,aN,q1,q2,q3,q4,aV⟩:=l5 h.real Y X hB;obtain⟨ad,z,aA,I,am,w4,bb⟩:=l5 q3 (by rw[q2];exact N) (by rw[q2];exact ai) q1;obtain⟨aC,RW,T,D,K,q4',aP⟩:=l5 h.real N ai hA;obtain⟨aq,au,aG,aO,aE,w4',aH⟩:=l5 K (by rw[D];exact Y) (by rw[D];exact X) T;have y:∃p els,σ[i1]?=some (.row p els):=by
      exact w5
     have w:∃cs,σ[i2]?=some (.box cs):=by
      exact X9
     obtain⟨p,els,If⟩:=y;obtain⟨cs,RD⟩:=w;have J:i1≠i2:=fun e=>by subst e;rw[If]at RD;cases RD
     have aaa:ρ i1≠ρ i2:=fun e=>J (h.real.inj _ _ _ _ If RD rfl rfl e);obtain⟨_,fm1,aJ,hg1⟩:=sf h.real If;obtain⟨⟨⟨hg2,Bn⟩,_⟩,_⟩:=h.real.obj i2 _ RD rfl;have adx:ρ i2≠fm1:=fun e=>by
      exact YU
     have hap:apart st (ρ i1) (ρ i2)=true:=by
      exact q5
     have Y4:j8 C (jy ⟨s.tm.put e none,s.df⟩) a RW=some (.val (erase ρ E) RW):=by
      exact Y3
     have L:(gb a.op||gh a.op)=false:=by
      cases ae:a.op with
      |indexAddr t x i=>rfl
      |_=>rw[ae]at hia;cases hia
     obtain⟨o,an,al⟩:∃o,jy ⟨s.tm.put k none,s.df⟩ aB=some o/\fI C av o ak st=some (.val (erase ρ c) st):=by
      unfold j8 at m;rw[B]at m;simp only at m;split at m
      ·rename_i o U;exact⟨o,U,m⟩
      ·cases m
     have u:aev k (dV ρ fc).nt=true:=Q;have H:aev e (dV ρ fc).nt=true:=ah;have F:gK Φ ρ σ.length ((e,c)::(k,E)::q) (⟨(s.tm.set k (erase ρ E)).set e (erase ρ c),s.df⟩:Fr).tm:=(h.tm.set R).set v;refine⟨(.norm,⟨(s.tm.set k (erase ρ E)).set e (erase ρ c),s.df⟩,c6 ρ n,z),?_,Φ,ρ,ad,z,.norm,(e,c)::(k,E)::q,j,n,_,aA,⟨Fz.le_refl _,fun _ _=>Z,by have:=ao.2;omega⟩,⟨am,?_,?_,?_⟩,tv,Z⟩
     ·unfold IE;simp only[aw,aa,P,S,ab,B,r,L,A,k3,an,al,Nat.beq_refl,u,H,f1,f2,f3,f4,erase,Bool.and_self];exact ab8
     ·rw[I,q2];exact F
     ·rw[I,q2];exact h.df
     ·rw[I,q2];exact h.ps
    ·exact G.elim
   ·exact b.elim
  ·exact b.elim
 ·exact b.elim
theorem EA{z:Array Oper}(y:He C cF r z v q j n σ g)(P:SR Φ ρ σ st q j n s)(x:xB σ.length r):
  ∃E F,region C (jN C cF E) (dV ρ r) z v s (c6 ρ n) st=some F/\S6 Φ ρ r.fl g F:=by
 unfold He at y;split at y
 ·exact Ey _ y P x
 ·split at y;rename_i S m J w;obtain⟨E,F,t,L⟩:=CZ _ y P x .nil;obtain⟨du,dk,h,e,U,d,k,f,i,a,c,o,O,rfl⟩:=L;cases U with
  |norm=>
   simp only at a;cases D:Nat.beq m z.toList.length with
   |true=>
    rw[D]at a;refine⟨E,_,?_,du,dk,h,e,.norm,d,k,f,i,a,c,o,tv,Z⟩;unfold region;simp only[w,t,ek,D]
   |false=>
    rw[D]at a;simp only at a;split at a
    ·rename_i Q N M K B G;split at a
     ·rename_i b;rw[Hd]at b;obtain⟨F,A,H⟩:=Hi (fc:=r) a o (c.Mc x).2;refine⟨E,F,?_,H.after c⟩;rw[(c.Mc x).1]at A;unfold region;simp only[w,t,ek,D,B,G,b,A]
     ·exact a.elim
    ·rename_i Q N V M K B G;split at a
     ·rename_i T b I;split at a
      ·rename_i l;rw[Hd]at b l;obtain⟨F,A,H⟩:=Hj (fc:=r) a o (c.Mc x).2;refine⟨E,F,?_,H.after c⟩;rw[(c.Mc x).1]at A;unfold region;simp only[w,t,ek,D,B,G,b,I,l,A]
      ·exact a.elim
     ·exact a.elim
    ·exact a.elim
  |exit id=>
   refine⟨E,_,?_,du,dk,h,e,.exit id,d,k,f,i,a,c,o,tv,Z⟩;unfold region;simp only[w,t,ek]
  |ret=>
   refine⟨E,_,?_,du,dk,h,e,.ret,d,k,f,i,a,c,o,tv,Z⟩;unfold region;simp only[w,t,ek]
  |panic R=>
   refine⟨E,_,?_,du,dk,h,e,.panic R,d,k,f,i,a,c,o,O,Z⟩;unfold region;simp only[w,t,ek]
theorem yJ{fc:uw}{W:FuncId}{first f:List V}{d:Nat}(t:Hf C cF W first f d q j n σ g)(U:SR Φ ρ σ st q j n s) 
  (N:xB σ.length fc) (E:d<σ.length) (o:eV Φ σ.length first) (x:eV Φ σ.length f):
  ∃A T S,C.ff.get W=some A/\(match(jN C cF T).call W (cl ρ first++[.func (.yield (ρ d)) #[] #[]]++cl ρ f) false .none st with
    |some (.ret _,_,st)=>match st.get (ρ d)with
     |some (.loop h)=>match h.state with
      |.busy=>none
      |_=>match Gl h.pending with
       |some B=>some (B,s,c6 ρ n,st.put (ρ d) (.loop {h with state:=.exhausted}))
       |none=>none
     |_=>none
    |some (.eH L,_,st)=>some (.panic L,s,c6 ρ n,st)
    |none=>none)=some S/\S6 Φ ρ fc.fl g S:=by
 unfold Hf at t;split at t
 ·exact t.elim
 ·rename_i A F;have y:eV Φ σ.length (first++[.tR d]++f):=(o.append (fun L P=>by simp at P;subst P;exact .tR E)).append x;obtain⟨T,S,Y,l,du,dk,m,z,k,I,X,c⟩:=t.go Φ ρ st U.real y;have w:=U.move k I;rw[fC,fC]at z;simp only[cl,erase]at z;cases S with
  |ret L=>
   simp only at c;split at c
   ·rename_i K G;rw[ck]at G;obtain⟨⟨h,Q,b⟩,_⟩:=I.obj d _ G rfl;have M:K.state≠.busy/\dn (S2 K.pending) fun B=>Bv m d (.loop {K with state:=.exhausted}) fun H=>g B q j n H:=by
     cases i:K.state with
     |busy=>rw[i]at c;exact c.elim
     |_=>rw[i]at c;exact⟨by simp,c⟩
    obtain⟨R,c⟩:=M;obtain⟨B,hx,c⟩:=cA c;obtain⟨_,c⟩:=kD _ _ _ _ c;have J:=I.put (o':=.loop {K with state:=.exhausted}) (a:=.loop {h with state:=.exhausted}) G rfl rfl rfl (fun _ _ _ _ e=>by cases e)
     ⟨{h with state:=.exhausted},by rw[c8,if_pos rfl],⟨rfl,b.pending,b.fn,b.tm,b.nt,b.params,b.assign,b.body,b.defers,b.ee⟩⟩
    have D:Gl h.pending=some (ek dk B)/\PT du m.length B:=by
     rw[b.pending];unfold S2 at hx;split at hx
     ·exact X4
     ·exact X4
     ·exact X4
     ·cases hx
    have O:ρ d=dk d:=(k.vA d E).symm;refine⟨A,T,(ek dk B,s,c6 dk n,l.put (dk d) (.loop {h with state:=.exhausted})),F,?_,du,dk,_,_,B,q,j,n,s,c,by rw[js];exact k.weaken N.2,⟨J,by rw[js];exact w.tm,by rw[js];exact w.df,by rw[js];exact w.ps⟩,by rw[js];exact D.2,Z⟩;rw[z];simp only[eG];rw[O,Q];simp only;rw[b.state];cases i:K.state with
    |busy=>exact absurd i R
    |_=>simp only[D.1,(k.ps U.ps).1]
   ·exact c.elim
  |eH L=>
   refine⟨A,T,(.panic (erase dk L),s,c6 dk n,l),F,?_,du,dk,m,l,.panic L,q,j,n,s,c,k.weaken N.2,w,X,Z⟩;rw[z];simp only[eG,(k.ps U.ps).1]
theorem rS:∀(av:Code) {Φ:Fz} {ρ:Nat->Nat} {σ:VS} {st:St} {e:Tm} {df:List fq} {f:lJ} {J:Bu->Tm->List fq->lJ->VS->Prop},
  vc C cF r av e df f σ J->∀{fr:Fr},SR Φ ρ σ st e df f fr->xB σ.length r->
  ∃E Q,code C (jN C cF E) (dV ρ r) av fr (c6 ρ f) st=some Q/\S6 Φ ρ r.fl J Q:=by
 intro av;induction av with
 |skip=>intro Φ ρ σ st e df f J a fr x b;exact⟨0,_,rfl,Φ,ρ,σ,st,.norm,e,df,f,fr,a,(iJ.refl _ _ _).weaken b.2,x,tv,rfl⟩
 |region id aS aJ=>intro Φ ρ σ st e df f J a fr x b;exact EA a x b
 |seq aT ac P N=>
  intro Φ ρ σ st e df f J a fr x b;rw[aaJ]at a;unfold S3 at a;obtain⟨E,Q,h,du,dk,m,i,aC,l,t,k,o,w,A,D,L,rfl⟩:=P a x b;cases aC with
  |norm=>
   cases u:cutAt r ac with
   |false=>
    rw[u]at w;obtain⟨K,aI,aD,ak⟩:=N w D (A.Mc b).2;refine⟨max E K,aI,?_,ak.after A⟩;unfold code;rw[gN (hG (aeu E K)) _ h];simp only[ek];rw[(A.Mc b).1]at aD;exact gN (hG (abL E K)) _ aD
   |true=>
    rw[u]at w;have w:cd C cF r ac l t k m J:=w;obtain⟨K,aq,n,aB,ax,p,s,ap,U,aA,Y,af,ao,ai,ae,ab,aa,an⟩:=w.go du dk i o D.real D.tm D.df D.ps (A.Mc b).2;have ak:S6 du dk r.fl J (ek U aq,n,c6 U p,s):=⟨ap,U,aA,s,aq,aB,ax,p,n,an,af,⟨ao,ai,ae,ab⟩,aa,rfl⟩;refine⟨max E K,_,?_,ak.after A⟩;unfold code;rw[gN (hG (aeu E K)) _ h];simp only[ek];rw[(A.Mc b).1]at Y;exact gN (hG (abL E K)) _ Y
  |exit id=>exact⟨E,_,by unfold code;rw[h];rfl,du,dk,m,i,.exit id,l,t,k,o,w,A,D,L,rfl⟩
  |ret=>exact⟨E,_,by unfold code;rw[h];rfl,du,dk,m,i,.ret,l,t,k,o,w,A,D,L,rfl⟩
  |panic aO=>exact⟨E,_,by unfold code;rw[h];rfl,du,dk,m,i,.panic aO,l,t,k,o,w,A,D,L,rfl⟩
 |cond av aT ac P N=>
  intro Φ ρ σ st e df f J a fr x b;rw[V5]at a;unfold Mb at a;split at a
  ·rename_i aV aF;have aw:=(gF x.tm _ _ aF).1;cases aV with
   |true=>
    obtain⟨E,Q,h,I⟩:=P a x b;exact⟨E,Q,by unfold code;simp only[aw,erase,cz];exact h,I⟩
   |false=>
    obtain⟨E,Q,h,I⟩:=N a x b;exact⟨E,Q,by unfold code;simp only[aw,erase,cz];exact h,I⟩
  ·exact a.elim
 |block id ac v=>
  intro Φ ρ σ st e df f J a fr x b;obtain⟨E,Q,h,du,dk,m,i,aC,l,t,k,o,w,A,D,L,rfl⟩:=v a x b;cases aC with
  |exit q=>
   simp only at w;cases W:Nat.beq q id with
   |true=>
    rw[W]at w;exact⟨E,_,by unfold code;rw[h];simp only[ek,W],du,dk,m,i,.norm,l,t,k,o,w,A,D,tv,Z⟩
   |false=>
    rw[W]at w;exact⟨E,_,by unfold code;rw[h];simp only[ek,W],du,dk,m,i,.exit q,l,t,k,o,w,A,D,tv,Z⟩
  |norm=>exact⟨E,_,by unfold code;rw[h];rfl,du,dk,m,i,.norm,l,t,k,o,w,A,D,L,rfl⟩
  |ret=>exact⟨E,_,by unfold code;rw[h];rfl,du,dk,m,i,.ret,l,t,k,o,w,A,D,L,rfl⟩
  |panic aO=>exact⟨E,_,by unfold code;rw[h];rfl,du,dk,m,i,.panic aO,l,t,k,o,w,A,D,L,rfl⟩
 |loop ac v=>
  intro Φ ρ σ st e df f J a fr x b;have a:cd C cF r (.loop ac) e df f σ J:=a;obtain⟨E,aC,o,l,t,k,i,du,dk,m,Y,af,ao,ai,ae,ab,aa,an⟩:=a.go Φ ρ st fr x.real x.tm x.df x.ps b;exact⟨E,_,Y,du,dk,m,i,aC,l,t,k,o,an,af,⟨ao,ai,ae,ab⟩,aa,Z⟩
 |rangeFunc aW d c z P N=>
  intro Φ ρ σ st e df f J a fr x b;rw[S4]at a;unfold Hg at a;split at a
  ·rename_i aX first aP aM
   obtain⟨aw,ar⟩:=gF x.tm _ _ aM;cases ar with
   |fn B G=>
   have y:∀(σ:VS) (aQ:cN),(σ++[aQ]).length=σ.length+1:=fun σ aQ=>by simp
   split at a
   ·rename_i aN ah;split at a
    ·rename_i aR ay;rw[ck]at ay;obtain⟨⟨aE,au,R⟩,_⟩:=x.real.obj aN _ ay rfl;have a:=jK a;have ad:=la Φ ρ σ.length st.n;have ag:jM ρ σ.length st.n σ.length=st.n:=if_pos rfl;have am:Real Φ (jM ρ σ.length st.n) (σ++[.loop ⟨.ready,none,r.fn,e,r.nt,d.toList,c,z,aR.defers,r.fz⟩]) (st.new (.loop ⟨.ready,none,r.fn,fr.tm,r.nt,d.toList,c,z,aE.defers⟩)):=
      x.real.new trivial ⟨_,by rw[dm,if_pos rfl],⟨rfl,rfl,rfl,ad.tm x.tm,rfl,rfl,rfl,rfl,by show aE.defers=_;rw[R.defers];exact(ad.vA _ R.ee).symm,Nat.lt_succ_of_lt R.ee⟩⟩
     have F:iJ Φ ρ σ.length Φ (jM ρ σ.length st.n) (σ++[cN.loop ⟨.ready,none,r.fn,e,r.nt,d.toList,c,z,aR.defers,r.fz⟩]).length:=by rw[y];exact ad
     have aL:=x.move F am;obtain⟨aK,E,Q,q1,q2,q3⟩:=yJ (fc:=r) a aL (F.fc b).2 (by rw[y];omega) (F.N1 B) (F.N1 G);refine⟨E,Q,?_,q3.after (F.weaken b.2)⟩;unfold code;rw[F.cl B,F.cl G,ag,(F.ps x.ps).1]at q2;simp only[aw,erase,dV,pE,ah,Option.map_some,au,q1];exact q2
    ·exact a.elim
   ·rename_i ah;have a:=jK (jK a);have az:=la Φ ρ σ.length st.n;have O:jM ρ σ.length st.n σ.length=st.n:=if_pos rfl;have j:Real Φ (jM ρ σ.length st.n) (σ++[.eI false]) (st.new (.eI false)):=x.real.new trivial (by show(st.new (.eI false)).get st.n=_;rw[dm,if_pos rfl]);have S:iJ Φ ρ σ.length Φ (jM ρ σ.length st.n) (σ++[cN.eI false]).length:=by rw[y];exact az
    have h:=x.move S j;have M:=la Φ (jM ρ σ.length st.n) (σ++[cN.eI false]).length (st.new (.eI false)).n;have X:jM (jM ρ σ.length st.n) (σ++[cN.eI false]).length (st.new (.eI false)).n (σ++[cN.eI false]).length=(st.new (.eI false)).n:=if_pos rfl;have T:σ.length<(σ++[cN.eI false]).length:=by rw[y];omega
    have g:Real Φ (jM (jM ρ σ.length st.n) (σ++[cN.eI false]).length (st.new (.eI false)).n) ((σ++[cN.eI false])++[cN.loop ⟨.ready,none,r.fn,e,r.nt,d.toList,c,z,σ.length,r.fz⟩])
      ((st.new (.eI false)).new (.loop ⟨.ready,none,r.fn,fr.tm,r.nt,d.toList,c,z,st.n⟩)):=
     h.real.new trivial ⟨_,by rw[dm,if_pos rfl],⟨rfl,rfl,rfl,M.tm h.tm,rfl,rfl,rfl,rfl,by show st.n=_;rw[M.vA _ T,O],Nat.lt_succ_of_lt T⟩⟩
    have V:iJ Φ (jM ρ σ.length st.n) (σ++[cN.eI false]).length Φ (jM (jM ρ σ.length st.n) (σ++[cN.eI false]).length (st.new (.eI false)).n) ((σ++[cN.eI false])++[cN.loop ⟨.ready,none,r.fn,e,r.nt,d.toList,c,z,σ.length,r.fz⟩]).length:=by
     rw[y (σ++[cN.eI false])];exact M
    have I:=h.move V g;have H:=S.trans V;have aG:SR Φ (jM (jM ρ σ.length st.n) (σ++[cN.eI false]).length (st.new (.eI false)).n) ((σ++[cN.eI false])++[cN.loop ⟨.ready,none,r.fn,e,r.nt,d.toList,c,z,σ.length,r.fz⟩])
      ((st.new (.eI false)).new (.loop ⟨.ready,none,r.fn,fr.tm,r.nt,d.toList,c,z,st.n⟩)) e (⟨.GS σ.length,[]⟩::df) f {fr with df:={target:=.collected st.n,args:= #[]}::fr.df}:=by
     refine⟨I.real,I.tm,⟨?_,fun aU aj=>?_⟩,I.ps⟩
     ·have aH:=I.df.1;simp only[aeN];rw[<-aH];congr 1;simp only[jq,M.vA _ T,O,cl]
     ·rcases aeM.1 aj with rfl|aj
      ·exact⟨by show σ.length<_;rw[y (σ++[cN.eI false]),y];omega,fun _ x=>by simp at x⟩
      ·exact I.df.2 aU aj
    obtain⟨aK,E,Q,q1,q2,q3⟩:=yJ (fc:=r) a aG (H.fc b).2 (by rw[y (σ++[cN.eI false])];omega) (H.N1 B) (H.N1 G);refine⟨E,Q,?_,q3.after (H.weaken b.2)⟩;unfold code;rw[H.cl B,H.cl G,X,(H.ps x.ps).1]at q2;simp only[aw,erase,dV,pE,ah,Option.map_none,q1];exact q2
  ·exact a.elim
 |exit id=>intro Φ ρ σ st e df f J a fr x b;exact⟨0,_,rfl,Φ,ρ,σ,st,.exit id,e,df,f,fr,a,(iJ.refl _ _ _).weaken b.2,x,tv,rfl⟩
 |ret=>intro Φ ρ σ st e df f J a fr x b;exact⟨0,_,rfl,Φ,ρ,σ,st,.ret,e,df,f,fr,a,(iJ.refl _ _ _).weaken b.2,x,tv,rfl⟩
 |scope ac v=>intro Φ ρ σ st e df f J a fr x b;exact a.elim
 |label aN=>intro Φ ρ σ st e df f J a fr x b;exact a.elim
 |goto aN=>intro Φ ρ σ st e df f J a fr x b;exact a.elim
 |refuse aY=>intro Φ ρ σ st e df f J a fr x b;exact a.elim
end
variable{u:tc} {p:List V}
section
variable{C:dR} {cF:ql} {Φ du:Fz} {ρ dk:Nat->Nat} {σ:VS} {st:St} {m m':Nat}
def ns(ρ:Nat->Nat):tc->AM.Mode
 |.returning=>.returning
 |.panicking a=>.panicking (erase ρ a)
def MOk(Φ:Fz)(m:Nat):tc->Prop
 |.returning=>True
 |.panicking a=>e9 Φ m a
theorem iJ.mode(b:iJ Φ ρ m du dk m')(a:MOk Φ m u):ns dk u=ns ρ u/\MOk du m' u:=by
 cases u with
 |returning=>exact⟨rfl,tv⟩
 |panicking c=>exact⟨by simp only[ns,b.erase a],b.ok a⟩
theorem EB:∀(y:List fq) {e:tc} {Φ:Fz} {ρ:Nat->Nat} {σ:VS} {st:St} {k:tc->VS->Prop},su C cF y e σ k->Real Φ ρ σ st->(∀w∈y,Jh Φ σ.length w)->MOk Φ σ.length e->
  ∃E f du dk c l,kB C (jN C cF E) (y.map (jq ρ)) (ns ρ e) st=some (ns dk f,l)/\iJ Φ ρ σ.length du dk c.length/\Real du dk c l/\MOk du c.length f/\k f c:=by
 intro y;induction y with
 |nil=>intro e Φ ρ σ st k d I _ m;exact⟨0,e,Φ,ρ,σ,st,rfl,.refl _ _ _,I,m,d⟩
 |cons w y T=>
  intro e Φ ρ σ st k d I t m;obtain⟨aa,Y⟩:=w;have W:=t _ (aeP ..);have x:∀w∈y,Jh Φ σ.length w:=fun w I=>t w (aeO _ I);cases aa with
  |GS K=>
   unfold su at d;split at d
   ·rename_i F;rw[ck]at F;obtain⟨_,d⟩:=kD _ _ _ _ d;have n:=(I.obj K _ F rfl).1;have J:=I.put (o':=.eI true) (a:=.eI true) F rfl rfl rfl (fun _ _ _ _ ab=>by cases ab) (by show(st.put (ρ K) (.eI true)).get (ρ K)=_;rw[c8,if_pos rfl]);obtain⟨E,f,du,dk,c,l,G,h,H,V,L⟩:=T d J (by rw[js];exact x) (by rw[js];exact m);rw[js]at h;refine⟨E,f,du,dk,c,l,?_,h,H,V,L⟩;have P:st.get (ρ K)=some (.eI false):=n;simp only[aeN,jq,kB,P];exact G
   ·exact d.elim
  |fn ad B=>
   unfold su at d;split at d
   ·rename_i ac X;obtain⟨D,g⟩:=W;have D:eV Φ σ.length B:=D;have S:Bx Φ σ.length (PE e):=by
     cases e with
     |returning=>trivial
     |panicking j=>exact m
    obtain⟨E,K,o,l,du,dk,c,G,h,H,V,L,z⟩:=d.go Φ ρ st I (g.append D) S;cases K with
    |eH j=>exact z.elim
    |ret j=>
     have M:MOk du c.length (pn e o):=by
      cases e with
      |returning=>trivial
      |panicking j=>
       cases o with
       |rD=>trivial
       |none=>exact h.ok m
       |gg v=>exact h.ok m
     have z:su C cF y (pn e o) c k:=z;obtain⟨A,f,Q,N,U,O,R,p,u,q,s⟩:=T z H (fun w t=>(h.df1 (x w t)).2) M;refine⟨max E A,f,Q,N,U,O,?_,h.trans p,u,q,s⟩;have r:y.map (jq dk)=y.map (jq ρ):=List.map_congr_left fun w t=>(h.df1 (x w t)).1;rw[r]at R;have i:=(hG (C:=C) (cF:=cF) (aeu E A)).call _ _ _ _ _ _ G;have b:=yE (hG (C:=C) (cF:=cF) (abL E A)) _ R;rw[fC]at i;unfold kB;simp only[aeN,jq,X];cases e with
     |returning=>
      simp only[PE,c6]at i;simp only[pn,ns]at b⊢;rw[i];simp only[eG];exact b
     |panicking v=>
      simp only[PE,c6]at i;simp only[ns];rw[i];simp only[eG];cases o with
      |rD=>exact b
      |none=>
       simp only[pn,ns]at b;rw[h.erase m]at b;exact b
      |gg ae=>
       simp only[pn,ns]at b;rw[h.erase m]at b;exact b
   ·exact d.elim
theorem C0(D:Real Φ ρ σ st){t:Tr Value}(i:gK Φ ρ σ.length q t):∀(m:List ResultVar) {k:List V->Prop},yI C q σ m k->∃a,k a/\eV Φ σ.length a/\qt C t st m=some (cl ρ a):=by
 intro m;induction m with
 |nil=>intro k b;exact⟨[],b,fun _ D=>by simp at D,rfl⟩
 |cons E m l=>
  intro k b;cases E with
  |tmp G=>
   obtain⟨w,e,c⟩:=cA b;obtain⟨a,h,d,f⟩:=l c;obtain⟨o,A⟩:=i _ _ e;refine⟨w::a,h,fun x hx=>?_,by simp only[qt,Cq,o,f,cl]⟩;rcases aeM.1 hx with rfl|hx
   ·exact A
   ·exact d x hx
  |cell G F=>
   obtain⟨H,e,c⟩:=cA b;obtain⟨o,A⟩:=i _ _ e;obtain⟨w,h,d,f⟩:=AV D A c;obtain⟨a,B,y,z⟩:=l h;refine⟨w::a,B,fun x hx=>?_,by simp only[qt,Cq,o,f,z,cl]⟩;rcases aeM.1 hx with rfl|hx
   ·exact d
   ·exact y x hx
theorem C1(ρ:Nat->Nat)(a:List V):vD (cl ρ a)=erase ρ (pO a):=by
 cases a with
 |nil=>simp[pO,vD,cl,erase]
 |cons c a=>
  cases a with
  |nil=>simp[pO,vD,cl]
  |cons b a=>simp[pO,vD,cl,erase,List.toArray]
theorem Jz(a:eV Φ m p):e9 Φ m (pO p):=by
 cases p with
 |nil=>exact .dS a
 |cons b p=>
  cases p with
  |nil=>exact a b sm
  |cons c p=>exact .dS a
theorem EC{fi:FI}{K:cO->VS->Prop}(h:vN C cF fi.VE u q j σ K)(e:SR Φ ρ σ st q j n s)(y:MOk Φ σ.length u):
  ∃l m du dk a b,finish C (jN C cF l) fi (ns ρ u) s (c6 ρ n) st=some (eG dk m,c6 dk n,b)/\iJ Φ ρ σ.length du dk a.length/\Real du dk a b/\CW du a.length m/\K m a:=by
 unfold vN at h;obtain⟨l,i,du,dk,a,b,k,c,d,z,f⟩:=EB j h e.real e.df.2 y;cases i with
 |panicking A=>
  refine⟨l,.eH A,du,dk,a,b,?_,c,d,z,f⟩;unfold finish;rw[e.df.1,k];simp only[ns,eG,(c.ps e.ps).1]
 |returning=>
  obtain⟨t,w,o,x⟩:=C0 d (c.tm e.tm) fi.VE f;refine⟨l,.ret (pO t),du,dk,a,b,?_,c,d,Jz o,w⟩;unfold finish;rw[e.df.1,k];simp only[ns,x,eG,(c.ps e.ps).1,C1]
theorem Hk(a:List V):∀(c b:Nat),gm (sv c a) b=if c<=b/\b<c+a.length then a[b-c]? else none:=by
 induction a with
 |nil=>
  intro c b;simp only[sv,gm,List.length_nil,Nat.add_zero];rw[if_neg om]
 |cons h a e=>
  intro c b;simp only[sv,kl,e,List.length_cons];by_cases f:b=c
  ·subst f;rw[if_pos rfl,if_pos om,Nat.sub_self];rfl
  ·rw[if_neg f];by_cases d:c+1<=b/\b<c+1+a.length
   ·rw[if_pos d,if_pos om,show b-c=(b-(c+1))+1 from by omega];rfl
   ·rw[if_neg d,if_neg om]
theorem uF{I:Nat->Bool}{f:FuncId}{K:cO->lJ->VS->Prop}(h:CY C cF I f p v n σ K)(ad:Real Φ ρ σ st)(ae:eV Φ σ.length p)(r:Bx Φ σ.length n):
  ∃z l c du dk a d,yg C (jN C cF z) f (cl ρ p) v (c6 ρ n) st=some (eG dk l,c6 dk c,d)/\iJ Φ ρ σ.length du dk a.length/\Real du dk a d/\CW du a.length l/\Bx du a.length c/\K l c a:=by
 unfold CY at h;split at h
 ·exact h.elim
 ·rename_i e Y;split at h
  ·exact h.elim
  ·rename_i ab;have X:gK Φ ρ σ.length (sv 0 p) (⟨eE 0 (cl ρ p) .nil,[]⟩:Fr).tm:=by
    intro aj D k;rw[Hk]at k;split at k
    ·rename_i E;refine⟨?_,ae D (List.mem_of_getElem? k)⟩;show(eE 0 (cl ρ p) .nil).get aj=_;rw[qw,if_pos (by rw[cW];exact E),dL,List.getElem?_map,k];rfl
    ·cases k
   have J:SR Φ ρ σ st (sv 0 p) [] n ⟨eE 0 (cl ρ p) .nil,[]⟩:=⟨ad,X,⟨rfl,fun _ ad=>by simp at ad⟩,r⟩;obtain⟨z,l,q,Q,t,w,ai,j,S,F,x,ah,m,U,M,af,rfl⟩:=rS e.body h J ⟨fun ak aa=>(by cases aa),Nat.le_refl _⟩;have P:Nat.ble (cl ρ p).length e.nt=true:=by rw[cW];exact ab
   have i:∀o:tc,MOk Q w.length o->(match(generalizing:=false) ek t j with|.norm=>some AM.Mode.returning|.ret=>some .returning|.panic D=>some (.panicking D)|.exit _=>none)=some (ns t o)->
     vN C cF e.VE o S F w (fun l σ=>K l x σ)->
     ∃z l c du dk a d,yg C (jN C cF z) f (cl ρ p) v (c6 ρ n) st=some (eG dk l,c6 dk c,d)/\iJ Φ ρ σ.length du dk a.length/\Real du dk a d/\CW du a.length l/\Bx du a.length c/\K l c a:=by
    intro o T b B;obtain⟨y,g,N,G,W,H,u,L,ag,s,ac⟩:=EC (fi:=e) B M T;refine⟨max z y,g,x,N,G,W,H,?_,U.then L U.len,ag,s,(L.ps M.ps).2,ac⟩;have O:=gN (hG (C:=C) (cF:=cF) (aeu z y)) _ q;have A:=qI (hG (C:=C) (cF:=cF) (abL z y)) u;unfold yg;simp only[Y,P];have R:dV ρ ⟨f,e.nt,none,v,I,σ.length⟩=⟨f,e.nt,none,v⟩:=rfl;rw[R]at O;rw[O];cases j with
    |norm=>simp only[ek]at b⊢;injection b with b;rw[b];exact A
    |ret=>simp only[ek]at b⊢;injection b with b;rw[b];exact A
    |panic D=>simp only[ek]at b⊢;injection b with b;rw[b];exact A
    |exit id=>cases b
   cases j with
   |norm=>exact i .returning trivial rfl m
   |ret=>exact i .returning trivial rfl m
   |panic D=>exact i (.panicking D) af rfl m
   |exit id=>exact m.elim
theorem bV.body(d:Nat->Bool){f:FuncId}{K:cO->VS->Prop}(w:∀z,cF f z=none)(e:CY C cF d f p false .none σ fun i _ σ=>K i σ):bV C cF f p σ K:=by
 refine⟨fun Φ ρ st y l=>?_⟩;obtain⟨x,i,b,du,dk,c,a,k,t,m,o,_,h⟩:=uF e y l trivial;refine⟨x+1,i,c6 dk b,a,du,dk,c,?_,t,m,o,h⟩;simp only[jN,w];exact k
theorem oA.body(h:Nat->Bool){f:FuncId}{K:cO->lJ->VS->Prop}(i:CY C cF h f p true n σ K):oA C cF f p n σ K:=by
 refine⟨fun Φ ρ st z m d=>?_⟩;obtain⟨x,y,b,du,dk,c,a,k,w,l,t,e,o⟩:=uF i z m d;exact⟨x+1,y,b,a,du,dk,c,k,w,l,t,e,o⟩
theorem dx{f:FuncId}{args:cH}{x:D}{K:cO->VS->Prop}(b:cF f (args.map cz)=some (cz x))(c:flat (cz x)=true)(a:K (.ret (.d x)) σ):bV C cF f (args.map V.d) σ K:=by
 refine⟨fun Φ ρ st d e=>⟨1,.ret (.d x),.none,st,Φ,ρ,σ,?_,.refl _ _ _,d,.d ?_,a⟩⟩
 ·rw[nY];simp only[jN,b,eG,erase];cases x<;>rfl
 ·cases x<;>first|(cases c;done)|constructor
theorem bV.mono{f:FuncId}{K d:cO->VS->Prop}(y:bV C cF f p σ K)(h:∀e a,K e a->d e a):bV C cF f p σ d:=by
 refine⟨fun Φ ρ st t l=>?_⟩;obtain⟨x,e,c,b,du,dk,a,k,w,m,o,i⟩:=y.go Φ ρ st t l;exact⟨x,e,c,b,du,dk,a,k,w,m,o,h _ _ i⟩
theorem cd.loop{y:uw}{b:Code}{z:Tm}{t:List fq}{w:lJ}{N:Bu->Tm->List fq->lJ->VS->Prop} 
  (S:vc C cF y b z t w σ fun x z t w σ=>match x with
   |.norm=>cd C cF y (.loop b) z t w σ N
   |x=>N x z t w σ):cd C cF y (.loop b) z t w σ N:=by
 refine⟨fun Φ ρ st J r R O W G=>?_⟩;obtain⟨H,s,B,k,c,i,e,x,l,h,f,d,m,o,a,p,rfl⟩:=rS b S (fr:=J) ⟨r,R,O,W⟩ G;cases x with
 |norm=>
  have m:cd C cF y (.loop b) l h f i N:=m;obtain⟨A,x,F,I,M,E,D,du,dk,L,g,U,j,n,P,T,Q,Y⟩:=m.go k c e d a.real a.tm a.df a.ps (o.Mc G).2;refine⟨max H (A+1),x,F,I,M,E,D,du,dk,L,?_,o.then U (Nat.le_refl _),j,n,P,T,Q,Y⟩;have V:=gN (hG (C:=C) (cF:=cF) (aeu H (A+1))) _ B;have X:(jN C cF (A+1)).code (dV c y) (.loop b) d (c6 c f) e=some (ek dk x,F,c6 dk E,D):=g;have K:=(hG (C:=C) (cF:=cF) (abL H (A+1))).code _ _ _ _ _ _ X;unfold code;rw[V];simp only[ek];rw[(o.Mc G).1]at K;exact K
 |exit id=>exact⟨H,.exit id,d,l,h,f,e,k,c,i,by unfold code;rw[B];rfl,o,a.real,a.tm,a.df,a.ps,tv,m⟩
 |ret=>exact⟨H,.ret,d,l,h,f,e,k,c,i,by unfold code;rw[B];rfl,o,a.real,a.tm,a.df,a.ps,tv,m⟩
 |panic q=>exact⟨H,.panic q,d,l,h,f,e,k,c,i,by unfold code;rw[B];rfl,o,a.real,a.tm,a.df,a.ps,p,m⟩
theorem xC{c:Code}(x:vc C cF r c q j n σ g):cd C cF r c q j n σ g:=by
 refine⟨fun Φ ρ st h G w o z A=>?_⟩;obtain⟨F,H,y,k,f,i,e,E,l,b,m,d,t,B,a,D,rfl⟩:=rS c x (fr:=h) ⟨G,w,o,z⟩ A;exact⟨F,E,d,l,b,m,e,k,f,i,y,B,a.real,a.tm,a.df,a.ps,D,t⟩
theorem dH{ι:Type}{c:Code}{f:Prop}(T:ι->Tm)(S:ι->VS)(I:ι->Prop) 
  (b:(∀a,I a->cd C cF r c (T a) j n (S a) g)->f) (d:∀a,I a->vc C cF r c (T a) j n (S a) g):f:=b fun a e=>xC (d a e)
theorem cd.mono{c:Code}{h:Bu->Tm->List fq->lJ->VS->Prop}(J:cd C cF r c q j n σ g)(w:∀k q j n σ,g k q j n σ->h k q j n σ):cd C cF r c q j n σ h:=by
 refine⟨fun Φ ρ st z D t l A B=>?_⟩;obtain⟨I,k,e,a,i,d,b,du,dk,f,F,y,G,H,m,x,o,E⟩:=J.go Φ ρ st z D t l A B;exact⟨I,k,e,a,i,d,b,du,dk,f,F,y,G,H,m,x,o,w _ _ _ _ _ E⟩
def mP:Tm->Tm->Prop
 |[],_=>True
 |(b,c)::d,a=>gm a b=some c/\mP d a
theorem pP:∀{c f:Tm},mP c f->∀b d,gm c b=some d->gm f b=some d:=by
 intro c;induction c with
 |nil=>intro f _ b d e;cases e
 |cons i c h=>
  intro f e b d a;obtain⟨k,m⟩:=i;rw[kl]at a;split at a
  ·rename_i l;cases a;rw[l];exact e.1
  ·exact h e.2 b d a
theorem cd.less{c:Code}{a dB:Tm}(k:mP dB a)(o:cd C cF r c dB j n σ g):cd C cF r c a j n σ g:=by
 refine⟨fun Φ ρ st l h i b d e=>o.go Φ ρ st l h (fun t m f=>i t m (pP k t m f)) b d e⟩
end
mutual
def gW(π:Nat->Nat):V->V
 |.d x=>.d x
 |.bp i f=>.bp (π i) f
 |.ptr i es k f=>.ptr (π i) es k f
 |.fp b off cs=>.fp b off cs
 |.ms i es k len cap=>.ms (π i) es k len cap
 |.map i=>.map (π i)
 |.fn f a c=>.fn f (hU π a) (hU π c)
 |.tR l=>.tR (π l)
 |.iface t v=>.iface t (gW π v)
 |.agg l=>.agg (hU π l)
 |.dS l=>.dS (hU π l)
def hU(π:Nat->Nat):List V->List V
 |[]=>[]
 |v::l=>gW π v::hU π l
end
mutual
def bd(k:Nat):V->Bool
 |.d _=>true
 |.bp i _=>aev i k
 |.ptr i _ _ _=>aev i k
 |.fp _ _ _=>true
 |.ms i _ _ _ _=>aev i k
 |.map i=>aev i k
 |.fn _ a c=>fu k a&&fu k c
 |.tR l=>aev l k
 |.iface _ v=>bd k v
 |.agg l=>fu k l
 |.dS l=>fu k l
def fu(k:Nat):List V->Bool
 |[]=>true
 |v::l=>bd k v&&fu k l
end
theorem nS(π:Nat->Nat):∀a:List V,hU π a=a.map (gW π):=by
 intro a;induction a with
 |nil=>simp[hU]
 |cons c a b=>simp[hU,b]
mutual
theorem jH(ρ π:Nat->Nat):∀v:V,erase ρ (gW π v)=erase (fun j=>ρ (π j)) v
 |.d _=>by simp only[gW,erase]
 |.bp _ _=>by simp only[gW,erase]
 |.ptr _ _ _ _=>by simp only[gW,erase]
 |.fp _ _ _=>by simp only[gW,erase]
 |.ms _ _ _ _ _=>by simp only[gW,erase]
 |.map _=>by simp only[gW,erase]
 |.fn _ a c=>by simp only[gW,erase,iE ρ π a,iE ρ π c]
 |.tR _=>by simp only[gW,erase]
 |.iface _ v=>by simp only[gW,erase,jH ρ π v]
 |.agg l=>by simp only[gW,erase,iE ρ π l]
 |.dS l=>by simp only[gW,erase,iE ρ π l]
theorem iE(ρ π:Nat->Nat):∀l:List V,cl ρ (hU π l)=cl (fun j=>ρ (π j)) l
 |[]=>by simp only[hU,cl]
 |v::l=>by simp only[hU,cl,jH ρ π v,iE ρ π l]
end
theorem gw{a b:Nat}(c:aev a b=true):a<b:=Nat.le_of_ble_eq_true c
section
variable{Φ:Fz} {k M:Nat} {π:Nat->Nat}
mutual
theorem ml:∀v:V,e9 Φ M (gW π v)->bd k v=true->e9 Φ k v
 |.d _,h,_=>by simp only[gW]at h;cases h with|d h=>exact .d h
 |.bp _ _,_,hb=>.bp (gw (by simpa only[bd]using hb))
 |.ptr _ _ _ _,_,hb=>.ptr (gw (by simpa only[bd]using hb))
 |.fp _ _ _,h,_=>by simp only[gW]at h;cases h with|fp h1 h2 h3 h4 h5=>exact .fp h1 h2 h3 h4 h5
 |.ms _ _ _ _ _,_,hb=>.ms (gw (by simpa only[bd]using hb))
 |.map _,_,hb=>.map (gw (by simpa only[bd]using hb))
 |.fn _ a c,h,hb=>by
  simp only[gW]at h;simp only[bd,aet]at hb;cases h with
  |fn h1 h2=>exact .fn (kE a h1 hb.1) (kE c h2 hb.2)
 |.tR _,_,hb=>.tR (gw (by simpa only[bd]using hb))
 |.iface _ v,h,hb=>by
  simp only[gW]at h;simp only[bd]at hb;cases h with
  |iface h=>exact .iface (ml v h hb)
 |.agg l,h,hb=>by
  simp only[gW]at h;simp only[bd]at hb;cases h with
  |agg h=>exact .agg (kE l h hb)
 |.dS l,h,hb=>by
  simp only[gW]at h;simp only[bd]at hb;cases h with
  |dS h=>exact .dS (kE l h hb)
theorem kE:∀l:List V,eV Φ M (hU π l)->fu k l=true->eV Φ k l
 |[],_,_=>fun _ h=>by simp at h
 |v::l,h,hb=>by
  simp only[hU]at h;simp only[fu,aet]at hb;have h1:=ml v (h _ (aeP ..)) hb.1;have h2:=kE l (fun y hy=>h y (aeO _ hy)) hb.2;intro x hx;rcases aeM.1 hx with e|hx
  ·rw[e];exact h1
  ·exact h2 x hx
end
theorem Af(a:∀z,z<k->π z<M):∀{i:V},e9 Φ k i->e9 Φ M (gW π i):=by
 intro i e;induction e with
 |d e=>simp only[gW];exact .d e
 |bp e=>simp only[gW];exact .bp (a _ e)
 |ptr e=>simp only[gW];exact .ptr (a _ e)
 |fp t m y o x=>simp only[gW];exact .fp t m y o x
 |ms e=>simp only[gW];exact .ms (a _ e)
 |map e=>simp only[gW];exact .map (a _ e)
 |fn _ _ l w=>
  simp only[gW,nS];exact .fn (fun i b=>by obtain⟨h,c,rfl⟩:=abK.1 b;exact l h c) (fun i b=>by obtain⟨h,c,rfl⟩:=abK.1 b;exact w h c)
 |tR e=>simp only[gW];exact .tR (a _ e)
 |iface _ f=>simp only[gW];exact .iface f
 |agg _ f=>simp only[gW,nS];exact .agg (fun i b=>by obtain⟨h,c,rfl⟩:=abK.1 b;exact f h c)
 |dS _ f=>simp only[gW,nS];exact .dS (fun i b=>by obtain⟨h,c,rfl⟩:=abK.1 b;exact f h c)
theorem N9(b:∀d,d<k->π d<M){l:List V}(f:eV Φ k l):eV Φ M (hU π l):=fun h a=>by
 rw[nS]at a;obtain⟨e,c,rfl⟩:=abK.1 a;exact Af b (f e c)
theorem sy(a:V):gE (gW π a)=gE a:=by cases a<;>simp only[gW,gE]
end
def rT(π:Nat->Nat):Tm->Tm
 |[]=>[]
 |(a,b)::c=>(a,gW π b)::rT π c
theorem xD(π:Nat->Nat):∀(a:Tm) (b:Nat),gm (rT π a) b=(gm a b).map (gW π):=by
 intro a;induction a with
 |nil=>intro b;rfl
 |cons d a c=>
  intro b;obtain⟨k,e⟩:=d;simp only[rT,kl,c];split<;>rfl
def Ag(k:Nat):Tm->Bool
 |[]=>true
 |(_,a)::b=>bd k a&&Ag k b
theorem Ah{k:Nat}:∀{a:Tm},Ag k a=true->∀{f:Nat} {d:V},gm a f=some d->bd k d=true:=by
 intro a;induction a with
 |nil=>intro _ f d c;cases c
 |cons h a e=>
  intro b f d c;obtain⟨i,l⟩:=h;simp only[Ag,aet]at b;rw[kl]at c;split at c
  ·cases c;exact b.1
  ·exact e b.2 c
def O8(π:Nat->Nat)(a:rL):rL:=⟨gW π a.key,gW π a.val,a.born⟩
def dF(π:Nat->Nat):cN->cN
 |.box c=>.box (hU π c)
 |.row a b=>.row a (b.map (hU π))
 |.map a f=>.map (a.map (O8 π)) f
 |.loop d=>.loop {d with tm:=rT π d.tm,defers:=π d.defers}
 |.eI e=>.eI e
 |.gone=>.gone
def fW(k:Nat):cN->Bool
 |.box b=>fu k b
 |.row _ a=>a.all (fu k)
 |.map c _=>c.all fun e=>bd k e.key&&bd k e.val
 |.loop d=>Ag k d.tm&&aev d.defers k
 |.eI _=>true
 |.gone=>true
theorem iW(π:Nat->Nat)(o:cN):live (dF π o)=live o:=by cases o<;>rfl
theorem Fy(π:Nat->Nat)(a:List (List V)):(a.map (hU π)).flatten=hU π a.flatten:=by
 induction a with
 |nil=>rfl
 |cons c a b=>simp only[aeN,List.flatten_cons,b,nS,List.map_append]
theorem yK(π:Nat->Nat)(l:List V):(hU π l).length=l.length:=by rw[nS,List.length_map]
theorem Ig.S7{Φ:Fz}{ρ π:Nat->Nat}{M k:Nat}{st:St}{o:cN}{b:Nat}(x:Ig Φ ρ M st (dF π o) b)(c:fW k o=true):Ig Φ (fun C=>ρ (π C)) k st o b:=by
 cases o with
 |box z=>
  obtain⟨⟨h1,a⟩,l,i⟩:=x;refine⟨⟨by rw[h1,iE,yK],a⟩,kE z l c,fun m f=>?_⟩;rw[<-sy (π:=π)];exact i _ (by rw[nS];exact abK.2 ⟨m,f,rfl⟩)
 |row t w=>
  obtain⟨⟨D,E,h1⟩,a,l,i⟩:=x;have c:w.all (fu k)=true:=c;rw[List.all_eq_true]at c;refine⟨⟨D,E,by rw[h1,Fy,iE]⟩,fun e d=>?_,fun e d=>?_,fun e d m f=>?_⟩
  ·rw[<-a (hU π e) (abK.2 ⟨e,d,rfl⟩),yK]
  ·exact kE e (l _ (abK.2 ⟨e,d,Z⟩)) (c e d)
  ·rw[<-sy (π:=π)];exact i _ (abK.2 ⟨e,d,Z⟩) _ (by rw[nS];exact abK.2 ⟨m,f,rfl⟩)
 |map t F=>
  obtain⟨h1,a⟩:=x;have c:(t.all fun e=>bd k e.key&&bd k e.val)=true:=c;rw[List.all_eq_true]at c;refine⟨?_,fun e d=>?_⟩
  ·exact ab3
  ·have:=a (O8 π e) (abK.2 ⟨e,d,rfl⟩);have h:=c e d;rw[aet]at h;exact⟨ml _ this.1 h.1,ml _ this.2 h.2⟩
 |loop y=>
  obtain⟨A,h1,a⟩:=x;have c:(Ag k y.tm&&aev y.defers k)=true:=c;rw[aet]at c;refine⟨A,h1,a.state,a.pending,a.fn,fun B m f=>?_,a.nt,a.params,a.assign,a.body,a.defers,gw c.2⟩;have:=a.tm B (gW π m) (by show gm (rT π y.tm) B=_;rw[xD,f];rfl);rw[jH]at this;exact⟨this.1,ml _ this.2 (Ah c.1 f)⟩
 |eI B=>exact x
 |gone=>trivial
theorem V7{Φ:Fz}{ρ π:Nat->Nat}{M k:Nat}{st:St}{o:cN}{b:Nat}(f:∀x,x<k->π x<M)(w:Ig Φ (fun x=>ρ (π x)) k st o b):Ig Φ ρ M st (dF π o) b:=by
 cases o with
 |box I=>
  obtain⟨⟨h1,a⟩,t,l⟩:=w;refine⟨⟨by rw[h1,iE,yK],a⟩,N9 f t,fun z c=>?_⟩;rw[nS]at c;obtain⟨i,d,rfl⟩:=abK.1 c;rw[sy];exact l i d
 |row C E=>
  obtain⟨⟨H,J,h1⟩,a,t,l⟩:=w;refine⟨⟨H,J,by rw[h1,Fy,iE]⟩,fun e h=>?_,fun e h=>?_,fun e h z c=>?_⟩
  ·obtain⟨i,d,rfl⟩:=abK.1 h;rw[yK];exact a i d
  ·obtain⟨i,d,rfl⟩:=abK.1 h;exact N9 f (t i d)
  ·obtain⟨i,d,rfl⟩:=abK.1 h;rw[nS]at c;obtain⟨K,A,rfl⟩:=abK.1 c;rw[sy];exact l i d K A
 |map C F=>
  obtain⟨h1,a⟩:=w;refine⟨?_,fun e h=>?_⟩
  ·exact ab3
  ·obtain⟨i,d,rfl⟩:=abK.1 h;exact⟨Af f (a i d).1,Af f (a i d).2⟩
 |loop D=>
  obtain⟨B,h1,a⟩:=w;refine⟨B,h1,a.state,a.pending,a.fn,fun y z c=>?_,a.nt,a.params,a.assign,a.body,a.defers,f _ a.ee⟩;have c:gm (rT π D.tm) y=some z:=c;rw[xD]at c;cases m:gm D.tm y with
  |none=>rw[m]at c;cases c
  |some L=>
   rw[m]at c;cases c;obtain⟨G,F⟩:=a.tm y L m;exact⟨by rw[jH];exact G,Af f F⟩
 |eI y=>exact w
 |gone=>trivial
end Go.VM
