/- Part of the proof. -/
import Derived.Test.YtpejealjkmhkgaaGreatDoorKAp
set_option linter.all false
set_option maxHeartbeats 16000000
set_option maxRecDepth 100000
open List renaming mem_map->YL,map_congr_left->YQ,mem_cons->YR,map_cons->YS,mem_cons_of_mem->YW,mem_cons_self->YX
open Nat renaming le_max_right->YM,le_max_left->YO,blt->YP,beq_refl->YT,eq_of_beq_eq_true->YV
open Bool renaming and_eq_true->YN,and_self->YU
namespace Go.VM
open Go.AM
variable{q:Tm} {h:List e8} {g:zk->Tm->List e8->lm->VS->Prop} {j:lm} {s:Fr} {r:s7} {v:Bool}
section
variable{C:dU} {cD:FuncId->List Value->Option Value} {Φ dx:Fz} {ρ dm:Nat->Nat} {σ:VS} {st:St} {m m':Nat}
theorem KO{t:TypeId}{c d e:Value}{st:St}(a:gf C t c d st=some (.val e st))(b:St):gf C t c d b=some (.val e b):=by
 unfold gf at a⊢;split at a
 ·split at a
  ·split at a
   ·split at a
    ·cases a;rfl
    ·cases a
   ·cases a
  ·cases a
 ·split at a
  ·split at a
   ·split at a
    ·cases a;rfl
    ·cases a
   ·cases a
  ·cases a
 ·cases a
theorem Ej{fc:s7}{a ak an:Oper}(F:IX C fc.nt a ak an q h j σ g)(o:SR Φ ρ σ st q h j s)(aA:uW σ.length fc):
  ∃bc,Fm C (ea ρ fc) a ak an s (c4 ρ j) st=some bc/\OY Φ ρ fc.fl g bc:=by
 unfold IX at F;split at F
 ·rename_i au t1 bq bn t2 bm br aG ai p aj ad w;obtain⟨bg,aI,aw,y⟩:=lL o.real (gz o.tm) F;obtain⟨ap,B,r,aL,U,aE⟩:=pW aI o.tm aw;obtain⟨bt,ax,v⟩:=cy r;obtain⟨bl,aD,n⟩:=cy v;obtain⟨bk,aO,Y⟩:=cy n;obtain⟨bs,aH,S⟩:=cy Y;clear r v n Y;obtain⟨f1,ab⟩:=gz U _ _ ax;obtain⟨f2,aa⟩:=gz U _ _ aD;have t:gD Φ ρ σ.length (pU au q) (⟨s.tm.put au none,s.df⟩:Fr).tm:=o.tm.del au;obtain⟨f3,i⟩:=gz t _ _ aO;obtain⟨f4,aq⟩:=gz t _ _ aH;split at S
  ·rename_i z aS ba bj k bb;obtain⟨c,d⟩:=S;obtain⟨aX,be,aN,A,av,ao,bp⟩:=gA o.real ab aa d;obtain⟨al,L,aJ,T,az,af,bv⟩:=gA av (by rw[A];exact i) (by rw[A];exact aq) aN;obtain⟨aM,l,u,O,W,K,bi⟩:=gA o.real i aq c;obtain⟨aB,aF,aT,bf,aQ,M,aU⟩:=gA W (by rw[O];exact ab) (by rw[O];exact aa) u;have I:∃ac E,σ[z]?=some (.row ac E):=by
    unfold kt at d;split at d
    ·split at d
     ·dsimp only at d;split at d
      ·rename_i aW E D;rw[cv]at D;exact⟨_,_,D⟩
      ·exact d.elim
     ·exact d.elim
    ·exact d.elim
   have H:∃R,σ[k]?=some (.box R):=by
    unfold kt at c;split at c
    ·split at c
     ·dsimp only at c;split at c
      ·rename_i R D;rw[cv]at D;exact⟨_,D⟩
      ·exact c.elim
     ·exact c.elim
    ·exact c.elim
   obtain⟨ac,E,f⟩:=I;obtain⟨R,b⟩:=H;have V:z≠k:=fun e=>by subst e;rw[f]at b;cases b
   have m:ρ z≠ρ k:=fun e=>V (o.real.inj _ _ _ _ f b rfl rfl e);obtain⟨_,J,aY,x⟩:=oQ o.real f;obtain⟨⟨⟨N,ar⟩,_⟩,_⟩:=o.real.obj k _ b rfl;have P:ρ k≠J:=fun e=>by
    have hx:=o.real.lJ f rfl x N (fun e=>m e.symm) (.inr ⟨k,_,b,rfl,rfl⟩);exact hx e
   have ah:apart st (ρ z) (ρ k)=true:=by
    unfold apart;rw[x,N];simp only[nR m,nR (fun e=>P e.symm),ar];cases ae:st.fm.get J with
    |none=>rfl
    |some ay=>
     simp only[Bool.not_false,Bool.true_and];rw[Bool.not_eq_true'];refine List.any_eq_false.2 fun bh hx=>?_;intro e;have e:=YV e;subst e;exact(o.real.dS z _ _ _ _ _ _ ay _ f x ae hx (fun e=>m e.symm)).2 k _ b Z Z
   have G:h0 C (iF s) a l=some (.val (erase ρ bg) l):=by
    obtain⟨aC,Q,aR,aP,aK,aV⟩:=a;cases Q with
    |indexAddr bu bh bo=>
     simp only[h0]at y⊢;split at y
     ·exact KO y l
     ·cases y
    |_=>cases w
   have X:(fM a.op||ft a.op)=false:=by
    cases am:a.op with
    |indexAddr bu bh bo=>rfl
    |_=>rw[am]at w;cases w
   have ag:gI (ea ρ fc).nt s (some au) (erase ρ bg)=some B:=aL;refine⟨(.norm,B,c4 ρ j,L),?_,Φ,ρ,al,L,.norm,ap,h,j,B,aJ,⟨Fz.le_refl _,fun _ _=>Z,by have:=aA.2;omega⟩,⟨az,?_,?_,?_⟩,tv,rfl⟩
   ·unfold Fm;simp only[aG,ai,p,aj,ad,X,y,YT,ag,f1,f2,f3,f4,erase];simp only[erase]at ao af K M;simp only[ah,ao,K,G,kE,YT,YU,af,M]
   ·rw[T,A];exact U
   ·rw[T,A,aE];exact o.df
   ·rw[T,A];exact o.ps
  ·exact S.elim
 ·exact F.elim
theorem Ek{fc:s7}{a aA f aD:Oper}(l:IY C fc.nt a aA f aD q h j σ g)(z:SR Φ ρ σ st q h j s)(aQ:uW σ.length fc):
  ∃bv,Fo C (ea ρ fc) a aA f aD s (c4 ρ j) st=some bv/\OY Φ ρ fc.fl g bv:=by
 unfold IY at l;split at l
 ·rename_i y e aX ay ai af;split at l
  ·rename_i t1 bJ bG aW be aL t2 bE bK az S aq D;split at l
   ·rename_i R ag aF;have aR:y≠e:=Nat.ne_of_beq_eq_false R;have A:gD Φ ρ σ.length (pU e q) (⟨s.tm.put e none,s.df⟩:Fr).tm:=z.tm.del e;have x:gD Φ ρ σ.length (pU y q) (⟨s.tm.put y none,s.df⟩:Fr).tm:=z.tm.del y;obtain⟨i,bb,ah,G⟩:=lL z.real (gz A) l;obtain⟨t,ba,ax,B⟩:=lL z.real (gz x) bb;have al:gD Φ ρ σ.length ((y,i)::pU e q) (⟨(s.tm.put e none).set y (erase ρ i),s.df⟩:Fr).tm:=A.set ah;have aE:gD Φ ρ σ.length ((e,t)::pU y q) (⟨(s.tm.put y none).set e (erase ρ t),s.df⟩:Fr).tm:=x.set ax;obtain⟨bM,aK,am⟩:=cy ba;obtain⟨bD,aU,ae⟩:=cy am;obtain⟨bC,bi,ac⟩:=cy ae;obtain⟨bL,aY,p⟩:=cy ac;clear am ae ac;obtain⟨f1,ao⟩:=gz al _ _ aK;obtain⟨f2,an⟩:=gz al _ _ aU;obtain⟨f3,ad⟩:=gz aE _ _ bi;obtain⟨f4,aH⟩:=gz aE _ _ aY;split at p
    ·rename_i H bm bt bB m bu;obtain⟨c,d⟩:=p;obtain⟨br,bw,bh,I,aJ,aG,bI⟩:=gA z.real ao an d;obtain⟨aB,Q,bc,u,aO,au,bO⟩:=gA aJ (by rw[I];exact ad) (by rw[I];exact aH) bh;obtain⟨bg,o,aj,V,aa,P,bA⟩:=gA z.real ad aH c;obtain⟨aS,aV,bn,bx,bk,T,bo⟩:=gA aa (by rw[V];exact ao) (by rw[V];exact an) aj;have N:∃ap K,σ[H]?=some (.row ap K):=by
      unfold kt at d;split at d
      ·split at d
       ·dsimp only at d;split at d
        ·rename_i bq K J;rw[cv]at J;exact⟨_,_,J⟩
        ·exact d.elim
       ·exact d.elim
      ·exact d.elim
     have M:∃Y,σ[m]?=some (.box Y):=by
      unfold kt at c;split at c
      ·split at c
       ·dsimp only at c;split at c
        ·rename_i Y J;rw[cv]at J;exact⟨_,J⟩
        ·exact c.elim
       ·exact c.elim
      ·exact c.elim
     obtain⟨ap,K,k⟩:=N;obtain⟨Y,b⟩:=M;have v:H≠m:=fun e=>by subst e;rw[k]at b;cases b
     have w:ρ H≠ρ m:=fun e=>v (z.real.inj _ _ _ _ k b rfl rfl e);obtain⟨_,O,bs,E⟩:=oQ z.real k;obtain⟨⟨⟨U,aI⟩,_⟩,_⟩:=z.real.obj m _ b rfl;have W:ρ m≠O:=fun e=>by
      have hx:=z.real.lJ k rfl E U (fun e=>w e.symm) (.inr ⟨m,_,b,rfl,rfl⟩);exact hx e
     have aw:apart st (ρ H) (ρ m)=true:=by
      unfold apart;rw[E,U];simp only[nR w,nR (fun e=>W e.symm),aI];cases ar:st.fm.get O with
      |none=>rfl
      |some aM=>
       simp only[Bool.not_false,Bool.true_and];rw[Bool.not_eq_true'];refine List.any_eq_false.2 fun bz hx=>?_;intro e;have e:=YV e;subst e;exact(z.real.dS H _ _ _ _ _ _ aM _ k E ar hx (fun e=>w e.symm)).2 m _ b Z Z
     have L:h0 C (iF ⟨s.tm.put e none,s.df⟩) a o=some (.val (erase ρ i) o):=by
      obtain⟨aT,X,bl,bj,bf,bp⟩:=a;cases X with
      |indexAddr bN bz bH=>
       simp only[h0]at G⊢;split at G
       ·exact KO G o
       ·cases G
      |_=>cases D
     have ab:(fM a.op||ft a.op)=false:=by
      cases aC:a.op with
      |indexAddr bN bz bH=>rfl
      |_=>rw[aC]at D;cases D
     obtain⟨F,aP,aN⟩:∃F,iF ⟨s.tm.put y none,s.df⟩ be=some F/\fa C aW F aL st=some (.val (erase ρ t) st):=by
      unfold h0 at B;rw[S]at B;simp only at B;split at B
      ·rename_i F ak;exact⟨F,ak,B⟩
      ·cases B
     have av:YP y (ea ρ fc).nt=true:=ag;have r:YP e (ea ρ fc).nt=true:=aF;have n:gD Φ ρ σ.length ((e,t)::(y,i)::q) (⟨(s.tm.set y (erase ρ i)).set e (erase ρ t),s.df⟩:Fr).tm:=(z.tm.set ah).set ax;refine⟨(.norm,⟨(s.tm.set y (erase ρ i)).set e (erase ρ t),s.df⟩,c4 ρ j,Q),?_,Φ,ρ,aB,Q,.norm,(e,t)::(y,i)::q,h,j,_,bc,⟨Fz.le_refl _,fun _ _=>Z,by have:=aQ.2;omega⟩,⟨aO,?_,?_,?_⟩,tv,rfl⟩
     ·unfold Fo;simp only[aX,ay,af,ai,az,S,aq,ab,R,G,aP,aN,YT,av,r,f1,f2,f3,f4,erase,YU];simp only[erase]at aG au P T;simp only[aw,aG,P,L,kE,YT,YU,au,T]
     ·rw[u,I];exact n
     ·rw[u,I];exact z.df
     ·rw[u,I];exact z.ps
    ·exact p.elim
   ·exact l.elim
  ·exact l.elim
 ·exact l.elim
theorem B1{B:Array Oper}(A:Ef C cD r B v q h j σ g)(R:SR Φ ρ σ st q h j s)(z:uW σ.length r):
  ∃G H,region C (iS C cD G) (ea ρ r) B v s (c4 ρ j) st=some H/\OY Φ ρ r.fl g H:=by
 unfold Ef at A;split at A
 ·exact BZ _ A R z
 ·split at A;rename_i U m L y;obtain⟨G,H,x,N⟩:=Aq _ A R z .nil;obtain⟨dx,dm,k,e,W,d,o,f,l,a,c,w,Q,rfl⟩:=N;cases W with
  |norm=>
   simp only at a;cases F:Nat.beq m B.toList.length with
   |true=>
    rw[F]at a;refine⟨G,_,?_,dx,dm,k,e,.norm,d,o,f,l,a,c,w,tv,Z⟩;unfold region;simp only[y,x,eh,F]
   |false=>
    rw[F]at a;simp only at a;split at a
    ·rename_i S P O M E I;split at a
     ·rename_i b;rw[Ee]at b;obtain⟨H,D,J⟩:=Ej (fc:=r) a w (c.I0 z).2;refine⟨G,H,?_,J.after c⟩;rw[(c.I0 z).1]at D;unfold region;simp only[y,x,eh,F,E,I,b,D]
     ·exact a.elim
    ·rename_i S P X O M E I;split at a
     ·rename_i V b K;split at a
      ·rename_i t;rw[Ee]at b t;obtain⟨H,D,J⟩:=Ek (fc:=r) a w (c.I0 z).2;refine⟨G,H,?_,J.after c⟩;rw[(c.I0 z).1]at D;unfold region;simp only[y,x,eh,F,E,I,b,K,t,D]
      ·exact a.elim
     ·exact a.elim
    ·exact a.elim
  |exit id=>
   refine⟨G,_,?_,dx,dm,k,e,.exit id,d,o,f,l,a,c,w,tv,Z⟩;unfold region;simp only[y,x,eh]
  |ret=>
   refine⟨G,_,?_,dx,dm,k,e,.ret,d,o,f,l,a,c,w,tv,Z⟩;unfold region;simp only[y,x,eh]
  |panic T=>
   refine⟨G,_,?_,dx,dm,k,e,.panic T,d,o,f,l,a,c,w,Q,Z⟩;unfold region;simp only[y,x,eh]
theorem v7{fc:s7}{i:FuncId}{first e:List V}{d:Nat}(x:Eg C cD i first e d q h j σ g)(Y:SR Φ ρ σ st q h j s) 
  (Q:uW σ.length fc) (G:d<σ.length) (w:eP Φ σ.length first) (z:eP Φ σ.length e):
  ∃D X W,C.ff.get i=some D/\(match(iS C cD X).call i (cm ρ first++[.func (.yield (ρ d)) #[] #[]]++cm ρ e) false .none st with
    |some (.ret _,_,st)=>match st.get (ρ d)with
     |some (.loop f)=>match f.state with
      |.busy=>none
      |_=>match Dn f.pending with
       |some E=>some (E,s,c4 ρ j,st.put (ρ d) (.loop {f with state:=.exhausted}))
       |none=>none
     |_=>none
    |some (.eE O,_,st)=>some (.panic O,s,c4 ρ j,st)
    |none=>none)=some W/\OY Φ ρ fc.fl g W:=by
 unfold Eg at x;split at x
 ·exact x.elim
 ·rename_i D H;have A:eP Φ σ.length (first++[.rN d]++e):=(w.append (fun O S=>by simp at S;subst S;exact .rN G)).append z;obtain⟨X,W,p,o,dx,dm,t,B,l,K,n,c⟩:=x.go Φ ρ st Y.real A;have y:=Y.move l K;rw[e9,e9]at B;simp only[cm,erase]at B;cases W with
  |ret O=>
   simp only at c;split at c
   ·rename_i N I;rw[cv]at I;obtain⟨⟨f,T,b⟩,_⟩:=K.obj d _ I rfl;have P:N.state≠.busy/\dn (OU N.pending) fun E=>yR t d (.loop {N with state:=.exhausted}) fun J=>g E q h j J:=by
     cases k:N.state with
     |busy=>rw[k]at c;exact c.elim
     |_=>rw[k]at c;exact⟨by simp,c⟩
    obtain⟨U,c⟩:=P;obtain⟨E,m,c⟩:=cy c;obtain⟨_,c⟩:=jM _ _ _ _ c;have L:=K.put (o':=.loop {N with state:=.exhausted}) (a:=.loop {f with state:=.exhausted}) I rfl rfl rfl (fun _ _ _ _ M=>by cases M)
     ⟨{f with state:=.exhausted},by rw[cW,if_pos rfl],⟨rfl,b.pending,b.fn,b.tm,b.nt,b.params,b.assign,b.body,b.defers,b.fF⟩⟩
    have F:Dn f.pending=some (eh dm E)/\Mj dx t.length E:=by
     rw[b.pending];unfold OU at m;split at m
     ·rename_i M;cases m;rw[M];exact⟨rfl,tv⟩
     ·rename_i M;cases m;rw[M];exact⟨rfl,tv⟩
     ·rename_i M;cases m;rw[M];exact⟨rfl,tv⟩
     ·cases m
    have R:ρ d=dm d:=(l.rG d G).symm;refine⟨D,X,(eh dm E,s,c4 dm j,o.put (dm d) (.loop {f with state:=.exhausted})),H,?_,dx,dm,_,_,E,q,h,j,s,c,by rw[iy];exact l.weaken Q.2,⟨L,by rw[iy];exact y.tm,by rw[iy];exact y.df,by rw[iy];exact y.ps⟩,by rw[iy];exact F.2,rfl⟩;rw[B];simp only[eu];rw[R,T];simp only;rw[b.state];cases k:N.state with
    |busy=>exact absurd k U
    |_=>simp only[F.1,(l.ps Y.ps).1]
   ·exact c.elim
  |eE O=>
   refine⟨D,X,(.panic (erase dm O),s,c4 dm j,o),H,?_,dx,dm,t,o,.panic O,q,h,j,s,c,l.weaken Q.2,y,n,Z⟩;rw[B];simp only[eu,(l.ps Y.ps).1]
theorem pX:∀(ay:Code) {Φ:Fz} {ρ:Nat->Nat} {σ:VS} {st:St} {e:Tm} {df:List e8} {f:lm} {L:zk->Tm->List e8->lm->VS->Prop},
  vc C cD r ay e df f σ L->∀{fr:Fr},SR Φ ρ σ st e df f fr->uW σ.length r->
  ∃G S,code C (iS C cD G) (ea ρ r) ay fr (c4 ρ f) st=some S/\OY Φ ρ r.fl L S:=by
 intro ay;induction ay with
 |skip=>intro Φ ρ σ st e df f L a fr z b;exact⟨0,_,rfl,Φ,ρ,σ,st,.norm,e,df,f,fr,a,(hU.refl _ _ _).weaken b.2,z,tv,rfl⟩
 |region id aV aM=>intro Φ ρ σ st e df f L a fr z b;exact B1 a z b
 |seq aW ae R P=>
  intro Φ ρ σ st e df f L a fr z b;rw[Ud]at a;unfold OV at a;obtain⟨G,S,k,dx,dm,t,l,aF,o,x,m,w,y,D,F,N,rfl⟩:=R a z b;cases aF with
  |norm=>
   cases v:cutAt r ae with
   |false=>
    rw[v]at y;obtain⟨M,aL,aG,an⟩:=P y F (D.I0 b).2;refine⟨max G M,aL,?_,an.after D⟩;unfold code;rw[gG (gP (YO G M)) _ k];simp only[eh];rw[(D.I0 b).1]at aG;exact gG (gP (YM G M)) _ aG
   |true=>
    rw[v]at y;have y:cl C cD r ae o x m t L:=y;obtain⟨M,av,p,aE,aA,q,u,au,X,aD,i,ah,ar,ak,ag,ad,ac,aq⟩:=y.go dx dm l w F.real F.tm F.df F.ps (D.I0 b).2;have an:OY dx dm r.fl L (eh X av,p,c4 X q,u):=⟨au,X,aD,u,av,aE,aA,q,p,aq,ah,⟨ar,ak,ag,ad⟩,ac,rfl⟩;refine⟨max G M,_,?_,an.after D⟩;unfold code;rw[gG (gP (YO G M)) _ k];simp only[eh];rw[(D.I0 b).1]at i;exact gG (gP (YM G M)) _ i
  |exit id=>exact⟨G,_,by unfold code;rw[k];rfl,dx,dm,t,l,.exit id,o,x,m,w,y,D,F,N,rfl⟩
  |ret=>exact⟨G,_,by unfold code;rw[k];rfl,dx,dm,t,l,.ret,o,x,m,w,y,D,F,N,rfl⟩
  |panic aR=>exact⟨G,_,by unfold code;rw[k];rfl,dx,dm,t,l,.panic aR,o,x,m,w,y,D,F,N,rfl⟩
 |cond ay aW ae R P=>
  intro Φ ρ σ st e df f L a fr z b;rw[RL]at a;unfold IZ at a;split at a
  ·rename_i aY aI;have az:=(gz z.tm _ _ aI).1;cases aY with
   |true=>
    obtain⟨G,S,k,K⟩:=R a z b;exact⟨G,S,by unfold code;simp only[az,erase,cx];exact k,K⟩
   |false=>
    obtain⟨G,S,k,K⟩:=P a z b;exact⟨G,S,by unfold code;simp only[az,erase,cx];exact k,K⟩
  ·exact a.elim
 |block id ae ab=>
  intro Φ ρ σ st e df f L a fr z b;obtain⟨G,S,k,dx,dm,t,l,aF,o,x,m,w,y,D,F,N,rfl⟩:=ab a z b;cases aF with
  |exit s=>
   simp only at y;cases g:Nat.beq s id with
   |true=>
    rw[g]at y;exact⟨G,_,by unfold code;rw[k];simp only[eh,g],dx,dm,t,l,.norm,o,x,m,w,y,D,F,tv,rfl⟩
   |false=>
    rw[g]at y;exact⟨G,_,by unfold code;rw[k];simp only[eh,g],dx,dm,t,l,.exit s,o,x,m,w,y,D,F,tv,rfl⟩
  |norm=>exact⟨G,_,by unfold code;rw[k];rfl,dx,dm,t,l,.norm,o,x,m,w,y,D,F,N,rfl⟩
  |ret=>exact⟨G,_,by unfold code;rw[k];rfl,dx,dm,t,l,.ret,o,x,m,w,y,D,F,N,rfl⟩
  |panic aR=>exact⟨G,_,by unfold code;rw[k];rfl,dx,dm,t,l,.panic aR,o,x,m,w,y,D,F,N,rfl⟩
 |loop ae ab=>
  intro Φ ρ σ st e df f L a fr z b;have a:cl C cD r (.loop ae) e df f σ L:=a;obtain⟨G,aF,w,o,x,m,l,dx,dm,t,i,ah,ar,ak,ag,ad,ac,aq⟩:=a.go Φ ρ st fr z.real z.tm z.df z.ps b;exact⟨G,_,i,dx,dm,t,l,aF,o,x,m,w,aq,ah,⟨ar,ak,ag,ad⟩,ac,Z⟩
 |rangeFunc ba d c B R P=>
  intro Φ ρ σ st e df f L a fr z b;rw[OW]at a;unfold Eh at a;split at a
  ·rename_i bb first aS aP
   obtain⟨az,aw⟩:=gz z.tm _ _ aP;cases aw with
   |fn E I=>
   have A:∀(σ:VS) (aT:cL),(σ++[aT]).length=σ.length+1:=fun σ aT=>by simp
   split at a
   ·rename_i aQ aj;split at a
    ·rename_i aU aB;rw[cv]at aB;obtain⟨⟨aH,ax,T⟩,_⟩:=z.real.obj aQ _ aB rfl;have a:=iQ a;have af:=jL Φ ρ σ.length st.n;have ai:iH ρ σ.length st.n σ.length=st.n:=if_pos rfl;have ap:Real Φ (iH ρ σ.length st.n) (σ++[.loop ⟨.ready,none,r.fn,e,r.nt,d.toList,c,B,aU.defers,r.fz⟩]) (st.new (.loop ⟨.ready,none,r.fn,fr.tm,r.nt,d.toList,c,B,aH.defers⟩)):=
      z.real.new trivial ⟨_,by rw[dl,if_pos rfl],⟨rfl,rfl,rfl,af.tm z.tm,rfl,rfl,rfl,rfl,by show aH.defers=_;rw[T.defers];exact(af.rG _ T.fF).symm,Nat.lt_succ_of_lt T.fF⟩⟩
     have H:hU Φ ρ σ.length Φ (iH ρ σ.length st.n) (σ++[cL.loop ⟨.ready,none,r.fn,e,r.nt,d.toList,c,B,aU.defers,r.fz⟩]).length:=by rw[A];exact af
     have aO:=z.move H ap;obtain⟨aN,G,S,ao,W,aa⟩:=v7 (fc:=r) a aO (H.fc b).2 (by rw[A];omega) (H.KG E) (H.KG I);refine⟨G,S,?_,aa.after (H.weaken b.2)⟩;unfold code;rw[H.cm E,H.cm I,ai,(H.ps z.ps).1]at W;simp only[az,erase,ea,nH,aj,Option.map_some,ax,ao];exact W
    ·exact a.elim
   ·rename_i aj;have a:=iQ (iQ a);have aC:=jL Φ ρ σ.length st.n;have Q:iH ρ σ.length st.n σ.length=st.n:=if_pos rfl;have n:Real Φ (iH ρ σ.length st.n) (σ++[.eG false]) (st.new (.eG false)):=z.real.new trivial (by show(st.new (.eG false)).get st.n=_;rw[dl,if_pos rfl]);have U:hU Φ ρ σ.length Φ (iH ρ σ.length st.n) (σ++[cL.eG false]).length:=by rw[A];exact aC
    have k:=z.move U n;have O:=jL Φ (iH ρ σ.length st.n) (σ++[cL.eG false]).length (st.new (.eG false)).n;have h:iH (iH ρ σ.length st.n) (σ++[cL.eG false]).length (st.new (.eG false)).n (σ++[cL.eG false]).length=(st.new (.eG false)).n:=if_pos rfl;have V:σ.length<(σ++[cL.eG false]).length:=by rw[A];omega
    have j:Real Φ (iH (iH ρ σ.length st.n) (σ++[cL.eG false]).length (st.new (.eG false)).n) ((σ++[cL.eG false])++[cL.loop ⟨.ready,none,r.fn,e,r.nt,d.toList,c,B,σ.length,r.fz⟩])
      ((st.new (.eG false)).new (.loop ⟨.ready,none,r.fn,fr.tm,r.nt,d.toList,c,B,st.n⟩)):=
     k.real.new trivial ⟨_,by rw[dl,if_pos rfl],⟨rfl,rfl,rfl,O.tm k.tm,rfl,rfl,rfl,rfl,by show st.n=_;rw[O.rG _ V,Q],Nat.lt_succ_of_lt V⟩⟩
    have Y:hU Φ (iH ρ σ.length st.n) (σ++[cL.eG false]).length Φ (iH (iH ρ σ.length st.n) (σ++[cL.eG false]).length (st.new (.eG false)).n) ((σ++[cL.eG false])++[cL.loop ⟨.ready,none,r.fn,e,r.nt,d.toList,c,B,σ.length,r.fz⟩]).length:=by
     rw[A (σ++[cL.eG false])];exact O
    have K:=k.move Y j;have J:=U.trans Y;have aJ:SR Φ (iH (iH ρ σ.length st.n) (σ++[cL.eG false]).length (st.new (.eG false)).n) ((σ++[cL.eG false])++[cL.loop ⟨.ready,none,r.fn,e,r.nt,d.toList,c,B,σ.length,r.fz⟩])
      ((st.new (.eG false)).new (.loop ⟨.ready,none,r.fn,fr.tm,r.nt,d.toList,c,B,st.n⟩)) e (⟨.DT σ.length,[]⟩::df) f {fr with df:={target:=.collected st.n,args:= #[]}::fr.df}:=by
     refine⟨K.real,K.tm,⟨?_,fun aX am=>?_⟩,K.ps⟩
     ·have aK:=K.df.1;simp only[YS];rw[<-aK];congr 1;simp only[iv,O.rG _ V,Q,cm]
     ·rcases YR.1 am with rfl|am
      ·exact⟨by show σ.length<_;rw[A (σ++[cL.eG false]),A];omega,fun _ z=>by simp at z⟩
      ·exact K.df.2 aX am
    obtain⟨aN,G,S,ao,W,aa⟩:=v7 (fc:=r) a aJ (J.fc b).2 (by rw[A (σ++[cL.eG false])];omega) (J.KG E) (J.KG I);refine⟨G,S,?_,aa.after (J.weaken b.2)⟩;unfold code;rw[J.cm E,J.cm I,h,(J.ps z.ps).1]at W;simp only[az,erase,ea,nH,aj,Option.map_none,ao];exact W
  ·exact a.elim
 |exit id=>intro Φ ρ σ st e df f L a fr z b;exact⟨0,_,rfl,Φ,ρ,σ,st,.exit id,e,df,f,fr,a,(hU.refl _ _ _).weaken b.2,z,tv,rfl⟩
 |ret=>intro Φ ρ σ st e df f L a fr z b;exact⟨0,_,rfl,Φ,ρ,σ,st,.ret,e,df,f,fr,a,(hU.refl _ _ _).weaken b.2,z,tv,rfl⟩
 |scope ae ab=>intro Φ ρ σ st e df f L a fr z b;exact a.elim
 |label aQ=>intro Φ ρ σ st e df f L a fr z b;exact a.elim
 |goto aQ=>intro Φ ρ σ st e df f L a fr z b;exact a.elim
 |refuse bc=>intro Φ ρ σ st e df f L a fr z b;exact a.elim
end
variable{u:ri} {p:List V} {i:dC->VS->Prop} {n:dC->lm->VS->Prop}
section
variable{C:dU} {cD:FuncId->List Value->Option Value} {Φ dx:Fz} {ρ dm:Nat->Nat} {σ:VS} {st:St} {m m':Nat}
def lO(ρ:Nat->Nat):ri->AM.Mode
 |.returning=>.returning
 |.panicking a=>.panicking (erase ρ a)
def Ue(Φ:Fz)(m:Nat):ri->Prop
 |.returning=>True
 |.panicking a=>eV Φ m a
theorem hU.mode(b:hU Φ ρ m dx dm m')(a:Ue Φ m u):lO dm u=lO ρ u/\Ue dx m' u:=by
 cases u with
 |returning=>exact⟨rfl,tv⟩
 |panicking c=>exact⟨by simp only[lO,b.erase a],b.ok a⟩
theorem B2:∀(A:List e8) {e:ri} {Φ:Fz} {ρ:Nat->Nat} {σ:VS} {st:St} {k:ri->VS->Prop},qw C cD A e σ k->Real Φ ρ σ st->(∀y∈A,F7 Φ σ.length y)->Ue Φ σ.length e->
  ∃G f dx dm c o,jI C (iS C cD G) (A.map (iv ρ)) (lO ρ e) st=some (lO dm f,o)/\hU Φ ρ σ.length dx dm c.length/\Real dx dm c o/\Ue dx c.length f/\k f c:=by
 intro A;induction A with
 |nil=>intro e Φ ρ σ st k d K _ t;exact⟨0,e,Φ,ρ,σ,st,rfl,.refl _ _ _,K,t,d⟩
 |cons y A V=>
  intro e Φ ρ σ st k d K x t;obtain⟨aa,h⟩:=y;have Y:=x _ (YX ..);have z:∀y∈A,F7 Φ σ.length y:=fun y K=>x y (YW _ K);cases aa with
  |DT M=>
   unfold qw at d;split at d
   ·rename_i H;rw[cv]at H;obtain⟨_,d⟩:=jM _ _ _ _ d;have n:=(K.obj M _ H rfl).1;have L:=K.put (o':=.eG true) (a:=.eG true) H rfl rfl rfl (fun _ _ _ _ ab=>by cases ab) (by show(st.put (ρ M) (.eG true)).get (ρ M)=_;rw[cW,if_pos rfl]);obtain⟨G,f,dx,dm,c,o,I,l,J,X,N⟩:=V d L (by rw[iy];exact z) (by rw[iy];exact t);rw[iy]at l;refine⟨G,f,dx,dm,c,o,?_,l,J,X,N⟩;have R:st.get (ρ M)=some (.eG false):=n;simp only[YS,iv,jI,R];exact I
   ·exact d.elim
  |fn ad E=>
   unfold qw at d;split at d
   ·rename_i ac g;obtain⟨F,i⟩:=Y;have F:eP Φ σ.length E:=F;have U:yT Φ σ.length (L5 e):=by
     cases e with
     |returning=>trivial
     |panicking j=>exact t
    obtain⟨G,M,w,o,dx,dm,c,I,l,J,X,N,B⟩:=d.go Φ ρ st K (i.append F) U;cases M with
    |eE j=>exact B.elim
    |ret j=>
     have O:Ue dx c.length (nw e w):=by
      cases e with
      |returning=>trivial
      |panicking j=>
       cases w with
       |pG=>trivial
       |none=>exact l.ok t
       |fu v=>exact l.ok t
     have B:qw C cD A (nw e w) c k:=B;obtain⟨D,f,S,P,W,Q,T,p,u,q,s⟩:=V B J (fun y x=>(l.WH (z y x)).2) O;refine⟨max G D,f,S,P,W,Q,?_,l.trans p,u,q,s⟩;have r:A.map (iv dm)=A.map (iv ρ):=YQ fun y x=>(l.WH (z y x)).1;rw[r]at T;have m:=(gP (C:=C) (cD:=cD) (YO G D)).call _ _ _ _ _ _ I;have b:=vV (gP (C:=C) (cD:=cD) (YM G D)) _ T;rw[e9]at m;unfold jI;simp only[YS,iv,g];cases e with
     |returning=>
      simp only[L5,c4]at m;simp only[nw,lO]at b⊢;rw[m];simp only[eu];exact b
     |panicking v=>
      simp only[L5,c4]at m;simp only[lO];rw[m];simp only[eu];cases w with
      |pG=>exact b
      |none=>
       simp only[nw,lO]at b;rw[l.erase t]at b;exact b
      |fu ae=>
       simp only[nw,lO]at b;rw[l.erase t]at b;exact b
   ·exact d.elim
theorem Ar(F:Real Φ ρ σ st){t:Tr Value}(m:gD Φ ρ σ.length q t):∀(w:List ResultVar) {k:List V->Prop},vZ C q σ w k->∃a,k a/\eP Φ σ.length a/\oB C t st w=some (cm ρ a):=by
 intro w;induction w with
 |nil=>intro k b;exact⟨[],b,fun _ F=>by simp at F,rfl⟩
 |cons G w o=>
  intro k b;cases G with
  |tmp I=>
   obtain⟨y,e,c⟩:=cy b;obtain⟨a,l,d,f⟩:=o c;obtain⟨x,D⟩:=m _ _ e;refine⟨y::a,l,fun z hx=>?_,by simp only[oB,zJ,x,f,cm]⟩;rcases YR.1 hx with rfl|hx
   ·exact D
   ·exact d z hx
  |cell I H=>
   obtain⟨J,e,c⟩:=cy b;obtain⟨x,D⟩:=m _ _ e;obtain⟨y,l,d,f⟩:=yk F D c;obtain⟨a,E,A,B⟩:=o l;refine⟨y::a,E,fun z hx=>?_,by simp only[oB,zJ,x,f,B,cm]⟩;rcases YR.1 hx with rfl|hx
   ·exact d
   ·exact A z hx
theorem As(ρ:Nat->Nat)(a:List V):s3 (cm ρ a)=erase ρ (nT a):=by
 cases a with
 |nil=>simp[nT,s3,cm,erase]
 |cons c a=>
  cases a with
  |nil=>simp[nT,s3,cm]
  |cons b a=>simp[nT,s3,cm,erase,List.toArray]
theorem Gq(a:eP Φ m p):eV Φ m (nT p):=by
 cases p with
 |nil=>exact .dV a
 |cons b p=>
  cases p with
  |nil=>exact a b sm
  |cons c p=>exact .dV a
theorem B3{fi:FI}(k:tl C cD fi.Ro u q h σ i)(e:SR Φ ρ σ st q h j s)(A:Ue Φ σ.length u):
  ∃o t dx dm a b,finish C (iS C cD o) fi (lO ρ u) s (c4 ρ j) st=some (eu dm t,c4 dm j,b)/\hU Φ ρ σ.length dx dm a.length/\Real dx dm a b/\An dx a.length t/\i t a:=by
 unfold tl at k;obtain⟨o,l,dx,dm,a,b,m,c,d,B,f⟩:=B2 h k e.real e.df.2 A;cases l with
 |panicking D=>
  refine⟨o,.eE D,dx,dm,a,b,?_,c,d,B,f⟩;unfold finish;rw[e.df.1,m];simp only[lO,eu,(c.ps e.ps).1]
 |returning=>
  obtain⟨x,y,w,z⟩:=Ar d (c.tm e.tm) fi.Ro f;refine⟨o,.ret (nT x),dx,dm,a,b,?_,c,d,Gq w,y⟩;unfold finish;rw[e.df.1,m];simp only[lO,z,eu,(c.ps e.ps).1,As]
theorem El(a:List V):∀(c b:Nat),fb (qx c a) b=if c<=b/\b<c+a.length then a[b-c]? else none:=by
 induction a with
 |nil=>
  intro c b;simp only[qx,fb,List.length_nil,Nat.add_zero];rw[if_neg om]
 |cons k a e=>
  intro c b;simp only[qx,jn,e,List.length_cons];by_cases f:b=c
  ·subst f;rw[if_pos rfl,if_pos om,Nat.sub_self];rfl
  ·rw[if_neg f];by_cases d:c+1<=b/\b<c+1+a.length
   ·rw[if_pos d,if_pos om,show b-c=(b-(c+1))+1 from by omega];rfl
   ·rw[if_neg d,if_neg om]
theorem sj{K:Nat->Bool}{f:FuncId}(k:Ap C cD K f p v j σ n)(ad:Real Φ ρ σ st)(ae:eP Φ σ.length p)(r:yT Φ σ.length j):
  ∃B o c dx dm a d,vx C (iS C cD B) f (cm ρ p) v (c4 ρ j) st=some (eu dm o,c4 dm c,d)/\hU Φ ρ σ.length dx dm a.length/\Real dx dm a d/\An dx a.length o/\yT dx a.length c/\n o c a:=by
 unfold Ap at k;split at k
 ·exact k.elim
 ·rename_i e g;split at k
  ·exact k.elim
  ·rename_i ab;have Y:gD Φ ρ σ.length (qx 0 p) (⟨eD 0 (cm ρ p) .nil,[]⟩:Fr).tm:=by
    intro aj F m;rw[El]at m;split at m
    ·rename_i G;refine⟨?_,ae F (List.mem_of_getElem? m)⟩;show(eD 0 (cm ρ p) .nil).get aj=_;rw[oE,if_pos (by rw[cX];exact G),dM,List.getElem?_map,m];rfl
    ·cases m
   have L:SR Φ ρ σ st (qx 0 p) [] j ⟨eD 0 (cm ρ p) .nil,[]⟩:=⟨ad,Y,⟨rfl,fun _ ad=>by simp at ad⟩,r⟩;obtain⟨B,o,q,R,x,y,ai,i,T,H,z,ah,t,W,N,af,rfl⟩:=pX e.body k L ⟨fun ak aa=>(by cases aa),Nat.le_refl _⟩;have Q:Nat.ble (cm ρ p).length e.nt=true:=by rw[cX];exact ab
   have l:∀w:ri,Ue R y.length w->(match(generalizing:=false) eh x i with|.norm=>some AM.Mode.returning|.ret=>some .returning|.panic F=>some (.panicking F)|.exit _=>none)=some (lO x w)->
     tl C cD e.Ro w T H y (fun o σ=>n o z σ)->
     ∃B o c dx dm a d,vx C (iS C cD B) f (cm ρ p) v (c4 ρ j) st=some (eu dm o,c4 dm c,d)/\hU Φ ρ σ.length dx dm a.length/\Real dx dm a d/\An dx a.length o/\yT dx a.length c/\n o c a:=by
    intro w U b E;obtain⟨A,h,O,I,X,J,u,M,ag,s,ac⟩:=B3 (fi:=e) E N U;refine⟨max B A,h,z,O,I,X,J,?_,W.then M W.len,ag,s,(M.ps N.ps).2,ac⟩;have P:=gG (gP (C:=C) (cD:=cD) (YO B A)) _ q;have D:=oS (gP (C:=C) (cD:=cD) (YM B A)) u;unfold vx;simp only[g,Q];have S:ea ρ ⟨f,e.nt,none,v,K,σ.length⟩=⟨f,e.nt,none,v⟩:=rfl;rw[S]at P;rw[P];cases i with
    |norm=>simp only[eh]at b⊢;injection b with b;rw[b];exact D
    |ret=>simp only[eh]at b⊢;injection b with b;rw[b];exact D
    |panic F=>simp only[eh]at b⊢;injection b with b;rw[b];exact D
    |exit id=>cases b
   cases i with
   |norm=>exact l .returning trivial rfl t
   |ret=>exact l .returning trivial rfl t
   |panic F=>exact l (.panicking F) af rfl t
   |exit id=>exact t.elim
theorem b1.body(l:Nat->Bool){f:FuncId}(k:∀B,cD f B=none)(m:Ap C cD l f p false .none σ fun d _ σ=>i d σ):b1 C cD f p σ i:=by
 refine⟨fun Φ ρ st A w=>?_⟩;obtain⟨z,d,b,dx,dm,c,a,o,y,t,x,_,e⟩:=sj m A w trivial;refine⟨z+1,d,c4 dm b,a,dx,dm,c,?_,y,t,x,e⟩;simp only[iS,k];exact o
theorem my.body(e:Nat->Bool){f:FuncId}(k:Ap C cD e f p true j σ n):my C cD f p j σ n:=by
 refine⟨fun Φ ρ st B x o=>?_⟩;obtain⟨A,z,b,dx,dm,c,a,t,m,w,y,d,l⟩:=sj k B x o;exact⟨A+1,z,b,a,dx,dm,c,t,m,w,y,d,l⟩
theorem dy{f:FuncId}{args:List D}{x:D}(b:cD f (args.map cx)=some (cx x))(c:flat (cx x)=true)(a:i (.ret (.d x)) σ):b1 C cD f (args.map V.d) σ i:=by
 refine⟨fun Φ ρ st d e=>⟨1,.ret (.d x),.none,st,Φ,ρ,σ,?_,.refl _ _ _,d,.d ?_,a⟩⟩
 ·rw[mc];simp only[iS,b,eu,erase];cases x<;>rfl
 ·cases x<;>first|(cases c;done)|constructor
theorem b1.mono{f:FuncId}{d:dC->VS->Prop}(A:b1 C cD f p σ i)(m:∀e a,i e a->d e a):b1 C cD f p σ d:=by
 refine⟨fun Φ ρ st l w=>?_⟩;obtain⟨z,e,c,b,dx,dm,a,o,y,t,x,k⟩:=A.go Φ ρ st l w;exact⟨z,e,c,b,dx,dm,a,o,y,t,x,m _ _ k⟩
theorem cl.loop{A:s7}{b:Code}{B:Tm}{y:List e8}{z:lm}{P:zk->Tm->List e8->lm->VS->Prop} 
  (U:vc C cD A b B y z σ fun x B y z σ=>match x with
   |.norm=>cl C cD A (.loop b) B y z σ P
   |x=>P x B y z σ):cl C cD A (.loop b) B y z σ P:=by
 refine⟨fun Φ ρ st L r T Q Y I=>?_⟩;obtain⟨J,s,E,m,c,l,e,x,o,k,f,d,t,w,a,p,rfl⟩:=pX b U (fr:=L) ⟨r,T,Q,Y⟩ I;cases x with
 |norm=>
  have t:cl C cD A (.loop b) o k f l P:=t;obtain⟨D,x,H,K,O,G,F,dx,dm,N,i,W,j,n,R,V,S,h⟩:=t.go m c e d a.real a.tm a.df a.ps (w.I0 I).2;refine⟨max J (D+1),x,H,K,O,G,F,dx,dm,N,?_,w.then W (Nat.le_refl _),j,n,R,V,S,h⟩;have X:=gG (gP (C:=C) (cD:=cD) (YO J (D+1))) _ E;have g:(iS C cD (D+1)).code (ea c A) (.loop b) d (c4 c f) e=some (eh dm x,H,c4 dm G,F):=i;have M:=(gP (C:=C) (cD:=cD) (YM J (D+1))).code _ _ _ _ _ _ g;unfold code;rw[X];simp only[eh];rw[(w.I0 I).1]at M;exact M
 |exit id=>exact⟨J,.exit id,d,o,k,f,e,m,c,l,by unfold code;rw[E];rfl,w,a.real,a.tm,a.df,a.ps,tv,t⟩
 |ret=>exact⟨J,.ret,d,o,k,f,e,m,c,l,by unfold code;rw[E];rfl,w,a.real,a.tm,a.df,a.ps,tv,t⟩
 |panic q=>exact⟨J,.panic q,d,o,k,f,e,m,c,l,by unfold code;rw[E];rfl,w,a.real,a.tm,a.df,a.ps,p,t⟩
theorem uX{c:Code}(z:vc C cD r c q h j σ g):cl C cD r c q h j σ g:=by
 refine⟨fun Φ ρ st k I y w B D=>?_⟩;obtain⟨H,J,A,m,f,l,e,G,o,b,t,d,x,E,a,F,rfl⟩:=pX c z (fr:=k) ⟨I,y,w,B⟩ D;exact⟨H,G,d,o,b,t,e,m,f,l,A,E,a.real,a.tm,a.df,a.ps,F,x⟩
theorem gh{ι:Type}{c:Code}{f:Prop}(T:ι->Tm)(S:ι->VS)(I:ι->Prop) 
  (b:(∀a,I a->cl C cD r c (T a) h j (S a) g)->f) (d:∀a,I a->vc C cD r c (T a) h j (S a) g):f:=b fun a e=>uX (d a e)
theorem cl.mono{c:Code}{k:zk->Tm->List e8->lm->VS->Prop}(L:cl C cD r c q h j σ g)(y:∀m q h j σ,g m q h j σ->k m q h j σ):cl C cD r c q h j σ k:=by
 refine⟨fun Φ ρ st B F x o D E=>?_⟩;obtain⟨K,m,e,a,l,d,b,dx,dm,f,H,A,I,J,t,z,w,G⟩:=L.go Φ ρ st B F x o D E;exact⟨K,m,e,a,l,d,b,dx,dm,f,H,A,I,J,t,z,w,y _ _ _ _ _ G⟩
def nU:Tm->Tm->Prop
 |[],_=>True
 |(b,c)::d,a=>fb a b=some c/\nU d a
theorem nV:∀{c f:Tm},nU c f->∀b d,fb c b=some d->fb f b=some d:=by
 intro c;induction c with
 |nil=>intro f _ b d e;cases e
 |cons m c l=>
  intro f e b d a;obtain⟨k,t⟩:=m;rw[jn]at a;split at a
  ·rename_i o;cases a;rw[o];exact e.1
  ·exact l e.2 b d a
theorem cl.less{c:Code}{a eW:Tm}(m:nU eW a)(x:cl C cD r c eW h j σ g):cl C cD r c a h j σ g:=by
 refine⟨fun Φ ρ st o k l b d e=>x.go Φ ρ st o k (fun t w f=>l t w (nV m t w f)) b d e⟩
end
mutual
def gJ(π:Nat->Nat):V->V
 |.d x=>.d x
 |.bp i f=>.bp (π i) f
 |.ptr i es k f=>.ptr (π i) es k f
 |.fp b off cs=>.fp b off cs
 |.ms i es k len cap=>.ms (π i) es k len cap
 |.map i=>.map (π i)
 |.fn f a c=>.fn f (gU π a) (gU π c)
 |.rN l=>.rN (π l)
 |.iface t v=>.iface t (gJ π v)
 |.agg l=>.agg (gU π l)
 |.dV l=>.dV (gU π l)
def gU(π:Nat->Nat):List V->List V
 |[]=>[]
 |v::l=>gJ π v::gU π l
end
mutual
def bd(k:Nat):V->Bool
 |.d _=>true
 |.bp i _=>YP i k
 |.ptr i _ _ _=>YP i k
 |.fp _ _ _=>true
 |.ms i _ _ _ _=>YP i k
 |.map i=>YP i k
 |.fn _ a c=>e5 k a&&e5 k c
 |.rN l=>YP l k
 |.iface _ v=>bd k v
 |.agg l=>e5 k l
 |.dV l=>e5 k l
def e5(k:Nat):List V->Bool
 |[]=>true
 |v::l=>bd k v&&e5 k l
end
theorem l9(π:Nat->Nat):∀a:List V,gU π a=a.map (gJ π):=by
 intro a;induction a with
 |nil=>simp[gU]
 |cons c a b=>simp[gU,b]
mutual
theorem h8(ρ π:Nat->Nat):∀v:V,erase ρ (gJ π v)=erase (fun j=>ρ (π j)) v
 |.d _=>by simp only[gJ,erase]
 |.bp _ _=>by simp only[gJ,erase]
 |.ptr _ _ _ _=>by simp only[gJ,erase]
 |.fp _ _ _=>by simp only[gJ,erase]
 |.ms _ _ _ _ _=>by simp only[gJ,erase]
 |.map _=>by simp only[gJ,erase]
 |.fn _ a c=>by simp only[gJ,erase,hK ρ π a,hK ρ π c]
 |.rN _=>by simp only[gJ,erase]
 |.iface _ v=>by simp only[gJ,erase,h8 ρ π v]
 |.agg l=>by simp only[gJ,erase,hK ρ π l]
 |.dV l=>by simp only[gJ,erase,hK ρ π l]
theorem hK(ρ π:Nat->Nat):∀l:List V,cm ρ (gU π l)=cm (fun j=>ρ (π j)) l
 |[]=>by simp only[gU,cm]
 |v::l=>by simp only[gU,cm,h8 ρ π v,hK ρ π l]
end
theorem gi{a b:Nat}(c:YP a b=true):a<b:=Nat.le_of_ble_eq_true c
section
variable{Φ:Fz} {k M:Nat} {π:Nat->Nat}
mutual
theorem k1:∀v:V,eV Φ M (gJ π v)->bd k v=true->eV Φ k v
 |.d _,h,_=>by simp only[gJ]at h;cases h with|d h=>exact .d h
 |.bp _ _,_,hb=>.bp (gi (by simpa only[bd]using hb))
 |.ptr _ _ _ _,_,hb=>.ptr (gi (by simpa only[bd]using hb))
 |.fp _ _ _,h,_=>by simp only[gJ]at h;cases h with|fp h1 h2 h3 h4 h5=>exact .fp h1 h2 h3 h4 h5
 |.ms _ _ _ _ _,_,hb=>.ms (gi (by simpa only[bd]using hb))
 |.map _,_,hb=>.map (gi (by simpa only[bd]using hb))
 |.fn _ a c,h,hb=>by
  simp only[gJ]at h;simp only[bd,YN]at hb;cases h with
  |fn h1 h2=>exact .fn (jN a h1 hb.1) (jN c h2 hb.2)
 |.rN _,_,hb=>.rN (gi (by simpa only[bd]using hb))
 |.iface _ v,h,hb=>by
  simp only[gJ]at h;simp only[bd]at hb;cases h with
  |iface h=>exact .iface (k1 v h hb)
 |.agg l,h,hb=>by
  simp only[gJ]at h;simp only[bd]at hb;cases h with
  |agg h=>exact .agg (jN l h hb)
 |.dV l,h,hb=>by
  simp only[gJ]at h;simp only[bd]at hb;cases h with
  |dV h=>exact .dV (jN l h hb)
theorem jN:∀l:List V,eP Φ M (gU π l)->e5 k l=true->eP Φ k l
 |[],_,_=>fun _ h=>by simp at h
 |v::l,h,hb=>by
  simp only[gU]at h;simp only[e5,YN]at hb;have h1:=k1 v (h _ (YX ..)) hb.1;have h2:=jN l (fun y hy=>h y (YW _ hy)) hb.2;intro x hx;rcases YR.1 hx with e|hx
  ·rw[e];exact h1
  ·exact h2 x hx
end
theorem xE(a:∀B,B<k->π B<M):∀{m:V},eV Φ k m->eV Φ M (gJ π m):=by
 intro m e;induction e with
 |d e=>simp only[gJ];exact .d e
 |bp e=>simp only[gJ];exact .bp (a _ e)
 |ptr e=>simp only[gJ];exact .ptr (a _ e)
 |fp x t A w z=>simp only[gJ];exact .fp x t A w z
 |ms e=>simp only[gJ];exact .ms (a _ e)
 |map e=>simp only[gJ];exact .map (a _ e)
 |fn _ _ o y=>
  simp only[gJ,l9];exact .fn (fun m b=>by obtain⟨l,c,rfl⟩:=YL.1 b;exact o l c) (fun m b=>by obtain⟨l,c,rfl⟩:=YL.1 b;exact y l c)
 |rN e=>simp only[gJ];exact .rN (a _ e)
 |iface _ f=>simp only[gJ];exact .iface f
 |agg _ f=>simp only[gJ,l9];exact .agg (fun m b=>by obtain⟨l,c,rfl⟩:=YL.1 b;exact f l c)
 |dV _ f=>simp only[gJ,l9];exact .dV (fun m b=>by obtain⟨l,c,rfl⟩:=YL.1 b;exact f l c)
theorem KP(b:∀d,d<k->π d<M){l:List V}(f:eP Φ k l):eP Φ M (gU π l):=fun m a=>by
 rw[l9]at a;obtain⟨e,c,rfl⟩:=YL.1 a;exact xE b (f e c)
theorem qA(a:V):gy (gJ π a)=gy a:=by cases a<;>simp only[gJ,gy]
end
def rj(π:Nat->Nat):Tm->Tm
 |[]=>[]
 |(a,b)::c=>(a,gJ π b)::rj π c
theorem uY(π:Nat->Nat):∀(a:Tm) (b:Nat),fb (rj π a) b=(fb a b).map (gJ π):=by
 intro a;induction a with
 |nil=>intro b;rfl
 |cons d a c=>
  intro b;obtain⟨k,e⟩:=d;simp only[rj,jn,c];split<;>rfl
def At(k:Nat):Tm->Bool
 |[]=>true
 |(_,a)::b=>bd k a&&At k b
theorem xF{k:Nat}:∀{a:Tm},At k a=true->∀{f:Nat} {d:V},fb a f=some d->bd k d=true:=by
 intro a;induction a with
 |nil=>intro _ f d c;cases c
 |cons l a e=>
  intro b f d c;obtain⟨m,o⟩:=l;simp only[At,YN]at b;rw[jn]at c;split at c
  ·cases c;exact b.1
  ·exact e b.2 c
def I3(π:Nat->Nat)(a:pP):pP:=⟨gJ π a.key,gJ π a.val,a.born⟩
def dH(π:Nat->Nat):cL->cL
 |.box c=>.box (gU π c)
 |.row a b=>.row a (b.map (gU π))
 |.map a f=>.map (a.map (I3 π)) f
 |.loop d=>.loop {d with tm:=rj π d.tm,defers:=π d.defers}
 |.eG e=>.eG e
 |.gone=>.gone
def fG(k:Nat):cL->Bool
 |.box c=>e5 k c
 |.row _ a=>a.all (e5 k)
 |.map b _=>b.all fun e=>bd k e.key&&bd k e.val
 |.loop d=>At k d.tm&&YP d.defers k
 |.eG _=>true
 |.gone=>true
theorem h9(π:Nat->Nat)(o:cL):live (dH π o)=live o:=by cases o<;>rfl
theorem CK(π:Nat->Nat)(a:List (List V)):(a.map (gU π)).flatten=gU π a.flatten:=by
 induction a with
 |nil=>rfl
 |cons c a b=>simp only[YS,List.flatten_cons,b,l9,List.map_append]
theorem v8(π:Nat->Nat)(l:List V):(gU π l).length=l.length:=by rw[l9,List.length_map]
theorem Fg.OZ{Φ:Fz}{ρ π:Nat->Nat}{M k:Nat}{st:St}{o:cL}{b:Nat}(A:Fg Φ ρ M st (dH π o) b)(c:fG k o=true):Fg Φ (fun F=>ρ (π F)) k st o b:=by
 cases o with
 |box C=>
  obtain⟨⟨f,a⟩,w,t⟩:=A;refine⟨⟨by rw[f,hK,v8],a⟩,jN C w c,fun x l=>?_⟩;rw[<-qA (π:=π)];exact t _ (by rw[l9];exact YL.2 ⟨x,l,rfl⟩)
 |row y z=>
  obtain⟨⟨G,H,f⟩,a,w,t⟩:=A;have c:z.all (e5 k)=true:=c;rw[List.all_eq_true]at c;refine⟨⟨G,H,by rw[f,CK,hK]⟩,fun e d=>?_,fun e d=>?_,fun e d x l=>?_⟩
  ·rw[<-a (gU π e) (YL.2 ⟨e,d,rfl⟩),v8]
  ·exact jN e (w _ (YL.2 ⟨e,d,Z⟩)) (c e d)
  ·rw[<-qA (π:=π)];exact t _ (YL.2 ⟨e,d,Z⟩) _ (by rw[l9];exact YL.2 ⟨x,l,rfl⟩)
 |map y I=>
  obtain⟨f,a⟩:=A;have c:(y.all fun e=>bd k e.key&&bd k e.val)=true:=c;rw[List.all_eq_true]at c;refine⟨?_,fun e d=>?_⟩
  ·rw[f,List.map_map];congr 2;exact YQ fun e _=>by simp only[Function.comp,iT,I3,h8]
  ·have:=a (I3 π e) (YL.2 ⟨e,d,rfl⟩);have m:=c e d;rw[YN]at m;exact⟨k1 _ this.1 m.1,k1 _ this.2 m.2⟩
 |loop B=>
  obtain⟨D,f,a⟩:=A;have c:(At k B.tm&&YP B.defers k)=true:=c;rw[YN]at c;refine⟨D,f,a.state,a.pending,a.fn,fun E x l=>?_,a.nt,a.params,a.assign,a.body,a.defers,gi c.2⟩;have:=a.tm E (gJ π x) (by show fb (rj π B.tm) E=_;rw[uY,l];rfl);rw[h8]at this;exact⟨this.1,k1 _ this.2 (xF c.1 l)⟩
 |eG E=>exact A
 |gone=>trivial
theorem RN{Φ:Fz}{ρ π:Nat->Nat}{M k:Nat}{st:St}{o:cL}{b:Nat}(f:∀A,A<k->π A<M)(z:Fg Φ (fun A=>ρ (π A)) k st o b):Fg Φ ρ M st (dH π o) b:=by
 cases o with
 |box K=>
  obtain⟨⟨l,c⟩,y,w⟩:=z;refine⟨⟨by rw[l,hK,v8],c⟩,KP f y,fun C d=>?_⟩;rw[l9]at d;obtain⟨t,hx,rfl⟩:=YL.1 d;rw[qA];exact w t hx
 |row F H=>
  obtain⟨⟨J,L,l⟩,c,y,w⟩:=z;refine⟨⟨J,L,by rw[l,CK,hK]⟩,fun e m=>?_,fun e m=>?_,fun e m C d=>?_⟩
  ·obtain⟨t,hx,rfl⟩:=YL.1 m;rw[v8];exact c t hx
  ·obtain⟨t,hx,rfl⟩:=YL.1 m;exact KP f (y t hx)
  ·obtain⟨t,hx,rfl⟩:=YL.1 m;rw[l9]at d;obtain⟨N,D,rfl⟩:=YL.1 d;rw[qA];exact w t hx N D
 |map F I=>
  obtain⟨l,c⟩:=z;refine⟨?_,fun e m=>?_⟩
  ·rw[l,List.map_map];congr 2;exact YQ fun e _=>by simp only[Function.comp,iT,I3,h8]
  ·obtain⟨t,hx,rfl⟩:=YL.1 m;exact⟨xE f (c t hx).1,xE f (c t hx).2⟩
 |loop G=>
  obtain⟨E,l,c⟩:=z;refine⟨E,l,c.state,c.pending,c.fn,fun B C d=>?_,c.nt,c.params,c.assign,c.body,c.defers,f _ c.fF⟩;have d:fb (rj π G.tm) B=some C:=d;rw[uY]at d;cases x:fb G.tm B with
  |none=>rw[x]at d;cases d
  |some O=>
   rw[x]at d;cases d;obtain⟨a,I⟩:=c.tm B O x;exact⟨by rw[h8];exact a,xE f I⟩
 |eG B=>exact z
 |gone=>trivial
end Go.VM
