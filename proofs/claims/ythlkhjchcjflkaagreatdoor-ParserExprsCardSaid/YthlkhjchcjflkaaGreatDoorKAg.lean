/- Part of the proof. -/
import Derived.Test.YthlkhjchcjflkaaGreatDoorKAf
set_option linter.all false
set_option maxHeartbeats 16000000
set_option maxRecDepth 100000
open Nat renaming ble_eq_true_of_le->Yl,eq_of_beq_eq_true->Ym,ble->Yz,beq->YB,zero_mul->YD,beq_refl->YE,mul_le_mul_right->YF,blt->YG,le_refl->YL,lt_irrefl->YP,succ_mul->YR,le_trans->YS,add_zero->YT,sub_mul->YU,add_mul->YV,lt_of_lt_of_le->YW
open List renaming map_cons->Yn,length_map->Yo,flatten_cons->Yp,mem_of_mem_take->Yq,mem_of_mem_drop->Yr,mem_map->Ys,mem_or_eq_of_mem_set->Yt,all_eq_true->Yu,mem_of_getElem?->Yx,mem_cons->Yy,mem_append->YA,take_of_length_le->YC,length_append->YH,length_take->YI,length_drop->YJ,take_length_add_append->YM,drop_length_add_append->YN,drop_zero->YO
open Option renaming map_none->Yv,map_some->YK
open Bool renaming and_eq_true->Yw,and_self->YQ
namespace Go.VM
open Go.AM
theorem CY{h:Type}:∀{a:List (List h)} {b:Nat} (c:Nat),(∀d∈a,d.length=b)->a.flatten.drop (c*b)=(a.drop c).flatten:=by
 intro a;induction a with
 |nil=>intro b c _;simp
 |cons d a e=>
  intro b c i;cases c with
  |zero=>simp
  |succ c=>
   rw[Yp,YR,List.drop_succ_cons,<-e c fun l f=>i l (by simp[f])];rw[show c*b+b=d.length+c*b from by rw[i d sm];omega,YN]
theorem CZ{h:Type}:∀{a:List (List h)} {b:Nat} (c:Nat),(∀d∈a,d.length=b)->a.flatten.take (c*b)=(a.take c).flatten:=by
 intro a;induction a with
 |nil=>intro b c _;simp
 |cons d a e=>
  intro b c i;cases c with
  |zero=>simp
  |succ c=>
   rw[Yp,YR,List.take_succ_cons,Yp,<-e c fun l f=>i l (by simp[f])];rw[show c*b+b=d.length+c*b from by rw[i d sm];omega,YM]
variable{A T:Nat} {P w:V} {g:V->Prop} {R:TI} {r:Bool} {u:List V} {F:List TypeId}
section
variable{C:eD} {Φ:Fz} {ρ:Nat->Nat} {σ:VS} {st:St} {m:Nat} {ev:Operand->Option V} {mf:Operand->Option Value}
theorem gI{o:Option V}{c:Nat->Prop}(a:kN o A c)(ρ:Nat->Nat):∃b,c b/\kY (o.map (erase ρ)) A=some b:=by
 unfold kN at a;split at a
 ·exact⟨_,a,Z⟩
 ·obtain⟨b,rfl,a⟩:=a;exact⟨b,a,Z⟩
 ·exact a.elim
theorem Ee(ad:Real Φ ρ σ st){t:TypeId}(W:fJ Φ σ.length w){lo U j:Option V}(a:I6 C t w lo U j σ g):
  ∃O,g O/\fJ Φ σ.length O/\oA C t (erase ρ w) (lo.map (erase ρ)) (U.map (erase ρ)) (j.map (erase ρ)) st=some (.val (erase ρ O) st):=by
 unfold I6 at a;split at a
 ·exact a.elim
 ·rename_i ak i;split at a
  ·rename_i s x;split at a
   ·obtain⟨v,a,l⟩:=gI a ρ;obtain⟨c,a,h⟩:=gI a ρ;obtain⟨⟨K,D⟩,a⟩:=a;refine⟨_,a,.d (.str _),?_⟩;simp only[oA,i,x,erase,cH,l,h,Yv];rw[Yl K,Yl D];rfl
   ·exact a.elim
  ·rename_i Q x;split at a
   ·exact a.elim
   ·rename_i n o;split at a
    ·obtain⟨v,f,l⟩:=gI a ρ;obtain⟨c,e,h⟩:=gI f ρ;obtain⟨m',q,X⟩:=gI e ρ;clear a f e;obtain⟨⟨rfl,rfl,rfl,A⟩,N⟩:=q;refine⟨_,N,.d .cC,?_⟩;have G:((U.map (erase ρ)).isSome||(j.map (erase ρ)).isNone)=true:=by simpa using A
     simp only[oA,i,x,erase,cH,o,l,h,X,G];rfl
    ·rename_i aj al T b p;split at a
     ·obtain⟨v,a,l⟩:=gI a ρ;obtain⟨c,a,h⟩:=gI a ρ;obtain⟨⟨K,D,B,A,rfl⟩,a⟩:=a;cases W with
      |d W=>
      cases W with
      |ps y E ah aa P S=>
       rename_i ao am ai;have m:((p.take c).drop v).length=c-v:=by
        rw[YJ,YI];omega
       have R:v*n.size<=c*n.size:=YF _ K;have z:c*n.size<=p.length*n.size:=YF _ D;refine⟨_,a,.d (.ps y (fun ab F=>E ab (Yq (Yr F))) ?_ ?_ (fun ab F=>P ab (Yq (Yr F))) S),?_⟩
       ·rw[m,YU];omega
       ·have H:∀w∈p.take c,w.length=n.size:=fun w W=>E w (Yq W);rw[m,<-CY v H,<-CZ c E,List.map_drop,List.map_take,<-aa,List.take_take,Nat.min_eq_left z,List.drop_take,List.drop_drop,YU]
       ·have r:Lx st aj=some n.size:=by simp only[Lx,ad.fz _ _ y]
        have Y:YB b 0=false:=oO om;have k:(Yz v c&&Yz c b&&Yz b b&&((U.map (erase ρ)).isSome||true))=true:=by
         rw[Yl K,Yl (YS D B),Yl (YL _)];simp
        have X:kY none b=some b:=rfl;simp only[oA,i,x,erase,cH,o,l,h,Yv,X,Option.isNone_none,k,Y,r,YE,m];rfl
     ·exact a.elim
    ·rename_i ae T ag af b;split at a
     ·rename_i ac p u;obtain⟨v,f,l⟩:=gI a ρ;obtain⟨c,e,h⟩:=gI f ρ;obtain⟨m',q,X⟩:=gI e ρ;clear a f e;obtain⟨⟨K,D,B,A,rfl,rfl,L⟩,a⟩:=q;rw[cz]at u;obtain⟨⟨⟨an,ai,y⟩,_⟩,_⟩:=ad.obj ae _ u rfl;cases W with
      |ms J=>
       refine⟨_,a,.ms J,?_⟩;rcases Nat.eq_zero_or_pos b with M|M
       ·subst M;obtain rfl:m'=0:=om;obtain rfl:c=0:=om;obtain rfl:v=0:=om;have I:((U.map (erase ρ)).isSome||(j.map (erase ρ)).isNone)=true:=by simpa using L
        simp only[oA,i,x,erase,o,l,h,X,I];rfl
       have r:Lx st (ρ ae)=some n.size:=by simp only[Lx,y]
       have Y:YB b 0=false:=oO om;have k:(Yz v c&&Yz c m'&&Yz m' b&&((U.map (erase ρ)).isSome||(j.map (erase ρ)).isNone))=true:=by
        rw[Yl K,Yl D,Yl B];simpa using L
       simp only[oA,i,x,erase,o,l,h,X,k,Y,r,YE,YV];rfl
     ·exact a.elim
    ·exact a.elim
  ·exact a.elim
theorem xL{t:TypeId}(i:fJ Φ m w)(a:va C t w P g)(ρ:Nat->Nat)(st:St):
  ∃y,g y/\fJ Φ m y/\gT C t (erase ρ w) (erase ρ P) st=some (.val (erase ρ y) st):=by
 unfold va at a;split at a
 ·rename_i N _ M h;split at a
  ·rename_i K p;split at a
   ·rename_i b c;split at a
    ·rename_i I B J o Y;split at a
     ·rename_i n;have:=Ym n;subst this;obtain⟨x,rfl,f,a⟩:=a;cases i with
      |ms W=>
       refine⟨_,a,.ptr W,?_⟩;have e:YG x o=true:=by rw[pG];exact decide_eq_true f
       simp only[gT,h,erase,cH,p,c,e,YV,YT];rfl
     ·exact a.elim
    ·rename_i R O B Y l;split at a
     ·rename_i n;have:=Ym n;subst this;obtain⟨x,rfl,F,s,a⟩:=a;rw[cz]at s;have f:x<l.length:=(List.getElem?_eq_some_iff.1 s).1;cases i with
      |d i=>
      cases i with
      |ps v U L E z A=>
       rename_i S G Q;have r:=Yx s;have k:=U F r;have j:=KO U s (f:=0) (n:=b.size) om;have q:=qy U;refine⟨_,a,.fp v (by rw[k];rw[q]at j;omega) ?_ (z F r) A,?_⟩
       ·have X:=j.1;rw[YT,YO,YC (by omega:F.length<=b.size)]at X;have D:=congrArg (fun H=>(H.drop (x*b.size)).take b.size) E;simp only[List.drop_take,List.drop_drop,List.take_take]at D;rw[k];have u:b.size<=l.length*b.size-x*b.size:=by
         rw[<-YU];exact Nat.le_mul_of_pos_left _ om
        rw[Nat.min_eq_left u,<-List.map_drop,<-List.map_take,X]at D;exact D
       ·have e:YG x l.length=true:=by rw[pG];exact decide_eq_true f
        simp only[gT,h,erase,cH,p,c,e];rfl
     ·exact a.elim
    ·exact a.elim
   ·exact a.elim
  ·rename_i o K p;split at a
   ·rename_i b c;split at a
    ·rename_i I G;obtain⟨x,rfl,f,a⟩:=a;rw[tJ]at a;cases i with
     |bp W=>
      refine⟨_,a,.bp W,?_⟩;have e:YG x o=true:=by rw[pG];exact decide_eq_true f
      simp only[gT,h,erase,cH,p,c,e];rfl
    ·exact a.elim
   ·exact a.elim
  ·exact a.elim
 ·exact a.elim
theorem Ef{t:TypeId}(d:fJ Φ m w)(a:I8 C t w P g)(ρ:Nat->Nat)(st:St):
  ∃e,g e/\fJ Φ m e/\sw C t (erase ρ w) (erase ρ P) st=some (.val (erase ρ e) st):=by
 unfold I8 at a;split at a
 ·rename_i D s _ X b;split at a
  ·rename_i c;obtain⟨U,rfl,j,K,a⟩:=a;refine⟨_,a,.d (.int _ _),?_⟩;simp only[sw,b,erase,cH,c,K];rfl
  ·exact a.elim
 ·rename_i D W _ X b;split at a
  ·rename_i h p c;split at a
   ·rename_i Y f;obtain⟨U,rfl,n,a⟩:=a;cases d with
    |agg d=>
     obtain⟨e,o,i,x⟩:=yq d a ρ;refine⟨e,o,i,?_⟩;have l:YG U h=true:=by rw[pG];exact decide_eq_true n
     simp only[sw,b,erase,cH,c,f,l,x];rfl
   ·exact a.elim
  ·exact a.elim
 ·exact a.elim
theorem yr(ρ:Nat->Nat)(U:TypeDesc)(s:V):∀(e:List qx) (C:Nat) (p:Option (Nat×V)),fR U s e C=some p->
  qo U (erase ρ s) (e.map (jE ρ)) C=some (p.map fun K=>(K.1,erase ρ K.2))/\(∀l h,p=some (l,h)->∃f∈e,f.val=h):=by
 intro e;induction e with
 |nil=>intro C p d;cases d;exact⟨rfl,fun l h f=>by cases f⟩
 |cons f e x=>
  intro C p d;unfold fR at d;split at d
  ·rename_i D W b;split at d
   ·rename_i a;cases d;refine⟨?_,fun l h c=>⟨f,by simp,by cases c;rfl⟩⟩;simp only[Yn,qo,jE,b,erase,cH,jb,tL,a];rfl
   ·rename_i a;obtain⟨m,i⟩:=x (C+1) p d;refine⟨?_,fun l h c=>by obtain⟨f,n,o⟩:=i l h c;exact⟨f,by simp[n],o⟩⟩;simp only[Yn,qo,jE,b,erase,cH,jb,tL,a];exact m
  ·rename_i Y D X W b;split at d
   ·rename_i t a;cases d;refine⟨?_,fun l h c=>⟨f,by simp,by cases c;rfl⟩⟩;simp only[Yn,qo,jE,b,erase,cH,jb,ol,t,a];rfl
   ·rename_i t a;obtain⟨m,i⟩:=x (C+1) p d;refine⟨?_,fun l h c=>by obtain⟨f,n,o⟩:=i l h c;exact⟨f,by simp[n],o⟩⟩;simp only[Yn,qo,jE,b,erase,cH,jb,ol,t,a];exact m
   ·cases d
  ·rename_i D W b;split at d
   ·rename_i a;cases d;refine⟨?_,fun l h c=>⟨f,by simp,by cases c;rfl⟩⟩;simp only[Yn,qo,jE,b,erase,cH,jb,a];rfl
   ·rename_i a;obtain⟨m,i⟩:=x (C+1) p d;refine⟨?_,fun l h c=>by obtain⟨f,n,o⟩:=i l h c;exact⟨f,by simp[n],o⟩⟩;simp only[Yn,qo,jE,b,erase,cH,jb,a];exact m
  ·cases d
theorem sP(i:Real Φ ρ σ st){es:List qx}(a:wb σ w=some es):
  ((erase ρ w=.map none/\es=[])∨(∃c f,erase ρ w=.map (some c)/\st.get c=some (.map (es.map (jE ρ)) f)))/\∀l∈es,fJ Φ σ.length l.key/\fJ Φ σ.length l.val:=by
 unfold wb at a;split at a
 ·cases a;exact⟨.inl ⟨rfl,rfl⟩,fun _ i=>by simp at i⟩
 ·rename_i c;split at a
  ·rename_i m d b;cases a;rw[cz]at b;obtain⟨⟨e,h⟩,_⟩:=i.obj c _ b rfl;exact⟨.inr ⟨_,_,Z,e⟩,h⟩
  ·cases a
 ·cases a
theorem ve(d:dO (ux R.zero) fun i=>QF R.agg i g)(Φ:Fz)(m:Nat)(ρ:Nat->Nat):∃c,g c/\fJ Φ m c/\FJ R.agg R.zero=some (erase ρ c):=by
 obtain⟨i,a,e⟩:=cI d;obtain⟨c,h,f,b⟩:=we e ρ (q9 Φ m a).1;rw[jV ρ a]at b;exact⟨c,h,f,b⟩
theorem wg{e b:V}(c:fJ Φ m e)(d:fJ Φ m b):fJ Φ m (.dN [e,b]):=.dN fun f a=>by
 rcases Yy.1 a with rfl|a
 ·exact c
 ·rcases Yy.1 a with rfl|a
  ·exact d
  ·simp at a
theorem B3(H:Real Φ ρ σ st){t:TypeId}(a:D6 C t w P r σ g):
  ∃c,g c/\fJ Φ σ.length c/\pq C t (erase ρ w) (erase ρ P) r st=some (.val (erase ρ c) st):=by
 unfold D6 at a;split at a
 ·exact a.elim
 ·rename_i F f;split at a
  ·rename_i z B i;split at a
   ·rename_i A n d e;split at a
    ·rename_i E m s;obtain⟨D,k,a⟩:=a;obtain⟨Y,K⟩:=sP H s;obtain⟨h,X⟩:=yr ρ _ _ _ _ _ k;have o:pq C t (erase ρ w) (erase ρ P) r st=match(generalizing:=false) (D.map fun w=>(w.1,erase ρ w.2):Option (Nat×Value))with
       |some (_,c)=>val (if r then .tuple #[c,.bool true]else c) st
       |none=>match(generalizing:=false) FJ n.agg n.zero with
        |none=>none
        |some v=>val (if r then .tuple #[v,.bool false]else v) st:=by
      unfold pq;rcases Y with⟨x,rfl⟩|⟨y,G,x,U⟩
      ·simp only[List.map_nil]at h;simp only[f,i,d,e,m,x,h];cases D with
       |none=>rfl
       |some j=>rfl
      ·simp only[f,i,d,e,m,x,U,h];cases D with
       |none=>rfl
       |some j=>rfl
     rw[o];cases D with
     |some j=>
      obtain⟨I,c⟩:=j;obtain⟨x,q,u⟩:=X I c rfl;have b:fJ Φ σ.length c:=u▸(K x q).2;cases r with
      |true=>exact⟨_,a,wg b (.d (.bool _)),rfl⟩
      |false=>exact⟨_,a,b,rfl⟩
     |none=>
      dsimp only at a;obtain⟨c,l,p,W⟩:=ve a Φ σ.length ρ;rw[Yv];dsimp only;rw[W];cases r with
      |true=>exact⟨_,l,wg p (.d (.bool _)),rfl⟩
      |false=>exact⟨_,l,p,rfl⟩
    ·exact a.elim
   ·exact a.elim
  ·exact a.elim
theorem wh(D:fJ Φ m w){t:TypeId}(a:sN C w t r g)(ρ:Nat->Nat)(st:St):
  ∃c,g c/\fJ Φ m c/\iY C (erase ρ w) t r st=some (.val (erase ρ c) st):=by
 unfold sN at a;split at a
 ·exact a.elim
 ·rename_i e l;split at a
  ·exact a.elim
  ·rename_i o;have b:∀s,(match(generalizing:=false) erase ρ w with
    |.iface K c=>match(generalizing:=false) YB K t with
     |true=>val (if r then .tuple #[c,.bool true]else c) st
     |false=>match(generalizing:=false) r,FJ e.agg e.zero with
      |true,some p=>val (.tuple #[p,.bool false]) st
      |_,_=>none
    |.nilIface=>match(generalizing:=false) r,FJ e.agg e.zero with
     |true,some p=>val (.tuple #[p,.bool false]) st
     |_,_=>none
    |_=>none)=s->iY C (erase ρ w) t r st=s:=by
    intro s x;subst x;unfold iY;rw[l];dsimp only;split
    ·rename_i U;exact absurd U (o _)
    ·rfl
   split at a
   ·rename_i K c;cases D with
    |iface n=>
    split at a
    ·rename_i d;cases r with
     |true=>exact⟨_,a,wg n (.d (.bool _)),b _ (by simp only[erase,d];rfl)⟩
     |false=>exact⟨_,a,n,b _ (by simp only[erase,d];rfl)⟩
    ·rename_i d;split at a
     ·obtain⟨c,f,i,h⟩:=ve a Φ m ρ;exact⟨_,f,wg i (.d (.bool _)),b _ (by simp only[erase,d,h];rfl)⟩
     ·exact a.elim
   ·split at a
    ·obtain⟨c,f,i,h⟩:=ve a Φ m ρ;exact⟨_,f,wg i (.d (.bool _)),b _ (by simp only[erase,cH,h];rfl)⟩
    ·exact a.elim
   ·exact a.elim
theorem Ao(c:fJ Φ m w)(a:Af w A g)(ρ:Nat->Nat)(st:St):
  ∃d,g d/\fJ Φ m d/\oB (erase ρ w) A st=some (.val (erase ρ d) st):=by
 unfold Af at a;split at a
 ·rename_i f;obtain⟨d,b,e⟩:=cI a;rw[cz]at b;cases c with
  |dN c=>
   refine⟨d,e,c d (Yx b),?_⟩;simp only[oB,erase,cz,ej,List.getElem?_map,b,YK];rfl
 ·exact a.elim
theorem Jf(D:Real Φ ρ σ st)(a:S7 C F u σ g):
  ∃f,g f/\fJ Φ σ.length f/\vK C F (cx ρ u) st=some (.val (erase ρ f) st):=by
 unfold S7 at a;split at a
 ·rename_i Y _ U _;split at a
  ·exact a.elim
  ·rename_i t c;split at a
   ·rename_i X b;exact⟨_,a,.d (.int _ _),by simp only[vK,cx,c,b,erase,cH];rfl⟩
   ·rename_i W _ b;exact⟨_,a,.d (.int _ _),by simp only[vK,cx,c,b];rfl⟩
   ·rename_i d b;exact⟨_,a,.d (.int _ _),by simp only[vK,cx,c,b,erase,cH];rfl⟩
   ·rename_i d _ _ _ _ m b;exact⟨_,a,.d (.int _ _),by simp only[vK,cx,c,b,erase,cH];rfl⟩
   ·rename_i d _ _ _ n _ b;exact⟨_,a,.d (.int _ _),by simp only[vK,cx,c,b,erase,cH];rfl⟩
   ·rename_i o p b;obtain⟨s,i,e⟩:=cI a;obtain⟨l,_⟩:=sP D i;refine⟨_,e,.d (.int _ _),?_⟩;rcases l with⟨d,rfl⟩|⟨K,x,d,h⟩
    ·simp only[vK,cx,c,b,d];rfl
    ·simp only[vK,cx,c,b,d,h,Yo];rfl
   ·exact a.elim
 ·exact a.elim
theorem C0(b:Bool)(f:IntKind):∀(h:List V) (c:Int) (i:V->Prop),UI b f c h i->∃l,i l/\fJ Φ m l/\lE b (.int f c) (cx ρ h)=some (erase ρ l):=by
 intro h;induction h with
 |nil=>intro c i e;exact⟨_,e,.d (.int _ _),rfl⟩
 |cons D h o=>
  intro c i e;cases D with
  |d C=>
   cases C with
   |int x n=>
    have e:UI b f (match(generalizing:=false) b with|true=>max c n|false=>min c n) h i:=e;obtain⟨l,s,p,t⟩:=o _ i e;refine⟨l,s,p,?_⟩;rw[<-t];simp only[cx,erase,cH,lE,xJ];congr 2;cases b with
    |true=>
     simp only[decide_eq_true_eq];by_cases a:c<n
     ·rw[if_pos a];omega
     ·rw[if_neg a];omega
    |false=>
     simp only[decide_eq_true_eq];by_cases a:n<c
     ·rw[if_pos a];omega
     ·rw[if_neg a];omega
   |_=>exact e.elim
  |_=>exact e.elim
theorem Ap(f:nJ Φ ρ m ev mf){o:Option Operand}{e:Option V}(b:Og ev o=some e):(o=none/\e=none)∨∃c d,o=some c/\e=some d/\mf c=some (erase ρ d):=by
 cases o with
 |none=>cases b;exact .inl ⟨rfl,rfl⟩
 |some c=>
  simp only[Og]at b;cases a:ev c with
  |none=>rw[a]at b;cases b
  |some d=>rw[a]at b;cases b;exact .inr ⟨c,d,rfl,rfl,(f _ _ a).1⟩
theorem mD(X:Real Φ ρ σ st)(i:nJ Φ ρ σ.length ev mf){o:Oper}(l:Ah C ev o.op σ g):
  ∃n,g n/\fJ Φ σ.length n/\iX C mf o st=some (.val (erase ρ n) st):=by
 obtain⟨w,O,M,z,y,B⟩:=o;dsimp only at l;unfold Ah at l;split at l
 ·obtain⟨n,b,a⟩:=cI l;obtain⟨c,h⟩:=i _ _ b;exact⟨n,a,h,by simp only[iX,c];rfl⟩
 ·split at l
  ·rename_i S P n b a c;obtain⟨Y,_⟩:=i _ _ b;obtain⟨j,v⟩:=i _ _ a;obtain⟨K,r⟩:=i _ _ c;cases S with
   |true=>exact⟨P,l,v,by simp only[iX,Y,j,K,erase,cH];rfl⟩
   |false=>exact⟨n,l,r,by simp only[iX,Y,j,K,erase,cH];rfl⟩
  ·exact l.elim
 ·obtain⟨T,b,a⟩:=cI l;obtain⟨c,h⟩:=Al i b;obtain⟨n,e,f,d⟩:=Eb h a ρ st;exact⟨n,e,f,by simp only[iX,c];exact d⟩
 ·obtain⟨x,b,a⟩:=cI l;obtain⟨c,h⟩:=i _ _ b;obtain⟨n,e,f,d⟩:=yo X h a;exact⟨n,e,f,by simp only[iX,c];exact d⟩
 ·obtain⟨x,b,a⟩:=cI l;obtain⟨c,h⟩:=i _ _ b;obtain⟨n,e,f,d⟩:=yU h a ρ st;exact⟨n,e,f,by simp only[iX,c];exact d⟩
 ·obtain⟨x,b,a⟩:=cI l;obtain⟨W,p,a⟩:=cI a;obtain⟨c,h⟩:=i _ _ b;obtain⟨s,t⟩:=i _ _ p;obtain⟨n,e,f,d⟩:=Je (Φ:=Φ) (ρ:=ρ) (m:=σ.length) a;exact⟨n,e,f,by simp only[iX,c,s,d];rfl⟩
 ·obtain⟨x,b,a⟩:=cI l;obtain⟨c,h⟩:=i _ _ b;obtain⟨n,e,f,d⟩:=Ma (Φ:=Φ) (ρ:=ρ) (m:=σ.length) a;exact⟨n,e,f,by simp only[iX,c,d];rfl⟩
 ·obtain⟨x,b,a⟩:=cI l;obtain⟨c,h⟩:=i _ _ b;obtain⟨n,e,f,d⟩:=An X h a;exact⟨n,e,f,by simp only[iX,c];exact d⟩
 ·obtain⟨x,b,a⟩:=cI l;obtain⟨c,h⟩:=i _ _ b;obtain⟨n,e,f,d⟩:=sO h a ρ st;exact⟨n,e,f,by simp only[iX,c];exact d⟩
 ·split at l
  ·obtain⟨x,b,a⟩:=cI l;obtain⟨W,p,a⟩:=cI a;obtain⟨c,h⟩:=mC i b;obtain⟨s,t⟩:=mC i p;exact⟨_,a,.fn h t,by simp only[iX,c,s,SV,erase];rfl⟩
  ·exact l.elim
 ·obtain⟨x,b,a⟩:=cI l;obtain⟨T,u,a⟩:=cI a;obtain⟨N,U,a⟩:=cI a;obtain⟨F,D,a⟩:=cI a;obtain⟨c,h⟩:=i _ _ b;obtain⟨n,e,f,d⟩:=Ee X h a;refine⟨n,e,f,?_⟩;rcases Ap i u with⟨rfl,rfl⟩|⟨I,E,rfl,rfl,Q⟩<;>rcases Ap i U with⟨rfl,rfl⟩|⟨G,L,rfl,rfl,H⟩<;>rcases Ap i D with⟨rfl,rfl⟩|⟨J,A,rfl,rfl,R⟩<;>
   simp only[iX,c, *,YK]<;>exact d
 ·obtain⟨x,b,a⟩:=cI l;obtain⟨c,h⟩:=i _ _ b;obtain⟨n,e,f,d⟩:=xK h a ρ st;exact⟨n,e,f,by simp only[iX,c];exact d⟩
 ·obtain⟨x,b,a⟩:=cI l;obtain⟨c,h⟩:=i _ _ b;obtain⟨n,e,f,d⟩:=Ed h a ρ st;exact⟨n,e,f,by simp only[iX,c];exact d⟩
 ·obtain⟨x,b,a⟩:=cI l;obtain⟨W,p,a⟩:=cI a;obtain⟨c,h⟩:=i _ _ b;obtain⟨s,t⟩:=i _ _ p;obtain⟨n,e,f,d⟩:=xL h a ρ st;exact⟨n,e,f,by simp only[iX,c,s];exact d⟩
 ·obtain⟨x,b,a⟩:=cI l;obtain⟨W,p,a⟩:=cI a;obtain⟨c,h⟩:=i _ _ b;obtain⟨s,t⟩:=i _ _ p;obtain⟨n,e,f,d⟩:=Ef h a ρ st;exact⟨n,e,f,by simp only[iX,c,s];exact d⟩
 ·obtain⟨x,b,a⟩:=cI l;obtain⟨W,p,a⟩:=cI a;obtain⟨c,h⟩:=i _ _ b;obtain⟨s,t⟩:=i _ _ p;obtain⟨n,e,f,d⟩:=B3 X a;exact⟨n,e,f,by simp only[iX,c,s];exact d⟩
 ·obtain⟨x,b,a⟩:=cI l;obtain⟨c,h⟩:=i _ _ b;obtain⟨n,e,f,d⟩:=wh h a ρ st;exact⟨n,e,f,by simp only[iX,c];exact d⟩
 ·obtain⟨x,b,a⟩:=cI l;obtain⟨c,h⟩:=i _ _ b;obtain⟨n,e,f,d⟩:=Ao h a ρ st;exact⟨n,e,f,by simp only[iX,c];exact d⟩
 ·rename_i aa;obtain⟨k,b,a⟩:=cI l;obtain⟨c,h⟩:=mC i b;split at a
  ·rename_i W q;simp only[iX,c,q];unfold Oe at a;split at a
   ·obtain⟨n,e,f,d⟩:=Jf X a;exact⟨n,e,f,d⟩
   ·split at a
    ·obtain⟨n,e,f,d⟩:=C0 (Φ:=Φ) (m:=σ.length) (ρ:=ρ) _ _ _ _ _ a;exact⟨n,e,f,by simp only[jp,cx,erase,cH,d];rfl⟩
    ·exact a.elim
   ·split at a
    ·obtain⟨n,e,f,d⟩:=C0 (Φ:=Φ) (m:=σ.length) (ρ:=ρ) _ _ _ _ _ a;exact⟨n,e,f,by simp only[jp,cx,erase,cH,d];rfl⟩
    ·exact a.elim
   ·exact a.elim
  ·exact a.elim
 ·exact l.elim
end
theorem GC{i:Type}:∀{a:List (List i)} {b kk f:Nat} {e vs:List i},(∀c∈a,c.length=b)->a[kk]?=some e->f+vs.length<=b->
  (a.set kk (lay e f vs)).flatten=lay a.flatten (kk*b+f) vs/\kk*b+f+vs.length<=a.flatten.length:=by
 intro a;induction a with
 |nil=>intro b kk f e vs _ d;simp at d
 |cons c a l=>
  intro b kk f e vs h d n;have p:=h c sm;cases kk with
  |zero=>
   simp at d;subst d;simp only[YD,Nat.zero_add,List.set_cons_zero,Yp,YH];refine⟨?_,om⟩;simp only[lay];rw[List.take_append_of_le_length om,List.drop_append_of_le_length om];simp only[List.append_assoc]
  |succ kk=>
   have:=l (fun o m=>h o (by simp[m])) (kk:=kk) (f:=f) (e:=e) (vs:=vs) (by simpa using d) n;simp only[List.set_cons_succ,Yp,YH];rw[YR];refine⟨?_,om⟩;rw[this.1];simp only[lay];rw[show kk*b+b+f=c.length+(kk*b+f)from om,YM,
    show c.length+(kk*b+f)+vs.length=c.length+(kk*b+f+vs.length)from om,YN]
   simp only[List.append_assoc]
theorem QH{b:Type}{c a:List b}(d:c.length=a.length):lay c 0 a=a:=by
 simp only[lay,List.take_zero,List.nil_append,Nat.zero_add];rw[List.drop_of_length_le om,List.append_nil]
variable{H:VS->Prop} {k:List (List V)} {q:V->VS->Prop}
section
variable{C:eD} {Φ:Fz} {ρ:Nat->Nat} {σ:VS} {st:St} {m:Nat} {ev:Operand->Option V} {mf:Operand->Option Value}
def Eg(Φ:Fz)(ρ:Nat->Nat)(σ:VS)(K:V->VS->Prop)(d:Option AR):Prop:=
 ∃c a dE dx b,K c a/\iC Φ ρ σ.length dE dx a.length/\Real dE dx a b/\fJ dE a.length c/\d=some (.val (erase dx c) b)
theorem tM:fJ Φ m (.dN []):=.dN fun _ a=>by simp at a
theorem sQ{l:List V}(c:l.all hA=true)(ρ:Nat->Nat):(cx ρ l).all gn=true:=by
 rw[Yu]at c⊢;intro e a;rw[ej]at a;obtain⟨d,b,rfl⟩:=Ys.1 a;exact D9 (c d b)
theorem hC(G:Real Φ ρ σ st){t:TypeId}(S:fJ Φ σ.length w)(J:fJ Φ σ.length P)(a:k5 C t w P σ H):
  ∃s o,H s/\s.length=σ.length/\Real Φ ρ s o/\ir C t (erase ρ w) (erase ρ P) st=some (.val kX o)/\o.n=st.n:=by
 unfold k5 at a;split at a
 ·rename_i R g;split at a
  ·rename_i B;rw[Yw]at B;obtain⟨j,p⟩:=B;have Y:=tK J;have X:∀O∈ef P,hA O=true:=Yu.1 p;split at a
   ·rename_i L f;split at a
    ·rename_i D c;rw[cz]at c;obtain⟨⟨⟨n,_⟩,m,x⟩,_⟩:=G.obj L _ c rfl;obtain⟨l,k⟩:=vd _ _ _ _ a;obtain⟨I,q⟩:=kl _ _ _ _ k;have u:=G.write (o':=.box (lay D f (ef P))) (c':=cx ρ (lay D f (ef P))) (lo:=0+f) (hi':=0+f+(ef P).length) c rfl n
      (.inl ⟨_,_,rfl,rfl,Ak l,rfl,fun e b=>(wc b).elim (m e) (Y e),fun e b=>(wc b).elim (x e) (X e)⟩)
     refine⟨_,_,q,by simp,u,?_,?_⟩
     ·have y:dU (cx ρ D) f (cx ρ (ef P))=cx ρ (lay D f (ef P)):=by
       rw[pF _ _ _ (by rw[dk,dk];exact l),ej,ej,ej,zl]
      simp only[ir,g,erase,lK,dk,j,gA,n,sQ p ρ,Yl l,YQ,y];rfl
     ·rw[hQ];rfl
    ·exact a.elim
   ·rename_i L K h f;split at a
    ·rename_i N d c;split at a
     ·rename_i E;have:=Ym E;subst this;rw[cz]at c;obtain⟨⟨⟨T,M,n⟩,m,x,F⟩,_⟩:=G.obj L _ c rfl;obtain⟨W,z,a⟩:=a;rw[cz]at z;have U:=Yx z;obtain⟨l,k⟩:=vd _ _ _ _ a;obtain⟨I,q⟩:=kl _ _ _ _ k;have v:=GC m z (f:=f) (vs:=ef P) (by rw[<-m W U];exact l);have i:∀e∈d.set h (lay W f (ef P)),e∈d∨e=lay W f (ef P):=fun e b=>Yt b;have u:=G.write (o':=.row K (d.set h (lay W f (ef P)))) (c':=cx ρ (d.set h (lay W f (ef P))).flatten) (lo:=M+(h*K+f)) (hi':=M+(h*K+f)+(ef P).length) c rfl n
       (.inr ⟨_,_,rfl,rfl,rfl,fun e b=>by
        rcases i e b with b|rfl
        ·exact m e b
        ·rw[Ak l];exact m W U,fun e b=>by
        rcases i e b with b|rfl
        ·exact x e b
        ·exact fun A r=>(wc r).elim (x W U A) (Y A),fun e b=>by
        rcases i e b with b|rfl
        ·exact F e b
        ·exact fun A r=>(wc r).elim (F W U A) (X A)⟩)
      refine⟨_,_,q,by simp,u,?_,?_⟩
      ·have y:dU (cx ρ d.flatten) (h*K+f) (cx ρ (ef P))=cx ρ (d.set h (lay W f (ef P))).flatten:=by
        rw[pF _ _ _ (by rw[dk,dk];exact v.2),v.1,ej,ej,ej,zl]
       simp only[ir,g,erase,lK,dk,j,gA,n,sQ p ρ,Yl v.2,YQ,y];rfl
      ·rw[hQ];rfl
     ·exact a.elim
    ·exact a.elim
   ·exact a.elim
  ·exact a.elim
 ·exact a.elim
theorem B4(ρ:Nat->Nat):∀(a:List qx) (b:Nat) (c d:V),(pD a b c d).map (jE ρ)=u2 (a.map (jE ρ)) b (erase ρ c) (erase ρ d):=by
 intro a;induction a with
 |nil=>intro b c d;rfl
 |cons f a e=>
  intro b c d;cases b with
  |zero=>rfl
  |succ b=>simp only[pD,Yn,u2,e]
theorem GD:∀{a:List qx} {c:Nat} {d e:V} {b:qx},b∈pD a c d e->b∈a∨(b.key=d/\b.val=e):=by
 intro a;induction a with
 |nil=>intro c d e b h;simp[pD]at h
 |cons i a f=>
  intro c d e b h;cases c with
  |zero=>
   rcases Yy.1 h with rfl|h
   ·exact .inr ⟨Z,Z⟩
   ·exact .inl (by simp[h])
  |succ c=>
   rcases Yy.1 h with rfl|h
   ·exact .inl sm
   ·exact(f h).imp (fun h=>by simp[h]) id
theorem qz(r:Real Φ ρ σ st){t:TypeId}{n:V}(e:fJ Φ σ.length P)(X:fJ Φ σ.length n)(c:q8 C t w P n σ H):
  ∃f l,H f/\f.length=σ.length/\Real Φ ρ f l/\jc C t (erase ρ w) (erase ρ P) (erase ρ n) st=some (.val kX l):=by
 unfold q8 at c;split at c
 ·rename_i F Y m;split at c
  ·rename_i y E s;split at c
   ·rename_i z h b i d;rw[cz]at d;obtain⟨⟨x,W⟩,_⟩:=r.obj Y _ d rfl;split at c
    ·exact c.elim
    ·rename_i D;obtain⟨v,k,c⟩:=c;obtain⟨U,A⟩:=yr ρ _ _ _ _ _ k;have K:∀a,(st.put (ρ Y) a).get (ρ Y)=some a:=fun a=>by rw[de,if_pos rfl]
     cases v with
     |some B=>
      obtain⟨u,G⟩:=B;obtain⟨g,p⟩:=kl _ _ _ _ c;refine⟨_,_,p,by simp,r.put (o':=.map (pD h u P n) b) (a:=.map ((pD h u P n).map (jE ρ)) b) d rfl rfl rfl (fun _ _ _ _ o=>by cases o) ⟨K _,fun o he=>?_⟩,?_⟩
      ·rcases GD he with he|⟨q,j⟩
       ·exact W o he
       ·rw[q,j];exact⟨e,X⟩
      ·simp only[jc,m,erase,s,i,x,D,U,B4];rfl
     |none=>
      obtain⟨g,p⟩:=kl _ _ _ _ c;refine⟨_,_,p,by simp,r.put (o':=.map (h++[qx.mk P n b]) (b+1)) (a:=.map ((h++[qx.mk P n b]).map (jE ρ)) (b+1)) d rfl rfl rfl (fun _ _ _ _ o=>by cases o) ⟨K _,fun o he=>?_⟩,?_⟩
      ·rcases YA.1 he with he|he
       ·exact W o he
       ·simp at he;subst he;exact⟨e,X⟩
      ·simp only[jc,m,erase,s,i,x,D,U,List.map_append];rfl
   ·exact c.elim
  ·exact c.elim
 ·exact c.elim
theorem gw:∀{a:List (List V)} {c:List (List D)},pC a=some c->a=c.map fun h=>h.map V.d:=by
 intro a;induction a with
 |nil=>intro c b;cases b;rfl
 |cons h a d=>
  intro c b;unfold pC at b;split at b
  ·rename_i l i f e;cases b;rw[Yn,<-d e,<-n4 f]
  ·cases b
theorem sR(ρ:Nat->Nat)(l:List (List D)):cx ρ (l.map fun b=>b.map V.d).flatten=l.flatten.map cH:=by
 induction l with
 |nil=>rfl
 |cons b l a=>
  simp only[Yn,Yp,ga,nh,a,List.map_append]
theorem So{b es c:Nat}{l:List (List D)}{f p:Nat}(e:Φ b=some (.cells (l.flatten.map cH) es f p))(a:∀i∈l,i.length=es)(h:∀i∈l,∀m∈i,vb Φ m)(d:Φ.B0 b):vb Φ (.ps b 0 es c l):=by
 have:=qy a;refine .ps e a (by rw[Yo];omega) ?_ h d;rw[YO,YC (by rw[Yo];omega)]
structure jt (Φ:Fz) (m es:Nat) (els:List (List V)):Prop where
 len:∀e∈els,e.length=es
 ok:∀e∈els,fB Φ m e
 cell:∀e∈els,∀v∈e,hA v=true
theorem jt.d{es:Nat}{l:List (List D)}(c:jt Φ m es (l.map fun a=>a.map V.d)):(∀a∈l,a.length=es)/\∀a∈l,∀d∈a,vb Φ d:=by
 refine⟨fun a b=>?_,fun a b d e=>?_⟩
 ·have:=c.len (a.map V.d) (Ys.2 ⟨a,b,rfl⟩);simpa using this
 ·have:=c.ok (a.map V.d) (Ys.2 ⟨a,b,rfl⟩) (.d d) (Ys.2 ⟨d,e,rfl⟩);cases this with
  |d c=>exact c
theorem jt.mono{dE:Fz}{m' es:Nat}{a:List (List V)}(d:jt Φ m es a)(b:Φ.le dE)(c:m<=m'):jt dE m' es a:=
 ⟨d.len,fun f e=>(d.ok f e).mono b c,d.cell⟩
theorem Real.newRow(c:Real Φ ρ σ st){es:Nat}(a:jt Φ σ.length es k):
  Real Φ (jM ρ σ.length st.n) (σ++[.row es k]) (st.new (.cells (cx ρ k.flatten) es st.n 0)):=by
 have b:=kP Φ ρ σ.length st.n;refine c.new Z ⟨⟨st.n,0,?_⟩,a.len,fun d c=>b.KN (a.ok d c),a.cell⟩;rw[dH,if_pos rfl,b.cx (Ea a.ok)]
theorem Real.Eh(d:Real Φ ρ σ st)(a:fB Φ σ.length u)(c:∀h∈u,hA h=true):
  Real Φ (jM ρ σ.length st.n) (σ++[.box u]) (st.new (.cells (cx ρ u) u.length st.n 0)):=by
 have b:=kP Φ ρ σ.length st.n;refine d.new Z ⟨⟨?_,?_⟩,b.KN a,c⟩
 ·rw[dH,if_pos rfl,b.cx a]
 ·cases e:st.fm.get st.n with
  |none=>exact e
  |some f=>exact absurd (d.wf.Kz _ _ e) (YP _)
theorem Real.KR(o:Real Φ ρ σ st){es:Nat}{l:List (List D)}(c:jt Φ m es (l.map fun n=>n.map V.d)):
  Real (nC Φ st.n (.cells (l.flatten.map cH) es st.n 0)) ρ σ (st.new (.cells (l.flatten.map cH) es st.n 0))/\
  iC Φ ρ σ.length (nC Φ st.n (.cells (l.flatten.map cH) es st.n 0)) ρ σ.length/\∀b,vb (nC Φ st.n (.cells (l.flatten.map cH) es st.n 0)) (.ps st.n 0 es b l):=by
 have d:Φ st.n=none:=by
  cases i:Φ st.n with
  |none=>rfl
  |some s=>exact absurd (o.S8 i) (YP _)
 have a:=tI (o:=.cells (l.flatten.map cH) es st.n 0) d;refine⟨o.UK,⟨a,fun _ _=>Z,YL _⟩,fun b=>?_⟩;obtain⟨h,f⟩:=c.d;exact So (by rw[kQ];exact if_pos rfl) h (fun n c p e=>(f n c p e).mono a) (.inl rfl)
theorem Aq:∀{a:Nat} {b:List V},b∈u7 u a->b=u:=by
 intro a;induction a with
 |zero=>intro b h;simp[u7]at h
 |succ a c=>
  intro b h;rcases Yy.1 h with rfl|h
  ·rfl
  ·exact c h
theorem Mb(ρ:Nat->Nat):∀(a:Nat),cx ρ (u7 u a).flatten=uv (cx ρ u) a:=by
 intro a;induction a with
 |zero=>rfl
 |succ a b=>simp only[u7,Yp,ga,b,uv]
theorem Ol:∀(a:Nat),(u7 u a).length=a:=by
 intro a;induction a with
 |zero=>rfl
 |succ a b=>simp[u7,b]
theorem Ei(ρ:Nat->Nat):∀(d:List (Nat×V)) (a c:List (List V)),jt Φ m A a->(∀s∈d,fJ Φ m s.2)->D2 A a d=some c->
  jt Φ m A c/\c.length=a.length/\po (fun p=>some (p*A,A)) (cx ρ a.flatten) (d.map fun s=>(s.1,erase ρ s.2))=some (cx ρ c.flatten):=by
 intro d;induction d with
 |nil=>intro a c o _ t;cases t;exact⟨o,rfl,rfl⟩
 |cons s d q=>
  intro a c o D t;obtain⟨p,v⟩:=s;unfold D2 at t;split at t
  ·rename_i x;simp only[Yw]at x;obtain⟨⟨U,K⟩,X⟩:=x;have h:=Ym U;have k:p<a.length:=Nat.le_of_ble_eq_true K;obtain⟨i,f⟩:∃i,a[p]?=some i:=⟨a[p],List.getElem?_eq_getElem k⟩;have C:=Yx f;have u:=o.len i C;have r:=tK (D _ (List.mem_cons_self ..));have l:jt Φ m A (a.set p (ef v)):=by
    refine⟨fun n b=>?_,fun n b=>?_,fun n b=>?_⟩
    ·rcases Yt b with b|rfl
     ·exact o.len n b
     ·exact h
    ·rcases Yt b with b|rfl
     ·exact o.ok n b
     ·exact r
    ·rcases Yt b with b|rfl
     ·exact o.cell n b
     ·exact Yu.1 X
   obtain⟨g,Y,j⟩:=q _ _ l (fun n b=>D n (by simp[b])) t;refine⟨g,by simpa using Y,?_⟩;have e:=GC o.len f (f:=0) (vs:=ef v) om;rw[QH om,YT]at e;simp only[Yn,po,lK,dk];have W:p*A+A<=a.flatten.length:=by have:=e.2;omega
   rw[h,YE,Yl W];simp only[YQ];rw[pF _ _ _ (by rw[dk,dk];exact e.2),ej,ej,<-zl,<-e.1,<-ej];exact j
  ·cases t
def iG(d:Op)(e:cU)(ρ:Nat->Nat)(n:Nat):Option (Value×gz):=
 match d,e with
 |.alloc _,.box a=>some (ptr n 0,.cells (cx ρ a) a.length n 0)
 |.box _ _,.box a=>some (ptr n 0,.cells (cx ρ a) a.length n 0)
 |.makeMap _ _,.map _ _=>some (.map (some n),.map [] 0)
 |.buildSlice _ b _,.row f c=>some (.slice (some ⟨n,0,none⟩) b b,.cells (cx ρ c.flatten) f n 0)
 |_,_=>none
def oP(Φ:Fz)(m:Nat)(e:Op)(f:cU):Prop:=
 match e,f with
 |.alloc _,.box a=>fB Φ m a/\∀h∈a,hA h=true
 |.box _ _,.box a=>fB Φ m a/\∀h∈a,hA h=true
 |.makeMap _ _,.map c i=>c=[]/\i=0
 |.buildSlice _ d _,.row c b=>jt Φ m c b/\b.length=d
 |_,_=>False
theorem pH(b:nJ Φ ρ m ev mf){o:Oper}{s:cU}(a:CV C ev o.op=some s):
  oP Φ m o.op s/\∀st:St,∃D A,iG o.op s ρ st.n=some (D,A)/\iX C mf o st=some (.val D (st.new A)):=by
 obtain⟨z,I,H,E,B,G⟩:=o;dsimp only at a;unfold CV at a;split at a
 ·rename_i J;split at a
  ·rename_i j e;split at a
   ·rename_i r c y;cases a;have d:r.length=j.size:=by rw[<-Ym y,<-dk ρ,jV ρ c]
    refine⟨q9 Φ m c,fun st=>⟨_,_,Z,?_⟩⟩;simp only[iX,uZ,e,jV ρ c,d];rfl
   ·cases a
  ·cases a
 ·rename_i M;split at a
  ·rename_i D f;split at a
   ·rename_i q;cases a;obtain⟨p,l⟩:=b _ _ f;refine⟨⟨tK l,Yu.1 q⟩,fun st=>⟨_,_,Z,?_⟩⟩;simp only[iX,p,It,lK,sQ q ρ,dk];rfl
   ·cases a
  ·cases a
 ·cases a;exact⟨⟨Z,Z⟩,fun st=>⟨_,_,Z,Z⟩⟩
 ·rename_i J k F;split at a
  ·rename_i L j g e;split at a
   ·rename_i w v;split at a
    ·rename_i X V;split at a
     ·rename_i r K c;split at a
      ·rename_i h n;cases a;obtain⟨p,l⟩:=Al b g;have i:=K;simp only[Yw]at i;have d:r.length=X.size:=by rw[<-Ym i.2,<-dk ρ,jV ρ c]
       have x:jt Φ m X.size (u7 r k):=⟨fun u b=>by rw[Aq b,d],fun u b=>by rw[Aq b];exact(q9 Φ m c).1,fun u b=>by rw[Aq b];exact(q9 Φ m c).2⟩;obtain⟨Y,U,W⟩:=Ei ρ L _ h x l n;rw[Ol]at U;refine⟨⟨Y,U⟩,fun st=>⟨_,_,Z,?_⟩⟩;rw[Mb,jV ρ c]at W;have t:(cx ρ h.flatten).all gn=true:=sQ (Yu.2 fun D f=>by
        obtain⟨u,b,f⟩:=List.mem_flatten.1 f;exact Y.cell u b D f) ρ
       simp only[iX,p,jP,e,v,V,K,W,t];rfl
      ·cases a
     ·cases a
    ·cases a
   ·cases a
  ·cases a
 ·cases a
theorem GF(s:Real Φ ρ σ st)(y:nJ Φ ρ σ.length ev mf){o:Oper}(c:Ob C r ev o.op σ q):Eg Φ ρ σ q (iX C mf o st):=by
 unfold Ob at c;split at c
 ·rename_i E D;obtain⟨b,x⟩:=pH y D;obtain⟨G,A,e,g⟩:=x st;rw[g];have v:=kP Φ ρ σ.length st.n;have f:jM ρ σ.length st.n σ.length=st.n:=if_pos rfl;split at c
  ·rename_i n;split at c
   ·rename_i u W;split at c
    ·rename_i z p;have l:mA o.op=true:=by rw[Yw]at n;exact n.2
     cases a:o.op with
     |buildSlice H X B=>
      rw[a]at e b;cases e;obtain⟨m,K⟩:=b;rw[gw p]at m;obtain⟨j,w,Y⟩:=s.KR m;have t:z.length=X:=by rw[<-K,gw p,Yo]
      have U:cx ρ W.flatten=z.flatten.map cH:=by rw[gw p,sR]
      refine⟨_,σ,_,ρ,st.new (.cells (z.flatten.map cH) u st.n 0),c st.n,w,j,.d (Y _),?_⟩;simp only[erase,cH,t,U]
     |_=>rw[a]at l;cases l
    ·exact c.elim
   ·exact c.elim
  ·have i:=kj c;clear c;obtain⟨F,h,k⟩:=cI i;clear i;have d:∀o:cU,(σ++[o]).length=σ.length+1:=fun o=>by simp
   refine⟨F,_,Φ,jM ρ σ.length st.n,st.new A,k,by rw[d];exact v,?_,?_,?_⟩;all_goals
    unfold iG at e;split at e
    ·rename_i a;rw[a]at h b;cases e;cases h;first
      |exact s.Eh b.1 b.2
      |exact .bp (by rw[d];omega)
      |(simp only[erase,f];rfl)
    ·rename_i a;rw[a]at h b;cases e;cases h;first
      |exact s.Eh b.1 b.2
      |exact .bp (by rw[d];omega)
      |(simp only[erase,f];rfl)
    ·rename_i a;rw[a]at h b;obtain⟨rfl,rfl⟩:=b;cases e;cases h;first
      |exact s.new trivial ⟨by rw[dH,if_pos rfl];rfl,fun _ s=>by simp at s⟩
      |exact .map (by rw[d];omega)
      |(simp only[erase,f])
    ·rename_i a;rw[a]at h b;cases e;cases h;first
      |exact s.newRow b.1
      |exact .ms (by rw[d];omega)
      |(simp only[erase,f,YD])
    ·cases e
 ·exact c.elim
end
section
variable{C:eD} {Φ:Fz} {ρ:Nat->Nat} {σ:VS} {st:St} {m:Nat} {ev:Operand->Option V} {mf:Operand->Option Value}
theorem KS{es:Nat}(d:jt Φ m es k)(c len:Nat):jt Φ m es ((k.drop c).take len):=
 ⟨fun b a=>d.len b (Yr (Yq a)),fun b a=>d.ok b (Yr (Yq a)),fun b a=>d.cell b (Yr (Yq a))⟩
theorem jt.append{es:Nat}{f b:List (List V)}(d:jt Φ m es f)(e:jt Φ m es b):jt Φ m es (f++b):=
 ⟨fun c a=>(YA.1 a).elim (d.len c) (e.len c),fun c a=>(YA.1 a).elim (d.ok c) (e.ok c),fun c a=>(YA.1 a).elim (d.cell c) (e.cell c)⟩
theorem GG{d:Type}{a:List (List d)}{es:Nat}(f:∀c∈a,c.length=es)(b len:Nat):(a.flatten.drop (b*es)).take (len*es)=((a.drop b).take len).flatten:=by
 rw[CY b f,CZ len fun c e=>f c (Yr e)]
theorem pI(i:Real Φ ρ σ st){d es:Nat}(c:σ[d]?=some (.row es k)):jt Φ σ.length es k/\∃h l,st.get (ρ d)=some (.cells (cx ρ k.flatten) es h l):=by
 obtain⟨⟨e,a,f,b⟩,_⟩:=i.obj d _ c rfl;exact⟨⟨a,f,b⟩,e⟩
theorem GH(h:Real Φ ρ σ st){f es:Nat}(d:σ[f]?=some (.row es k)){a len:Nat}(c:a+len<=k.length):
  gN st (ρ f) (a*es) (len*es)=some (cx ρ ((k.drop a).take len).flatten):=by
 obtain⟨b,i,l,e⟩:=pI h d;rw[jf e (by rw[dk,qy b.len,<-YV];exact YF _ c),<-oN,GG b.len]
theorem vf(e:List UInt8):jt Φ m 1 (e.map fun c=>[hK c]):=by
 refine⟨fun d b=>?_,fun d b f a=>?_,fun d b f a=>?_⟩;all_goals
  obtain⟨c,_,rfl⟩:=Ys.1 b
 ·rfl
 ·simp at a;subst a;exact .d (.int _ _)
 ·simp at a;subst a;rfl
theorem xM(ρ:Nat->Nat)(a:List UInt8):cx ρ (a.map fun c=>[hK c]).flatten=ofBytes a:=by
 induction a with
 |nil=>rfl
 |cons c a b=>
  simp only[Yn,Yp,List.cons_append,List.nil_append,cx,b,ofBytes];rfl
theorem Mc(n:Real Φ ρ σ st)(p:fJ Φ σ.length w){Y:List (List V)->Prop}(a:Od C R w σ Y):
  ∃h,Y h/\jt Φ σ.length R.size h/\p6 (erase ρ w)=some h.length/\ic st R.size h.length (erase ρ w)=some (cx ρ h.flatten):=by
 unfold Od at a;split at a
 ·exact⟨[],a,⟨fun _ n=>by simp at n,fun _ n=>by simp at n,fun _ n=>by simp at n⟩,rfl,rfl⟩
 ·rename_i B A q K i;obtain⟨rfl,a⟩:=a;cases p with
  |d p=>
  cases p with
  |ps U r X u j=>
   refine⟨_,a,⟨fun y b=>?_,fun y b z t=>?_,fun y b z t=>?_⟩,by simp[erase,cH,p6],?_⟩
   ·obtain⟨l,m,rfl⟩:=Ys.1 b;rw[Yo];exact r l m
   ·obtain⟨l,m,rfl⟩:=Ys.1 b;obtain⟨d,x,rfl⟩:=Ys.1 t;exact .d (j l m d x)
   ·obtain⟨l,m,rfl⟩:=Ys.1 b;obtain⟨d,x,rfl⟩:=Ys.1 t;rfl
   ·simp only[erase,cH,ic,Yo];rw[jf (n.fz _ _ U) X,u,sR]
 ·rename_i E q o e K;split at a
  ·rename_i v i c;rw[cz]at c;obtain⟨⟨rfl,rfl,k⟩,a⟩:=a;obtain⟨b,_⟩:=pI n c;have D:Y ((i.drop o).take e):=by
    split at a
    ·rename_i W;have:=Ym W;rw[YO,YC om];exact a
    ·exact a
   have f:((i.drop o).take e).length=e:=by rw[YI,YJ];omega
   refine⟨_,D,KS b o e,by simp only[erase,p6,f],?_⟩;simp only[erase,ic,f];exact GH n c k
  ·exact a.elim
 ·rename_i s;obtain⟨g,a⟩:=a;refine⟨_,a,by rw[g];exact vf s,by simp[erase,cH,p6],?_⟩;simp only[erase,cH,ic,Yo,xM];rw[List.take_length]
 ·exact a.elim
theorem jg(a:Nat)(o:cU):(σ.set a o).length=σ.length:=List.length_set
theorem B5(t:Real Φ ρ σ st)(ah:fB Φ σ.length u)(a:D7 C r F u σ q):
  Eg Φ ρ σ q (nW C F (cx ρ u) st):=by
 unfold D7 at a;split at a
 ·rename_i F av s aH;have af:=ah s sm;have ao:=ah aH sm;split at a
  ·rename_i aJ aD am R;split at a
   ·exact a.elim
   ·rename_i au T aC;split at a
    ·rename_i b ag;split at a
     ·exact a.elim
     ·rename_i M;obtain⟨xs,J,p,ap,ay⟩:=Mc t ao a;clear a;have a:=J;clear J;have Y:=M;simp only[Yw]at Y;have aj:(cx ρ xs.flatten).all gn=true:=sQ (Yu.2 fun aP S=>by
       obtain⟨P,v,S⟩:=List.mem_flatten.1 S;exact p.cell P v aP S) ρ
      have ac:(cx ρ xs.flatten).length=xs.length*b.size:=by rw[dk,qy p.len]
      have k:∀x len d,erase ρ s=.slice x len d->(len+xs.length)*b.bytes<=eE->len+xs.length<=eE->
        nW C [F,av] (cx ρ [s,aH]) st=gv st b.size x len d xs.length (cx ρ xs.flatten):=by
       intro x len d E H j;have Q:(YG 0 b.size&&YB (cx ρ xs.flatten).length (xs.length*b.size)&&(cx ρ xs.flatten).all gn&&Yz ((len+xs.length)*b.bytes) eE&&Yz (len+xs.length) eE&&YB b.zero.length b.size)=true:=by
        rw[Y.1,ac,YE,aj,Yl H,Yl j,Y.2];rfl
       simp only[nW,cx,am,R,E,T,ag,ap,ay,Q]
      have w:Φ st.n=none:=by
       cases M:Φ st.n with
       |none=>rfl
       |some o=>exact absurd (t.S8 M) (YP _)
      split at a
      ·obtain⟨⟨H,j⟩,a⟩:=a;rw[k none 0 0 rfl (by simpa using H) (by simpa using j)];cases l:YB xs.length 0 with
       |true=>
        rw[l]at a;have m:=Ym l;refine⟨_,σ,Φ,ρ,st,a,.refl _ _ _,t,.d .cC,?_⟩;simp only[gv,m];rfl
       |false=>
        rw[l]at a;have m:Yz (0+xs.length) 0=false:=by
         rw[KP];refine decide_eq_false fun aO=>?_;have:xs.length=0:=om;rw[this]at l;cases l
        have D:gv st b.size none 0 0 xs.length (cx ρ xs.flatten)=some (.val (.slice (some ⟨st.n,0,none⟩) xs.length xs.length) (st.new (.cells (cx ρ xs.flatten) b.size st.n 0))):=by
         simp only[gv,m];rfl
        rw[D];simp only[hT]at a;cases r with
        |true=>
         obtain⟨an,i,a⟩:=cI a;have z:=p;rw[gw i]at z;obtain⟨U,az,aw⟩:=t.KR z;have y:xs.length=an.length:=by rw[gw i,Yo]
         have ae:cx ρ xs.flatten=an.flatten.map cH:=by rw[gw i,sR]
         exact⟨_,σ,_,ρ,_,a st.n,az,U,.d (aw _),by simp only[erase,cH,y,ae]⟩
        |false=>
         have K:=kj a;have f:(σ++[cU.row b.size xs]).length=σ.length+1:=by simp
         refine⟨_,_,Φ,_,_,K,by rw[f];exact kP Φ ρ σ.length st.n,t.newRow p,.ms (by rw[f];omega),?_⟩;simp only[erase,YD];rw[show jM ρ σ.length st.n σ.length=st.n from if_pos rfl]
      ·rename_i L E e len d;split at a
       ·rename_i aE els c;rw[cz]at c;obtain⟨⟨rfl,rfl,O,aL,ar,aA⟩,a⟩:=a;rw[k (some ⟨ρ L,e*b.size,none⟩) len d rfl ar aA];obtain⟨N,aa,ab,A⟩:=pI t c;cases l:YB xs.length 0 with
        |true=>
         rw[l]at a;have m:=Ym l;have ad:xs=[]:=List.length_eq_zero_iff.1 m;subst ad;refine⟨_,σ,Φ,ρ,st,a,.refl _ _ _,t,af,?_⟩;have:Yz (len+0) d=true:=Yl om;simp only[gv,List.length_nil,this,List.flatten_nil,cx];rfl
        |false=>
         rw[l]at a;simp only[hT]at a;cases g:Yz (len+xs.length) d with
         |true=>rw[g]at a;exact a.elim
         |false=>
          rw[g]at a;simp only at a;obtain⟨aM,a⟩:=kl _ _ _ _ a;have ai:=GH t c O;have D:gv st b.size (some ⟨ρ L,e*b.size,none⟩) len d xs.length (cx ρ xs.flatten)=
            some (.val (.slice (some ⟨st.n,0,none⟩) (len+xs.length) (len+xs.length)) (grown st b.size aa ab (ρ L) (e*b.size) len xs.length (cx ρ els.flatten) (cx ρ ((els.drop e).take len).flatten) (cx ρ xs.flatten))):=by
           simp only[gv,g,A,YE,ai];rfl
          rw[D];obtain⟨al,ak,aB⟩:=t.grow (o:=e*b.size) (len:=len) (n:=xs.length) (old:=cx ρ ((els.drop e).take len).flatten) (xs:=cx ρ xs.flatten) c A;have h:=KS N e len|>.append p;have X:=kh (st:=st) (es:=b.size) (en:=aa) (fo:=ab) (b:=ρ L) (o:=e*b.size) (len:=len) (n:=xs.length) (c:=cx ρ els.flatten) (old:=cx ρ ((els.drop e).take len).flatten) (xs:=cx ρ xs.flatten) st.n;rw[if_pos rfl,<-ga,<-List.flatten_append]at X;have I:∀ax o,(σ.set L .gone)[ax]?=some o->live o=true->ρ ax≠st.n:=fun ax o aq i=>Nat.ne_of_lt (t.lt (oM c aq i).2 i);have G:((els.drop e).take len++xs).length=len+xs.length:=by
           rw[YH,YI,YJ];omega
          cases r with
          |true=>
           obtain⟨an,i,a⟩:=cI a;have W:=tI (o:=gz.cells (cx ρ ((els.drop e).take len++xs).flatten) b.size aa (ab+e*b.size)) w;have U:=al.Oh X w I ak (fun aT aN aQ aK B=>t.mB c rfl A (t.fz _ _ B) (fun P=>by rw[P,(t.obj L _ c rfl).2]at B;cases B) (.inl (by rw[B];simp)) rfl);have y:an.length=len+xs.length:=by rw[<-G,gw i,Yo]
           rw[gw i]at h;obtain⟨d1,d2⟩:=h.d;refine⟨_,_,_,ρ,_,a st.n,⟨W,fun _ _=>Z,by rw[jg];exact YL _⟩,U,.d (So (f:=aa) (p:=ab+e*b.size) ?_ d1 (fun P v aI T=>(d2 P v aI T).mono W) (.inl rfl)),by simp only[erase,cH,y]⟩;rw[<-sR ρ,<-gw i,kQ];exact if_pos Z
          |false=>
           have K:=kj a;have f:((σ.set L .gone)++[cU.row b.size ((els.drop e).take len++xs)]).length=σ.length+1:=by simp
           have U:=al.Oi (els:=(els.drop e).take len++xs) X w I ak aB (t.I9 L _ _ _ _ _ _ c A) h.len (fun P v=>by rw[jg];exact h.ok P v) h.cell;rw[jg]at U K;refine⟨_,_,Φ,_,_,K,by rw[f];exact kP Φ ρ σ.length st.n,U,.ms (by rw[f];omega),?_⟩;simp only[erase,YD];rw[show jM ρ σ.length st.n σ.length=st.n from if_pos rfl]
       ·exact a.elim
      ·rename_i aF o E d els;obtain⟨⟨H,rfl,j,O⟩,a⟩:=a;rw[k (some ⟨aF,o,none⟩) els.length d rfl (by simpa using j) (by simpa using O)];refine⟨_,σ,Φ,ρ,st,a,.refl _ _ _,t,af,?_⟩;have:Yz (els.length+0) d=true:=Yl om;simp only[gv,List.length_nil,this,List.flatten_nil,cx];rfl
      ·exact a.elim
    ·exact a.elim
   ·exact a.elim
  ·exact a.elim
 ·exact a.elim
theorem Ej(Y:Real Φ ρ σ st){b U:TypeId}(a:I5 C r b U w σ q):Eg Φ ρ σ q (ib C b U (erase ρ w) st):=by
 unfold I5 at a;split at a
 ·rename_i k j t n;split at a
  ·rename_i D s o h;split at a
   ·rename_i g l;split at a
    ·rename_i W;have f:ib C b U (erase ρ (.d (.str s))) st=some (.val (.slice (some ⟨st.n,0,none⟩) s.length s.length) (st.new (.cells (ofBytes s) 1 st.n 0))):=by
      simp only[ib,t,n,o,h,erase,cH,l,W];rfl
     rw[f];cases r with
     |true=>
      have x:jt Φ 0 1 ((s.map fun e=>[uR e]).map fun D=>D.map V.d):=by
       have:((s.map fun e=>[uR e]).map fun D=>D.map V.d)=s.map fun e=>[hK e]:=by
        rw[List.map_map];rfl
       rw[this];exact vf s
      obtain⟨d,X,K⟩:=Y.KR x;have p:ofBytes s=(s.map fun e=>[uR e]).flatten.map cH:=by rw[<-xM ρ,GB]
      exact⟨_,σ,_,ρ,_,a st.n,X,d,.d (K _),by simp only[erase,cH,p,Yo]⟩
     |false=>
      have i:=kj a;have c:(σ++[cU.row 1 (s.map fun e=>[hK e])]).length=σ.length+1:=by simp
      have d:=Y.newRow (vf (Φ:=Φ) (m:=σ.length) s);rw[xM]at d;refine⟨_,_,Φ,_,_,i,by rw[c];exact kP Φ ρ σ.length st.n,d,.ms (by rw[c];omega),?_⟩;simp only[erase,YD];rw[show jM ρ σ.length st.n σ.length=st.n from if_pos rfl]
    ·exact a.elim
   ·exact a.elim
  ·exact a.elim
 ·exact a.elim
inductive Sp (Φ:Fz) (ρ:Nat->Nat) (σ:VS) (st:St) (K:VR->Prop) (r:Option AR):Prop
 |val (h:Eg Φ ρ σ (fun v ra=>K (.val v ra)) r)
 |fO (v:V) (hk:K (.fO v)) (hv:fJ Φ σ.length v) (hr:r=some (.fO (erase ρ v) st))
 |enter (f:FuncId) (args:List V) (hk:K (.enter f args)) (hv:fB Φ σ.length args) (hr:r=some (.enter f (cx ρ args)))
 |yield (l:Nat) (args:List V) (hk:K (.yield l args)) (hl:l<σ.length) (hv:fB Φ σ.length args) (hr:r=some (.yield (ρ l) (cx ρ args)))
 |recover (hk:K .recover) (hr:r=some .recover)
 |defer (d:gd) (hk:K (.defer d)) (hv:Gu Φ σ.length d) (hr:r=some (.defer (je ρ d)))
theorem fB.append{e b:List V}(c:fB Φ m e)(d:fB Φ m b):fB Φ m (e++b):=fun f a=>(YA.1 a).elim (c f) (d f)
theorem Md(u:Real Φ ρ σ st)(f:nJ Φ ρ σ.length ev mf){o:Oper}{K:VR->Prop}(b:Wo C r ev o.op σ K):Sp Φ ρ σ st K (iX C mf o st):=by
 have p:∀{o:Oper},Ah C ev o.op σ (fun g=>K (.val g σ))->Sp Φ ρ σ st K (iX C mf o st):=by
  intro o M;obtain⟨g,e,a,c⟩:=mD u f M;exact .val ⟨g,σ,Φ,ρ,st,e,.refl _ _ _,u,a,c⟩
 obtain⟨dst,op,G,pos,w,F⟩:=o;dsimp only at b;unfold Wo at b;split at b
 ·obtain⟨g,e,a⟩:=cI b;obtain⟨c,h⟩:=f _ _ e;exact .val ⟨g,σ,Φ,ρ,st,a,.refl _ _ _,u,h,by simp only[iX,c];rfl⟩
 ·obtain⟨T,e,a⟩:=cI b;obtain⟨E,l,a⟩:=cI a;obtain⟨c,h⟩:=f _ _ e;obtain⟨n,i⟩:=f _ _ l;obtain⟨x,t,j,H,k,q,_⟩:=hC u h i a;exact .val ⟨_,x,Φ,ρ,t,j,⟨Fz.le_refl _,fun _ _=>Z,om⟩,k,tM,by simp only[iX,c,n];rw[q];rfl⟩
 ·obtain⟨m,e,a⟩:=cI b;obtain⟨E,l,a⟩:=cI a;obtain⟨g,D,a⟩:=cI a;obtain⟨c,h⟩:=f _ _ e;obtain⟨n,i⟩:=f _ _ l;obtain⟨V,W⟩:=f _ _ D;obtain⟨x,t,j,H,k,q⟩:=qz u i W a;exact .val ⟨_,x,Φ,ρ,t,j,⟨Fz.le_refl _,fun _ _=>Z,om⟩,k,tM,by simp only[iX,c,n,V];rw[q];rfl⟩
 ·obtain⟨m,e,a⟩:=cI b;obtain⟨E,l,a⟩:=cI a;obtain⟨g,D,a⟩:=cI a;obtain⟨c,h⟩:=f _ _ e;obtain⟨n,i⟩:=f _ _ l;obtain⟨V,W⟩:=f _ _ D;obtain⟨x,t,j,H,k,q⟩:=qz u i W a;exact .val ⟨_,x,Φ,ρ,t,j,⟨Fz.le_refl _,fun _ _=>Z,om⟩,k,tM,by simp only[iX,c,n,V];rw[q];rfl⟩
 ·rename_i J;split at b
  ·rename_i R X;obtain⟨d,e,a⟩:=cI b;obtain⟨g,l,a⟩:=cI a;obtain⟨c,h⟩:=mC f e;obtain⟨n,i⟩:=f _ _ l;have U:iX C mf {dst:=dst,op:=.call J,type:=G,pos:=pos,after:=w,guard:=F} st=kZ C (erase ρ g) (cx ρ d) st:=by simp only[iX,c,X,n]
   rw[U];unfold Ag at a;split at a
   ·rename_i I first s
    cases i with
    |fn A B=>
    have z:fB Φ σ.length (first++d++s):=(fB.append A h).append B;unfold KM at a;cases Y:C.ff.get I with
    |some S=>
     rw[Y]at a;have a:K (.enter I (first++d++s)):=a;refine .enter I _ a z ?_;simp only[erase,kZ,Y,ga]
    |none=>
     rw[Y]at a;simp only[Option.isSome_none,hT]at a;split at a
     ·rename_i Q y;obtain⟨E,O,N,a⟩:=a;have v:cx ρ first++cx ρ d++cx ρ s=Q.map cH:=by rw[<-ga,<-ga,n4 y,nh]
      have L:vb Φ E:=by cases E<;>first|(cases N;done)|constructor
      exact .val ⟨_,σ,Φ,ρ,st,a,.refl _ _ _,u,.d L,by simp only[erase,kZ,Y,v,O];rfl⟩
     ·exact a.elim
   ·rename_i Q;cases i with
    |so y=>exact .yield Q d a y h (by simp only[erase,kZ])
   ·exact a.elim
  ·rename_i X;obtain⟨d,e,a⟩:=cI b;obtain⟨c,h⟩:=mC f e;have U:iX C mf {dst:=dst,op:=.call J,type:=G,pos:=pos,after:=w,guard:=F} st=nW C J.argTypes.toList (cx ρ d) st:=by simp only[iX,c,X,jp]
   rw[U];exact .val (B5 u h a)
  ·rename_i X;obtain⟨d,e,a⟩:=cI b;obtain⟨c,h⟩:=mC f e;exact .recover a (by simp only[iX,c,X,jp])
  ·exact p b
 ·rename_i J;obtain⟨d,e,a⟩:=cI b;obtain⟨c,h⟩:=mC f e;split at a
  ·rename_i R X;obtain⟨g,l,a⟩:=cI a;obtain⟨n,i⟩:=f _ _ l;unfold Of at a;split at a
   ·rename_i I first s
    cases i with
    |fn A B=>exact .defer _ a ⟨B,fB.append A h⟩ (by simp only[iX,c,X,n,erase,zL,je,ga])
   ·exact a.elim
  ·exact a.elim
 ·split at b
  ·rename_i aa g P;obtain⟨c,h⟩:=f _ _ P;exact .fO _ b h (by simp only[iX,c,erase])
  ·exact b.elim
 ·split at b
  ·obtain⟨g,e,a⟩:=cI b;obtain⟨c,h⟩:=f _ _ e;refine .val ?_;have:=Ej (C:=C) (ρ:=ρ) u a;simpa only[iX,c]using this
  ·exact p b
 ·split at b
  ·exact .val (GF u f b)
  ·exact p b
end
structure NG (rc zm:Rec):Prop where
 code:∀fc c fr ps st r,rc.code fc c fr ps st=some r->zm.code fc c fr ps st=some r
 call:∀f args BG ps st r,rc.call f args BG ps st=some r->zm.call f args BG ps st=some r
 round:∀l args st r,rc.round l args st=some r->zm.round l args st=some r
variable{E:eT} {y:Fr} {Q:yf} {I:FC} {j:List Oper} {v:Ex×Fr×eT×St} {z:CR×eT×St} {J:List Value}
section
variable{C:eD} {rc zm:Rec} {cO:FuncId->List Value->Option Value}
theorem Jg(e:NG rc zm){o:Oper}{st:St}(c:lF C rc I o y E st=some Q):lF C zm I o y E st=some Q:=by
 unfold lF at c⊢;cases d:iX C (jq y) o st with
 |none=>rw[d]at c;cases c
 |some i=>
  rw[d]at c;cases i with
  |enter f a=>
   simp only at c⊢;cases b:rc.call f a false .none st with
   |none=>rw[b]at c;cases c
   |some h=>rw[b]at c;rw[e.call _ _ _ _ _ _ b];exact c
  |yield l a=>
   simp only at c⊢;cases b:rc.round l a st with
   |none=>rw[b]at c;cases c
   |some h=>rw[b]at c;rw[e.round _ _ _ _ b];exact c
  |_=>exact c
theorem pJ(c:NG rc zm){o:Oper}{st:St}(a:jQ C rc I j o y E st=some Q):jQ C zm I j o y E st=some Q:=by
 unfold jQ at a⊢;cases b:hq j y o with
 |none=>rw[b]at a;cases a
 |some d=>
  rw[b]at a;cases d with
  |true=>exact Jg c a
  |false=>exact a
theorem ys(l:NG rc zm):∀(e:List Oper) {b:Fr} {a:eT} {st:St} {f:Ex×Fr×eT×St},oC C rc I j e b a st=some f->oC C zm I j e b a st=some f:=by
 intro e;induction e with
 |nil=>intro b a st f c;exact c
 |cons m e h=>
  intro b a st f c;unfold oC at c⊢;cases d:jQ C rc I j m b a st with
  |none=>rw[d]at c;cases c
  |some i=>
   rw[d]at c;rw[pJ l d];cases i with
   |next b a st=>exact h c
   |fO n b a st=>exact c
theorem wi(k:NG rc zm){p:List Nat}:∀(x:List Nat) {K:Nat} {b:List sf} {e:Fr} {d:eT} {st:St} {D:Ex×Fr×eT×St},fy C rc I j p x K b e d st=some D->fy C zm I j p x K b e d st=some D:=by
 intro x;induction x with
 |nil=>intro K b e d st D a;exact a
 |cons q x f=>
  intro K b e d st D a;unfold fy at a⊢;split at a
  ·rename_i W g m l;split at a
   ·rename_i i;split at a
    ·cases a
    ·rename_i h;cases c:jQ C rc I j W e d st with
     |none=>rw[c]at a;cases a
     |some X=>
      rw[c]at a;simp only[m,l,i,h,pJ k c];cases X with
      |next e d st=>exact f a
      |fO V e d st=>exact a
   ·rename_i i;split at a
    ·cases a
    ·rename_i h;split at a
     ·rename_i s c;first|exact f a|(simp only[m,l,i,h,c];exact f a)
     ·cases a
    ·rename_i h;split at a
     ·rename_i V U c;split at a
      ·cases a
      ·rename_i s t;split at a
       ·rename_i n;split at a
        ·rename_i Y o;first|exact f a|(simp only[m,l,i,h,c,t,n,o];exact f a)
        ·cases a
       ·rename_i n;split at a
        ·rename_i o;first|exact f a|(simp only[m,l,i,h,c,t,n,o];exact f a)
        ·cases a
     ·cases a
  ·cases a
theorem GI(d:NG rc zm){a:Array Oper}{st:St}(c:region C rc I a r y E st=some v):region C zm I a r y E st=some v:=by
 unfold region at c⊢;cases r with
 |false=>exact ys d _ c
 |true=>
  simp only at c⊢;cases b:fy C rc I a.toList (qs a.toList).bs (qs a.toList).order 0 [] y E st with
  |none=>rw[b]at c;cases c
  |some e=>rw[b]at c;rw[wi d _ b];exact c
theorem gO(W:NG rc zm):∀(D:Code) {d:Fr} {b:eT} {st:St} {i:Ex×Fr×eT×St},code C rc I D d b st=some i->code C zm I D d b st=some i:=by
 intro D;induction D with
 |region id Y V=>intro d b st i a;exact GI W a
 |seq X t e h=>
  intro d b st i a;unfold code at a⊢;cases c:code C rc I X d b st with
  |none=>rw[c]at a;cases a
  |some l=>
   rw[c]at a;rw[e c];obtain⟨l,m,x,f⟩:=l;cases l with
   |norm=>exact h a
   |_=>exact a
 |cond D X t e h=>
  intro d b st i a;unfold code at a⊢;split at a
  ·exact e a
  ·exact h a
  ·cases a
 |block id t p=>
  intro d b st i a;unfold code at a⊢;cases c:code C rc I t d b st with
  |none=>rw[c]at a;cases a
  |some l=>rw[c]at a;rw[p c];exact a
 |loop t p=>
  intro d b st i a;unfold code at a⊢;cases c:code C rc I t d b st with
  |none=>rw[c]at a;cases a
  |some l=>
   rw[c]at a;rw[p c];obtain⟨l,m,x,f⟩:=l;cases l with
   |norm=>exact W.code _ _ _ _ _ _ a
   |_=>exact a
 |rangeFunc u K s U=>
  intro d b st i a;unfold code at a⊢;split at a
  ·rename_i j first o r m f c g
   split at a
   ·cases a
   ·rename_i q k;cases n:rc.call j (first.toList++[.func (.yield r) #[] #[]]++o.toList) false .none f with
    |none=>rw[n]at a;cases a
    |some l=>rw[n]at a;rw[W.call _ _ _ _ _ _ n];exact a
  ·cases a
 |_=>intro d b st i a;exact a
theorem wj(n:NG rc zm):∀(c:List Deferred) {m:AM.Mode} {st:St} {d:AM.Mode×St},kg C rc c m st=some d->kg C zm c m st=some d:=by
 intro c;induction c with
 |nil=>intro m st d a;exact a
 |cons p c b=>
  intro m st d a;unfold kg at a⊢;split at a
  ·split at a
   ·exact b a
   ·cases a
  ·rename_i s f _;split at a
   ·rename_i o t l i h e;rw[h,n.call _ _ _ _ _ _ e];exact b a
   ·cases a
  ·cases a
theorem pK(d:NG rc zm){c:FI}{m:AM.Mode}{st:St}(b:finish C rc c m y E st=some z):finish C zm c m y E st=some z:=by
 unfold finish at b⊢;cases a:kg C rc y.df m st with
 |none=>rw[a]at b;cases b
 |some e=>rw[a]at b;rw[wj d _ a];exact b
theorem Jh(d:NG rc zm){f:FuncId}{st:St}(a:vL C rc f J r E st=some z):vL C zm f J r E st=some z:=by
 unfold vL at a⊢;split at a
 ·cases a
 ·rename_i c n;split at a
  ·cases a
  ·rename_i m;cases b:code C rc ⟨f,c.nt,none,r⟩ c.body ⟨e9 0 J .nil,[]⟩ E st with
   |none=>rw[b]at a;cases a
   |some e=>
    rw[b]at a;rw[gO d _ b];obtain⟨e,h,l,i⟩:=e;cases e with
    |norm=>exact pK d a
    |ret=>exact pK d a
    |panic o=>exact pK d a
    |exit id=>cases a
theorem GJ(p:NG rc zm){l:Nat}{st:St}{n:CR×St}(a:sA C rc l J st=some n):sA C zm l J st=some n:=by
 unfold sA at a⊢;split at a
 ·rename_i b t;split at a
  ·cases a
  ·cases a
  ·rename_i K m D s;simp only at a⊢;cases d:code C rc ⟨b.fn,b.nt,some l,false⟩ b.assign ⟨m,[]⟩ .none st with
   |none=>rw[d]at a;cases a
   |some i=>
    rw[d]at a;rw[gO p _ d];obtain⟨i,f,o,e⟩:=i;cases i with
    |norm=>
     simp only at a⊢;split at a
     ·rename_i h x;split at a
      ·cases c:code C rc ⟨b.fn,b.nt,some l,false⟩ b.body f .none (e.put l (.loop {h with state:=.busy}))with
       |none=>rw[c]at a;cases a
       |some U=>rw[c]at a;rw[gO p _ c];exact a
      ·cases a
     ·cases a
    |_=>exact a
 ·cases a
theorem Me:∀d,NG (jr C cO d) (jr C cO (d+1)):=by
 intro d;induction d with
 |zero=>exact⟨fun _ _ _ _ _ _ a=>(by cases a),fun _ _ _ _ _ _ a=>(by cases a),fun _ _ _ _ a=>(by cases a)⟩
 |succ d b=>
  refine⟨fun i l m e st f a=>gO b l a,fun n c h e st f a=>?_,fun o c st f a=>GJ b a⟩;simp only[jr]at a⊢;split at a
  ·exact a
  ·exact Jh b a
theorem gP{n m:Nat}(c:n<=m):NG (jr C cO n) (jr C cO m):=by
 induction c with
 |refl=>exact⟨fun _ _ _ _ _ _ a=>a,fun _ _ _ _ _ _ a=>a,fun _ _ _ _ a=>a⟩
 |step _ b=>
  have:=Me (C:=C) (cO:=cO) ‹_›;exact⟨fun _ _ _ _ _ _ a=>this.code _ _ _ _ _ _ (b.code _ _ _ _ _ _ a),fun _ _ _ _ _ _ a=>this.call _ _ _ _ _ _ (b.call _ _ _ _ _ _ a),fun _ _ _ _ a=>this.round _ _ _ _ (b.round _ _ _ _ a)⟩
end
abbrev Tm:=List (Nat×V)
def e3(ρ:Nat->Nat):cZ->CR
 |.ret a=>.ret (erase ρ a)
 |.fO a=>.fO (erase ρ a)
def B6(Φ:Fz)(m:Nat):cZ->Prop
 |.ret a=>fJ Φ m a
 |.fO a=>fJ Φ m a
def dj(ρ:Nat->Nat):mg->eT
 |.none=>.none
 |.gu a=>.gu (erase ρ a)
 |.qn=>.qn
def yV(Φ:Fz)(m:Nat):mg->Prop
 |.none=>True
 |.gu a=>fJ Φ m a
 |.qn=>True
def ey(ρ:Nat->Nat):Ab->Ex
 |.norm=>.norm
 |.exit id=>.exit id
 |.ret=>.ret
 |.panic a=>.panic (erase ρ a)
def Mf(Φ:Fz)(m:Nat):Ab->Prop
 |.panic a=>fJ Φ m a
 |_=>True
def ez(ρ:Nat->Nat)(a:uw):FC:=⟨a.fn,a.nt,a.round.map ρ,a.BG⟩
def vg(m:Nat)(a:uw):Prop:=(∀b,a.round=some b->b<a.fl)/\a.fl<=m
structure b3 (C:eD) (cO:FuncId->List Value->Option Value) (f:FuncId) (args:List V) (σ:VS) (K:cZ->VS->Prop):Prop where
 go:∀Φ ρ st,Real Φ ρ σ st->fB Φ σ.length args->∃n r ps' eB dE dx ra,(jr C cO n).call f (cx ρ args) false .none st=some (e3 dx r,ps',eB)/\
  iC Φ ρ σ.length dE dx ra.length/\Real dE dx ra eB/\B6 dE ra.length r/\K r ra
structure xN (C:eD) (cO:FuncId->List Value->Option Value) (f:FuncId) (args:List V) (ps:mg) (σ:VS) (K:cZ->mg->VS->Prop):Prop where
 go:∀Φ ρ st,Real Φ ρ σ st->fB Φ σ.length args->yV Φ σ.length ps->∃n r ps' eB dE dx ra,(jr C cO n).call f (cx ρ args) true (dj ρ ps) st=some (e3 dx r,dj dx ps',eB)/\
  iC Φ ρ σ.length dE dx ra.length/\Real dE dx ra eB/\B6 dE ra.length r/\yV dE ra.length ps'/\K r ps' ra
structure h7 (C:eD) (cO:FuncId->List Value->Option Value) (l:Nat) (args:List V) (σ:VS) (K:cZ->VS->Prop):Prop where
 go:∀Φ ρ st,Real Φ ρ σ st->fB Φ σ.length args->l<σ.length->∃n r eB dE dx ra,(jr C cO n).round (ρ l) (cx ρ args) st=some (e3 dx r,eB)/\
  iC Φ ρ σ.length dE dx ra.length/\Real dE dx ra eB/\B6 dE ra.length r/\K r ra
structure b5 (C:eD) (cO:FuncId->List Value->Option Value) (fc:uw) (c:Code) (tm:Tm) (df:List gd) (ps:mg) (σ:VS) (Q:Ab->Tm->List gd->mg->VS->Prop):Prop where
 go:∀Φ ρ st fr,Real Φ ρ σ st->hL Φ ρ σ.length tm fr.tm->Ai Φ ρ σ.length df fr.df->yV Φ σ.length ps->vg σ.length fc->
  ∃n x fr' Xq Xr ps' eB dE dx ra,code C (jr C cO n) (ez ρ fc) c fr (dj ρ ps) st=some (ey dx x,fr',dj dx ps',eB)/\
   iC Φ ρ fc.fl dE dx ra.length/\Real dE dx ra eB/\hL dE dx ra.length Xq fr'.tm/\Ai dE dx ra.length Xr fr'.df/\yV dE ra.length ps'/\Mf dE ra.length x/\Q x Xq Xr ps' ra
inductive Ur where
 |next (tm:Tm) (df:List gd) (ps:mg) (σ:VS)
 |fO (v:V) (tm:Tm) (df:List gd) (ps:mg) (σ:VS)
def KT(c:Nat)(b:Tm)(a:Option Tmp)(f:V)(e:Tm->Prop):Prop:=
 match a with
 |none=>e b
 |some d=>match YG d c with
  |true=>e ((d,f)::b)
  |false=>False
def Wq(b:uw)(a:Option Tmp):Bool:=
 match a with
 |some c=>b.fz c
 |none=>false
def Ji(C:eD)(cO:FuncId->List Value->Option Value)(c:uw)(o:Oper)(a:Tm)(d:List gd)(e:mg)(σ:VS)(K:Ur->Prop):Prop:=
 Wo C (Wq c o.dst) (CU a) o.op σ fun i=>match i with
  |.val h b=>KT c.nt a o.dst h fun a=>K (.next a d e b)
  |.fO h=>K (.fO h a d e σ)
  |.enter m f=>b3 C cO m f σ fun i b=>match i with
   |.ret h=>KT c.nt a o.dst h fun a=>K (.next a d e b)
   |.fO h=>K (.fO h a d e b)
  |.yield n f=>h7 C cO n f σ fun i b=>match i with
   |.ret h=>KT c.nt a o.dst h fun a=>K (.next a d e b)
   |.fO h=>K (.fO h a d e b)
  |.recover=>match c.round with
   |some _=>False
   |none=>match c.BG,e with
    |true,.gu h=>KT c.nt a o.dst h fun a=>K (.next a d .qn σ)
    |_,_=>KT c.nt a o.dst (.d .wa) fun a=>K (.next a d e σ)
  |.defer l=>match c.round with
   |some _=>False
   |none=>KT c.nt a o.dst (.dN []) fun a=>K (.next a (l::d) e σ)
def yt(d:List Oper)(e:Tm)(o:Oper)(c a:Prop):Prop:=
 match o.guard with
 |none=>c
 |some (l,b)=>match nth d l with
  |none=>False
  |some f=>match f.dst with
   |none=>False
   |some i=>match gf e i with
    |some (.d (.bool h))=>(match b with
     |true=>hT c a h
     |false=>hT a c h)
    |some (.dN _)=>a
    |_=>False
def zn(C:eD)(cO:FuncId->List Value->Option Value)(e:uw)(d:List Oper)(o:Oper)(a:Tm)(b:List gd)(c:mg)(σ:VS)(K:Ur->Prop):Prop:=
 yt d a o (Ji C cO e o a b c σ K) (KT e.nt a o.dst (.dN []) fun a=>K (.next a b c σ))
abbrev VQ:=Ab->Tm->List gd->mg->VS->Prop
abbrev VK:=Tm->List gd->mg->VS->VQ->Prop
def Ar(C:eD)(cO:FuncId->List Value->Option Value)(e:uw)(d:List Oper)(o:Oper)(i:VK):VK:=
 fun c a b σ f=>zn C cO e d o c a b σ fun h=>match h with
  |.next c a b σ=>i c a b σ f
  |.fO l c a b σ=>f (.panic l) c a b σ
noncomputable def zo(C:eD)(cO:FuncId->List Value->Option Value)(h:uw)(a:List Oper)(l:List Oper):VK:=
 List.rec (motive:=fun _=>VK) (fun e c d σ i=>i .norm e c d σ) (fun m _ f=>Ar C cO h a m f) l
theorem Ek(C:eD)(cO:FuncId->List Value->Option Value)(b:uw)(a:List Oper)(o:Oper)(l:List Oper):zo C cO b a (o::l)=Ar C cO b a o (zo C cO b a l):=rfl
inductive lL where
 |val (i:Nat) (v:V)
 |obj (i:Nat) (v:V) (ob:cU) (j:Option Nat)
 |skip (i:Nat)
 |fresh (i:Nat) (v:V) (ob:cU) (j:Nat)
 |never (i:Nat)
def lL.idx:lL->Nat
 |.val a _=>a
 |.obj a _ _ _=>a
 |.skip a=>a
 |.fresh a _ _ _=>a
 |.never a=>a
def El:lL->lL
 |.fresh a _ _ _=>.never a
 |c=>c
noncomputable def wk(l:List lL):List lL:=List.rec (motive:=fun _=>List lL) [] (fun c _ b=>El c::b) l
theorem B7(c:lL)(l:List lL):wk (c::l)=El c::wk l:=rfl
def Mg(b:Tm)(a:Option Tmp)(d:V):Prop:=
 match a with
 |none=>True
 |some c=>gf b c=some d
def tN(C:eD)(a:List Oper)(b:Tm)(σ:VS):lL->Prop
 |.val e f=>match nth a e with
  |some c=>yt a b c (Mg b c.dst f/\Ah C (CU b) c.op σ fun i=>i=f) False
  |none=>False
 |.obj e f d h=>match nth a e with
  |some c=>yt a b c (Mg b c.dst f/\CV C (CU b) c.op=some d/\(match h with|some h=>nth σ h=some d|none=>True)) False
  |none=>False
 |.skip e=>match nth a e with
  |some c=>yt a b c False (Mg b c.dst (.dN []))
  |none=>False
 |.fresh e f d h=>match nth a e with
  |some c=>yt a b c (Mg b c.dst f/\CV C (CU b) c.op=some d/\nth σ h=some d) False
  |none=>False
 |.never _=>False
def GK:Nat->Nat->Bool
 |b,0=>YB (b%2) 1
 |b,a+1=>GK (b/2) a
theorem Em:∀(a b:Nat),GK b a=Nat.testBit b a:=by
 intro a;induction a with
 |zero=>
  intro b;simp only[GK,Nat.testBit_zero];rw[Bool.eq_iff_iff,Nat.beq_eq,decide_eq_true_eq]
 |succ a c=>intro b;rw[GK,c,Nat.testBit_succ]
def qA(C:eD)(a:List Oper)(d:Tm)(σ:VS)(b:Nat):List lL->Prop
 |[]=>True
 |c::e=>match GK b c.idx with
  |true=>qA C a d σ b e
  |false=>tN C a d σ c/\qA C a d σ b e
def qB(a:Nat):Tm->Tm
 |[]=>[]
 |(c,d)::b=>match YB c a with
  |true=>qB a b
  |false=>(c,d)::qB a b
def mE:List Oper->Tm->Tm
 |[],a=>a
 |o::b,a=>match o.dst with
  |some c=>match gH o.op with
   |true=>mE b a
   |false=>mE b (qB c a)
  |none=>mE b a
def wl:Op->Bool
 |.buildSlice _ 0 _=>true
 |_=>false
def Wr(b:uw)(a:Option Tmp):Bool:=
 match a with
 |some c=>b.fz (2000000+c)
 |none=>false
def Jj(C:eD)(n:Bool)(ev:Operand->Option V)(b:Op)(m:Nat)(σ:VS)(l:V->lL->VS->Prop):Prop:=
 match CV C ev b with
 |some a=>match wl b||(n&&mA b)with
  |true=>BZ σ a fun h c=>dO (S5 b a h) fun f=>l f (.fresh m f a h) c
  |false=>match mA b with
   |true=>match a with
    |.row e d=>match pC d with
     |some i=>∀o:Nat,l (.d (.ps o 0 e i.length i)) (.obj m (.d (.ps o 0 e i.length i)) (.row e d) none) σ
     |none=>False
    |_=>False
   |false=>BZ σ a fun h c=>dO (S5 b a h) fun f=>l f (.obj m f a (some h)) c
 |none=>False
noncomputable def xO(C:eD)(cO:FuncId->List Value->Option Value)(f:uw)(e:List Oper)(t:List Nat)(m:Nat)(o:Nat->List lL->VK):Nat->List lL->VK:=
 fun p b a c d σ l=>
  match nth e m,nth t m with
  |some h,some s=>
   match gH h.op with
   |true=>jI (qA C e a σ p b) (zn C cO f e h a c d σ fun x=>match x with
     |.fO i a c d σ=>l (.panic i) (mE e a) c d σ
     |.next a c d σ=>o s (wk b) a c d σ l)
   |false=>yt e a h
     (match gp h.op with
     |true=>Jj C (Wr f h.dst) (CU a) h.op m σ fun i D n=>KT f.nt a h.dst i fun a=>o p (D::b) a c d n l
     |false=>Ah C (CU a) h.op σ fun i=>KT f.nt a h.dst i fun a=>o p (.val m i::b) a c d σ l)
     (KT f.nt a h.dst (.dN []) fun a=>o p (.skip m::b) a c d σ l)
  |_,_=>False
noncomputable def wo(C:eD)(cO:FuncId->List Value->Option Value)(i:uw)(a:List Oper)(m:List Nat)(l:List Nat):Nat->List lL->VK:=
 List.rec (motive:=fun _=>Nat->List lL->VK) (fun o b c e f σ n=>jI (qA C a c σ o b) (n .norm c e f σ)) (fun p _ h=>xO C cO i a m p h) l
theorem B8(C:eD)(cO:FuncId->List Value->Option Value)(c:uw)(a:List Oper)(b:List Nat)(d:Nat)(l:List Nat):wo C cO c a b (d::l)=xO C cO c a b d (wo C cO c a b l):=rfl
def C1:Op->Bool
 |.indexAddr _ _ _=>true
 |_=>false
def Jk(C:eD)(W:Nat)(x l e:Oper)(b:Tm)(s:List gd)(K:mg)(σ:VS)(j:Ab->Tm->List gd->mg->VS->Prop):Prop:=
 match x.dst,l.dst,e.dst,l.op,e.op,C1 x.op with
 |some U,none,none,.store t1 Y D,.store t2 X g,true=>
  Ah C (CU b) x.op σ fun k=>KT W b (some U) k fun a=>
   dO (CU a Y) fun V=>dO (CU a D) fun h=>dO (CU (qB U b) X) fun t=>dO (CU (qB U b) g) fun f=>
   match V,t with
   |.ptr n o c f1,.bp d f2=>jI (k5 C t2 (.bp d f2) f σ fun m=>k5 C t1 (.ptr n o c f1) h m fun _=>True)
     (k5 C t1 (.ptr n o c f1) h σ fun i=>k5 C t2 (.bp d f2) f i fun p=>j .norm a s K p)
   |_,_=>False
 |_,_,_,_,_,_=>False
def Jl(C:eD)(o:Nat)(V p f i:Oper)(a:Tm)(K:List gd)(Y:mg)(σ:VS)(r:Ab->Tm->List gd->mg->VS->Prop):Prop:=
 match V.dst,p.dst,f.dst,i.dst with
 |some b,none,some c,none=>match p.op,f.op,i.op,C1 V.op with
  |.store t1 k X,.fieldAddr v u w,.store t2 j q,true=>match YB b c,YG b o,YG c o with
   |false,true,true=>
    Ah C (CU (qB c a)) V.op σ fun W=>Ah C (CU (qB b a)) f.op σ fun d=>
     dO (CU ((b,W)::qB c a) k) fun g=>dO (CU ((b,W)::qB c a) X) fun m=>dO (CU ((c,d)::qB b a) j) fun U=>dO (CU ((c,d)::qB b a) q) fun l=>
     match g,U with
     |.ptr t x e f1,.bp h f2=>jI (k5 C t2 (.bp h f2) l σ fun s=>k5 C t1 (.ptr t x e f1) m s fun _=>True)
       (k5 C t1 (.ptr t x e f1) m σ fun n=>k5 C t2 (.bp h f2) l n fun D=>r .norm ((c,d)::(b,W)::a) K Y D)
     |_,_=>False
   |_,_,_=>False
  |_,_,_,_=>False
 |_,_,_,_=>False
noncomputable def En(C:eD)(cO:FuncId->List Value->Option Value)(e:uw)(a:Array Oper)(o:Bool)(d:Tm)(b:List gd)(c:mg)(σ:VS)(p:Ab->Tm->List gd->mg->VS->Prop):Prop:=
 match o with
 |false=>zo C cO e a.toList a.toList d b c σ p
 |true=>match qs a.toList with
  |⟨n,m,f⟩=>wo C cO e a.toList n f 0 [] d b c σ fun x d b c σ=>match x with
   |.norm=>(match YB m a.toList.length with
    |true=>p .norm d b c σ
    |false=>match a.toList.drop m,nth n (m+1)with
     |[s,l,i],some h=>(match GK h m with
      |true=>Jk C e.nt s l i d b c σ p
      |false=>False)
     |[s,l,D,i],some h=>(match GK h m,nth n (m+3)with
      |true,some t=>(match GK t (m+2)with
       |true=>Jl C e.nt s l D i d b c σ p
       |false=>False)
      |_,_=>False)
     |_,_=>False)
   |x=>p x d b c σ
def Om:Option Code->Option Ab
 |none=>some .norm
 |some .ret=>some .ret
 |some (.exit id)=>some (.exit id)
 |_=>none
def Eo(C:eD)(cO:FuncId->List Value->Option Value)(m:FuncId)(first c:List V)(b:Nat)(f:Tm)(e:List gd)(h:mg)(σ:VS)(l:Ab->Tm->List gd->mg->VS->Prop):Prop:=
 match C.ff.get m with
 |none=>False
 |some _=>b3 C cO m (first++[.so b]++c) σ fun n a=>match n with
  |.ret _=>(match nth a b with
   |some (.loop i)=>(match i.state with
    |.busy=>False
    |_=>dO (Om i.pending) fun o=>yT a b (.loop {i with state:=.exhausted}) fun d=>l o f e h d)
   |_=>False)
  |.fO p=>l (.panic p) f e h a
def cutAt(a:uw):Code->Bool
 |.region id _ _=>a.fz (1000000+id)
 |.seq b _=>cutAt a b
 |_=>false
def On(d:Bool)(e h i:VK):VK:=fun c a b σ f=>e c a b σ fun x c a b σ=>match x with
  |.norm=>(match d with
   |true=>i c a b σ f
   |false=>h c a b σ f)
  |x=>f x c a b σ
def Jm(c:Operand)(e f:VK):VK:=fun a b d σ h=>match CU a c with
  |some (.d (.bool i))=>hT (e a b d σ h) (f a b d σ h) i
  |_=>False
def QI(id:Nat)(f:VK):VK:=fun c a b σ e=>f c a b σ fun x c a b σ=>match x with
  |.exit d=>(match YB d id with
   |true=>e .norm c a b σ
   |false=>e (.exit d) c a b σ)
  |x=>e x c a b σ
def Ep(C:eD)(cO:FuncId->List Value->Option Value)(c:uw)(f:Operand)(b:Array Tmp)(a d:Code):VK:=fun e l o σ s=>match CU e f with
  |some (.fn x first h)=>(match c.round with
   |some K=>(match nth σ K with
    |some (.loop D)=>BZ σ (.loop ⟨.ready,none,c.fn,e,c.nt,b.toList,a,d,D.defers,c.fz⟩) fun i n=>Eo C cO x first h i e l o n s
    |_=>False)
   |none=>BZ σ (.fg false) fun t m=>BZ m (.loop ⟨.ready,none,c.fn,e,c.nt,b.toList,a,d,t,c.fz⟩) fun i p=>Eo C cO x first h i e (⟨.D1 t,[]⟩::l) o p s)
  |_=>False
noncomputable def vc(C:eD)(cO:FuncId->List Value->Option Value)(f:uw)(c:Code):VK:=
 Code.rec (motive:=fun _=>VK)
  (fun d a b σ i=>i .norm d a b σ)
  (fun _ p o d a b σ i=>En C cO f p o d a b σ i)
  (fun _ t l n=>On (cutAt f t) l n (b5 C cO f t))
  (fun c _ _ l n=>Jm c l n)
  (fun id _ D=>QI id D)
  (fun t _ d a b σ i=>b5 C cO f (.loop t) d a b σ i)
  (fun x h e m _ _=>Ep C cO f x h e m)
  (fun id d a b σ i=>i (.exit id) d a b σ)
  (fun _ _ _ _ _ _ _=>False)
  (fun _ _ _ _ _ _=>False)
  (fun _ _ _ _ _ _=>False)
  (fun d a b σ i=>i .ret d a b σ)
  (fun _ _ _ _ _ _=>False)
  c
theorem Ta(C:eD)(cO:FuncId->List Value->Option Value)(a:uw)(c b:Code):vc C cO a (.seq c b)=On (cutAt a b) (vc C cO a c) (vc C cO a b) (b5 C cO a b):=rfl
theorem QJ(C:eD)(cO:FuncId->List Value->Option Value)(a:uw)(c:Operand)(d b:Code):vc C cO a (.cond c d b)=Jm c (vc C cO a d) (vc C cO a b):=rfl
theorem Oo(C:eD)(cO:FuncId->List Value->Option Value)(d:uw)(f:Operand)(b:Array Tmp)(a c:Code):vc C cO d (.rangeFunc f b a c)=Ep C cO d f b a c:=rfl
inductive r5 where
 |returning
 |panicking (v:V)
def L2:r5->mg
 |.returning=>.none
 |.panicking a=>.gu a
def oo:r5->mg->r5
 |.returning,_=>.returning
 |.panicking _,.qn=>.returning
 |.panicking a,_=>.panicking a
def rb(C:eD)(cO:FuncId->List Value->Option Value):List gd->r5->VS->(r5->VS->Prop)->Prop
 |[],m,σ,d=>d m σ
 |⟨.D1 e,_⟩::c,m,σ,d=>match nth σ e with
  |some (.fg false)=>yT σ e (.fg true) fun σ=>rb C cO c m σ d
  |_=>False
 |⟨.fn h b,a⟩::c,m,σ,d=>match C.ff.get h with
  |some _=>xN C cO h (a++b) (L2 m) σ fun e f σ=>match e with
   |.ret _=>rb C cO c (oo m f) σ d
   |.fO _=>False
  |none=>False
def wq(C:eD)(a:Tm)(σ:VS):List ResultVar->(List V->Prop)->Prop
 |[],c=>c []
 |.tmp d::f,c=>dO (gf a d) fun e=>wq C a σ f fun b=>c (e::b)
 |.cell h d::f,c=>dO (gf a h) fun i=>KK C d i σ fun e=>wq C a σ f fun b=>c (e::b)
def oQ:List V->V
 |[b]=>b
 |a=>.dN a
def tO(C:eD)(cO:FuncId->List Value->Option Value)(a:List ResultVar)(m:r5)(c:Tm)(b:List gd)(σ:VS)(K:cZ->VS->Prop):Prop:=
 rb C cO b m σ fun m σ=>match m with
  |.panicking e=>K (.fO e) σ
  |.returning=>wq C c σ a fun d=>K (.ret (oQ d)) σ
def re:Nat->List V->Tm
 |_,[]=>[]
 |i,b::a=>(i,b)::re (i+1) a
noncomputable def As(C:eD)(cO:FuncId->List Value->Option Value)(l:Nat->Bool)(f:FuncId)(c:List V)(i:Bool)(b:mg)(σ:VS)(K:cZ->mg->VS->Prop):Prop:=
 match C.ff.get f with
 |none=>False
 |some a=>match Yz c.length a.nt with
  |false=>False
  |true=>vc C cO ⟨f,a.nt,none,i,l,σ.length⟩ a.body (re 0 c) [] b σ fun m d e b σ=>match m with
   |.norm=>tO C cO a.Qn .returning d e σ fun h σ=>K h b σ
   |.ret=>tO C cO a.Qn .returning d e σ fun h σ=>K h b σ
   |.panic n=>tO C cO a.Qn (.panicking n) d e σ fun h σ=>K h b σ
   |.exit _=>False
def rf:List Tmp->List V->Nat->Tm->(Tm->Prop)->Prop
 |[],[],_,a,e=>e a
 |t::d,f::c,b,a,e=>match YG t b with
  |true=>rf d c b ((t,f)::a) e
  |false=>False
 |_,_,_,_,_=>False
def qC(l:Nat)(b:Bool)(st:LoopState)(pending:Option Code)(a:List gd)(σ:VS)(K:cZ->VS->Prop):Prop:=
 match a,nth σ l with
 |[],some (.loop c)=>yT σ l (.loop {c with state:=st,pending:=pending}) fun σ=>K (.ret (.d (.bool b))) σ
 |_,_=>False
noncomputable def KU(C:eD)(cO:FuncId->List Value->Option Value)(f l:Nat)(d:List V)(σ:VS)(K:cZ->VS->Prop):Prop:=
 match nth σ l with
 |some (.loop b)=>match C.ff.get b.fn with
  |none=>False
  |some _=>rf b.params d b.nt b.tm fun c=>
   vc C cO ⟨b.fn,b.nt,some l,false,b.fz,f⟩ b.assign c [] .none σ fun h c a _ σ=>match h with
    |.norm=>(match nth σ l with
     |some (.loop e)=>(match e.state with
      |.ready=>yT σ l (.loop {e with state:=.busy}) fun σ=>
        vc C cO ⟨b.fn,b.nt,some l,false,b.fz,f⟩ b.body c a .none σ fun h _ a _ σ=>match h with
         |.norm=>qC l true .ready none a σ K
         |.ret=>qC l false .done (some .ret) a σ K
         |.exit id=>qC l false .done (some (.exit id)) a σ K
         |.panic i=>(match a with
          |[]=>K (.fO i) σ
          |_=>False)
      |_=>False)
     |_=>False)
    |_=>False
 |_=>False
noncomputable def Oq(C:eD)(cO:FuncId->List Value->Option Value)(l:Nat)(a:List V)(σ:VS)(K:cZ->VS->Prop):Prop:=KU C cO σ.length l a σ K
variable{L:Option Tmp} {S:Fz} {M:Nat->Nat} {G:uw} {O:mg} {N:Tm} {B:List gd}
section
variable{C:eD} {cO:FuncId->List Value->Option Value} {Φ dE:Fz} {ρ dx:Nat->Nat} {σ:VS} {st:St} {m m':Nat}
theorem jW(b t:Nat)(d:V)(a:Tm):gf ((b,d)::a) t=if t=b then some d else gf a t:=by
 simp only[gf,KQ];by_cases c:t=b
 ·subst c;simp
 ·rw[decide_eq_false (fun e=>c e.symm),if_neg c]
theorem hL.set{b:Tm}{t:Tr Value}(i:hL Φ ρ m b t){f:Nat}{d:V}(c:fJ Φ m d):hL Φ ρ m ((f,d)::b) (t.set f (erase ρ d)):=by
 intro l h a;rw[jW]at a;rw[cF];split at a
 ·rename_i e;cases a;rw[if_pos e];exact⟨Z,c⟩
 ·rename_i e;rw[if_neg e];exact i l h a
theorem qD{tm:Tm}{h:Tm->Prop}(a:KT A tm L w h){fr:Fr}(d:hL Φ ρ m tm fr.tm)(e:fJ Φ m w):
  ∃c b,h c/\hS A fr L (erase ρ w)=some b/\hL Φ ρ m c b.tm/\b.df=fr.df:=by
 unfold KT at a;split at a
 ·exact⟨tm,fr,a,Z,d,Z⟩
 ·rename_i i;split at a
  ·rename_i f;exact⟨_,{fr with tm:=fr.tm.set i (erase ρ w)},a,by simp only[hS,f],d.set e,rfl⟩
  ·exact a.elim
theorem iC.ps(c:iC Φ ρ m dE dx m'){a:mg}(b:yV Φ m a):dj dx a=dj ρ a/\yV dE m' a:=by
 cases a with
 |none=>exact⟨rfl,tv⟩
 |gu d=>exact⟨by simp only[dj,c.erase b],c.ok b⟩
 |qn=>exact⟨rfl,tv⟩
theorem iC.weaken(b:iC Φ ρ m dE dx m')(a:A<=m):iC Φ ρ A dE dx m':=⟨b.le,fun d c=>b.sg d (YW c a),YS a b.len⟩
theorem iC.then(d:iC Φ ρ m dE dx m')(c:iC dE dx A S M T)(a:m<=A):iC Φ ρ m S M T:=
 ⟨d.le.trans c.le,fun e b=>(c.sg e (YW b a)).trans (d.sg e b),YS a c.len⟩
theorem iC.GL(c:iC Φ ρ G.fl dE dx m')(a:vg m G):ez dx G=ez ρ G/\vg m' G:=by
 refine⟨?_,a.1,c.len⟩;unfold ez;cases b:G.round with
 |none=>rfl
 |some d=>simp only[YK];rw[c.sg d (a.1 d b)]
theorem iC.fc(c:iC Φ ρ m dE dx m'){a:uw}(b:vg m a):ez dx a=ez ρ a/\vg m' a:=(c.weaken b.2).GL b
structure SR (Φ:Fz) (ρ:Nat->Nat) (σ:VS) (st:St) (tm:Tm) (df:List gd) (ps:mg) (fr:Fr):Prop where
 real:Real Φ ρ σ st
 tm:hL Φ ρ σ.length tm fr.tm
 df:Ai Φ ρ σ.length df fr.df
 ps:yV Φ σ.length ps
inductive Ws (Φ:Fz) (ρ:Nat->Nat) (m:Nat) (K:Ur->Prop) (r:yf):Prop
 |next (dE:Fz) (dx:Nat->Nat) (ra:VS) (eB:St) (tm:Tm) (df:List gd) (ps:mg) (fr:Fr) (hk:K (.next tm df ps ra)) (hs:iC Φ ρ m dE dx ra.length) (h:SR dE dx ra eB tm df ps fr)
   (hr:r=.next fr (dj dx ps) eB)
 |fO (v:V) (dE:Fz) (dx:Nat->Nat) (ra:VS) (eB:St) (tm:Tm) (df:List gd) (ps:mg) (fr:Fr) (hk:K (.fO v tm df ps ra)) (hs:iC Φ ρ m dE dx ra.length) (h:SR dE dx ra eB tm df ps fr) (hv:fJ dE ra.length v)
   (hr:r=.fO (erase dx v) fr (dj dx ps) eB)
theorem SR.move(d:SR Φ ρ σ st N B O y){a:VS}{b:St}(c:iC Φ ρ σ.length dE dx a.length)(e:Real dE dx a b):SR dE dx a b N B O y:=
 ⟨e,c.tm d.tm,c.df d.df,(c.ps d.ps).2⟩
theorem xP{K:Ur->Prop}{m0:Nat}{Sq:Fz}{Sr:Nat->Nat}(f:iC Sq Sr m0 Φ ρ σ.length) 
  (h:KT G.nt N L w fun N=>K (.next N B O σ)) (c:SR Φ ρ σ st N B O y) (i:fJ Φ σ.length w):∃n,yf.go G.nt y L (erase ρ w) (dj ρ O) st=some n/\Ws Sq Sr m0 K n:=by
 obtain⟨b,a,m,d,e,l⟩:=qD h c.tm i;refine⟨_,by simp only[yf.go,d],.next Φ ρ σ st b B O a m f ⟨c.real,e,?_,c.ps⟩ rfl⟩;rw[l];exact c.df
theorem Er{o:Oper}{df:List gd}{K:Ur->Prop}(w:Ji C cO G o N df O σ K)(e:SR Φ ρ σ st N df O y)(ab:vg σ.length G):
  ∃j n,lF C (jr C cO j) (ez ρ G) o y (dj ρ O) st=some n/\Ws Φ ρ σ.length K n:=by
 unfold Ji at w;have P:=Md e.real (hB e.tm) w;cases P with
 |val q=>
  obtain⟨p,D,dE,dx,h,a,d,c,S,L⟩:=q;have i:=e.move d c;obtain⟨n,f,b⟩:=xP (Sq:=Φ) (Sr:=ρ) (m0:=σ.length) d a i S;refine⟨0,n,?_,b⟩;unfold lF;rw[L];simp only;rw[(d.ps e.ps).1]at f;exact f
 |fO p a d c=>
  refine⟨0,.fO (erase ρ p) y (dj ρ O) st,?_,.fO p Φ ρ σ st N df O y a (.refl _ _ _) e d Z⟩;unfold lF;rw[c]
 |enter ac g a d c=>
  obtain⟨j,n,T,h,dE,dx,D,f,b,k,W,U⟩:=a.go Φ ρ st e.real d;have i:=e.move b k;cases n with
  |ret p=>
   obtain⟨n,l,s⟩:=xP (Sq:=Φ) (Sr:=ρ) (m0:=σ.length) b U i W;refine⟨j,n,?_,s⟩;unfold lF;rw[c];simp only[f,e3];rw[(b.ps e.ps).1]at l;exact l
  |fO p=>
   refine⟨j,.fO (erase dx p) y (dj dx O) h,?_,.fO p dE dx D h N df O y U b i W Z⟩;unfold lF;rw[c];simp only[f,e3,(b.ps e.ps).1]
 |yield ad g a Q d c=>
  obtain⟨j,n,h,dE,dx,D,f,b,k,W,U⟩:=a.go Φ ρ st e.real d Q;have i:=e.move b k;cases n with
  |ret p=>
   obtain⟨n,l,s⟩:=xP (Sq:=Φ) (Sr:=ρ) (m0:=σ.length) b U i W;refine⟨j,n,?_,s⟩;unfold lF;rw[c];simp only[f,e3];rw[(b.ps e.ps).1]at l;exact l
  |fO p=>
   refine⟨j,.fO (erase dx p) y (dj dx O) h,?_,.fO p dE dx D h N df O y U b i W Z⟩;unfold lF;rw[c];simp only[f,e3,(b.ps e.ps).1]
 |recover a c=>
  dsimp only at a;split at a
  ·exact a.elim
  ·rename_i Y;split at a
   ·rename_i p F;have q:fJ Φ σ.length p:=e.ps;have i:SR Φ ρ σ st N df .qn y:=⟨e.real,e.tm,e.df,tv⟩;obtain⟨n,l,s⟩:=xP (Sq:=Φ) (Sr:=ρ) (m0:=σ.length) (.refl _ _ _) a i q;refine⟨0,n,?_,s⟩;unfold lF;rw[c];simp only[ez,Y,Yv,F,dj];exact l
   ·rename_i r;obtain⟨n,l,s⟩:=xP (Sq:=Φ) (Sr:=ρ) (m0:=σ.length) (.refl _ _ _) a e (.d .wa);refine⟨0,n,?_,s⟩;unfold lF;rw[c];simp only[ez,Y,Yv];split
    ·rename_i p f b;exfalso;have:∀E:mg,dj ρ E=.gu p->∃A,E=.gu A:=fun E z=>by
      cases E with
      |gu A=>exact⟨A,rfl⟩
      |none=>cases z
      |qn=>cases z
     obtain⟨A,M⟩:=this _ b;exact r A f M
    ·exact l
 |defer B a d c=>
  dsimp only at a;split at a
  ·exact a.elim
  ·rename_i Y;obtain⟨u,V,J,H,R,I⟩:=qD (fr:={y with df:=je ρ B::y.df}) a e.tm (tM (Φ:=Φ) (m:=σ.length));have v:Ai Φ ρ σ.length (B::df) V.df:=by
    rw[I];refine⟨by simp only[Yn];rw[e.df.1],fun aa hx=>?_⟩;rcases Yy.1 hx with rfl|hx
    ·exact d
    ·exact e.df.2 aa hx
   refine⟨0,_,?_,.next Φ ρ σ st u (B::df) O V J (.refl _ _ _) ⟨e.real,R,v,e.ps⟩ Z⟩;unfold lF;rw[c];simp only[ez,Y,Yv,yf.go];have:hS G.nt {y with df:=je ρ B::y.df} o.dst kX=some V:=H;rw[this]
theorem mF{o:Oper}{l n:Prop}(a:yt j N o l n)(i:hL Φ ρ m N y.tm):(hq j y o=some true/\l)∨(hq j y o=some false/\n):=by
 unfold yt at a;split at a
 ·rename_i b;exact .inl ⟨by simp only[hq,b],a⟩
 ·rename_i x e b;split at a
  ·exact a.elim
  ·rename_i s d;split at a
   ·exact a.elim
   ·rename_i t c;split at a
    ·rename_i p f;have h:=(i _ _ f).1;cases e with
     |true=>
      cases p with
      |true=>exact .inl ⟨by simp only[hq,b,d,c,h,erase,cH],a⟩
      |false=>exact .inr ⟨by simp only[hq,b,d,c,h,erase,cH],a⟩
     |false=>
      cases p with
      |true=>exact .inr ⟨by simp only[hq,b,d,c,h,erase,cH],a⟩
      |false=>exact .inl ⟨by simp only[hq,b,d,c,h,erase,cH],a⟩
    ·rename_i C f;have h:=(i _ _ f).1;exact .inr ⟨by simp only[hq,b,d,c,h,erase],a⟩
    ·exact a.elim
theorem uS{o:Oper}{K:Ur->Prop}(a:zn C cO G j o N B O σ K)(l:SR Φ ρ σ st N B O y)(f:vg σ.length G):
  ∃h b,jQ C (jr C cO h) (ez ρ G) j o y (dj ρ O) st=some b/\Ws Φ ρ σ.length K b:=by
 unfold zn at a;rcases mF a l.tm with⟨m,a⟩|⟨m,a⟩
 ·obtain⟨h,b,e,c⟩:=Er a l f;exact⟨h,b,by simp only[jQ,m];exact e,c⟩
 ·obtain⟨b,i,d⟩:=xP (Sq:=Φ) (Sr:=ρ) (m0:=σ.length) (.refl _ _ _) a l tM;exact⟨0,b,by simp only[jQ,m];exact i,d⟩
def Ot(Φ:Fz)(ρ:Nat->Nat)(m:Nat)(i:Ab->Tm->List gd->mg->VS->Prop)(l:Ex×Fr×eT×St):Prop:=
 ∃dE dx a b h e d c f,i h e d c a/\iC Φ ρ m dE dx a.length/\SR dE dx a b e d c f/\Mf dE a.length h/\l=(ey dx h,f,dj dx c,b)
theorem Ot.after{p:Ab->Tm->List gd->mg->VS->Prop}(n:iC S M A Φ ρ T)(t:Ot Φ ρ A p v):Ot S M A p v:=by
 obtain⟨dE,dx,b,a,s,o,c,e,l,h,d,m,f,i⟩:=t;exact⟨dE,dx,b,a,s,o,c,e,l,h,n.then d (YL _),m,f,i⟩
theorem B9:∀(W:List Oper) {Φ:Fz} {ρ:Nat->Nat} {σ:VS} {st:St} {m:Tm} {c:List gd} {b:mg} {X:Ab->Tm->List gd->mg->VS->Prop},
  zo C cO G j W m c b σ X->∀{e:Fr},SR Φ ρ σ st m c b e->vg σ.length G->
  ∃K Y,oC C (jr C cO K) (ez ρ G) j W e (dj ρ b) st=some Y/\Ot Φ ρ G.fl X Y:=by
 intro W;induction W with
 |nil=>
  intro Φ ρ σ st m c b X d e u a;exact⟨0,_,Z,Φ,ρ,σ,st,.norm,m,c,b,e,d,(iC.refl _ _ _).weaken a.2,u,tv,Z⟩
 |cons y W v=>
  intro Φ ρ σ st m c b X d e u a;rw[Ek]at d;unfold Ar at d;obtain⟨K,Y,U,k⟩:=uS d u a;cases k with
  |next dE dx o f n p h i s l x D=>
   subst D;obtain⟨t,g,V,q⟩:=v s x (l.fc a).2;refine⟨max K t,g,?_,q.after (l.weaken a.2)⟩;unfold oC;rw[pJ (gP (Nat.le_max_left K t)) U];simp only;rw[(l.fc a).1]at V;exact ys (gP (Nat.le_max_right K t)) _ V
  |fO w dE dx o f n p h i s l x D r=>
   subst r;refine⟨K,(.panic (erase dx w),i,dj dx h,f),?_,dE,dx,o,f,.panic w,n,p,h,i,s,l.weaken a.2,x,D,Z⟩;unfold oC;rw[U]
end
end Go.VM
