/- Part of the proof. -/
import Derived.Test.YtpejealjkmhkgaaGreatDoorKBf
set_option linter.all false
set_option maxHeartbeats 16000000
set_option maxRecDepth 100000
open Bool renaming false_eq_true->YL
open Int renaming ofNat->YM
open Nat renaming le_refl->YN,le_of_ble_eq_true->YO,beq->YP,ble_eq->YT,lt_of_lt_of_le->YZ
open List renaming map->YQ,find?->YR,length_cons->YS,length_nil->YU,take_of_length_le->YV,take->YW,drop->YX
open And renaming intro->YY
namespace Go.Proofs.YtpejealjkmhkgaaGreatDoor
open Go.AM Go.VM
variable{m w:Nat}
theorem du{c a:Type}{l:c->a}{h:PR c}{b:a}(n:h.map l=.ok b m):∃e,h=.ok e m/\l e=b:=by
 cases h with
 |ok e q=>cases n;exact⟨e,rfl,rfl⟩
 |bad p s=>cases n
variable{d:Nat->PR Ex} {f:Nat->PR Ty} {g:Rd}
theorem Se(G:g.Wf){lo:Nat}(p:∀a l b,lo<=a->a<g.ts.length->pd f d g a=.ok l b->a<b/\b<g.ts.length):∀(q a:Nat) (l:Ex) (b:Nat),lo<=a->a<g.ts.length->mm f d g q a=.ok l b->a<b/\b<g.ts.length:=by
 intro q;induction q with
 |zero=>intro a l b _ _ c;cases c
 |succ q D=>
  intro a l b z e c;rw[mm]at c;split at c
  ·rename_i C;obtain⟨y,E,_⟩:=du c;obtain⟨F,x⟩:=D (a+1) y b om (G.step e C) E;exact⟨om,x⟩
  ·split at c
   ·cases c
   ·rename_i H n A;obtain⟨F,x⟩:=p a H n z e A;split at c
    ·cases c;exact⟨F,x⟩
    ·rename_i s B;obtain⟨K,J,_,h,_⟩:=tw B;obtain⟨y,E,_⟩:=du c;obtain⟨I,d2⟩:=p (n+1) y b om (G.step x h) E;exact⟨om,d2⟩
def Xm:Nat->Bool:=fun a=>YP a 10||YP a 25
theorem VV(N:g.Wf){lo:Nat}(a:ld ww (pd f d g) g lo):∀(J h H:Nat),lo<=h->g.ts.length-h<=J->g.ts.length-h<=H->ld wv (mm f d g H) g h:=by
 have T:=N.len;intro J;induction J with
 |zero=>intro h H S R V;exact⟨fun E O s i M=>om,fun E i M=>om⟩
 |succ J W=>
  intro h H S R V;refine ld.of (fun E O s i M=>Se N a.lt H E O s om M) (fun E X I=>?_);obtain⟨H,rfl⟩:∃U,H=U+1:=⟨H-1,om⟩;refine cA Xm (fun _=>Z) ?_;refine cG g E (g.tok E) [110,111,116] (bZ I) om 0 Z (fun c=>?_) (fun c=>?_)
  ·have q:=N.step I c;refine(W (E+1) H om om om).call (E+1) (YN _) q 0 _ _ Z (fun O k s B n=>?_) (fun z F s B=>?_)
   ·obtain⟨P,Q,J,K,y,A,L,G,rfl⟩:=n.eight;intro M;refine a7 1 (dK (by rw[mm,if_pos c,B];rfl) (.mk .nil .nil (.ps (.cons n .nil))))
   ·refine a7 1 (cK (by rw[mm,if_pos c,B];rfl))
  ·refine a.call E om I 0 _ _ Z (fun O k s B n=>?_) (fun z F s B=>?_)
   ·obtain⟨Y,q⟩:=a.lt E O s om I B;obtain⟨P,Q,J,K,y,A,L,G,rfl⟩:=n.eight;refine cl.loop ?_;refine b0 Z ?_;refine a1 dc ?_;refine cG g s (g.tok s) [61,61] (bZ q) om 0 Z (fun l=>?_) (fun l=>?_)
    ·have p:=N.step q l;repeat refine b6 ?_
     refine a.call (s+1) om p 0 _ _ ?_ (fun j d2 D e b=>?_) (fun z F D e=>?_)
     ·exact Z
     ·obtain⟨P,Q,J,K,y,A,L,G,rfl⟩:=b.eight;intro M;repeat refine b6 ?_
      refine a7 1 (dK (by rw[mm,if_neg (by rw[c];decide),B];simp only[tS,YR,l,e,PR.map]) (.mk .nil .nil (.ps (.cons n (.cons b .nil)))))
     ·refine a7 1 (cK (by rw[mm,if_neg (by rw[c];decide),B];simp only[tS,YR,l,e,PR.map]))
    ·refine cl.loop ?_;refine b0 Z ?_;refine a1 dc ?_;refine cG g s (g.tok s) [61,61,61] (bZ q) om 0 Z (fun x=>?_) (fun x=>?_)
     ·have p:=N.step q x;repeat refine b6 ?_
      refine a.call (s+1) om p 0 _ _ ?_ (fun j d2 D e b=>?_) (fun z F D e=>?_)
      ·exact Z
      ·obtain⟨P,Q,J,K,y,A,L,G,rfl⟩:=b.eight;intro M;repeat refine b6 ?_
       refine a7 1 (dK (by rw[mm,if_neg (by rw[c];decide),B];simp only[tS,YR,l,x,e,PR.map]) (.mk .nil .nil (.ps (.cons n (.cons b .nil)))))
      ·refine a7 1 (cK (by rw[mm,if_neg (by rw[c];decide),B];simp only[tS,YR,l,x,e,PR.map]))
     ·refine cl.loop ?_;refine b0 Z ?_;refine a1 dc ?_;refine cG g s (g.tok s) [60] (bZ q) om 0 Z (fun C=>?_) (fun C=>?_)
      ·have p:=N.step q C;repeat refine b6 ?_
       refine a.call (s+1) om p 0 _ _ ?_ (fun j d2 D e b=>?_) (fun z F D e=>?_)
       ·exact Z
       ·obtain⟨P,Q,J,K,y,A,L,G,rfl⟩:=b.eight;intro M;repeat refine b6 ?_
        refine a7 1 (dK (by rw[mm,if_neg (by rw[c];decide),B];simp only[tS,YR,l,x,C,e,PR.map]) (.mk .nil .nil (.ps (.cons n (.cons b .nil)))))
       ·refine a7 1 (cK (by rw[mm,if_neg (by rw[c];decide),B];simp only[tS,YR,l,x,C,e,PR.map]))
      ·refine cl.loop ?_;refine a7 1 (dK (by rw[mm,if_neg (by rw[c];decide),B];simp only[tS,YR,l,x,C]) n)
   ·refine a7 1 (cK (by rw[mm,if_neg (by rw[c];decide),B]))
variable{i:dC->VS->Prop} {r:VS}
theorem Pu(H:g.Wf)(h:g.Ng)(a p:Nat)(A:p<g.ts.length)(B:a=9223372036854775807∨a=9223372036854775808)(n:Nat)(l:nth r n=some (dq g p))(x:∀E q c,mF a g p=.ok E c->ly E q->i (.ret (.agg (q.map V.d))) (r.set n (dq g c))) 
  (D:∀b e c,mF a g p=.bad b e->i (.eE (dt b e)) (r.set n (dq g c))):b1 C b7 rA [.bp n 0,.d (.int .u64 (YM a))] r i:=by
 refine b1.one (dN:=[.bp 0 0,.d (.int .u64 (YM a))]) (P:=MC g (mF a g p)) (MF H h a p A B) n l Z Z Z (fun I F s=>?_);unfold MC at s;split at s
 ·rename_i G c e;obtain⟨rfl,q,y,rfl⟩:=s;exact x G q c e y
 ·rename_i b z e;obtain⟨c,rfl,rfl⟩:=s;exact D b z c e
variable{v:Ex}
theorem K0(h:g.Wf){b p:Nat}(e:p<g.ts.length)(a:mF b g p=.ok v m):p<m/\m<g.ts.length:=by
 rw[mF]at a;split at a
 ·cases a
 ·rename_i c;have c:(g.tok p).kind=3:=by simpa using c
  have:=h.go p _ (bZ e) om;split at a
  ·split at a
   ·cases a
   ·cases a;exact⟨om,this⟩
  ·cases a
theorem Sf(y:g.Wf){lo:Nat}(q:∀a l b,lo<=a->a<g.ts.length->jB f d g a=.ok l b->a<b/\b<g.ts.length):∀(n a:Nat) (l:Ex) (b:Nat),lo<=a->a<g.ts.length->ov f d g n a=.ok l b->a<b/\b<g.ts.length:=by
 intro n;induction n with
 |zero=>intro a l b _ _ c;cases c
 |succ n s=>
  intro a l b x e c;rw[ov]at c;split at c
  ·rename_i h;obtain⟨z,B,_⟩:=du c;obtain⟨A,p⟩:=s (a+1) z b om (y.step e h) B;exact⟨om,p⟩
  ·split at c
   ·rename_i h;have:=y.step e h;obtain⟨A,p⟩:=K0 y this c;exact⟨om,p⟩
   ·exact q a l b x e c
def Xn:Nat->Bool:=fun a=>YP a 8
theorem VW(I:g.Wf)(C:g.Ng){lo:Nat}(z:ld p6 (jB f d g) g lo):∀(B a p:Nat),lo<=a->g.ts.length-a<=B->g.ts.length-a<=p->ld sw (ov f d g p) g a:=by
 have M:=I.len;intro B;induction B with
 |zero=>intro a p L K O;exact⟨fun h F y R J=>om,fun h R J=>om⟩
 |succ B P=>
  intro a p L K O;refine ld.of (fun h F y R J=>Sf I z.lt p h F y om J) (fun h Q l=>?_);obtain⟨p,rfl⟩:∃N,p=N+1:=⟨p-1,om⟩;refine cA Xn (fun _=>Z) ?_;refine cG g h (g.tok h) [108,101,110,103,116,104] (bZ l) om 0 Z (fun c=>?_) (fun c=>?_)
  ·have A:=I.step l c;refine(P (h+1) p om om om).call (h+1) (YN _) A 0 _ _ Z (fun F T y n b=>?_) (fun s D y n=>?_)
   ·obtain⟨S,U,B,G,q,x,H,E,rfl⟩:=b.eight;intro J;refine a7 1 (dK (by rw[ov,if_pos c,n];rfl) (.mk .nil .nil (.ps (.cons b .nil))))
   ·refine a7 1 (cK (by rw[ov,if_pos c,n];rfl))
  ·refine cG g h (g.tok h) [45] (bZ l) om 0 Z (fun e=>?_) (fun e=>?_)
   ·have A:=I.step l e;refine Pu I C 9223372036854775808 (h+1) A (.inr Z) 0 Z (fun F T y n b=>?_) (fun s D y n=>?_)
    ·obtain⟨S,U,B,G,q,x,H,E,rfl⟩:=b.eight;refine a7 1 (dK (by rw[ov,if_neg (by rw[c];decide),if_pos e,n]) b)
    ·refine a7 1 (cK (by rw[ov,if_neg (by rw[c];decide),if_pos e,n]))
   ·refine z.call h om l 0 _ _ Z (fun F T y n b=>?_) (fun s D y n=>?_)
    ·obtain⟨S,U,B,G,q,x,H,E,rfl⟩:=b.eight;refine a7 1 (dK (by rw[ov,if_neg (by rw[c];decide),if_neg (by rw[e];decide),n]) b)
    ·refine a7 1 (cK (by rw[ov,if_neg (by rw[c];decide),if_neg (by rw[e];decide),n]))
theorem A0(k:g.Wf)(a:List UInt8)(h:Nat){kids:List Ex}{ml:List (List D)}{p:Nat}(G:ld cR d g p)(S:p<g.ts.length)(Q:iL kids ml)(A:kids.length<=1)(y x:Nat)(z:y≠x)(H:nth r y=some (dq g p))(T:nth r x=some (kO 8 ml)) 
  (J:∀W I l s,gV d g a h kids p=.ok W l->ly W I->fG 0 s=true->i (.ret (.agg (I.map V.d))) ((r.set y (dq g l)).set x s)) (U:∀c q l s,gV d g a h kids p=.bad c q->fG 0 s=true->i (.eE (dt c q)) ((r.set y (dq g l)).set x s)):
  b1 C b7 sx [.bp y 0,.agg (jx h [] .cn (.d .cn) (.d .cn)),kV x 8 ml,cq a] r i:=by
 refine b1.two (dN:=[.bp 0 0,.agg (jx h [] .cn (.d .cn) (.d .cn)),kV 1 8 ml,cq a]) (P:=fun L B e=>fG 0 e=true/\∃b,B=.box b/\MC g (gV d g a h kids p) L b)
  ((GV k a h G S Q A).mono fun L X n=>by
   obtain⟨b,s,q,R,M,F,O⟩:=n;exact⟨_,s,q,R,M,F,F,b,Z,O⟩) y x z H T Z (ga 8 ml) ?_ ?_ (fun L B e n=>?_)
 ·show(bd 2 (.bp 0 0)&&e5 2 [.agg (jx h [] .cn (.d .cn) (.d .cn)),kV 1 8 ml,cq a])=true;rw[wP rfl rfl];rfl
 ·show _=gJ _ (.bp 0 0)::gU _ [.agg (jx h [] .cn (.d .cn) (.d .cn)),kV 1 8 ml,cq a];rw[<-tB (i':=x) (v':=cq a) rfl rfl];rfl
 ·obtain⟨E,b,rfl,n⟩:=n;unfold MC at n;split at n
  ·rename_i f l q;obtain⟨rfl,I,K,rfl⟩:=n;exact J f I l e q K E
  ·rename_i c N q;obtain⟨l,rfl,rfl⟩:=n;exact U c N l e q E
variable{j:List UInt8}
theorem Pv{h:Type}(H:g.Wf){step:h->Nat->PR h}{lo:Nat}(B:∀n b a e,lo<=b->b<g.ts.length->step n b=.ok a e->b<e/\e<g.ts.length):∀(q:Nat) (n:h) (b:Nat) (a:h) (e:Nat),lo<=b->b<g.ts.length->gS step g j q n b=.ok a e->b<e/\e<g.ts.length:=by
 intro q;induction q with
 |zero=>intro n b a e _ _ c;cases c
 |succ q D=>
  intro n b a e y s c;rw[gS]at c;split at c
  ·cases c
  ·rename_i G p x;obtain⟨M,F⟩:=B n b G p y s x;split at c
   ·rename_i A;have:=H.step F A;cases c;exact⟨om,this⟩
   ·cases l:cu g [[44]] p with
    |bad J N=>rw[l]at c;cases c
    |ok L E=>
     rw[l]at c;dsimp only at c;have C:=cH _ _ _ l;have z:=c8 H _ _ _ F l;simp only[YS,YU]at C;obtain⟨K,I⟩:=D G E a e om z c;exact⟨om,I⟩
theorem wQ{c:Type}(x:g.Wf){step:c->Nat->PR c}{lo:Nat}(s:∀q p b a,lo<=p->p<g.ts.length->step q p=.ok b a->p<a/\a<g.ts.length){q b:c}{p a:Nat}(n:lo<=p)(e:p<g.ts.length)(h:fA step g j q p=.ok b a):p<a/\a<g.ts.length:=by
 rw[fA]at h;split at h
 ·rename_i l;have:=x.step e l;cases h;exact⟨om,this⟩
 ·exact Pv x s _ _ _ _ _ n e h
theorem K1(z:g.Wf){lo:Nat}(n:∀p v a,lo<=p->p<g.ts.length->d p=.ok v a->p<a/\a<g.ts.length){s:List UInt8}{p a:Nat}(A:lo<=p)(e:p<g.ts.length)(h:eJ d g [] p=.ok v a∨eJ d g s p=.ok v a):p<a/\a<g.ts.length:=by
 have c:∀s,eJ d g s p=.ok v a->p<a/\a<g.ts.length:=by
  intro s h;rw[eJ]at h;cases b:cu g [s] p with
  |bad C E=>rw[b]at h;cases h
  |ok D q=>
   rw[b]at h;have l:=cH _ _ _ b;have x:=c8 z _ _ _ e b;simp only[YS,YU]at l;obtain⟨B,y⟩:=n q v a om x h;exact⟨om,y⟩
 rcases h with h|h
 ·exact c _ h
 ·exact c _ h
theorem xR(l:g.Wf){c:List et}{p e:Nat}{s:List UInt8}(h:p<g.ts.length)(a:ef g c p=.ok s e):p<e/\e<g.ts.length:=by
 rw[ef]at a;split at a
 ·cases a
 ·rename_i b;have b:(g.tok p).kind=1:=by simpa using b
  split at a
  ·cases a
  ·cases a;exact⟨om,l.go p _ (bZ h) om⟩
theorem fB(h:g.Wf){p c:Nat}{s:List UInt8}(e:p<g.ts.length)(b:c9 g p=.ok s c):p<c/\c<g.ts.length:=by
 rw[c9]at b;split at b
 ·cases b
 ·rename_i a;have a:(g.tok p).kind=1:=by simpa using a
  cases b;exact⟨om,h.go p _ (bZ e) om⟩
variable{t:List Ex}
theorem xS(q:g.Wf){lo:Nat}(l:∀p v a,lo<=p->p<g.ts.length->d p=.ok v a->p<a/\a<g.ts.length){p a:Nat}(e:lo<=p)(b:p<g.ts.length)(c:gV d g j m t p=.ok v a):p<a/\a<g.ts.length:=by
 obtain⟨E,n,_⟩:=du c;refine wQ q (lo:=lo) (fun B p x a e b c=>?_) e b n;rw[ja]at c;split at c
 ·cases c
 ·rename_i s y h;obtain⟨D,z⟩:=xR q b h;obtain⟨C,n,_⟩:=du c;obtain⟨A,d2⟩:=K1 q l (s:=[58]) om z (.inr n);exact⟨om,d2⟩
theorem Pw(z:g.Wf){lo:Nat}(C:∀b p c,lo<=b->b<g.ts.length->d b=.ok p c->b<c/\c<g.ts.length):∀(y:Nat) (p:Ex) (b:Nat) (q:Ex) (c:Nat),lo<=b->b<g.ts.length->lc d g y p b=.ok q c->b<=c/\c<g.ts.length:=by
 intro y;induction y with
 |zero=>intro p b q c _ _ a;cases a
 |succ y x=>
  intro p b q c E h a;rw[lc]at a;split at a
  ·rename_i e;split at a
   ·cases a
   ·rename_i s l n;obtain⟨D,B⟩:=fB z (z.step h e) n;obtain⟨F,A⟩:=x _ l q c om B a;exact⟨om,A⟩
  ·split at a
   ·rename_i e;split at a
    ·cases a
    ·rename_i G l n;obtain⟨D,B⟩:=xS z C om (z.step h e) n;obtain⟨F,A⟩:=x _ l q c om B a;exact⟨om,A⟩
   ·cases a;exact⟨YN _,h⟩
def Xo:Nat->Bool:=fun a=>YP a 13
theorem UB(M:g.Wf){lo:Nat}(q:ld lR (e7 f d g) g lo)(s:ld cR d g (lo+1)):ld p6 (jB f d g) g lo:=by
 have o:=M.len;refine ld.of (fun A r b B j Y=>?_) (fun A B P=>?_)
 ·rw[jB]at Y;split at Y
  ·cases Y
  ·rename_i z O ab;obtain⟨h,v⟩:=q.lt A z O B j ab;obtain⟨ah,X⟩:=Pw M s.lt _ z O r b om v Y;exact⟨om,X⟩
 ·refine cA Xo (fun _=>Z) ?_;refine q.call A B P 0 _ _ Z (fun z X b i e=>?_) (fun S k b i=>?_)
  ·obtain⟨H,l⟩:=q.lt A z b B P i;obtain⟨m,aa,t,K,p,x,L,I,rfl⟩:=e.eight;refine cl.less (eW:=[(0,.bp 0 0),(2,.bp 1 0),(3,.bp 2 0)]) ⟨Z,Z,Z,tv⟩ ?_;refine cl.iter (fun _:Nat×Ex×List D=>[(0,.bp 0 0),(2,.bp 1 0),(3,.bp 2 0)]) (fun h=>[dq g h.1,.box jz,.box (h.2.2.map V.d)]) (fun h=>g.ts.length-h.1)
    (fun h=>A<h.1/\h.1<g.ts.length/\ly h.2.1 h.2.2/\∃n,g.ts.length-h.1<n/\jB f d g A=lc d g n h.2.1 h.1) ?_ (b,z,_) ⟨H,l,e,g.ts.length,by show g.ts.length-b<g.ts.length;omega,by rw[jB,i]⟩
   rintro⟨b,z,X⟩ ⟨R,N,W,n,Q,U⟩;have H:A<b:=R;have l:b<g.ts.length:=N;have e:ly z X:=W;have ag:g.ts.length-b<n:=Q;have a:jB f d g A=lc d g n z b:=U;clear R N W Q U;obtain⟨m,aa,t,K,p,x,L,I,rfl⟩:=e.eight;obtain⟨n,rfl⟩:∃w,n=w+1:=⟨n-1,om⟩;rw[lc]at a;refine cG g b (g.tok b) [46] (bZ l) om 0 Z (fun E=>?_) (fun E=>?_)
   ·have c:=M.step l E;rw[if_pos E]at a;intro ae;repeat refine b6 ?_
    refine jR g (b+1) _ (bZ c) om 0 ?_ (fun J=>?_) (fun J=>?_)
    ·exact Z
    ·have T:b+1+1<g.ts.length:=M.go (b+1) _ (bZ c) om;simp only[c9,J,ne_eq,not_true,if_false]at a;repeat refine b6 ?_
     refine⟨(b+1+1,.mk 6 [] (g.tok (b+1)).text [] 0 [] [] [z],_),⟨by show A<b+1+1;omega,T,.mk .nil .nil (.ps (.cons e .nil)),n,by show g.ts.length-(b+1+1)<n;omega,a⟩,by show g.ts.length-(b+1+1)<g.ts.length-b;omega,.drop 3 ⟨rfl,rfl,rfl,tv⟩ rfl rfl rfl rfl rfl rfl rfl,rfl,rfl⟩
    ·refine a7 1 (cK (by rw[a];simp only[c9,J,ne_eq,not_false_eq_true,if_true]))
   ·rw[if_neg (by rw[E];decide)]at a;refine cG g b (g.tok b) [40] (bZ l) om 0 Z (fun F=>?_) (fun F=>?_)
    ·have c:=M.step l F;rw[if_pos F]at a;refine A0 M [41] 9 (kids:=[z]) (ml:=[[.int .i64 (YM m),.str aa,.str t,.str K,.int .i64 p,x,L,I]]) (s.up om) c (.cons e .nil) (YN _) 0 3 dc Z Z (fun r d2 y af C G u=>?_) (fun S k y af C u=>?_)
     ·obtain⟨h,v⟩:=xS M s.lt om c C;obtain⟨m,aa,t,K,p,x,L,I,rfl⟩:=G.eight;rw[C]at a;refine⟨(y,r,_),⟨by show A<y;omega,v,G,n,by show g.ts.length-y<n;omega,a⟩,by show g.ts.length-y<g.ts.length-b;omega,.drop 3 ⟨rfl,rfl,rfl,tv⟩ rfl rfl rfl rfl rfl rfl rfl,rfl,rfl⟩
     ·rw[C]at a;refine a7 1 (cK a)
    ·rw[if_neg (by rw[F];decide)]at a;refine a7 1 (dK a e)
  ·refine a7 1 (cK (by rw[jB,i]))
theorem cP.gone{x:Nat}{e:dC}{a:VS}{s:dC->VS->Prop}(y:cP x e (a++[.gone]) s):cP x e a s:=by
 refine⟨fun b l q n c=>?_⟩;have h:An b (a++[cL.gone]).length e:=by
  cases e with
  |ret p=>exact eV.mono (Fz.le_refl _) Ug (show eV b a.length p from c)
  |eE p=>exact eV.mono (Fz.le_refl _) Ug (show eV b a.length p from c)
 exact y.go b l q n.gone h
def lX(a:List Nat):List V:=a.map fun b=>.bp b 0
variable{k:Nat->Nat} {o:List Nat}
theorem GX{n:Nat}(l:∀a∈o,a<n)(b:∀a,a<n->k a=a):gU k (lX o)=lX o:=by
 induction o with
 |nil=>rfl
 |cons e o c=>
  show V.bp (k e) 0::gU k (lX o)=_;rw[b e (l e sm),c fun a h=>l a (by simp[h])];rfl
theorem K2{n:Nat}(h:∀b∈o,b<n):e5 n (lX o)=true:=by
 induction o with
 |nil=>rfl
 |cons c o a=>
  show(Nat.blt c n&&e5 n (lX o))=true;rw[a fun b e=>h b (by simp[e]),show Nat.blt c n=true by rw[Nat.blt_eq];exact h c sm];rfl
def pz(n:Nat)(c a:VS):Prop:=∃b,Ay n b 0=true/\b.Nodup/\n<=a.length/\u0 (jg b c.length) a.length c b a
theorem pz.code{n:Nat}{a:VS}(J:pz n r a)(p:∀q∈o,q<n)(z:0<n){s:s7}{c:Code}{y:Tm}{b:List UInt8}{h:FuncId}{I:zk->Tm->List e8->lm->VS->Prop}(B:s.fl=n) 
  (E:nU [(0,.bp 0 0),(1,cq j),(2,cq b),(3,.fn h [] (lX o))] y) (G:cl C b7 s c [(0,.bp 0 0),(1,cq j),(2,cq b),(3,.fn h [] (lX o))] [] .none a I):cl C b7 s c y [] .none r I:=by
 obtain⟨e,A,F,D,H⟩:=J;have l:∀q,q<n->jg e r.length q=q:=fun q x=>by
  have:=p0 A x;rw[jY this];omega
 refine cl.pick n e (eW:=[(0,.bp 0 0),(1,cq j),(2,cq b),(3,.fn h [] (lX o))]) ?_ ?_ (by rw[B,YT];exact YN n) A rfl rfl F H G
 ·show nU [(0,V.bp (jg e r.length 0) 0),(1,cq j),(2,cq b),(3,V.fn h [] (gU (jg e r.length) (lX o)))] y;rw[l 0 z,GX p l];exact E
 ·show(Nat.blt 0 a.length&&(true&&(true&&((true&&e5 a.length (lX o))&&true))))=true;rw[K2 fun q x=>YZ (p q x) D,show Nat.blt 0 a.length=true by rw[Nat.blt_eq];exact YZ z D];rfl
def Xp:Nat->Bool:=fun a=>YP a 18||YP a 1000002
theorem C0{D H:Type}(u:g.Wf)(c:List UInt8)(step:D->Nat->PR D)(I:D->H->Nat->Prop)(N:H->VS)(y:VS)(n:Nat)(E:FuncId)(o:(C.ff.get E).isSome=true)(A:List Nat){g0:D}{a0:H}{p:Nat}(P:p<g.ts.length)(Q:I g0 a0 p)(R:∀z a q,I z a q->I z a (q+1))(U:y++[.gone]=N a0)(ad:y.length+1=n)(X:∀a,n<=(N a).length+1)(k:∀aj∈A,aj<n) 
  (ac:∀z a q,I z a q->p<=q->q<g.ts.length->∀S:dC->VS->Prop,
   (∀B x b l,step z q=.ok B b->I B x b->q<b->b<g.ts.length->pz n (dq g b::l) (dq g b::N x)->S (.ret (.dV [])) (dq g b::l))->
   (∀s e b l,step z q=.bad s e->n<=l.length+1->S (.eE (dt s e)) (dq g b::l))->b1 C b7 E (lX A) (dq g q::N a) S) (L:∀z a q,fA step g c g0 p=.ok z q->I z a q->p<q->q<g.ts.length->i (.ret (.dV [])) (dq g q::N a))
  (K:∀s e q l,fA step g c g0 p=.bad s e->i (.eE (dt s e)) (dq g q::l)):
  b1 C b7 Cb [.bp 0 0,cq [44],cq c,.fn E [] (lX A)] (dq g p::y) i:=by
 have aa:=u.len;refine cA Xp (fun _=>Z) ?_;refine cG g p (g.tok p) c (bZ P) om 0 Z (fun t=>?_) (fun t=>?_)
 ·refine cP.gone ?_;refine cP.now (by rw[YT];simp) ?_;show i (.ret (.dV [])) (dq g (p+1)::(y++[.gone]));rw[U];exact L g0 a0 (p+1) (by rw[fA,if_pos t]) (R _ _ _ Q) (Nat.lt_succ_self p) (u.step P t)
 ·refine cl.less (eW:=[(0,.bp 0 0),(1,cq [44]),(2,cq c),(3,.fn E [] (lX A))]) ⟨Z,Z,Z,Z,tv⟩ ?_;refine cl.gone ?_;show cl _ _ _ _ _ _ _ (dq g p::(y++[.gone])) _;rw[U];refine cl.iter (fun _:Nat×D×H=>[(0,.bp 0 0),(1,cq [44]),(2,cq c),(3,.fn E [] (lX A))]) (fun a=>dq g a.1::N a.2.2) (fun a=>g.ts.length-a.1)
   (fun a=>p<=a.1/\a.1<g.ts.length/\I a.2.1 a.2.2 a.1/\∃G,g.ts.length-a.1<=G/\fA step g c g0 p=gS step g c G a.2.1 a.1) ?_ (p,g0,a0) ⟨YN _,P,Q,_,by show g.ts.length-p<=g.ts.length;omega,by rw[fA,if_neg (by rw[t];decide)]⟩
  rintro⟨q,z,a⟩ ⟨f,W,V,G,Y,d⟩;have T:p<=q:=f;have w:q<g.ts.length:=W;have m:I z a q:=V;have ai:g.ts.length-q<=G:=Y;have h:fA step g c g0 p=gS step g c G z q:=d;clear f W V Y d Q;obtain⟨G,rfl⟩:∃ab,G=ab+1:=⟨G-1,om⟩;rw[gS]at h;conv=>whnf
  rw[o];refine ac z a q m T w _ (fun B x b l e M ae F j=>?_) (fun s ah b l e ag=>?_)
  ·rw[e]at h;dsimp only at h;refine j.code k om ad ⟨Z,Z,Z,Z,tv⟩ ?_;refine uX ?_;refine cG g b (g.tok b) c (bZ F) om 0 Z (fun J=>?_) (fun J=>?_)
   ·rw[if_pos J]at h;refine cP.now (by rw[YT];show y.length+1<=(N x).length+1;have:=X x;omega) ?_;exact L B x (b+1) h (R _ _ _ M) om (u.step F J)
   ·rw[if_neg (by rw[J];decide)]at h;intro v;refine gM u [44] F v _ 0 Z (fun O r=>?_) (fun O af=>?_)
    ·rw[tC O]at h;refine⟨(b+1,B,x),⟨by show p<=b+1;omega,r,R _ _ _ M,G,by show g.ts.length-(b+1)<=G;omega,h⟩,by show g.ts.length-(b+1)<g.ts.length-q;omega,.same ⟨rfl,rfl,rfl,rfl,tv⟩ rfl,rfl,rfl⟩
    ·refine cP.now (by rw[YT];show y.length+1<=(N x).length+1;have:=X x;omega) ?_;exact K _ _ _ _ (by rw[h];simp only[cu,O,if_false,YL])
  ·rw[e]at h;refine cP.now (by rw[YT];show y.length+1<=l.length+1;omega) ?_;exact K _ _ _ _ h
theorem Px(es:Nat)(c:List D)(b:List (List D))(a:List D):some (cL.row es (YW (b.length+1) (YX 0 (YQ (fun a=>YQ V.d a) (c::b)))++[a.map V.d]))=some (.row es (((c::b)++[a]).map fun a=>a.map V.d)):=by
 rw[List.drop_zero,YV sm];simp
theorem Sg(a:FE)(b:List FE):some (kO 9 (GU (a::b)))=some (.row 9 (dd true (a::b))):=by
 simp[kO,GU,dd,wI,Function.comp_def]
variable{u:PR Ex}
theorem tD{a:Nat}(b:u=.bad w a):cP 1 (.eE (dt w a)) (dq g m::r) (H2 g u):=
 cP.drop 1 rfl (by show(fG 1 (dq g m)&&ln 1 r 0)=true;rw[ln];rfl) rfl (cP.now rfl (cK b))
theorem zy{n:List UInt8}{c e:D}{types:List Ty}{b:List iV}{els:List (List D)}(h a:Nat)(z:nth r h=some (.row 8 (els.map fun A=>A.map V.d)))(l:a=els.length)(s:iL t els)(q:ib types c)(x:fK b e)(y:u=.ok (.mk w [] n [] 0 types b t) m):
  cP 1 (.ret (.agg (jx w n c (.d e) (.ms (h+1) 8 0 a a)))) (dq g m::r) (H2 g u):=by
 refine cP.freeze (h+1) (es:=8) (l:=els) z (fZ els) (by repeat' (first|exact tv|exact fun _=>⟨rfl,by simp[l]⟩|refine YY ?_ ?_)) (fun p=>?_);have C:uZ (h+1) p els (.ret (.agg (jx w n c (.d e) (.ms (h+1) 8 0 a a))))=.ret (.agg (([.int .i64 (YM w),.str [],.str n,.str [],.int .i64 (YM 0),c,e,.ps p 0 8 a els]:List D).map V.d)):=by
  show dC.ret (.agg (jx w n c (.d e) (nf (h+1) p els (.ms (h+1) 8 0 a a))))=_;rw[nf,jQ];show dC.ret (.agg (jx w n c (.d e) (.d (.ps p (0*8) 8 a ((els.drop 0).take a)))))=_;rw[eH _ _ l];rfl
 rw[C];refine cP.drop 1 Z (by show(fG 1 (dq g m)&&ln 1 (r.set h .gone) 0)=true;rw[ln];rfl) (pc 1 _) (cP.now rfl ?_);exact dK y (.mk q x (.ps s))
def Xq:Nat->Bool:=fun a=>YP a 7
def Xr(l:List Ex)(a:List (List D))(b:Nat):Prop:=iL l a/\a.length<=b
def Xs(tok:List D)(b:D)(a:List (List D)):VS:=[.box [.bp 0 0],.box jz,.box (tok.map V.d),.box (jx 14 [] b (.d .cn) (kV 5 8 a)),kO 8 a]
theorem Jq(a:List (List D)):a.length+1<a.length+1+1:=Nat.lt_succ_self _
theorem A1(a:List D)(b:List (List D)):nth (YW (b.length+1) (YX 0 (YQ (fun c=>YQ V.d c) (a::b)))++[jz]) (0+(b.length+1))=some jz:=by
 rw[cv,List.getElem?_append_right sm];simp
theorem Py(b:List D)(c:List (List D))(a:List D):(YW (c.length+1) (YX 0 (YQ (fun a=>YQ V.d a) (b::c)))++[jz]).set (0+(c.length+1)) (a.map V.d)=YQ (fun a=>YQ V.d a) (b::(c++[a])):=by
 rw[List.drop_zero,YV sm,List.set_append_right _ _ sm];simp
theorem GY(tok:List D):some (cL.box (tok.map V.d))=some (dH k (.box (tok.map V.d))):=by rw[dH,Ph]
theorem K3(tok:List D):fG m (.box (tok.map V.d))=true:=pc m tok
theorem UC(b:D)(c:List D)(a:List (List D))(e:List D)(h:k w=m):some (cL.box (jx 14 [] b (.d .cn) (.ms m 8 0 (a.length+1+1) (a.length+1+1))))=some (dH k (.box (jx 14 [] b (.d .cn) (kV w 8 ((c::a)++[e]))))):=by
 subst h;exact wK Z (by rw[lW];exact km _ 8 c a e)
theorem Sh(b:List D)(a:List (List D))(c:List D):some (cL.row 8 ((YW (a.length+1) (YX 0 (YQ (fun c=>YQ V.d c) (b::a)))++[jz]).set (0+(a.length+1)) (c.map V.d)))=some (dH k (kO 8 ((b::a)++[c]))):=by
 rw[Py,AQ];rfl
theorem Si(r:g.Wf){lo:Nat}(p:ld cR d g lo)(tok:List D)(H:D)(l:List Ex)(G:List (List D))(y:Nat)(j:Xr l G y)(s:lo<=y)(K:y<g.ts.length)(O:dC->VS->Prop) 
  (P:∀T S c B,kc d l y=.ok T c->Xr T S c->y<c->c<g.ts.length->pz 5 (dq g c::B) (dq g c::Xs tok H S)->O (.ret (.dV [])) (dq g c::B))
  (U:∀n m c B,kc d l y=.bad n m->5<=B.length+1->O (.eE (dt n m)) (dq g c::B)):b1 C b7 n0 (lX [4,1]) (dq g y::Xs tok H G) O:=by
 have i:=r.len;obtain⟨R,Q⟩:=j;refine b1.body Xq (fun _=>Z) ?_;rcases G with _|⟨z,a⟩
 ·intro f;repeat refine b6 ?_
  refine p.call y s K 0 _ _ ?_ (fun Y o x b A=>?_) (fun n X x b=>?_)
  ·exact Z
  rotate_left
  ·exact U _ _ _ _ (by simp only[kc,b,PR.map]) (by show 5<=6;omega)
  obtain⟨e,I⟩:=p.lt _ _ _ s K b;obtain⟨L,W,V,M,h,q,N,J,rfl⟩:=A.eight;have E:kc d l y=.ok (l++[Y]) x:=by simp only[kc,b,PR.map]
  have F:=R.snoc A;repeat first
   |refine b0 rfl ?_
   |refine b8 ?_
   |refine b4 jz rfl ?_
  refine P _ _ _ _ E ⟨F,by show 1<=x;omega⟩ e I ⟨[0,1,2,3,4,6],rfl,dc,by show 5<=6;omega,rfl,rfl,rfl,rfl,rfl,rfl,GY tok,K3 tok,rfl,wL rfl rfl,jy _ 8 [.int .i64 (YM L),.str W,.str V,.str M,.int .i64 h,q,N,J],fO _ _ _,tv⟩
 ·intro f;repeat refine b6 ?_
  refine p.call y s K 0 _ _ ?_ (fun Y o x b A=>?_) (fun n X x b=>?_)
  ·exact Z
  rotate_left
  ·exact U _ _ _ _ (by simp only[kc,b,PR.map]) (by show 5<=6;omega)
  obtain⟨e,I⟩:=p.lt _ _ _ s K b;obtain⟨L,W,V,M,h,q,N,J,rfl⟩:=A.eight;have E:kc d l y=.ok (l++[Y]) x:=by simp only[kc,b,PR.map]
  have F:=R.snoc A;have k:a.length+1<=y:=Q;refine a1 ?_ ?_
  ·repeat' (first|exact tv|exact rfl|exact YN _|exact(qS om (YN _) (YO rfl)).1|exact(qS om (YN _) (YO rfl)).2|(simp only[List.length_map,YS];omega)|refine b0 rfl ?_|refine YY ?_ ?_)
  refine a1 Z (a1 ⟨Z,Z,by simp,YN _,qS om (YN _) (YO rfl)⟩ ?_);refine a6 Z (a6 (fg (a.length+1)) ?_);refine a1 ?_ ?_
  ·repeat' (first|exact tv|exact rfl|exact YO rfl|refine b0 rfl ?_|refine b4 jz (A1 z a) ?_|refine a1 (Jq a) ?_|refine YY ?_ ?_)
  refine b0 Z ?_;refine a1 (Jq a) ?_;refine a1 ?_ ?_
  ·repeat' (first|exact tv|exact rfl|exact YO rfl|refine b0 rfl ?_|refine b4 jz (A1 z a) ?_|refine a1 (Jq a) ?_|refine YY ?_ ?_)
  refine b4 jz (A1 z a) ?_;refine P _ _ _ _ E ⟨F,by simp only[List.length_append,YS,YU];omega⟩ e I ⟨[0,1,2,3,4,6],rfl,dc,by show 5<=6;omega,rfl,rfl,rfl,rfl,rfl,rfl,GY tok,K3 tok,UC H z a [.int .i64 (YM L),.str W,.str V,.str M,.int .i64 h,q,N,J] rfl,wL rfl (ka 8 _ rfl),Sh z a [.int .i64 (YM L),.str W,.str V,.str M,.int .i64 h,q,N,J],fO _ _ _,tv⟩
abbrev TM(b:Nat)(a:List D):D:=.ps b 0 5 1 [a]
def Xt:Nat->Bool:=fun a=>YP a 49||YP a 55||YP a 56||YP a 59||YP a 67||YP a 70||YP a 85||YP a 87||YP a 90
theorem Jr(G:g.Wf)(c:List UInt8){p:Nat}(z:eo f g p)(A:p<g.ts.length)(l:Nat)(h:nth r l=some (dq g p))(s:∀D n b,gm f g c p=.ok D b->ly D n->i (.ret (.agg (n.map V.d))) (r.set l (dq g b))) 
  (B:∀a e b,gm f g c p=.bad a e->i (.eE (dt a e)) (r.set l (dq g b))):b1 C b7 sy [.bp l 0,cq c] r i:=by
 refine b1.one (dN:=[.bp 0 0,cq c]) (P:=MC g (gm f g c p)) (GW G c z A) l h Z Z Z (fun H E q=>?_);unfold MC at q;split at q
 ·rename_i F b e;obtain⟨rfl,n,x,rfl⟩:=q;exact s F n b e x
 ·rename_i a y e;obtain⟨b,rfl,rfl⟩:=q;exact B a y b e
theorem zz{p a:Nat}(b:(g.tok p).kind≠a):decide (YM (g.tok p).kind=YM a)=false:=decide_eq_false fun c=>b (by simp only[Int.ofNat_eq_natCast]at c;omega)
theorem wR{p a:Nat}(b:(g.tok p).kind=a):decide (YM (g.tok p).kind=YM a)=true:=by rw[b];exact decide_eq_true rfl
def wS(h:Nat->PR Ty)(a:Nat->PR Ex)(l:Rd)(p:Nat):PR Ex:=match h p with
 |.bad c e=>.bad c e
 |.ok q n=>match cu l [[124]] n with
  |.bad c e=>.bad c e
  |.ok _ b=>(fA (kc a) l [93] [] b).map fun s=>.mk 14 [] [] [] 0 [q] [] s
theorem Js(J:g.Wf)(w:g.Ng){p:Nat}(P:eo f g p)(G:ld cR d g (p+1))(x:p<g.ts.length):
  b1 C b7 lR [.bp 0 0] [dq g p] (H2 g (e7 f d g p)):=by
 have ap:=J.len;refine cA Xt (fun _=>Z) ?_;refine ei g p _ (bZ x) 0 Z ?_;by_cases a:(g.tok p).kind=3
 ·refine a8 (wR a) ?_;refine Pu J w 9223372036854775807 p x (.inl Z) 0 Z (fun aC ax D y A=>?_) (fun B L D y=>?_)
  ·obtain⟨aj,al,am,U,M,O,V,W,rfl⟩:=A.eight;refine a7 1 (dK (by rw[e7,if_pos a,y]) A)
  ·refine a7 1 (cK (by rw[e7,if_pos a,y]))
 refine a6 (zz a) ?_;by_cases c:(g.tok p).kind=4
 ·refine a8 (wR c) ?_;refine dr g p _ (bZ x) om 0 Z ?_;have S:dW (g.tok p) p=p+1:=by rw[dW,if_neg om]
  rw[S];refine a7 1 (dK (by rw[e7,if_neg a,if_pos c]) (.mk .nil .nil .nil))
 refine a6 (zz c) ?_;by_cases b:(g.tok p).kind=1
 ·refine a8 (wR b) ?_;have h:p+1<g.ts.length:=J.go p _ (bZ x) om;repeat refine b6 ?_
  refine dr g p _ (bZ x) om 0 Z ?_;have S:dW (g.tok p) p=p+1:=by rw[dW,if_neg om]
  rw[S];repeat refine b6 ?_
  refine Jr J (g.tok p).text ⟨fun r an D ak=>P.lt r an D om,fun r ak=>P.call r om⟩ h 0 Z (fun aC ax D y A=>?_) (fun B L D y=>?_)
  ·obtain⟨aj,al,am,U,M,O,V,W,rfl⟩:=A.eight;repeat refine b6 ?_
   refine a7 1 (dK (by rw[e7,if_neg a,if_neg c,if_pos b,y]) A)
  ·refine a7 1 (cK (by rw[e7,if_neg a,if_neg c,if_pos b,y]))
 refine a6 (zz b) ?_;refine cG g p _ [116,114,117,101] (bZ x) om 0 Z (fun l=>?_) (fun l=>?_)
 ·refine a7 1 (dK (by simp only[e7,a,c,b,l,if_false,if_true]) (.mk .nil .nil .nil))
 refine cG g p _ [102,97,108,115,101] (bZ x) om 0 Z (fun n=>?_) (fun n=>?_)
 ·refine a7 1 (dK (by simp only[e7,a,c,b,l,n,if_false,if_true,YL]) (.mk .nil .nil .nil))
 refine cG g p _ [123] (bZ x) om 0 Z (fun q=>?_) (fun q=>?_)
 ·have h:=J.step x q;refine b1.gone ?_;refine A0 J [125] 5 (kids:=[]) (ml:=[]) G h .nil (Nat.zero_le _) 0 4 dc Z Z (fun aO d2 u aF I i aq=>?_) (fun B L u aF I aq=>?_)
  ·obtain⟨aj,al,am,U,M,O,V,W,rfl⟩:=i.eight;refine a7 1 (dK (by simp only[e7,a,c,b,l,n,q,if_false,if_true,YL,I]) i)
  ·refine a7 1 (cK (by simp only[e7,a,c,b,l,n,q,if_false,if_true,YL,I]))
 refine cG g p _ [60] (bZ x) om 0 Z (fun s=>?_) (fun s=>?_)
 ·have h:=J.step x s;refine jR g (p+1) _ (bZ h) om 0 Z (fun Q=>?_) (fun Q=>?_)
  ·have af:p+1+1<g.ts.length:=J.go (p+1) _ (bZ h) om;intro ad;refine gM J [58] af ad _ 0 Z (fun e Y=>?_) (fun e D=>?_)
   ·repeat refine b6 ?_
    refine G.call (p+1+1+1) om Y 0 _ _ Z (fun aC ax D y A=>?_) (fun B L D y=>?_)
    ·obtain⟨ah,K⟩:=G.lt _ _ _ om Y y;obtain⟨aj,al,am,U,M,O,V,W,rfl⟩:=A.eight;intro aH;repeat refine b8 ?_
     intro R;repeat refine b8 ?_
     intro ao;refine gM J [62] K ao _ 0 Z (fun z ae=>?_) (fun z D=>?_)
     ·refine a7 1 (dK (by simp only[e7,c9,eJ,cu,PR.map,a,c,b,l,n,q,s,Q,e,z,if_false,if_true,ne_eq,not_true,YL,y]) (.mk .nil .nil (.ps (.cons A .nil))))
     ·refine a7 1 (cK (by simp only[e7,c9,eJ,cu,PR.map,a,c,b,l,n,q,s,Q,e,z,if_false,if_true,ne_eq,not_true,YL,y]))
    ·refine a7 1 (cK (by simp only[e7,c9,eJ,cu,PR.map,a,c,b,l,n,q,s,Q,e,if_false,if_true,ne_eq,not_true,YL,y]))
   ·refine a7 1 (cK (by simp only[e7,c9,eJ,cu,PR.map,a,c,b,l,n,q,s,Q,e,if_false,if_true,ne_eq,not_true,YL]))
  ·refine a7 1 (cK (by simp only[e7,c9,a,c,b,l,n,q,s,Q,if_false,if_true,ne_eq,not_false_eq_true,YL]))
 refine cG g p _ [91] (bZ x) om 0 Z (fun E=>?_) (fun E=>?_)
 ·have h:=J.step x E;have T:e7 f d g p=wS f d g (p+1):=by
   simp only[e7,a,c,b,l,n,q,s,E,if_false,if_true,YL];rfl
  rw[T];clear T;refine P.call (p+1) om h 0 _ _ Z (fun an aA ag y F=>?_) (fun B L D y=>?_)
  ·obtain⟨aE,k⟩:=P.lt _ _ _ om h y;obtain⟨j,m,tn,o,t,rfl⟩:=F.di;intro ad;intro R;refine gM J [124] k R _ 0 Z (fun e N=>?_) (fun e D=>?_)
   ·have T:wS f d g (p+1)=(fA (kc d) g [93] [] (ag+1)).map fun aL=>.mk 14 [] [] [] 0 [an] [] aL:=by
     simp only[wS,y,cu,e,if_true]
    rw[T];clear T;have ab:ld cR d g (ag+1):=G.up om;refine C0 J [93] (kc d) Xr (Xs [.int .i64 (YM (g.tok p).kind),.str (g.tok p).text,.int .i64 (YM (g.tok p).off)] (TM ad [.int .i64 (YM j),.str m,.str tn,o,t])) (g0:=[]) (a0:=[]) [.box [.bp 0 0],.box jz,.box [b3 (g.tok p).kind,cq (g.tok p).text,b3 (g.tok p).off],.box (jx 14 [] (TM ad [.int .i64 (YM j),.str m,.str tn,o,t]) (.d .cn) (.d .cn))] 5 n0 Z [4,1] N ⟨.nil,Nat.zero_le _⟩ (fun aw aa D ak=>⟨ak.1,Nat.le_succ_of_le ak.2⟩) Z Z (fun aa=>by show 5<=6;omega) dc (fun aw aa D e z ar az b av=>Si J ab _ _ aw aa D e z ar az b av) (fun aw aa D X aD _ ah=>?_) (fun B L D aM X=>?_)
    ·obtain⟨ai,aJ⟩:=aD;rcases aa with _|⟨aG,ay⟩
     ·cases ai;refine a7 1 (dK (by rw[X];rfl) (.mk (.ps (.cons F .nil) sm) .nil .nil))
     ·exact zy 4 (ay.length+1) Z Z ai (.ps (.cons F .nil) sm) .nil (by rw[X];rfl)
    ·exact tD (by rw[X];rfl)
   ·refine a7 1 (cK (by simp only[wS,y,cu,e,if_false,YL]))
  ·refine a7 1 (cK (by simp only[wS,y]))
 refine cG g p _ [40] (bZ x) om 0 Z (fun H=>?_) (fun H=>?_)
 ·have h:=J.step x H;refine G.call (p+1) om h 0 _ _ Z (fun aC ax D y A=>?_) (fun B L D y=>?_)
  ·obtain⟨ah,K⟩:=G.lt _ _ _ om h y;obtain⟨aj,al,am,U,M,O,V,W,rfl⟩:=A.eight;refine cG g D _ [58] (bZ K) om 0 Z (fun e=>?_) (fun e=>?_)
   ·have N:=J.step K e;intro aI;repeat refine b6 ?_
    refine P.call (D+1) om N 0 _ _ Z (fun an aA u I F=>?_) (fun B L u I=>?_)
    ·obtain⟨ae,v⟩:=P.lt _ _ _ om N I;obtain⟨j,m,tn,o,t,rfl⟩:=F.di;intro ad;repeat refine b6 ?_
     intro R;refine gM J [41] v R _ 0 Z (fun z ac=>?_) (fun z D=>?_)
     ·refine a7 1 (dK (by simp only[e7,cu,PR.map,a,c,b,l,n,q,s,E,H,e,z,if_false,if_true,YL,y,I]) (.mk (.ps (.cons F .nil) sm) .nil (.ps (.cons A .nil))))
     ·refine a7 1 (cK (by simp only[e7,cu,PR.map,a,c,b,l,n,q,s,E,H,e,z,if_false,if_true,YL,y,I]))
    ·refine a7 1 (cK (by simp only[e7,cu,PR.map,a,c,b,l,n,q,s,E,H,e,if_false,if_true,YL,y,I]))
   ·intro R;refine gM J [41] K R _ 0 Z (fun z ac=>?_) (fun z D=>?_)
    ·refine a7 1 (dK (by simp only[e7,cu,PR.map,a,c,b,l,n,q,s,E,H,e,z,if_false,if_true,YL,y]) A)
    ·refine a7 1 (cK (by simp only[e7,cu,PR.map,a,c,b,l,n,q,s,E,H,e,z,if_false,if_true,YL,y]))
  ·refine a7 1 (cK (by simp only[e7,a,c,b,l,n,q,s,E,H,if_false,if_true,YL,y]))
 refine eO _ (g.tok p).off 3 ?_;refine a7 1 (cK (by simp only[e7,a,c,b,l,n,q,s,E,H,if_false,YL]))
end Go.Proofs.YtpejealjkmhkgaaGreatDoor
