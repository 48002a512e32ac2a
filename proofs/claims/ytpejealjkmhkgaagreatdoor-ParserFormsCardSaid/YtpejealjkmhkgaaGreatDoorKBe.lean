/- Part of the proof. -/
import Derived.Test.YtpejealjkmhkgaaGreatDoorKBd
set_option linter.all false
set_option maxHeartbeats 16000000
set_option maxRecDepth 100000
open Bool renaming false_eq_true->abK
open Nat renaming beq->abL,le_refl->aet,le_of_ble_eq_true->aeO,ble_eq->aeP
open List renaming map->aeu,find?->aev,length_cons->aeN,length_nil->aeQ,take->aeR,drop->aeS
open Int renaming ofNat->aeM
namespace Go.Proofs.YtpejealjkmhkgaaGreatDoor
open Go.AM Go.VM
variable{m y:Nat}
theorem fH{c a:Type}{h:c->a}{e:PR c}{b:a}(i:e.map h=.ok b m):∃d,e=.ok d m/\h d=b:=by
 cases e with
 |ok d n=>cases i;exact⟨d,rfl,rfl⟩
 |bad l p=>cases i
variable{r:cq} {g:Nat->PR Ty} {j:Rd}
theorem Ok(i:j.Wf){A p e:Nat}{t:Ty}(d:∀c t e,p<=c->c<j.ts.length->g c=.ok t e->c<e/\e<j.ts.length) 
  (hp:m≠0->p<j.ts.length) (h:hO g j m r A p=.ok t e):p<=e/\e<j.ts.length:=by
 unfold hO at h;split at h
 ·have hp:=hp om;split at h
  ·exact NC
  ·split at h
   ·obtain⟨s,a,_⟩:=fH h;exact kr i d hp a
   ·split at h
    ·cases b:cu j [[40]] p with
     |bad F G=>rw[b]at h;cases h
     |ok H q1=>
      rw[b]at h;dsimp only at h;have E:=cL _ _ _ b;have n:=da i _ _ _ hp b;cases q:eY g j [44] [41] true q1 with
      |bad F G=>rw[q]at h;cases h
      |ok J q2=>
       rw[q]at h;dsimp only at h;obtain⟨D,l⟩:=sR i (fun c t e B=>d c t e om) n q;obtain⟨s,a,_⟩:=fH h;obtain⟨I,C⟩:=d q2 s e om l a;exact⟨om,C⟩
    ·cases h
 ·split at h
  ·have hp:=hp om;split at h
   ·obtain⟨s,a,_⟩:=fH h;exact sR i d hp a
   ·split at h
    ·obtain⟨s,a,_⟩:=fH h;exact sR i d hp a
    ·cases h
  ·split at h
   ·obtain⟨s,a,_⟩:=fH h;exact Dn i d (hp om) a
   ·split at h
    ·have hp:=hp om;cases b:cu j [[58,58]] p with
     |bad F G=>rw[b]at h;cases h
     |ok H q1=>
      rw[b]at h;dsimp only at h;have E:=cL _ _ _ b;have n:=da i _ _ _ hp b;split at h
      ·cases h
      ·rename_i w;have w:(j.tok q1).kind=2:=by simpa using w
       obtain⟨s,a,_⟩:=fH h;obtain⟨D,l⟩:=Dn i (fun c t e B=>d c t e om) (i.go q1 _ (bY n) om) a;exact⟨om,l⟩
    ·cases h
theorem Ol(s:j.Wf):∀(d a:Nat) (c:Ty) (b:Nat),a<j.ts.length->dl j d a=.ok c b->a<b/\b<j.ts.length:=by
 intro d;induction d with
 |zero=>intro a c b _ e;cases e
 |succ d l=>
  intro a c b h e;rw[dl]at e;obtain⟨w,t⟩:=Ok s (p:=a+1) (fun p c b _ q n=>l p c b q n) (fun i=>s.go a _ (bY h) i) e;exact⟨om,t⟩
theorem Ds(s:j.Wf):∀(c b:Nat),j.ts.length-b<=c->ef (dl j c) j b:=by
 intro c;induction c with
 |zero=>intro b h;exact⟨fun d t q i a=>om,fun d i a=>om⟩
 |succ c l=>
  intro b h;refine⟨fun d t q _ a n=>Ol s _ d t q a n,fun d i a w A B e k1 k2=>?_⟩;refine bV.one (dM:=[.bp 0 0]) (P:=B2 j (dl j (c+1) d)) (Ql j s c d a (l (d+1) om)) w e Z Z Z (fun C p h=>?_);unfold B2 at h;exact OV
def adU:Nat->Bool:=fun a=>abL a 6||abL a 12||abL a 16||abL a 22||abL a 26||abL a 32||abL a 33
variable{f:Nat->PR Ex}
theorem MA(O:j.Wf){p:Nat}(I:ef g j p)(c:mA cR f j p)(K:p<j.ts.length):
  bV C ca kn [.bp 0 0] [dp j p] (K3 j (oT g f j p)):=by
 have T:=O.len;refine cv adU (fun _=>Z) ?_;refine ph j O g p K I 0 Z (fun k v G a n=>?_) (fun i B G a=>?_)
 ·obtain⟨r,A⟩:=kr O (fun U k G S b h=>I.lt U k G S b h) K a;obtain⟨o,ab,tn,u,y,rfl⟩:=n.cZ;intro ag;repeat refine ch ?_
  refine c.call G om A 0 _ _ ?_ (fun ad ae q1 d H=>?_) (fun i B q1 d=>?_)
  ·exact Z
  ·obtain⟨V,E⟩:=c.lt _ _ _ om A d;obtain⟨W,Y,X,L,s,t,M,J,rfl⟩:=H.eight;intro z;repeat refine cf ?_
   intro Q;refine gZ O [116,104,101,110] E Q _ 0 Z (fun b w=>?_) (fun b G=>?_)
   ·repeat refine ch ?_
    refine c.call (q1+1) om w 0 _ _ ?_ (fun af d2 q2 e l=>?_) (fun i B q2 e=>?_)
    ·exact Z
    ·obtain⟨R,D⟩:=c.lt _ _ _ om w e;obtain⟨W,Y,X,L,s,t,M,J,rfl⟩:=l.eight;intro aa;repeat refine cf ?_
     intro P;refine gZ O [101,108,115,101] D P _ 0 Z (fun h N=>?_) (fun h G=>?_)
     ·repeat refine ch ?_
      refine c.call (q2+1) om N 0 _ _ ?_ (fun ac d3 q3 F q=>?_) (fun i B q3 F=>?_)
      ·exact Z
      ·obtain⟨W,Y,X,L,s,t,M,J,rfl⟩:=q.eight;intro m;repeat refine cf ?_
       intro x;repeat refine cf ?_
       refine a8 1 (dQ (by simp only[oT,fj,cu,PR.map,if_true,a,d,e,F,b,h]) (.mk (.ps (.cons n .nil) sm) .nil (.ps (.cons H (.cons l (.cons q .nil))))))
      ·refine a8 1 (cJ (by simp only[oT,fj,cu,PR.map,if_true,a,d,e,F,b,h]))
     ·refine a8 1 (cJ (by simp only[oT,fj,cu,PR.map,if_true,if_false,abK,a,d,e,b,h]))
    ·refine a8 1 (cJ (by simp only[oT,fj,cu,PR.map,if_true,a,d,e,b]))
   ·refine a8 1 (cJ (by simp only[oT,fj,cu,PR.map,if_true,if_false,abK,a,d,b]))
  ·refine a8 1 (cJ (by simp only[oT,a,d]))
 ·refine a8 1 (cJ (by simp only[oT,a]))
def adV:Nat->Bool:=fun a=>abL a 6||abL a 12||abL a 18||abL a 28||abL a 38||abL a 24||abL a 34||abL a 44||abL a 45
theorem MB(w:j.Wf){p:Nat}(Q:ef g j p)(i:mA cR f j p)(T:p<j.ts.length):
  bV C ca rm [.bp 0 0] [dp j p] (K3 j (lQ g f j p)):=by
 have m:=w.len;refine cv adV (fun _=>Z) ?_;refine ph j w g p T Q 0 Z (fun aa ag n b B=>?_) (fun s K n b=>?_)
 ·obtain⟨ae,J⟩:=kr w (fun u aa n c e h=>Q.lt u aa n c e h) T b;obtain⟨ad,aj,tn,af,ai,rfl⟩:=B.cZ;intro ap;refine kH j n _ (bY J) om 0 ?_ (fun d=>?_) (fun d=>?_)
  ·exact Z
  ·have P:n+1<j.ts.length:=w.go n _ (bY J) om;intro X;refine gZ w [44] P X _ 0 Z (fun c H=>?_) (fun c n=>?_)
   ·refine kH j (n+1+1) _ (bY H) om 0 ?_ (fun a=>?_) (fun a=>?_)
    ·exact Z
    ·have W:n+1+1+1<j.ts.length:=w.go (n+1+1) _ (bY H) om;intro o;refine gZ w [105,110] W o _ 0 Z (fun e I=>?_) (fun e n=>?_)
     ·repeat refine ch ?_
      refine i.call (n+1+1+1+1) om I 0 _ _ ?_ (fun am an q1 l O=>?_) (fun s K q1 l=>?_)
      ·exact Z
      ·obtain⟨v,M⟩:=i.lt _ _ _ om I l;obtain⟨x,z,y,U,E,F,V,S,rfl⟩:=O.eight;intro ac;repeat refine cf ?_
       intro r;refine gZ w [102,114,111,109] M r _ 0 Z (fun h G=>?_) (fun h n=>?_)
       ·repeat refine ch ?_
        refine i.call (q1+1) om G 0 _ _ ?_ (fun ao d2 q2 q A=>?_) (fun s K q2 q=>?_)
        ·exact Z
        ·obtain⟨k,L⟩:=i.lt _ _ _ om G q;obtain⟨x,z,y,U,E,F,V,S,rfl⟩:=A.eight;intro ab;repeat refine cf ?_
         intro Y;refine gZ w [61,62] L Y _ 0 Z (fun t R=>?_) (fun t n=>?_)
         ·repeat refine ch ?_
          refine i.call (q2+1) om R 0 _ _ ?_ (fun al d3 q3 N D=>?_) (fun s K q3 N=>?_)
          ·exact Z
          ·obtain⟨x,z,y,U,E,F,V,S,rfl⟩:=D.eight;intro ah;repeat refine cf ?_
           intro ak;repeat refine cf ?_
           refine a8 1 (dQ (by simp only[lQ,dh,fj,cu,PR.map,ne_eq,not_true,if_false,if_true,b,l,q,N,d,a,c,e,h,t]) (.mk (.ps (.cons B .nil) sm) .nil (.ps (.cons O (.cons A (.cons D .nil))))))
          ·refine a8 1 (cJ (by simp only[lQ,dh,fj,cu,PR.map,ne_eq,not_true,if_false,if_true,b,l,q,N,d,a,c,e,h,t]))
         ·refine a8 1 (cJ (by simp only[lQ,dh,fj,cu,PR.map,ne_eq,not_true,if_false,if_true,abK,b,l,q,d,a,c,e,h,t]))
        ·refine a8 1 (cJ (by simp only[lQ,dh,fj,cu,PR.map,ne_eq,not_true,if_false,if_true,b,l,q,d,a,c,e,h]))
       ·refine a8 1 (cJ (by simp only[lQ,dh,fj,cu,PR.map,ne_eq,not_true,if_false,if_true,abK,b,l,d,a,c,e,h]))
      ·refine a8 1 (cJ (by simp only[lQ,dh,fj,cu,PR.map,ne_eq,not_true,if_false,if_true,b,l,d,a,c,e]))
     ·refine a8 1 (cJ (by simp only[lQ,dh,fj,cu,PR.map,ne_eq,not_true,if_false,if_true,abK,b,d,a,c,e]))
    ·refine a8 1 (cJ (by simp only[lQ,dh,cu,ne_eq,not_true,not_false_eq_true,if_false,if_true,b,d,a,c]))
   ·refine a8 1 (cJ (by simp only[lQ,dh,cu,ne_eq,not_true,if_false,abK,b,d,c]))
  ·refine a8 1 (cJ (by simp only[lQ,dh,ne_eq,not_false_eq_true,if_true,b,d]))
 ·refine a8 1 (cJ (by simp only[lQ,b]))
theorem J4(A:j.Wf)(s:cq){p:Nat}(l:ef g j p)(d:p<j.ts.length):
  bV C ca uW [.bp 0 0,cn s] [dp j p] (K3 j (iH g j s p)):=by
 have D:=A.len;refine cm ?_;refine cI j p _ [58,58] (bY d) om 0 Z (fun a=>?_) (fun a=>?_)
 ·have e:=A.step d a;refine kH j (p+1) _ (bY e) om 0 Z (fun c=>?_) (fun c=>?_)
  ·have h:p+1+1<j.ts.length:=A.go (p+1) _ (bY e) om;refine qV j (p+1+1) _ [91] (bY h) 0 Z ?_;apply aZ<;>intro b
   ·refine vx j A g (p+1+1) h ⟨fun n G w F=>l.lt n G w om,fun n F=>l.call n om⟩ 0 Z (fun H E w q i=>?_) (fun t B w q=>?_)
    ·refine a8 1 (dQ (by simp only[iH,dh,PR.map,a,b,c,q,ne_eq,not_true,if_false,if_true]) (.mk i .nil .nil))
    ·refine a8 1 (cJ (by simp only[iH,dh,PR.map,a,b,c,q,ne_eq,not_true,if_false,if_true]))
   ·refine a8 1 (dQ (by simp only[iH,dh,PR.map,a,b,c,ne_eq,not_true,if_false,if_true,abK]) (.mk .nil .nil .nil))
  ·refine a8 1 (cJ (by simp only[iH,dh,PR.map,a,c,ne_eq,not_false_eq_true,if_true]))
 ·refine qV j p _ [91] (bY d) 0 Z ?_;apply aZ<;>intro b
  ·refine vx j A g p d l 0 Z (fun H E w q i=>?_) (fun t B w q=>?_)
   ·refine a8 1 (dQ (by simp only[iH,PR.map,a,b,q,if_false,if_true,abK]) (.mk i .nil .nil))
   ·refine a8 1 (cJ (by simp only[iH,PR.map,a,b,q,if_false,if_true,abK]))
  ·refine a8 1 (dQ (by simp only[iH,a,b,if_false,abK]) (.mk .nil .nil .nil))
theorem dv{c a:Type}{h:c->a}{e:PR c}{b:a}(i:e.map h=.ok b m):∃d,e=.ok d m/\h d=b:=by
 cases e with
 |ok d n=>cases i;exact⟨d,rfl,rfl⟩
 |bad l p=>cases i
theorem Wz(w:j.Wf){lo:Nat}(i:∀p b q,lo<=p->p<j.ts.length->wX g f j p=.ok b q->p<q/\q<j.ts.length):∀(n p:Nat) (b:Ex) (q:Nat),lo<=p->p<j.ts.length->qj g f j n p=.ok b q->p<q/\q<j.ts.length:=by
 intro n;induction n with
 |zero=>intro p b q _ _ h;cases h
 |succ n ih=>
  intro p b q A h2 h;rw[qj]at h;split at h
  ·exact abO
  ·split at h
   ·cases h
   ·rename_i C q1 t;obtain⟨c,d⟩:=i p C q1 A h2 t;split at h
    ·cases h;exact⟨c,d⟩
    ·rename_i s B;obtain⟨F,E,_,l,_⟩:=vS B;obtain⟨a,e,_⟩:=dv h;obtain⟨D,d2⟩:=i (q1+1) a q om (w.step d l) e;exact⟨om,d2⟩
def adW:Nat->Bool:=fun a=>abL a 10||abL a 25
theorem acQ(L:j.Wf){lo:Nat}(a:mA yY (wX g f j) j lo):∀(H e F:Nat),lo<=e->j.ts.length-e<=H->j.ts.length-e<=F->mA yX (qj g f j F) j e:=by
 have R:=L.len;intro H;induction H with
 |zero=>intro e F Q P T;exact⟨fun C M p X K=>om,fun C X K=>om⟩
 |succ H U=>
  intro e F Q P T;refine mA.of (fun C M p X K=>Wz L a.lt F C M p om K) (fun C V G=>?_);obtain⟨F,rfl⟩:∃S,F=S+1:=⟨F-1,om⟩;refine cv adW (fun _=>Z) ?_;refine cI j C (j.tok C) [110,111,116] (bY G) om 0 Z (fun c=>?_) (fun c=>?_)
  ·have n:=L.step G c;refine(U (C+1) F om om om).call (C+1) (aet _) n 0 _ _ Z (fun M k p A i=>?_) (fun t D p A=>?_)
   ·obtain⟨N,O,H,I,s,w,J,E,rfl⟩:=i.eight;intro K;refine a8 1 (dQ (by rw[qj,if_pos c,A];rfl) (.mk .nil .nil (.ps (.cons i .nil))))
   ·refine a8 1 (cJ (by rw[qj,if_pos c,A];rfl))
  ·refine a.call C om G 0 _ _ Z (fun M k p A i=>?_) (fun t D p A=>?_)
   ·obtain⟨W,n⟩:=a.lt C M p om G A;obtain⟨N,O,H,I,s,w,J,E,rfl⟩:=i.eight;refine cd.loop ?_;refine bZ Z ?_;refine a6 dc ?_;refine cI j p (j.tok p) [61,61] (bY n) om 0 Z (fun h=>?_) (fun h=>?_)
    ·have l:=L.step n h;repeat refine ch ?_
     refine a.call (p+1) om l 0 _ _ ?_ (fun Y d2 q2 d b=>?_) (fun t D q2 d=>?_)
     ·exact Z
     ·obtain⟨N,O,H,I,s,w,J,E,rfl⟩:=b.eight;intro K;repeat refine ch ?_
      refine a8 1 (dQ (by rw[qj,if_neg (by rw[c];decide),A];simp only[xj,aev,h,d,PR.map]) (.mk .nil .nil (.ps (.cons i (.cons b .nil)))))
     ·refine a8 1 (cJ (by rw[qj,if_neg (by rw[c];decide),A];simp only[xj,aev,h,d,PR.map]))
    ·refine cd.loop ?_;refine bZ Z ?_;refine a6 dc ?_;refine cI j p (j.tok p) [61,61,61] (bY n) om 0 Z (fun q=>?_) (fun q=>?_)
     ·have l:=L.step n q;repeat refine ch ?_
      refine a.call (p+1) om l 0 _ _ ?_ (fun Y d2 q2 d b=>?_) (fun t D q2 d=>?_)
      ·exact Z
      ·obtain⟨N,O,H,I,s,w,J,E,rfl⟩:=b.eight;intro K;repeat refine ch ?_
       refine a8 1 (dQ (by rw[qj,if_neg (by rw[c];decide),A];simp only[xj,aev,h,q,d,PR.map]) (.mk .nil .nil (.ps (.cons i (.cons b .nil)))))
      ·refine a8 1 (cJ (by rw[qj,if_neg (by rw[c];decide),A];simp only[xj,aev,h,q,d,PR.map]))
     ·refine cd.loop ?_;refine bZ Z ?_;refine a6 dc ?_;refine cI j p (j.tok p) [60] (bY n) om 0 Z (fun B=>?_) (fun B=>?_)
      ·have l:=L.step n B;repeat refine ch ?_
       refine a.call (p+1) om l 0 _ _ ?_ (fun Y d2 q2 d b=>?_) (fun t D q2 d=>?_)
       ·exact Z
       ·obtain⟨N,O,H,I,s,w,J,E,rfl⟩:=b.eight;intro K;repeat refine ch ?_
        refine a8 1 (dQ (by rw[qj,if_neg (by rw[c];decide),A];simp only[xj,aev,h,q,B,d,PR.map]) (.mk .nil .nil (.ps (.cons i (.cons b .nil)))))
       ·refine a8 1 (cJ (by rw[qj,if_neg (by rw[c];decide),A];simp only[xj,aev,h,q,B,d,PR.map]))
      ·refine cd.loop ?_;refine a8 1 (dQ (by rw[qj,if_neg (by rw[c];decide),A];simp only[xj,aev,h,q,B]) i)
   ·refine a8 1 (cJ (by rw[qj,if_neg (by rw[c];decide),A]))
theorem TH(w:j.Wf)(b:j.Ng)(a p:Nat)(l:p<j.ts.length)(n:a=9223372036854775807∨a=9223372036854775808)(i:Nat){σ:VS}{K:cO->VS->Prop}(c:nth σ i=some (dp j p))(k1:∀s d q,sT a j p=.ok s q->je s d->K (.ret (.agg (d.map V.d))) (σ.set i (dp j q))) 
  (k2:∀off e q,sT a j p=.bad off e->K (.eH (dt off e)) (σ.set i (dp j q))):bV C ca tC [.bp i 0,.d (.int .u64 (aeM a))] σ K:=by
 refine bV.one (dM:=[.bp 0 0,.d (.int .u64 (aeM a))]) (P:=Qg j (sT a j p)) (Qj w b a p l n) i c Z Z Z (fun A t h=>?_);unfold Qg at h;exact OV
variable{x:Ex}
theorem Om(e:j.Wf){b p:Nat}(d:p<j.ts.length)(a:sT b j p=.ok x m):p<m/\m<j.ts.length:=by
 rw[sT]at a;split at a
 ·cases a
 ·rename_i c;have c:(j.tok p).kind=3:=by simpa using c
  have:=e.go p _ (bY d) om;split at a
  ·split at a
   ·cases a
   ·cases a;exact⟨om,this⟩
  ·cases a
theorem WA(w:j.Wf){lo:Nat}(e:∀p a q,lo<=p->p<j.ts.length->od g f j p=.ok a q->p<q/\q<j.ts.length):∀(b p:Nat) (a:Ex) (q:Nat),lo<=p->p<j.ts.length->tP g f j b p=.ok a q->p<q/\q<j.ts.length:=by
 intro b;induction b with
 |zero=>intro p a q _ _ h;cases h
 |succ b ih=>
  intro p a q i h2 h;rw[tP]at h;split at h
  ·exact abO
  ·split at h
   ·rename_i hn;have:=w.step h2 hn;obtain⟨c,d⟩:=Om w this h;exact⟨om,d⟩
   ·exact e p a q i h2 h
def adX:Nat->Bool:=fun a=>abL a 8
theorem acR(H:j.Wf)(B:j.Ng){lo:Nat}(t:mA r5 (od g f j) j lo):∀(A a l:Nat),lo<=a->j.ts.length-a<=A->j.ts.length-a<=l->mA uU (tP g f j l) j a:=by
 have L:=H.len;intro A;induction A with
 |zero=>intro a l K J N;exact⟨fun e E s Q I=>om,fun e Q I=>om⟩
 |succ A O=>
  intro a l K J N;refine mA.of (fun e E s Q I=>WA H t.lt l e E s om I) (fun e P h=>?_);obtain⟨l,rfl⟩:∃M,l=M+1:=⟨l-1,om⟩;refine cv adX (fun _=>Z) ?_;refine cI j e (j.tok e) [108,101,110,103,116,104] (bY h) om 0 Z (fun c=>?_) (fun c=>?_)
  ·have w:=H.step h c;refine(O (e+1) l om om om).call (e+1) (aet _) w 0 _ _ Z (fun E S s i b=>?_) (fun p C s i=>?_)
   ·obtain⟨R,T,A,F,n,q,G,D,rfl⟩:=b.eight;intro I;refine a8 1 (dQ (by rw[tP,if_pos c,i];rfl) (.mk .nil .nil (.ps (.cons b .nil))))
   ·refine a8 1 (cJ (by rw[tP,if_pos c,i];rfl))
  ·refine cI j e (j.tok e) [45] (bY h) om 0 Z (fun d=>?_) (fun d=>?_)
   ·have w:=H.step h d;refine TH H B 9223372036854775808 (e+1) w (.inr Z) 0 Z (fun E S s i b=>?_) (fun p C s i=>?_)
    ·obtain⟨R,T,A,F,n,q,G,D,rfl⟩:=b.eight;refine a8 1 (dQ (by rw[tP,if_neg (by rw[c];decide),if_pos d,i]) b)
    ·refine a8 1 (cJ (by rw[tP,if_neg (by rw[c];decide),if_pos d,i]))
   ·refine t.call e om h 0 _ _ Z (fun E S s i b=>?_) (fun p C s i=>?_)
    ·obtain⟨R,T,A,F,n,q,G,D,rfl⟩:=b.eight;refine a8 1 (dQ (by rw[tP,if_neg (by rw[c];decide),if_neg (by rw[d];decide),i]) b)
    ·refine a8 1 (cJ (by rw[tP,if_neg (by rw[c];decide),if_neg (by rw[d];decide),i]))
theorem Dt(k:j.Wf)(a:cq)(e:Nat){kids:List Ex}{my:List cH}{p:Nat}(E:mA cR f j p)(R:p<j.ts.length)(O:jt kids my)(w:kids.length<=1)(s q:Nat)(t:s≠q){σ:VS}{K:cO->VS->Prop}(F:nth σ s=some (dp j p))(S:nth σ q=some (kO 8 my)) 
  (H:∀U G h n,jP f j a e kids p=.ok U h->je U G->fW 0 n=true->K (.ret (.agg (G.map V.d))) ((σ.set s (dp j h)).set q n)) (T:∀c l h n,jP f j a e kids p=.bad c l->fW 0 n=true->K (.eH (dt c l)) ((σ.set s (dp j h)).set q n)):
  bV C ca uV [.bp s 0,.agg (jx e [] .ci (.d .ci) (.d .ci)),kV q 8 my,cn a] σ K:=by
 refine bV.two (dM:=[.bp 0 0,.agg (jx e [] .ci (.d .ci) (.d .ci)),kV 1 8 my,cn a]) (P:=fun J A d=>fW 0 d=true/\∃b,A=.box b/\Qg j (jP f j a e kids p) J b)
  ((J3 k a e E R O w).mono fun J W i=>by
   obtain⟨b,n,l,Q,L,D,N⟩:=i;exact⟨_,n,l,Q,L,D,D,b,Z,N⟩) s q t F S Z (gr 8 my) ?_ ?_ (fun J A d i=>?_)
 ·show(bd 2 (.bp 0 0)&&fu 2 [.agg (jx e [] .ci (.d .ci) (.d .ci)),kV 1 8 my,cn a])=true;rw[zi rfl rfl];rfl
 ·show _=gW _ (.bp 0 0)::hU _ [.agg (jx e [] .ci (.d .ci) (.d .ci)),kV 1 8 my,cn a];rw[<-vW (i':=q) (v':=cn a) rfl rfl];rfl
 ·obtain⟨B,b,rfl,i⟩:=i;unfold Qg at i;split at i
  ·rename_i Y h l;obtain⟨rfl,G,I,rfl⟩:=i;exact H Y G h d l I B
  ·rename_i c M l;obtain⟨h,rfl,rfl⟩:=i;exact T c M h d l B
theorem TJ{e:Type}(E:j.Wf){step:e->Nat->PR e}{lo:Nat}(w:∀i b a d,lo<=b->b<j.ts.length->step i b=.ok a d->b<d/\d<j.ts.length):∀(l:Nat) (i:e) (b:Nat) (a:e) (d:Nat),lo<=b->b<j.ts.length->ji step j r l i b=.ok a d->b<d/\d<j.ts.length:=by
 intro l;induction l with
 |zero=>intro i b a d _ _ c;cases c
 |succ l B=>
  intro i b a d q n c;rw[ji]at c;split at c
  ·cases c
  ·rename_i D q1 p;obtain⟨J,C⟩:=w i b D q1 q n p;split at c
   ·rename_i t;have:=E.step C t;cases c;exact⟨om,this⟩
   ·cases h:cu j [[44]] q1 with
    |bad G K=>rw[h]at c;cases c
    |ok I q2=>
     rw[h]at c;dsimp only at c;have A:=cL _ _ _ h;have s:=da E _ _ _ C h;simp only[aeN,aeQ]at A;obtain⟨H,F⟩:=B D q2 a d om s c;exact⟨om,F⟩
theorem zj{c:Type}(q:j.Wf){step:c->Nat->PR c}{lo:Nat}(n:∀l p b a,lo<=p->p<j.ts.length->step l p=.ok b a->p<a/\a<j.ts.length){l b:c}{p a:Nat}(i:lo<=p)(d:p<j.ts.length)(e:gA step j r l p=.ok b a):p<a/\a<j.ts.length:=by
 rw[gA]at e;split at e
 ·rename_i h;have:=q.step d h;cases e;exact⟨om,this⟩
 ·exact TJ q n _ _ _ _ _ i d e
theorem On(t:j.Wf){lo:Nat}(e:∀p x a,lo<=p->p<j.ts.length->f p=.ok x a->p<a/\a<j.ts.length){s:cq}{p a:Nat}(q:lo<=p)(i:p<j.ts.length)(h:fj f j [] p=.ok x a∨fj f j s p=.ok x a):p<a/\a<j.ts.length:=by
 have c:∀s,fj f j s p=.ok x a->p<a/\a<j.ts.length:=by
  intro s h;rw[fj]at h;cases b:cu j [s] p with
  |bad B C=>rw[b]at h;cases h
  |ok w q2=>
   rw[b]at h;have d:=cL _ _ _ b;have l:=da t _ _ _ i b;simp only[aeN,aeQ]at d;obtain⟨A,n⟩:=e q2 x a om l h;exact⟨om,n⟩
 rcases h with h|h
 ·exact c _ h
 ·exact c _ h
theorem Ar(w:j.Wf){b:List eo}{p c:Nat}{s:cq}(h2:p<j.ts.length)(h:eJ j b p=.ok s c):p<c/\c<j.ts.length:=by
 rw[eJ]at h;split at h
 ·cases h
 ·rename_i a;have a:(j.tok p).kind=1:=by simpa using a
  split at h
  ·cases h
  ·exact XY
theorem fS(w:j.Wf){p b:Nat}{s:cq}(h2:p<j.ts.length)(h:dh j p=.ok s b):p<b/\b<j.ts.length:=by
 rw[dh]at h;split at h
 ·cases h
 ·rename_i a;have a:(j.tok p).kind=1:=by simpa using a
  exact XY
variable{u:List Ex}
theorem As(l:j.Wf){lo:Nat}(h:∀p x a,lo<=p->p<j.ts.length->f p=.ok x a->p<a/\a<j.ts.length){p a:Nat}(d:lo<=p)(b:p<j.ts.length)(c:jP f j r m u p=.ok x a):p<a/\a<j.ts.length:=by
 obtain⟨C,i,_⟩:=dv c;refine zj l (lo:=lo) (fun w p n a d b c=>?_) d b i;rw[lP]at c;split at c
 ·cases c
 ·rename_i s q1 e;obtain⟨B,q⟩:=Ar l b e;obtain⟨A,i,_⟩:=dv c;obtain⟨t,d2⟩:=On l h (s:=[58]) om q (.inr i);exact⟨om,d2⟩
theorem TK(q:j.Wf){lo:Nat}(A:∀b i c,lo<=b->b<j.ts.length->f b=.ok i c->b<c/\c<j.ts.length):∀(p:Nat) (i:Ex) (b:Nat) (l:Ex) (c:Nat),lo<=b->b<j.ts.length->p8 f j p i b=.ok l c->b<=c/\c<j.ts.length:=by
 intro p;induction p with
 |zero=>intro i b l c _ _ a;cases a
 |succ p n=>
  intro i b l c C e a;rw[p8]at a;split at a
  ·rename_i d;split at a
   ·cases a
   ·rename_i s q1 h;obtain⟨B,w⟩:=fS q (q.step e d) h;obtain⟨D,t⟩:=n _ q1 l c om w a;exact⟨om,t⟩
  ·split at a
   ·rename_i d;split at a
    ·cases a
    ·rename_i E q1 h;obtain⟨B,w⟩:=As q A om (q.step e d) h;obtain⟨D,t⟩:=n _ q1 l c om w a;exact⟨om,t⟩
   ·cases a;exact⟨aet _,e⟩
def adY:Nat->Bool:=fun a=>abL a 13
theorem aa3(J:j.Wf){lo:Nat}(n:mA nw (gd g f j) j lo)(p:mA cR f j (lo+1)):mA r5 (od g f j) j lo:=by
 have k:=J.len;refine mA.of (fun t m b w W T=>?_) (fun t w L=>?_)
 ·rw[od]at T;split at T
  ·cases T
  ·rename_i s q1 y;obtain⟨e,u⟩:=n.lt t s q1 w W y;obtain⟨af,S⟩:=TK J p.lt _ s q1 m b om u T;exact⟨om,S⟩
 ·refine cv adY (fun _=>Z) ?_;refine n.call t w L 0 _ _ Z (fun s S b U d=>?_) (fun O X b U=>?_)
  ·obtain⟨E,h⟩:=n.lt t s b w L U;obtain⟨Y,x,o,H,l,q,I,F,rfl⟩:=d.eight;refine cD (dB:=[(0,.bp 0 0),(2,.bp 1 0),(3,.bp 2 0)]) ?_;refine cd.iter (fun _:Nat×Ex×cH=>[(0,.bp 0 0),(2,.bp 1 0),(3,.bp 2 0)]) (fun e=>[dp j e.1,.box jz,.box (e.2.2.map V.d)]) (fun e=>j.ts.length-e.1)
    (fun e=>t<e.1/\e.1<j.ts.length/\je e.2.1 e.2.2/\∃i,j.ts.length-e.1<i/\od g f j t=p8 f j i e.2.1 e.1) ?_ (b,s,_) ⟨E,h,d,j.ts.length,by show j.ts.length-b<j.ts.length;omega,by rw[od,U]⟩
   rintro⟨b,s,S⟩ ⟨N,K,R,i,M,Q⟩;have E:t<b:=N;have h:b<j.ts.length:=K;have d:je s S:=R;have ae:j.ts.length-b<i:=M;have a:od g f j t=p8 f j i s b:=Q;clear N K R M Q;obtain⟨Y,x,o,H,l,q,I,F,rfl⟩:=d.eight;obtain⟨i,rfl⟩:∃v,i=v+1:=⟨i-1,om⟩;rw[p8]at a;refine cI j b (j.tok b) [46] (bY h) om 0 Z (fun B=>?_) (fun B=>?_)
   ·have c:=J.step h B;rw[if_pos B]at a;intro ac;repeat refine ch ?_
    refine kH j (b+1) _ (bY c) om 0 ?_ (fun G=>?_) (fun G=>?_)
    ·exact Z
    ·have P:b+1+1<j.ts.length:=J.go (b+1) _ (bY c) om;simp only[dh,G,ne_eq,not_true,if_false]at a;repeat refine ch ?_
     refine⟨(b+1+1,.mk 6 [] (j.tok (b+1)).text [] 0 [] [] [s],_),⟨by show t<b+1+1;omega,P,.mk .nil .nil (.ps (.cons d .nil)),i,by show j.ts.length-(b+1+1)<i;omega,a⟩,by show j.ts.length-(b+1+1)<j.ts.length-b;omega,.eD 3,Z,Z⟩
    ·refine a8 1 (cJ (by rw[a];simp only[dh,G,ne_eq,not_false_eq_true,if_true]))
   ·rw[if_neg (by rw[B];decide)]at a;refine cI j b (j.tok b) [40] (bY h) om 0 Z (fun C=>?_) (fun C=>?_)
    ·have c:=J.step h C;rw[if_pos C]at a;refine Dt J [41] 9 (kids:=[s]) (my:=[[.int .i64 (aeM Y),.str x,.str o,.str H,.int .i64 l,q,I,F]]) (p.up om) c (.cons d .nil) (aet _) 0 3 dc Z Z (fun m d2 q2 ad A D r=>?_) (fun O X q2 ad A r=>?_)
     ·obtain⟨e,u⟩:=As J p.lt om c A;obtain⟨Y,x,o,H,l,q,I,F,rfl⟩:=D.eight;rw[A]at a;refine⟨(q2,m,_),⟨by show t<q2;omega,u,D,i,by show j.ts.length-q2<i;omega,a⟩,by show j.ts.length-q2<j.ts.length-b;omega,.eD 3,Z,Z⟩
     ·rw[A]at a;refine a8 1 (cJ a)
    ·rw[if_neg (by rw[C];decide)]at a;refine a8 1 (dQ a d)
  ·refine a8 1 (cJ (by rw[od,U]))
theorem cU.gone{n:Nat}{c:cO}{σ:VS}{K:cO->VS->Prop}(p:cU n c (σ++[.gone]) K):cU n c σ K:=by
 refine⟨fun a e l h b=>?_⟩;have d:CW a (σ++[cN.gone]).length c:=by
  cases c with
  |ret i=>exact e9.mono (Fz.le_refl _) ZI (show e9 a σ.length i from b)
  |eH i=>exact e9.mono (Fz.le_refl _) ZI (show e9 a σ.length i from b)
 exact p.go a e l h.gone d
def nC(a:List Nat):List V:=a.map fun b=>.bp b 0
variable{k:Nat->Nat} {o:List Nat}
theorem J5{n:Nat}(h:∀a∈o,a<n)(b:∀a,a<n->k a=a):hU k (nC o)=nC o:=by
 induction o with
 |nil=>rfl
 |cons d o c=>
  show V.bp (k d) 0::hU k (nC o)=_;rw[b d (h d sm),c fun a e=>h a (by simp[e])];rfl
theorem VD{n:Nat}(e:∀b∈o,b<n):fu n (nC o)=true:=by
 induction o with
 |nil=>rfl
 |cons c o a=>
  show(Nat.blt c n&&fu n (nC o))=true;rw[a fun b d=>e b (by simp[d]),show Nat.blt c n=true by rw[Nat.blt_eq];exact e c sm];rfl
def rr(n:Nat)(σ a:VS):Prop:=∃b,A4 n b 0=true/\b.Nodup/\n<=a.length/\uH (jT b σ.length) a.length σ b a
theorem rr.code{n:Nat}{σ fU:VS}(D:rr n σ fU)(hcs:∀i∈o,i<n)(h0:0<n){l:uw}{c:Code}{h:Tm}{a:cq}{b:FuncId}{B:Bu->Tm->List fq->lJ->VS->Prop}(p:l.fl=n) 
  (s:mP [(0,.bp 0 0),(1,cn r),(2,cn a),(3,.fn b [] (nC o))] h) (t:cd C ca l c [(0,.bp 0 0),(1,cn r),(2,cn a),(3,.fn b [] (nC o))] [] .none fU B):cd C ca l c h [] .none σ B:=by
 obtain⟨d,q,w,h3,A⟩:=D;have e:∀i,i<n->jT d σ.length i=i:=fun i hi=>by
  have:=rW q hi;rw[kM this];omega
 refine cd.pick n d (dB:=[(0,.bp 0 0),(1,cn r),(2,cn a),(3,.fn b [] (nC o))]) ?_ ?_ (by rw[p,aeP];exact aet n) q Z Z w A t
 ·show mP [(0,V.bp (jT d σ.length 0) 0),(1,cn r),(2,cn a),(3,V.fn b [] (hU (jT d σ.length) (nC o)))] h;rw[e 0 h0,J5 hcs e];exact s
 ·show(Nat.blt 0 fU.length&&(true&&(true&&((true&&fu fU.length (nC o))&&true))))=true;exact aad
def adZ:Nat->Bool:=fun a=>abL a 18||abL a 1000002
theorem FN{A F:Type}(x:j.Wf)(b:cq)(step:A->Nat->PR A)(I:A->F->Nat->Prop)(N:F->VS)(q:VS)(n:Nat)(B:FuncId)(r:(C.ff.get B).isSome=true)(t:List Nat){g0:A}{a0:F}{p:Nat}(P:p<j.ts.length)(Q:I g0 a0 p)(R:∀s c d,I s c d->I s c (d+1))(U:q++[.gone]=N a0)(ad:q.length+1=n)(X:∀c,n<=(N c).length+1)(m:∀ak∈t,ak<n) 
  (ac:∀s c d,I s c d->p<=d->d<j.ts.length->∀S:cO->VS->Prop,
   (∀w l a h,step s d=.ok w a->I w l a->d<a->a<j.ts.length->rr n (dp j a::h) (dp j a::N l)->S (.ret (.dS [])) (dp j a::h))->
   (∀i H a h,step s d=.bad i H->n<=h.length+1->S (.eH (dt i H)) (dp j a::h))->bV C ca B (nC t) (dp j d::N c) S)
  {K:cO->VS->Prop} (L:∀s c d,gA step j b g0 p=.ok s d->I s c d->p<d->d<j.ts.length->K (.ret (.dS [])) (dp j d::N c))
  (J:∀i H d h,gA step j b g0 p=.bad i H->K (.eH (dt i H)) (dp j d::h)):
  bV C ca EL [.bp 0 0,cn [44],cn b,.fn B [] (nC t)] (dp j p::q) K:=by
 have aa:=x.len;refine cv adZ (fun _=>Z) ?_;refine cI j p (j.tok p) b (bY P) om 0 Z (fun v=>?_) (fun v=>?_)
 ·refine cU.gone ?_;refine cU.now (by rw[aeP];simp) ?_;show K (.ret (.dS [])) (dp j (p+1)::(q++[.gone]));rw[U];exact L g0 a0 (p+1) (by rw[gA,if_pos v]) (R _ _ _ Q) (Nat.lt_succ_self p) (x.step P v)
 ·refine cD (dB:=[(0,.bp 0 0),(1,cn [44]),(2,cn b),(3,.fn B [] (nC t))]) ?_;refine cd.gone ?_;show cd _ _ _ _ _ _ _ (dp j p::(q++[.gone])) _;rw[U];refine cd.iter (fun _:Nat×A×F=>[(0,.bp 0 0),(1,cn [44]),(2,cn b),(3,.fn B [] (nC t))]) (fun c=>dp j c.1::N c.2.2) (fun c=>j.ts.length-c.1)
   (fun c=>p<=c.1/\c.1<j.ts.length/\I c.2.1 c.2.2 c.1/\∃E,j.ts.length-c.1<=E/\gA step j b g0 p=ji step j b E c.2.1 c.1) ?_ (p,g0,a0) ⟨aet _,P,Q,_,by show j.ts.length-p<=j.ts.length;omega,by rw[gA,if_neg (by rw[v];decide)]⟩
  rintro⟨d,s,c⟩ ⟨g,W,V,E,Y,f⟩;have T:p<=d:=g;have z:d<j.ts.length:=W;have o:I s c d:=V;have aj:j.ts.length-d<=E:=Y;have e:gA step j b g0 p=ji step j b E s d:=f;clear g W V Y f Q;obtain⟨E,rfl⟩:∃ab,E=ab+1:=⟨E-1,om⟩;rw[ji]at e;conv=>whnf
  rw[r];refine ac s c d o T z _ (fun w l a h H M ae D k=>?_) (fun i ai a h H ag=>?_)
  ·rw[H]at e;dsimp only at e;refine k.code m om ad ⟨Z,Z,Z,Z,tv⟩ ?_;refine xC ?_;refine cI j a (j.tok a) b (bY D) om 0 Z (fun G=>?_) (fun G=>?_)
   ·rw[if_pos G]at e;refine cU.now (by rw[aeP];show q.length+1<=(N l).length+1;have:=X l;omega) ?_;exact L w l (a+1) e (R _ _ _ M) om (x.step D G)
   ·rw[if_neg (by rw[G];decide)]at e;intro y;refine gZ x [44] D y _ 0 Z (fun O u=>?_) (fun O af=>?_)
    ·rw[vX O]at e;refine⟨(a+1,w,l),⟨by show p<=a+1;omega,u,R _ _ _ M,E,by show j.ts.length-(a+1)<=E;omega,e⟩,by show j.ts.length-(a+1)<j.ts.length-d;omega,.eS,Z,Z⟩
    ·refine cU.now (by rw[aeP];show q.length+1<=(N l).length+1;have:=X l;omega) ?_;exact J _ _ _ _ (by rw[e];simp only[cu,O,if_false,abK])
  ·rw[H]at e;refine cU.now (by rw[aeP];show q.length+1<=h.length+1;omega) ?_;exact J _ _ _ _ e
theorem TL(es:Nat)(c:cH)(b:List cH)(a:cH):some (cN.row es (aeR (b.length+1) (aeS 0 (aeu (fun a=>aeu V.d a) (c::b)))++[a.map V.d]))=some (.row es (((c::b)++[a]).map fun a=>a.map V.d)):=by
 rw[List.drop_zero,List.take_of_length_le sm];simp
theorem WB(a:FE)(b:List FE):some (kO 9 (J2 (a::b)))=some (.row 9 (dg true (a::b))):=by
 simp[kO,J2,dg,zb,Function.comp_def]
variable{v:PR Ex} {z:VS}
theorem BN{a:Nat}(b:v=.bad y a):cU 1 (.eH (dt y a)) (dp j m::z) (K3 j v):=
 cU.drop 1 rfl (by show(fW 1 (dp j m)&&mJ 1 z 0)=true;rw[mJ];rfl) rfl (cU.now rfl (cJ b))
theorem B6{n:cq}{c d:D}{types:List Ty}{b:List hZ}{els:List cH}(e a:Nat)(t:nth z e=some (.row 8 (els.map fun w=>w.map V.d)))(h:a=els.length)(p:jt u els)(l:fA types c)(q:eR b d)(s:v=.ok (.mk y [] n [] 0 types b u) m):
  cU 1 (.ret (.agg (jx y n c (.d d) (.ms (e+1) 8 0 a a)))) (dp j m::z) (K3 j v):=by
 refine cU.freeze (e+1) (es:=8) (l:=els) t (gk els) (by repeat' (first|exact tv|exact fun _=>⟨rfl,by simp[h]⟩|refine And.intro ?_ ?_)) (fun i=>?_);have B:wq (e+1) i els (.ret (.agg (jx y n c (.d d) (.ms (e+1) 8 0 a a))))=.ret (.agg (([.int .i64 (aeM y),.str [],.str n,.str [],.int .i64 (aeM 0),c,d,.ps i 0 8 a els]:cH).map V.d)):=by
  show cO.ret (.agg (jx y n c (.d d) (o5 (e+1) i els (.ms (e+1) 8 0 a a))))=_;rw[o5,kz];show cO.ret (.agg (jx y n c (.d d) (.d (.ps i (0*8) 8 a ((els.drop 0).take a)))))=_;rw[eT _ _ h];rfl
 rw[B];refine cU.drop 1 Z (by show(fW 1 (dp j m)&&mJ 1 (z.set e .gone) 0)=true;rw[mJ];rfl) (qW 1 _) (cU.now Z ?_);exact dQ s (.mk l q (.ps p))
def ad0:Nat->Bool:=fun a=>abL a 7
def p1I(l:List Ex)(a:List cH)(b:Nat):Prop:=jt l a/\a.length<=b
def p1T(tok:cH)(b:D)(a:List cH):VS:=[.box [.bp 0 0],.box jz,.box (tok.map V.d),.box (jx 14 [] b (.d .ci) (kV 5 8 a)),kO 8 a]
theorem RX(a:List cH):a.length+1<a.length+1+1:=Nat.lt_succ_self _
theorem It(a:cH)(b:List cH):nth (aeR (b.length+1) (aeS 0 (aeu (fun c=>aeu V.d c) (a::b)))++[jz]) (0+(b.length+1))=some jz:=by
 rw[ck,List.getElem?_append_right sm];simp
theorem TM(b:cH)(c:List cH)(a:cH):(aeR (c.length+1) (aeS 0 (aeu (fun a=>aeu V.d a) (b::c)))++[jz]).set (0+(c.length+1)) (a.map V.d)=aeu (fun a=>aeu V.d a) (b::(c++[a])):=by
 exact aeH
theorem J6(tok:cH):some (cN.box (tok.map V.d))=some (dF k (.box (tok.map V.d))):=by rw[dF,Tu]
theorem Oo(tok:cH):fW m (.box (tok.map V.d))=true:=qW m tok
theorem aa4(b:D)(c:cH)(a:List cH)(d:cH)(e:k y=m):some (cN.box (jx 14 [] b (.d .ci) (.ms m 8 0 (a.length+1+1) (a.length+1+1))))=some (dF k (.box (jx 14 [] b (.d .ci) (kV y 8 ((c::a)++[d]))))):=by
 subst e;exact zd Z (by rw[nB];exact li _ 8 c a d)
theorem WC(b:cH)(a:List cH)(c:cH):some (cN.row 8 ((aeR (a.length+1) (aeS 0 (aeu (fun c=>aeu V.d c) (b::a)))++[jz]).set (0+(a.length+1)) (c.map V.d)))=some (dF k (kO 8 ((b::a)++[c]))):=by
 rw[TM,Dk];rfl
theorem WD(m:j.Wf){lo:Nat}(h:mA cR f j lo)(tok:cH)(B:D)(l:List Ex)(A:List cH)(p:Nat)(X:p1I l A p)(n:lo<=p)(G:p<j.ts.length)(K:cO->VS->Prop) 
  (L:∀P O b s,oc f l p=.ok P b->p1I P O b->p<b->b<j.ts.length->rr 5 (dp j b::s) (dp j b::p1T tok B O)->K (.ret (.dS [])) (dp j b::s))
  (Q:∀e g b s,oc f l p=.bad e g->5<=s.length+1->K (.eH (dt e g)) (dp j b::s)):bV C ca pY (nC [4,1]) (dp j p::p1T tok B A) K:=by
 have W:=m.len;obtain⟨N,M⟩:=X;refine bV.body ad0 (fun _=>Z) ?_;rcases A with _|⟨x0,xr⟩
 ·intro V;repeat refine ch ?_
  refine h.call p n G 0 _ _ ?_ (fun U k q1 a q=>?_) (fun e T q1 a=>?_)
  ·exact Z
  rotate_left
  ·exact Q _ _ _ _ (by simp only[oc,a,PR.map]) (by show 5<=6;omega)
  obtain⟨c,E⟩:=h.lt _ _ _ n G a;obtain⟨H,S,R,I,d,i,J,F,rfl⟩:=q.eight;have t:oc f l p=.ok (l++[U]) q1:=by simp only[oc,a,PR.map]
  have w:=N.snoc q;repeat first
   |refine bZ rfl ?_
   |refine cf ?_
   |refine cc jz rfl ?_
  refine L _ _ _ _ t ⟨w,by show 1<=q1;omega⟩ c E ⟨[0,1,2,3,4,6],Z,dc,by show 5<=6;omega,Z,Z,Z,Z,Z,Z,J6 tok,Oo tok,Z,ze Z Z,lj _ 8 [.int .i64 (aeM H),.str S,.str R,.str I,.int .i64 d,i,J,F],gH _ _ _,tv⟩
 ·intro V;repeat refine ch ?_
  refine h.call p n G 0 _ _ ?_ (fun U k q1 a q=>?_) (fun e T q1 a=>?_)
  ·exact Z
  rotate_left
  ·exact Q _ _ _ _ (by simp only[oc,a,PR.map]) (by show 5<=6;omega)
  obtain⟨c,E⟩:=h.lt _ _ _ n G a;obtain⟨H,S,R,I,d,i,J,F,rfl⟩:=q.eight;have t:oc f l p=.ok (l++[U]) q1:=by simp only[oc,a,PR.map]
  have w:=N.snoc q;have Y:xr.length+1<=p:=M;refine a6 ?_ ?_
  ·repeat' (first|exact tv|exact rfl|exact aet _|exact(rB om (aet _) (aeO rfl)).1|exact(rB om (aet _) (aeO rfl)).2|(simp only[List.length_map,aeN];omega)|refine bZ rfl ?_|refine And.intro ?_ ?_)
  refine a6 Z (a6 ⟨Z,Z,by simp,aet _,rB om (aet _) (aeO Z)⟩ ?_);refine a7 Z (a7 (fG (xr.length+1)) ?_);refine a6 ?_ ?_
  ·exact YW
  refine bZ Z ?_;refine a6 (RX xr) ?_;refine a6 ?_ ?_
  ·exact YW
  refine cc jz (It x0 xr) ?_;refine L _ _ _ _ t ⟨w,by simp only[List.length_append,aeN,aeQ];omega⟩ c E ⟨[0,1,2,3,4,6],Z,dc,by show 5<=6;omega,Z,Z,Z,Z,Z,Z,J6 tok,Oo tok,aa4 B x0 xr [.int .i64 (aeM H),.str S,.str R,.str I,.int .i64 d,i,J,F] Z,ze Z (kZ 8 _ Z),WC x0 xr [.int .i64 (aeM H),.str S,.str R,.str I,.int .i64 d,i,J,F],gH _ _ _,tv⟩
end Go.Proofs.YtpejealjkmhkgaaGreatDoor
