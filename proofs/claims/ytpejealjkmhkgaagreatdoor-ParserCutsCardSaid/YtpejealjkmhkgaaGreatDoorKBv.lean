/- Part of the proof. -/
import Derived.Test.YtpejealjkmhkgaaGreatDoorKBu
set_option linter.all false
set_option maxHeartbeats 16000000
set_option maxRecDepth 100000
open List renaming take_succ_cons->YL,length_drop->YM,mem_of_getElem?->YN,take_nil->YP,length_take->YQ,length_cons->YR,find?_cons->YT,getElem?_append_right->YU,drop_zero->YV,drop_take->YW,getElem?_eq_getElem->YX,getElem?_cons_zero->YY
open Nat renaming le_refl->YO,zero_le->YS,lt_or_eq_of_le->Y0
open Int renaming ofNat_eq_natCast->YZ
namespace Go.Proofs.YtpejealjkmhkgaaGreatDoor
open Go.AM Go.VM
theorem Dj:∀(l:Bool) (n:List UInt8) (k:Nat),cZ l n<=k->cZ l (n.take k)=cZ l n:=by
 intro l n;induction n generalizing l with
 |nil=>intro k _;rw[YP]
 |cons m e f=>
  intro k j;cases l with
  |true=>
   rw[cZ]at j;obtain⟨b,rfl⟩:∃b,k=b+1:=⟨k-1,om⟩;rw[YL,cZ,cZ,f _ b om]
  |false=>
   cases k with
   |zero=>rw[List.take_zero,Nat.le_zero.1 j];rfl
   |succ b=>
    rw[YL,cZ,cZ];rw[cZ]at j;have q:(e.take b).head? =some 47->e.head? =some 47:=by
     cases e with
     |nil=>rw[YP];exact id
     |cons r e=>cases b with
      |zero=>intro o;cases o
      |succ b=>exact id
    by_cases a:m=47/\e.head? =some 47
    ·rw[if_pos a]at j⊢;have p:(e.take b).head? =some 47:=by
      cases e with
      |nil=>cases a.2
      |cons r e=>cases b with
       |zero=>rw[cZ]at j;omega
       |succ b=>exact a.2
     rw[if_pos ⟨a.1,p⟩,f _ b om]
    ·rw[if_neg a]at j⊢;rw[if_neg (fun o=>a ⟨o.1,q o.2⟩)];by_cases c:m=32∨m=9∨m=10∨m=13
     ·rw[if_pos c]at j⊢;rw[if_pos c,f _ b om]
     ·rw[if_neg c,if_neg c]
theorem Dk(p:UInt8->Bool):∀(a:List UInt8) (b:Nat),dp p a<=b->dp p (a.take b)=dp p a:=by
 intro a;induction a with
 |nil=>intro b _;rw[YP]
 |cons k a e=>
  intro b f;cases b with
  |zero=>rw[List.take_zero,Nat.le_zero.1 f];rfl
  |succ j=>
   rw[iz]at f;rw[YL,iz,iz];split
   ·rename_i c;rw[if_pos c]at f;rw[e j om]
   ·rfl
theorem Q6:∀(c a:List UInt8) (e:Nat),c3 (a.take e) c=true->c3 a c=true:=by
 unfold c3;intro c;induction c with
 |nil=>intro a e _;cases a<;>rfl
 |cons l c f=>
  intro a e b;cases a with
  |nil=>rw[YP]at b;exact b
  |cons k a=>cases e with
   |zero=>cases b
   |succ j=>
    simp only[YL,List.isPrefixOf,Bool.and_eq_true]at b⊢;exact⟨b.1,f a j b.2⟩
theorem N2:∀(b a:List UInt8) (c:Nat),b.length<=c->c3 a b=true->c3 (a.take c) b=true:=by
 unfold c3;intro b;induction b with
 |nil=>intro a c _ _;cases a.take c<;>rfl
 |cons m b j=>
  intro a c e f;cases a with
  |nil=>rw[YP];exact f
  |cons l a=>cases c with
   |zero=>simp at e
   |succ k=>
    simp only[YL,List.isPrefixOf,Bool.and_eq_true]at f⊢;exact⟨f.1,j a k (by simpa using e) f.2⟩
theorem N3(l:List UInt8)(f:Nat):∀c:List (List UInt8),(∀b,c.find? (c3 l)=some b->b.length<=f)->c.find? (c3 (l.take f))=c.find? (c3 l):=by
 intro c;induction c with
 |nil=>intro _;rfl
 |cons b c j=>
  intro e;rw[YT]at e;rw[YT,YT];cases a:c3 l b with
  |true=>
   rw[a]at e;rw[N2 b l f (e b rfl) a]
  |false=>
   rw[a]at e;cases k:c3 (l.take f) b with
   |true=>rw[Q6 b l f k]at a;cases a
   |false=>exact j e
theorem Q7(c:UInt8)(l:List UInt8)(a:Nat)(j:(fN (c::l)).length<=a)(k:0<a):fN ((c::l).take a)=fN (c::l):=by
 obtain⟨e,rfl⟩:∃e,a=e+1:=⟨a-1,om⟩;have b:n4.find? (c3 ((c::l).take (e+1)))=n4.find? (c3 (c::l)):=by
  refine N3 _ _ _ fun m f=>?_;rw[fN,f]at j;exact j
 unfold fN;rw[b];rfl
theorem Q8:∀(w:Nat) (s y:List UInt8) (p k:Nat),s.length<=w->dD s=some (y,p)->p<=k->dD (s.take k)=some (y,p):=by
 intro w;induction w with
 |zero=>
  intro s y p k l b;have:s=[]:=List.eq_nil_of_length_eq_zero om;subst this;rw[dD.eq_def]at b;cases b
 |succ w F=>
  intro s y p k l b G;cases s with
  |nil=>rw[dD.eq_def]at b;cases b
  |cons J s=>
   simp only[YR]at l;have H:=(AK (w+1) (J::s) (by simpa using l) y p b).1;obtain⟨k,rfl⟩:∃j,k=j+1:=⟨k-1,om⟩;have m:∀(a:List UInt8) (j t:Nat) (x:UInt8),a.length<=w->j+t=k+1->(dD a).map (fun o=>(x::o.1,o.2+t))=some (y,p)->(dD (a.take j)).map (fun o=>(x::o.1,o.2+t))=some (y,p):=by
    intro a j t x q I c;cases e:dD a with
    |none=>rw[e]at c;cases c
    |some D=>
     obtain⟨z,r⟩:=D;rw[e]at c;have n:r+t=p:=congrArg (fun o=>(o.getD ([],0)).2) c;rw[F a z r j q e om];exact c
   have f:∀(a:List UInt8) (t:Nat) (x:UInt8),a.length<=w->(dD a).map (fun o=>(x::o.1,o.2+t))=some (y,p)->t+1<=p:=by
    intro a t x q c;cases e:dD a with
    |none=>rw[e]at c;cases c
    |some D=>
     obtain⟨z,r⟩:=D;rw[e]at c;have n:r+t=p:=congrArg (fun o=>(o.getD ([],0)).2) c;have u:=(AK w a q z r e).1;omega
   rw[dD.eq_def]at b;rw[YL,dD.eq_def];dsimp only at b⊢;split at b
   ·rename_i A;rw[if_pos A];exact b
   ·rename_i A;rw[if_neg A];split at b
    ·cases b
    ·rename_i q;rw[if_neg q];split at b
     ·rename_i c;rw[if_pos c];exact m s k 1 _ om rfl b
     ·rename_i c;rw[if_neg c];cases s with
      |nil=>cases b
      |cons K a=>
       simp only[YR]at l;dsimp only at b;split at b
       ·rename_i n;have e:=f a 2 K om b;obtain⟨j,rfl⟩:∃j,k=j+1:=⟨k-1,om⟩;rw[YL];dsimp only;rw[if_pos n];exact m a j 2 _ om rfl b
       ·rename_i n;split at b
        ·rename_i u;have e:=f a 2 10 om b;obtain⟨j,rfl⟩:∃j,k=j+1:=⟨k-1,om⟩;rw[YL];dsimp only;rw[if_neg n,if_pos u];exact m a j 2 _ om rfl b
        ·rename_i u;split at b
         ·rename_i E
          match a,l,b with
          |x::D::C,l,b=>
           simp only[YR]at l;dsimp only at b;cases v:j1 x with
           |none=>rw[v]at b;cases b
           |some L=>
            cases B:j1 D with
            |none=>rw[v,B]at b;cases b
            |some M=>
             rw[v,B]at b;have e:=f C 4 _ om b;obtain⟨j,rfl⟩:∃j,k=j+3:=⟨k-3,om⟩;rw[YL,YL,YL];dsimp only;rw[if_neg n,if_neg u,if_pos E,v,B];exact m C j 4 _ om Z b
         ·cases b
theorem Q9{l:List UInt8}{u n r:Nat}{t:List UInt8}(a:eL l=.ok u t n)(z:n<=r):eL (l.take r)=.ok u t n:=by
 have y:=mi a;cases l with
 |nil=>cases a
 |cons q l=>
  obtain⟨o,rfl⟩:∃o,r=o+1:=⟨r-1,om⟩;rw[eL]at a;rw[YL,eL,<-YL];split at a
  ·rename_i f;have s:dp isWord (q::l)=n:=by
    unfold eU at a;split at a
    ·cases a;rfl
    ·split at a
     ·cases a;rfl
     ·split at a
      ·cases a;rfl
      ·cases a
   rw[if_pos f,Dk _ _ _ om,List.take_take,Nat.min_eq_left om];exact a
  ·rename_i f;rw[if_neg f];split at a
   ·rename_i e;have s:dp isDigit (q::l)=n:=by
     unfold gj at a;split at a
     ·cases a
     ·cases a;rfl
    rw[if_pos e,Dk _ _ _ om,List.take_take,Nat.min_eq_left om];rw[s]at a⊢;unfold gj at a⊢;split at a
    ·cases a
    ·rename_i c;rw[if_neg]
     ·exact a
     ·rintro(b|b|b)
      ·exact c (.inl b)
      ·exact c (.inr (.inl b))
      ·refine c (.inr (.inr ?_));rw[YW]at b;cases m:(q::l).drop n with
       |nil=>rw[m,YP]at b;exact b
       |cons A v=>
        rw[m]at b;cases p:o+1-n with
        |zero=>rw[p]at b;cases b
        |succ B=>rw[p]at b;exact b
   ·rename_i e;rw[if_neg e];split at a
    ·rename_i k;rw[if_pos k];cases j:dD l with
     |none=>rw[j]at a;cases a
     |some v=>
      obtain⟨x,w⟩:=v;rw[j]at a;have s:w+1=n:=by cases a;rfl
      rw[Q8 l.length l x w o (YO _) j om];exact a
    ·rename_i k;rw[if_neg k];split at a
     ·cases a
     ·rename_i c;have s:(fN (q::l)).length=n:=by cases a;rfl
      rw[Q7 q l (o+1) om (Nat.succ_pos _),if_neg c];exact a
theorem Fb(s:List UInt8):∀(k e:Nat) (c:List Tok),e<=s.length->fy s k e=.ok c->(∀t∈c,e<=t.off)/\c.Pairwise fun v w=>v.off<=w.off:=by
 intro k;induction k with
 |zero=>intro e c _ b;cases b;exact⟨by simp,.nil⟩
 |succ k r=>
  intro e c p b;rw[fy]at b;split at b
  ·cases b;refine⟨fun t a=>?_,by simp⟩;simp at a;subst a;exact p
  ·cases a:eL (s.drop e)with
   |err x=>rw[a]at b;cases b
   |ok z t o=>
    rw[a]at b;dsimp only at b;have q:=mi a;rw[YM]at q;have j:=j9 false (s.drop (e+o));rw[YM]at j;cases f:fy s k (e+o+cZ false (s.drop (e+o)))with
    |err y x=>rw[f]at b;cases b
    |ok u=>
     rw[f]at b;cases b;obtain⟨l,n⟩:=r _ _ om f;refine⟨fun m hx=>?_,List.pairwise_cons.2 ⟨fun m hx=>?_,n⟩⟩
     ·rcases List.mem_cons.1 hx with rfl|hx
      ·exact YO _
      ·have:=l m hx;omega
     ·have:=l m hx;show e<=m.off;omega
theorem Th(s:List UInt8):∀(n f l:Nat) (b:List Tok) (t0:Tok),f<=s.length->s.length-f<n->fy s n f=.ok b->b[l]?=some t0->∀p,t0.off-f<p->fy (s.take t0.off) p f=.ok (b.take l++[⟨0,[],t0.off⟩]):=by
 intro n;induction n with
 |zero=>intro f l b t0 _ e;omega
 |succ n z=>
  intro f l b t0 w u e a p E;have q:=Fb s (n+1) f b w e;have t:=A4 s (n+1) f b u e;have k:t0∈b:=YN a;have B:t0.off<=s.length:=(t.2.2.2 t0 k).2.2;have C:=q.1 t0 k;have c:(s.take t0.off).length=t0.off:=by rw[YQ];omega
  obtain⟨p,rfl⟩:∃D,p=D+1:=⟨p-1,om⟩;rw[fy]at e;split at e
  ·cases e;have A:l=0:=by
    cases l with
    |zero=>rfl
    |succ l=>simp at a
   subst A;simp only[YY,Option.some.injEq]at a;subst a;rw[fy,c,if_pos (by show s.length<=f;omega)];rfl
  ·rename_i F;cases m:eL (s.drop f)with
   |err G=>rw[m]at e;cases e
   |ok I J v=>
    rw[m]at e;dsimp only at e;have x:=mi m;rw[YM]at x;have r:=j9 false (s.drop (f+v));rw[YM]at r;cases o:fy s n (f+v+cZ false (s.drop (f+v)))with
    |err H G=>rw[o]at e;cases e
    |ok j=>
     rw[o]at e;cases e;cases l with
     |zero=>
      simp only[YY,Option.some.injEq]at a;subst a;rw[fy,c,if_pos (YO _)];rfl
     |succ l=>
      have a:j[l]?=some t0:=a;have y:=(Fb s n _ j om o).1 t0 (YN a);rw[fy,c,if_neg om,YW,Q9 m om];dsimp only;rw[YW,Dj _ _ _ om,z _ l j t0 om om o a p om];rfl
variable{g:List Tok} {h:Nat}
theorem Ra{s:List UInt8}(e:gk s=.ok g){t0:Tok}(b:g[h]?=some t0):gk (s.take t0.off)=.ok (g.take h++[⟨0,[],t0.off⟩]):=by
 have j:=e;unfold gk at e;split at e
 ·cases e
 ·have a:=j9 false s;have f:=(Fb s _ _ g a e).1 t0 (YN b);have k:t0.off<=s.length:=((wV j).2.2.2.2 t0 (YN b)).2.2;have c:(s.take t0.off).length=t0.off:=by rw[YQ];omega
  rw[gk,c,if_neg om,Dj _ _ _ f];exact Th s _ _ h g t0 a om e b _ om
theorem HS{s:List UInt8}(a:gk s=.ok g):g.Pairwise fun b c=>b.off<=c.off:=by
 unfold gk at a;split at a
 ·cases a
 ·exact(Fb s _ _ g (j9 false s) a).2
theorem Ti(b:Bool):sP b≠3:=by cases b<;>decide
theorem Rb(a:Ex):qf a≠3:=by
 cases a;rw[qf];split
 ·decide
 ·split
  ·decide
  ·exact Ti _
theorem Rc:∀(e:Nat) (c:Ex) (b:Unit),da c<=e->Wv (jW pD c b)≠3:=by
 intro e;induction e with
 |zero=>intro c b q;have:=kK c;omega
 |succ e n=>
  intro c b q;have m:∀(j:List Ex) (b:Unit),cS j<=e->Wv (fL pD j b)≠3:=by
   intro j;induction j with
   |nil=>intro b _;rw[fL];exact(by decide:(0:Nat)≠3)
   |cons p j k=>
    intro b o;rw[cS]at o;rw[fL];have l:=n p b om;cases a:jW pD p b with
    |inr s=>rw[a]at l;exact l
    |inl f=>exact k f om
  have r:=iN c;rw[ol];cases a:pD b c with
  |inl f=>exact m _ _ om
  |inr s=>
   rw[pD]at a;split at a
   ·cases a
   ·cases a;exact Rb c
theorem Lx(a:Ex):sX a≠3:=by
 rw[sX];split
 ·decide
 ·exact Rc _ a () (YO _)
theorem Re(l:List Ty):rD l≠3:=by
 induction l with
 |nil=>decide
 |cons b l a=>
  rw[rD];split
  ·decide
  ·exact a
theorem Tj(b:List kA)(a:kA):vp b a≠3:=by
 rw[vp];split
 ·decide
 split
 ·decide
 split
 ·decide
 split
 ·decide
 split
 ·exact Re _
 ·exact Lx _
theorem Tk(b l:List kA):(lu b l).2≠3:=by
 induction l generalizing b with
 |nil=>rw[lu];decide
 |cons c l a=>
  rw[lu];split
  ·exact Tj b c
  ·exact a _
theorem N4(p:List UInt8)(b l:List sL):j3 p b l≠3:=by
 induction l generalizing b with
 |nil=>rw[j3];decide
 |cons c l a=>
  rw[j3];split
  ·decide
  ·split
   ·decide
   ·exact a _
theorem Rf(a:Fh):lB a≠3:=by
 rw[lB];split
 ·decide
 ·exact N4 _ _ _
def HT{a:Type}(c:Rd):PR a->PR a
 |.bad f j=>.bad f j
 |.ok e b=>if(c.tok b).kind≠0 then .bad (c.tok b).off 3 else .ok e b
theorem Ly{j b:Rd}(c:Dh j b h){n:Type}{p:Nat}{r l:PR n}(t:dP j b h p r l):dP j b h p (HT j r) (HT b l):=by
 refine t.cs c (f:=fun a q=>if(j.tok q).kind≠0 then .bad (j.tok q).off 3 else .ok a q) (f':=fun a q=>if(b.tok q).kind≠0 then .bad (b.tok q).off 3 else .ok a q) (fun a q hx s k=>?_) (fun o e hx=>by rw[hx];rfl) (fun o e hx=>by rw[hx];rfl) (fun a q hx=>by rw[hx];rfl) (fun a q hx=>by rw[hx];rfl);refine dh c (fun m=>by rw[c.eq q m]) ?_;split
 ·exact dP.tok c k
 ·exact dP.ok c (YO _) k
theorem Tl{Q:Type}(I:Rd->PR Q)(D:∀{f b:Rd} {k:Nat},Dh f b k->b.Nm->dP f b k 0 (I f) (I b)){s:List UInt8}(r:gk s=.ok g){o:Nat}(T:HT ⟨0,0,g⟩ (I ⟨0,0,g⟩)=.bad o 3):
  o<=s.length/\∃m,gk (s.take o)=.ok m/\∀q,HT ⟨0,0,m⟩ (I ⟨0,0,m⟩)=.bad q 3->q=o:=by
 obtain⟨f,F⟩:∃f:Rd,f=⟨0,0,g⟩:=⟨_,rfl⟩;have c:f.ts=g:=by rw[F]
 rw[<-F]at T;have v:gk s=.ok f.ts:=by rw[c];exact r
 obtain⟨W,N⟩:=mn v;have H:Dh f f (f.ts.length-1):=by
  refine⟨fun _ _=>Z,om,om,?_,W⟩;refine Classical.byContradiction fun M=>?_;have:=W.go _ _ (bZ (p:=f.ts.length-1) om) M;omega
 have p:=(Ly H (D H (qc v))).1;rw[T]at p;rcases p with p|⟨k,_,z,y⟩
 ·exact absurd Z p
 have e:=bZ z;rw[c]at e;have j:=Ra r e;rw[<-y]at j;refine⟨by rw[y];exact((wV r).2.2.2.2 _ (YN e)).2.2,_,j,fun q B=>?_⟩;obtain⟨b,t⟩:∃b:Rd,b=⟨0,0,g.take k++[⟨0,[],o⟩]⟩:=⟨_,rfl⟩;rw[<-t]at B;have a:b.ts=g.take k++[⟨0,[],o⟩]:=by rw[t]
 have l:gk (s.take o)=.ok b.ts:=by rw[a];exact j
 obtain⟨L,J⟩:=mn l;have u:k<g.length:=by rw[<-c];exact z
 have n:(g.take k).length=k:=by rw[YQ];omega
 have K:Dh f b k:=by
  refine⟨fun X P=>?_,?_,z,?_,L⟩
  ·rw[Rd.tok,Rd.tok,c,a,List.getElem?_append_left om,List.getElem?_take_of_lt P]
  ·rw[a,List.length_append,n];rfl
  ·rw[Rd.tok,a,YU om,n,Nat.sub_self];rfl
 have E:(b.tok k).off=o:=by rw[Rd.tok,a,YU om,n,Nat.sub_self];rfl
 have V:=Ly K (D K (qc l));rw[T,B]at V;rcases V with⟨x,U⟩;rcases x with x|⟨A,_,Y,w⟩
 ·exact absurd Z x
 have d:=K.len;rcases Y0 (show A<=k by omega)with C|rfl
 ·have G:q<=o:=by
   rw[w,y,<-K.eq A C];have R:=List.pairwise_iff_getElem.1 (HS r) A k om u C;have S:f.tok A=g[A]:=by rw[Rd.tok,c,YX (show A<g.length by omega)];rfl
   have O:f.tok k=g[k]:=by rw[Rd.tok,c,YX u];rfl
   rw[S,O];exact R
  rcases Y0 G with h2|h2
  ·have:=U om ⟨rfl,by rw[E];exact h2⟩;cases this;rfl
  ·exact h2
 ·rw[w,E]
def HU(b:List UInt8->Nat×Nat):Prop:=∀a c,gk a=.ok c->(b a).2=3->(b a).1<=a.length/\((b (a.take (b a).1)).2=3->(b (a.take (b a).1)).1=(b a).1)
theorem Bz{n:Type}{q:List UInt8->Nat×Nat}(l:Rd->PR n)(r:∀{o b:Rd} {s:Nat},Dh o b s->b.Nm->dP o b s 0 (l o) (l b))(j:∀e a,gk e=.ok a->(q e).2=3->HT ⟨0,0,a⟩ (l ⟨0,0,a⟩)=.bad (q e).1 3):HU q:=by
 intro e a k t;obtain⟨u,f,c,p⟩:=Tl l r k (j e a k t);exact⟨u,fun m=>p _ (j _ f c m)⟩
theorem Rg:HU fun s=>(l4 s).2:=by
 refine Bz (fun j=>de j j.ts.length 0) (fun{j o t} f _=>?_) fun s b k a=>?_
 ·have n:=f.len;have l:=f.le;exact Bx f _ _ 0 om om om
 ·dsimp only at a⊢;unfold l4 at a⊢;rw[k]at a⊢;dsimp only at a⊢;cases c:de ⟨0,0,b⟩ b.length 0 with
  |bad m p=>rw[c]at a;have a:p=3:=a;subst a;rfl
  |ok r q=>
   rw[c]at a;dsimp only at a⊢;rw[HT];split
   ·rfl
   ·rename_i e;rw[if_neg e]at a;split at a<;>cases a
theorem Rh:HU fun s=>(qg s).2:=by
 refine Bz (fun j=>AW j j.ts.length 0) (fun{j o t} f _=>?_) fun s b k a=>?_
 ·have n:=f.len;have l:=f.le;exact Lv f _ _ 0 om om om
 ·dsimp only at a⊢;unfold qg at a⊢;rw[k]at a⊢;dsimp only at a⊢;cases c:AW ⟨0,0,b⟩ b.length 0 with
  |bad m q=>rw[c]at a;have a:q=3:=a;subst a;rfl
  |ok p r=>
   rw[c]at a;dsimp only at a⊢;rw[HT];split
   ·rfl
   ·rename_i e;rw[if_neg e]at a;split at a
    ·exact absurd a (Lx p)
    ·cases a
theorem Tn:HU fun s=>(xf s).2:=by
 refine Bz (fun m=>vo m 0) (fun{m o t} l j=>?_) fun s e f a=>?_
 ·have n:=l.len;exact Q5 l j om
 ·unfold xf at a⊢;rw[f]at a⊢;dsimp only at a⊢;cases b:vo ⟨0,0,e⟩ 0 with
  |bad k p=>rw[b]at a;have a:p=3:=a;subst a;rfl
  |ok r q=>
   rw[b]at a;dsimp only at a⊢;rw[HT];split
   ·rfl
   ·rename_i c;rw[if_neg c]at a;split at a
    ·exact absurd a (Rf _)
    split at a
    ·exact absurd a (Tk _ _)
    ·cases a
variable{d:dC->VS->Prop} {i:VS}
theorem Fc(s:List UInt8)(c:UInt8)(f:List UInt8)(b:s=c::f)(e:s.length<4294967296)(a:d (.ret (Bk (eL s))) i):b1 C b7 ez [cq s] i d:=by
 refine cQ (Cq s c f b e) Z ?_ a;cases eL s<;>rfl
def XX:Nat->Bool:=fun a=>Nat.beq a 36||Nat.beq a 50
def Yc(b:List UInt8)(a:Nat×List Tok):Tm:=[(0,cq b),(5,.ms 0 3 0 a.2.length a.2.length),(6,b3 a.1)]
def Yd(a:List Tok):VS:=[jt a]
theorem Ri{c a n:Nat}(f:c<=a)(b:a<4294967296)(e:n=1:=by rfl):(c+n)*32<=eF/\c+n<=eF:=by
 unfold eF;omega
theorem To{b:Nat->Nat}(a:List Tok)(t:Tok):some (cL.row 3 (List.take a.length (List.drop 0 (a.map fun t=>(n7 t).map V.d))++[(n7 t).map V.d]))=some (dH b (jt (a++[t]))):=by
 rw[CT,jt,List.map_append,YV,List.take_of_length_le sm];rfl
theorem Vl(b:Nat)(a:List Tok)(t:Tok):some (V.ms b 3 0 (a.length+1) (a.length+1))=some (V.ms b 3 0 (a++[t]).length (a++[t]).length):=by simp
theorem N5(b:List UInt8)(a:Nat)(f:a<=b.length)(j:b.length<4294967296){k:V}(e:k=b3 a)(c:d (.ret (b3 (cZ false (b.drop a)))) i):b1 C b7 mL [cq b,k] i d:=by
 subst e;exact yH b a f j c
theorem Km(s:List UInt8)(w:∀E,I9 (gk s) E->d E i):b1 C b7 u2 [cq s] i d:=by
 refine b1.closed (P:=I9 (gk s)) ?_ Z w;refine cA XX (fun _=>Z) ?_;apply aZ<;>intro H
 ·have k:65536<s.length:=fF (a:=65536) H;refine cP.now Z ⟨Z,Z,?_⟩;rw[gk,if_pos k];rfl
 ·have k:s.length<=65536:=dR (a:=65536) H;have r:s.length<4294967296:=om;refine yH s 0 (YS _) r ?_;refine cF (eW:=Yc s (cZ false s,[])) (ii:=Yd []) (.same ⟨Z,Z,Z,tv⟩ Z) ?_;refine cl.iter (Yc s) (fun x=>Yd x.2) (fun x=>s.length-x.1) (Ja s) ?_ (cZ false s,[]) ⟨j9 false s,YS _,s.length+1,by show s.length-cZ false s<s.length+1;omega,by rw[wD]⟩;rintro⟨b,a⟩ ⟨n,c,p,l,e⟩;have n:b<=s.length:=n;have c:a.length<=b:=c;have l:s.length-b<p:=l;have e:fy s (s.length+1) (cZ false s)=(fy s p b).KR a:=e;obtain⟨p,rfl⟩:∃J,p=J+1:=⟨p-1,om⟩;apply aZ<;>intro u
  ·have f:b<s.length:=fF u;have v:s.drop b=s[b]::s.drop (b+1):=List.drop_eq_getElem_cons f;refine b0 Z (a1 ⟨n,YO _⟩ ?_);rw[List.take_length];refine Fc (s.drop b) _ _ v (by rw[YM];omega) ?_;cases j:eL (s.drop b)with
   |err L=>
    have A:=wE j;refine aZ (fun t=>?_) (fun t=>absurd (k6 t) A);refine cP.drop 0 ?_ ?_ ?_ ?_
    ·exact Z
    ·exact Z
    ·exact Z
    refine cP.now Z ⟨Z,Z,?_⟩;rw[Ez k f j e];rfl
   |ok y B m=>
    have z:=mi j;rw[YM]at z;have q:b+m<=s.length:=om;have o:=j9 false (s.drop (b+m));rw[YM]at o;intro K;refine a1 Z (a1 ⟨Z,Z,by simp[jt],YO _,Ri c om⟩ ?_);refine a6 Z (a6 (fg a.length) ?_);refine N5 s (b+m) q r (congrArg V.d (congrArg (D.int .i64) (dg om))) ?_;refine⟨(b+m+cZ false (s.drop (b+m)),a++[⟨y,B,b⟩]),AL f l c j e,by show s.length-(b+m+cZ false (s.drop (b+m)))<s.length-b;omega,?_,rfl,rfl⟩;refine .pick 0 [2] ⟨Z,Vl 2 a ⟨y,B,b⟩,int_eq ?_,tv⟩ Z Z Z Z Z dc ⟨To a ⟨y,B,b⟩,KS _ _,tv⟩;rw[dg om];exact dg om
  ·have f:s.length<=b:=dR u;intro K;refine a1 Z (a1 ⟨Z,Z,by simp[jt],YO _,Ri c om⟩ ?_);refine a6 Z (a6 (fg a.length) ?_);rw[Jb k f e];refine EA 1 (a++[⟨0,[],s.length⟩]) (a.length+1) sm ?_;exact u7 a a.length Z ⟨0,[],s.length⟩
def HV(a:List UInt8)(c:dC):Prop:=∃b,gK (l4 a).1 b/\c=.ret (.dV [.agg (b.map V.d),b3 (l4 a).2.1,b3 (l4 a).2.2])
theorem rb{a:List UInt8}{b:Nat}(c:l4 a=(uE,h,b)):HV a (.ret (.dV [.agg [.d (.int .i64 0),.d (.str []),.d (.str []),.d .cn,.d .cn],b3 h,b3 b])):=by
 rw[HV,c];exact⟨_,Sz,Z⟩
theorem WB(b:h≠0):decide (Int.ofNat h=0)=false:=decide_eq_false fun a=>b (by simp only[YZ]at a;omega)
theorem HW(s:List UInt8):b1 C b7 um [cq s] [] fun t y=>y=[]/\cN t=true/\HV s t:=by
 refine cz ?_;refine MN s (fun t a=>?_);unfold A5 at a;cases j:gk s with
 |err f r=>
  rw[j]at a;have a:t=.ret (.dV [wW,b3 f,b3 r]):=a;subst a;have m:=oc j;have c:l4 s=(uE,f,r):=by rw[l4,j]
  refine a6 (WB m) ?_;refine a7 0 ⟨Z,Z,rb c⟩
 |ok b=>
  rw[j]at a;dsimp only at a;obtain⟨q,e,a⟩:=a;obtain⟨H,p⟩:=mn (R:=⟨q,e,b⟩) j;have A:=qc (R:=⟨q,e,b⟩) j;have B:de ⟨q,e,b⟩ b.length=de ⟨0,0,b⟩ b.length:=E0 (R:=⟨q,e,b⟩) (R':=⟨0,0,b⟩) rfl _;have k:=qd H A b.length;rw[B]at a k;cases l:de ⟨0,0,b⟩ b.length 0 with
  |bad f r=>
   rw[l]at a;have a:t=.ret (.dV [wW,b3 f,b3 r]):=a;subst a;have m:=JX _ _ _ f r l;have c:l4 s=(uE,f,r):=by rw[l4,j];dsimp only;rw[l]
   refine a6 (WB m) ?_;refine a7 0 ⟨Z,Z,rb c⟩
  |ok z n=>
   rw[l]at a;dsimp only at a;have c:l4 s=if(Rd.tok ⟨0,0,b⟩ n).kind≠0 then(uE,(Rd.tok ⟨0,0,b⟩ n).off,3)else if qZ z=true then(uE,0,7)else(z,0,0):=by rw[l4,j];dsimp only;rw[l]
   have E:Rd.tok ⟨q,e,b⟩ n=Rd.tok ⟨0,0,b⟩ n:=eg (R:=⟨q,e,b⟩) (R':=⟨0,0,b⟩) rfl n;rw[E]at a;by_cases v:(Rd.tok ⟨0,0,b⟩ n).kind≠0
   ·rw[if_pos v]at a c;subst a;refine a7 0 ⟨Z,Z,rb c⟩
   ·rw[if_neg v]at a c;obtain⟨N,o,rfl⟩:=a;obtain⟨F,J,_,w⟩:=k 0 z n (YO _) p l;have x:=H.len;have w:n<b.length:=w;have x:b.length<4294967296:=x;obtain⟨M,O,I,K,L,rfl⟩:=o.di;refine oe z _ o F om ?_;cases u:qZ z with
    |true=>
     rw[u,if_pos rfl]at c;refine a7 0 ⟨Z,Z,rb c⟩
    |false=>
     rw[u,if_neg dc]at c;refine a7 0 ⟨Z,Z,by rw[HV,c];exact⟨_,o,rfl⟩⟩
theorem Kn(b:List UInt8)(a:∀c,HV b c->d c i):b1 C b7 um [cq b] i d:=
 b1.closed (HW b) rfl a
def Fe(b:Nat)(a:List UInt8):Nat×Nat:=match b with
 |0=>(l4 a).2
 |1=>(qg a).2
 |_=>(xf a).2
theorem Rj(a:Nat):HU (Fe a):=by
 match a with
 |0=>exact Rg
 |1=>exact Rh
 |_+2=>exact Tn
def HX(b:Nat)(a:List UInt8)(c:dC):Prop:=c=.ret (.dV [b3 (Fe b a).1,b3 (Fe b a).2])
theorem Tp{s:List UInt8}(b:s.length<=800)(a:gk s=.ok g):g.length<=4097:=by
 unfold gk at a;split at a
 ·cases a
 ·have:=(A4 s _ _ g om a).2.2.1;omega
theorem Ff(e:List UInt8)(r:e.length<=800)(c:Nat):b1 C b7 lx [cq e,b3 c] [] fun j o=>o=[]/\cN j=true/\HX c e j:=by
 refine cz ?_;apply aZ<;>intro l
 ·have a:c=0:=CM (b:=0) l;refine Kn e (fun j b=>?_);obtain⟨u,f,rfl⟩:=b;obtain⟨p,y,v,G,H,rfl⟩:=f.di;refine a7 0 ⟨Z,Z,by rw[HX,a];rfl⟩
 apply aZ<;>intro n
 ·have a:c=1:=CM (b:=1) n;refine J3 e (fun j b=>?_);obtain⟨u,f,rfl⟩:=b;obtain⟨p,y,J,I,t,z,A,w,rfl⟩:=f.eight;refine a7 0 ⟨Z,Z,by rw[HX,a];rfl⟩
 ·have m:c≠0:=Er (b:=0) l;have k:c≠1:=Er (b:=1) n;have a:Fe c e=(xf e).2:=by
   match c,m,k with
   |_+2,_,_=>rfl
  refine NJ e (fun E F=>Tp r F) (fun j b=>?_);obtain⟨u,⟨B,x,D,s,rfl⟩,rfl⟩:=b;refine a7 0 ⟨Z,Z,by rw[HX,a];rfl⟩
theorem yN(a:List UInt8)(e:a.length<=800)(c:Nat)(b:∀f,HX c a f->d f i):b1 C b7 lx [cq a,b3 c] i d:=
 b1.closed (Ff a e c) rfl b
theorem N6(s:List UInt8):b1 C b7 ou [cq s] [] fun f _=>f=.ret (ct true):=by
 refine cz ?_;refine dy (args:=[]) (x:=.bool true) Z Z ?_;apply aZ<;>intro o
 ·repeat refine dX ?_
  exact cP.now Z Z
 repeat refine dX ?_
 have t:s.length<=800:=dR (a:=800) o;refine Km s (fun f b=>?_);cases e:gk s with
 |err z F=>
  rw[e]at b;obtain rfl:f=_:=b;have v:=oc e;refine aZ (fun l=>?_) (fun l=>absurd (k6 l) v);repeat refine dX ?_
  exact cP.now Z Z
 |ok w=>
  rw[e]at b;obtain⟨q,y,rfl⟩:=b;refine cl.less (eW:=[(0,cq s),(24,b3 0)]) ⟨Z,Z,tv⟩ ?_;refine cl.iter (fun a:Nat=>[(0,cq s),(24,b3 a)]) (fun _=>[]) (fun a=>3-a) (fun a=>a<=3) ?_ 0 (YS _);intro a A;apply aZ<;>intro x
  ·have c:a<3:=fF (b:=3) x;refine yN s t a (fun f b=>?_);obtain rfl:f=_:=b;apply aZ<;>intro k
   ·repeat refine dX ?_
    exact⟨a+1,c,by show 3-(a+1)<3-a;omega,.same ⟨rfl,int_eq (cp om),tv⟩ rfl,rfl,rfl⟩
   repeat refine dX ?_
   have u:(Fe a s).2=3:=by
    rw[Bool.not_eq_false']at k;exact CM (b:=3) k
   obtain⟨m,j⟩:=Rj a s w e u;apply aZ<;>intro r
   ·exact absurd (of_decide_eq_true r) (by simp only[YZ];omega)
   repeat refine dX ?_
   refine b0 Z (a1 ⟨YS _,m⟩ ?_);refine yN ((s.take (Fe a s).1).drop 0) (by rw[YV,YQ];omega) a (fun f b=>?_);rw[YV]at b;obtain rfl:f=_:=b;apply aZ<;>intro p
   ·repeat refine dX ?_
    have B:(!decide (Int.ofNat (Fe a (s.take (Fe a s).1)).1=Int.ofNat (Fe a s).1))=false:=by
     rw[j (CM (b:=3) p)];simp
    repeat refine dX ?_
    exact⟨a+1,c,by show 3-(a+1)<3-a;omega,.same ⟨rfl,int_eq (cp om),tv⟩ rfl,rfl,rfl⟩
   ·repeat refine dX ?_
    exact⟨a+1,c,by show 3-(a+1)<3-a;omega,.same ⟨rfl,int_eq (cp om),tv⟩ rfl,rfl,rfl⟩
  ·exact cP.now Z Z
end Go.Proofs.YtpejealjkmhkgaaGreatDoor
