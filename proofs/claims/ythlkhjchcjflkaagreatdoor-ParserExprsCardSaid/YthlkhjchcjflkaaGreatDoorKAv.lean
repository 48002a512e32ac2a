/- Part of the proof. -/
import Derived.Test.YthlkhjchcjflkaaGreatDoorKAu
set_option linter.all false
set_option maxHeartbeats 16000000
set_option maxRecDepth 100000
open Int renaming ofNat_eq_natCast->Yl,ofNat->Ym
open List renaming map->Yn,mem_singleton->Yo,take->Yp,drop->Yq,take_of_length_le->Yr,length_append->Ys,length_cons->Yv,getElem?_eq_getElem->Yz,mem_cons->YA,length_singleton->YC,length_map->YD,flatMap_cons->YF,mem_append->YH,map_append->YI
open Nat renaming zero_le->Yt,le_refl->Yu,zero_add->Yx,le_of_eq->Yy,succ_ne_zero->YB,pow_le_pow_right->YE,le_trans->YG
open Bool renaming and_eq_true->Yw
namespace Go.Proofs.YthlkhjchcjflkaaGreatDoor
open Go.AM Go.VM
variable{a:List UInt8}
theorem fx{t:Tok}(h:cD t a=true):t.text=a:=by
 simp only[cD,Yw,decide_eq_true_eq]at h;exact h.1
variable{J e:Nat} {u:Int}
theorem mU{b n c:List UInt8}:dh (.mk e b n c u [] [] [])=1:=by
 rw[dh,c8];split<;>simp[cL]
theorem fZ.leaf{d n b:List UInt8}{types:List Ty}(h:gh (.mk e d n b u types [] [])):fZ (.mk e d n b u types [] []):=.mk h (fun b c=>by cases c)
variable{G:Ex} {r:List iB}
theorem fZ.one{f n d:List UInt8}{types:List Ty}(h:gh (.mk e f n d u types r [G]))(b:fZ G):fZ (.mk e f n d u types r [G]):=.mk h (fun g c=>by
 obtain rfl:=Yo.1 c;exact b)
theorem fZ.two{j n i:List UInt8}{types:List Ty}{f b:Ex}(h:gh (.mk e j n i u types r [f,b]))(d:fZ f)(g:fZ b):fZ (.mk e j n i u types r [f,b]):=.mk h (fun l c=>by
 rcases YA.1 c with rfl|c
 ·exact d
 ·obtain rfl:=Yo.1 c;exact g)
theorem fZ.three{o n l:List UInt8}{types:List Ty}{g b c:Ex}(h:gh (.mk e o n l u types r [g,b,c]))(f:fZ g)(i:fZ b)(j:fZ c):fZ (.mk e o n l u types r [g,b,c]):=.mk h (fun p d=>by
 rcases YA.1 d with rfl|d
 ·exact f
 ·rcases YA.1 d with rfl|d
  ·exact i
  ·obtain rfl:=Yo.1 d;exact j)
variable{A:List Ex}
theorem gW{c n b:List UInt8}{types:List Ty}:dh (.mk e c n b u types [] A)=1+cL types+c8 A:=by
 rw[dh];split<;>simp
theorem Dm{R:Rd}(i:R.Wf){b p f:Nat}(g:p<R.ts.length)(h:oc b R p=.ok G f):fZ G/\dh G+p<=f/\p<f/\f<R.ts.length:=by
 rw[oc]at h;split at h
 ·cases h
 ·rename_i c;have c:(R.tok p).kind=3:=by simpa using c
  have d:=i.go p _ (b8 g) om;split at h
  ·split at h
   ·cases h
   ·cases h;exact⟨.leaf .int,by rw[mU];omega,om,d⟩
  ·cases h
variable{k:List (List UInt8)}
theorem HS{t:Tok}{o:List UInt8}(h:mv t k=some o):o∈k/\cD t o=true:=by
 obtain⟨d,c,rfl,b,_⟩:=qU h;exact⟨List.getElem_mem c,b⟩
theorem Nb{R:Rd}(O:R.Wf){fn:Nat->PR Ex}(x:∀t∈k,t∈y9){lo:Nat}(he:gi fn R lo):∀(q:Nat) (l:Ex) (p b:Nat) (d:Ex) (c:Nat),lo<=p->p<R.ts.length->fZ l->dh l+b<=p->b<p->rQ fn k R q l p=.ok d c->fZ d/\dh d+b<=c/\b<c/\c<R.ts.length:=by
 intro q;induction q with
 |zero=>intro l p b d c _ _ _ _ _ h;cases h
 |succ q D=>
  intro l p b d c M g n C s h;rw[rQ]at h;split at h
  ·cases h;exact⟨n,C,s,g⟩
  ·rename_i t j;obtain⟨i,E⟩:=HS j;have f:=O.step g E;split at h
   ·cases h
   ·rename_i K o v;obtain⟨L,P,Q,N⟩:=he (p+1) K o om f v;refine D _ o b d c om N (.two (.two (x t i)) n L) ?_ om h;rw[gW];simp only[cL,c8];omega
theorem ul{R:Rd}(v:R.Wf){fn:Nat->PR Ex}(c:∀t∈k,t∈y9){lo:Nat}(he:gi fn R lo):gi (l7 fn k R) R lo:=by
 intro p l n f d h;rw[l7]at h;split at h
 ·cases h
 ·rename_i i b g;obtain⟨s,o,q,j⟩:=he p i b f d g;exact Nb v c he _ i b p l n om j s o q h
theorem yK{ty:Nat->PR Ty}{R:Rd}:∀(f:Nat) (b:List Ty) (p:Nat) (g:List Ty) (i:Nat),ec ty R f b p=.ok g i->g≠[]:=by
 intro f;induction f with
 |zero=>intro b p g i h;cases h
 |succ f j=>
  intro b p g i h;rw[ec]at h;cases c:ty p with
  |bad n o=>rw[c]at h;cases h
  |ok t l=>
   rw[c]at h;dsimp only at h;split at h
   ·exact j _ _ _ _ h
   ·cases d:cv R [[93]] l with
    |bad n o=>rw[d]at h;cases h
    |ok s q=>rw[d]at h;cases h;simp
theorem HT{R:Rd}(P:R.Wf)(g:R.Nm){ty:Nat->PR Ty}{s:List UInt8}{p d:Nat}(ht:Good ty R p)(f:dp s=true)(E:p<R.ts.length)(h:hF ty R s p=.ok G d):fZ G/\dh G+p<=d+1/\p<=d/\d<R.ts.length:=by
 have v:s≠[]:=fun T=>by rw[T]at f;cases f
 rw[hF]at h;have i:∀(K:Nat) (o L:List UInt8) (b:Nat),((K=4/\o=s)∨(K=3/\o=[]))->dp L=true->p<=b->b<R.ts.length->(if cD (R.tok b) [91]=true then(fA ty R b).map fun Q=>Ex.mk 4 o L [] 0 Q [] []else .ok (.mk K o L [] 0 [] [] []) b)=.ok G d->fZ G/\dh G+p<=d+1/\p<=d/\d<R.ts.length:=by
  intro K o L b C q D j h;have g:o=[]∨dp o=true:=by rcases C with⟨_,rfl⟩|⟨_,rfl⟩;exact .inr f;exact .inl rfl
  split at h
  ·rename_i x;obtain⟨Q,n,rfl⟩:=fj h;obtain⟨U,a,X⟩:=vC P (fun O W d S=>ht O W d om) j n;have l:Q≠[]:=by
    rw[fA,if_pos x]at n;exact yK _ _ _ _ _ n
   refine⟨.leaf (.val g q U (.inr l)),?_,om,X⟩;rw[gW,c8];omega
  ·cases h;rcases C with⟨rfl,rfl⟩|⟨rfl,rfl⟩
   ·exact⟨.leaf (.val g q sm (.inl v)),by rw[mU];omega,D,j⟩
   ·exact⟨.leaf (.loc q),by rw[mU];omega,D,j⟩
 by_cases c:cD (R.tok p) [58,58]=true
 ·rw[if_pos c]at h;cases t:dy R (p+1)with
  |bad Y T=>rw[t]at h;cases h
  |ok V b=>
   rw[t]at h;obtain⟨N,rfl,M⟩:=pf P g (P.step E c) t;exact i 4 s V _ (.inl ⟨Z,Z⟩) N om M h
 ·rw[if_neg c]at h;exact i 3 [] s p (.inr ⟨Z,Z⟩) f (Yu _) E h
theorem J9{R:Rd}{ex:Nat->PR Ex}{lo i:Nat}(he:gi ex R lo)(q:List Ex)(p:Nat)(c:List Ex)(d:Nat)(o:lo<=p)(n:p<R.ts.length)(g:(∀f∈q,fZ f)/\c8 q+i<=p)(h:iT ex q p=.ok c d):((∀f∈c,fZ f)/\c8 c+i<=d)/\p<d/\d<R.ts.length:=by
 rw[iT]at h;obtain⟨f,t,rfl⟩:=fj h;obtain⟨l,x,s,j⟩:=he p f d o n t;refine⟨⟨fun v b=>?_,?_⟩,s,j⟩
 ·rcases YH.1 b with b|b
  ·exact g.1 v b
  ·obtain rfl:=Yo.1 b;exact l
 ·rw[mR,c8,c8];have:=g.2;omega
theorem Ka{R:Rd}(i:R.Wf)(t:R.Nm){ty:Nat->PR Ty}{ex:Nat->PR Ex}{lo:Nat}(ht:Good ty R lo)(he:gi ex R (lo+1)):gi (fb ty ex R) R lo:=by
 intro p Y N m f h;have he:gi ex R (p+1):=he.up om;have ht:Good ty R p:=fun q C N M=>ht q C N om;rw[fb]at h;split at h
 ·exact Dm i f h
 ·split at h
  ·rename_i b;cases h;exact⟨.leaf .text,by rw[mU];omega,om,i.go p _ (b8 f) om⟩
  ·split at h
   ·rename_i b;obtain⟨l,E,X,v⟩:=HT i t (fun q C N M=>ht q C N om) ((t p f).1 b) (i.go p _ (b8 f) om) h;exact⟨l,om,om,v⟩
   ·split at h
    ·rename_i b;cases h;exact⟨.leaf (.bool (b:=true)),by rw[mU];omega,om,i.step f b⟩
    ·split at h
     ·rename_i b;cases h;exact⟨.leaf (.bool (b:=false)),by rw[mU];omega,om,i.step f b⟩
     ·split at h
      ·rename_i b;obtain⟨l,E,X,v⟩:=yH i t (k:=5) (kids:=[]) dc dc he sm (Yu _) (i.step f b) (fun u x k L=>.O3 x L) h;rw[c8]at E;exact⟨l,om,om,v⟩
      ·split at h
       ·rename_i b;cases d:dy R (p+1)with
        |bad K O=>rw[d]at h;cases h
        |ok s g=>
         rw[d]at h;dsimp only at h;obtain⟨W,rfl,P⟩:=pf i t (i.step f b) d;cases c:ep ex R [58] (p+1+1)with
         |bad K O=>rw[c]at h;cases h
         |ok a D=>
          rw[c]at h;dsimp only at h;obtain⟨l,E,X,v⟩:=mb i he om P c;obtain⟨V,n,rfl⟩:=fj h;obtain⟨rfl,j,_⟩:=j9 i v n;exact⟨.one (.inj W) l,by rw[gW];simp only[cL,c8];omega,om,j⟩
       ·split at h
        ·rename_i b;cases d:ty (p+1)with
         |bad K O=>rw[d]at h;cases h
         |ok C g=>
          rw[d]at h;dsimp only at h;obtain⟨t1,t2,t3,t4⟩:=ht (p+1) C g om (i.step f b) d;cases c:cv R [[124]] g with
          |bad K O=>rw[c]at h;cases h
          |ok V D=>
           rw[c]at h;dsimp only at h;obtain⟨rfl,j,_⟩:=j9 i t4 c;obtain⟨u,x,rfl⟩:=fj h;obtain⟨⟨T,e⟩,r,S⟩:=uh (I:=fun l q=>(∀Y∈l,fZ Y)/\c8 l+(g+1)<=q) i (fun l p N h Q=>⟨h.1,YG h.2 Q⟩) (J9 he) om j ⟨by simp,by rw[c8];omega⟩ x;exact⟨.mk (.Wa t1) T,by rw[gW];simp only[cL];omega,om,S⟩
        ·split at h
         ·rename_i b;cases d:ex (p+1)with
          |bad K O=>rw[d]at h;cases h
          |ok a g=>
           rw[d]at h;dsimp only at h;obtain⟨l,E,X,v⟩:=he (p+1) a g om (i.step f b) d;by_cases o:cD (R.tok g) [58]=true
           ·rw[if_pos o]at h;cases c:ty (g+1)with
            |bad K O=>rw[c]at h;cases h
            |ok C D=>
             rw[c]at h;dsimp only[PR.map]at h;obtain⟨t1,t2,t3,t4⟩:=ht (g+1) C D om (i.step v o) c;obtain⟨V,n,rfl⟩:=fj h;obtain⟨rfl,j,_⟩:=j9 i t4 n;exact⟨.one (.V9 t1) l,by rw[gW];simp only[cL,c8];omega,om,j⟩
           ·rw[if_neg o]at h;dsimp only at h;obtain⟨V,n,rfl⟩:=fj h;obtain⟨rfl,j,_⟩:=j9 i v n;exact⟨l,om,om,j⟩
         ·cases h
theorem Kb{R:Rd}(x:R.Wf)(q:R.Nm){ex:Nat->PR Ex}{lo:Nat}(he:gi ex R lo):∀(v:Nat) (g:Ex) (p b:Nat) (i:Ex) (d:Nat),lo<=p->p<R.ts.length->fZ g->dh g+b<=p->b<p->jL ex R v g p=.ok i d->fZ i/\dh i+b<=d/\b<d/\d<R.ts.length:=by
 intro v;induction v with
 |zero=>intro g p b i d _ _ _ _ _ h;cases h
 |succ v t=>
  intro g p b i d S f j L C h;rw[jL]at h;split at h
  ·rename_i o;cases c:dy R (p+1)with
   |bad P V=>rw[c]at h;cases h
   |ok s E=>
    rw[c]at h;dsimp only at h;obtain⟨N,rfl,D⟩:=pf x q (x.step f o) c;exact t _ _ b i d om D (.one (.Rh N) j) (by rw[gW];simp only[cL,c8];omega) om h
  ·split at h
   ·rename_i n;cases c:hZ ex R [41] 9 [g] (p+1)with
    |bad P V=>rw[c]at h;cases h
    |ok W E=>
     rw[c]at h;dsimp only at h;obtain⟨O,U,Y,T⟩:=yH x q (k:=9) (kids:=[g]) dc dc he (by simpa using j) om (x.step f n) (fun a K Q l=>.call K (by rw[Ys,l,YC];omega)) c;simp only[c8]at U;exact t _ _ b i d om T O om om h
   ·cases h;exact⟨j,L,C,f⟩
theorem Kc{R:Rd}(j:R.Wf)(b:R.Nm){ty:Nat->PR Ty}{ex:Nat->PR Ex}{lo:Nat}(ht:Good ty R lo)(he:gi ex R (lo+1)):gi (gm ty ex R) R lo:=by
 intro p n o f d h;rw[gm]at h;split at h
 ·cases h
 ·rename_i i c g;obtain⟨t,q,s,l⟩:=Ka j b ht he p i c f d g;exact Kb j b he _ i c p n o om l t q s h
theorem Nc{R:Rd}(o:R.Wf){ty:Nat->PR Ty}{ex:Nat->PR Ex}{lo:Nat}(g:gi (gm ty ex R) R lo):∀d,gi (nI ty ex R d) R lo:=by
 intro d;induction d with
 |zero=>intro p s i _ _ h;cases h
 |succ d j=>
  intro p s i l c h;rw[nI]at h;split at h
  ·rename_i b;obtain⟨t,q,rfl⟩:=fj h;obtain⟨n,v,x,f⟩:=j (p+1) t i om (o.step c b) q;exact⟨.one (.one (by simp[Hu])) n,by rw[U0,gW];simp only[cL,c8];omega,om,f⟩
  ·split at h
   ·rename_i b;obtain⟨n,v,x,f⟩:=Dm o (o.step c b) h;exact⟨n,om,om,f⟩
   ·exact g p s i l c h
theorem Nd{R:Rd}(O:R.Wf){ty:Nat->PR Ty}{ex:Nat->PR Ex}{lo:Nat}(g:gi (kL ty ex R) R lo):∀j,gi (l8 ty ex R j) R lo:=by
 intro j;induction j with
 |zero=>intro p T E _ _ h;cases h
 |succ j K=>
  intro p T E t d h;rw[l8]at h;split at h
  ·rename_i n;obtain⟨o,D,rfl⟩:=fj h;obtain⟨i,M,N,l⟩:=K (p+1) o E om (O.step d n) D;exact⟨.one (.one (by simp[Hu])) i,by rw[U0,gW];simp only[cL,c8];omega,om,l⟩
  ·cases c:kL ty ex R p with
   |bad U V=>rw[c]at h;cases h
   |ok o f=>
    rw[c]at h;dsimp only at h;obtain⟨i,M,N,l⟩:=g p o f t d c;split at h
    ·cases h;exact⟨i,M,N,l⟩
    ·rename_i s C;obtain⟨b,L⟩:=HS C;obtain⟨P,v,rfl⟩:=fj h;obtain⟨q,S,Q,x⟩:=g (f+1) P E om (O.step l L) v;refine⟨.two (.two ?_) i q,by rw[gW];simp only[cL,c8];omega,om,x⟩;simp only[YA,List.not_mem_nil,or_false]at b;rcases b with rfl|rfl|rfl<;>simp[y9]
theorem PN{R:Rd}(c:R.Wf)(d:R.Nm){ty:Nat->PR Ty}{ex:Nat->PR Ex}{lo:Nat}(ht:Good ty R lo)(he:gi ex R (lo+1)):gi (MI ty ex R) R lo:=by
 have h:=Nc c (Kc c d ht he) R.ts.length;have f:gi (U1 ty ex R) R lo:=ul c (fun l b=>by simp at b;subst b;simp[y9]) h;have j:gi (kL ty ex R) R lo:=ul c (fun l b=>by simp at b;rcases b with rfl|rfl|rfl<;>simp[y9]) f;have g:=Nd c j R.ts.length;have i:gi (U2 ty ex R) R lo:=ul c (fun l b=>by simp at b;subst b;simp[y9]) g;exact ul c (fun l b=>by simp at b;subst b;simp[y9]) i
theorem qh{R:Rd}(n:R.Wf){ty:Nat->PR Ty}{p g:Nat}{t:Ty}(ht:Good ty R p)(i:p<R.ts.length)(h:dl ty R p=.ok t g):j4 t/\di t+p<=g/\p<g/\g<R.ts.length:=by
 rw[dl]at h;cases b:cv R [[91]] p with
 |bad o q=>rw[b]at h;cases h
 |ok x C=>
  rw[b]at h;dsimp only at h;obtain⟨rfl,j,_⟩:=j9 n i b;cases d:ty (p+1)with
  |bad o q=>rw[d]at h;cases h
  |ok t1 f=>
   rw[d]at h;dsimp only at h;obtain⟨v,E,K,s⟩:=ht (p+1) t1 f om j d;cases c:cv R [[93]] f with
   |bad o q=>rw[c]at h;cases h
   |ok x D=>
    rw[c]at h;cases h;obtain⟨rfl,l,_⟩:=j9 n s c;exact⟨v,om,om,l⟩
theorem Nf{R:Rd}(o:R.Wf)(l:R.Nm){ex:Nat->PR Ex}{lo:Nat}(he:gi ex R lo):gi (sn ex R) R lo:=by
 intro p O Q D d h;rw[sn]at h;cases c:dy R p with
 |bad x K=>rw[c]at h;cases h
 |ok s C=>
  rw[c]at h;dsimp only at h;obtain⟨n,rfl,f⟩:=pf o l d c;cases b:ep ex R [61] (p+1)with
  |bad x K=>rw[b]at h;cases h
  |ok N L=>
   rw[b]at h;dsimp only at h;obtain⟨t,P,S,E⟩:=mb o he om f b;obtain⟨M,i,rfl⟩:=fj h;obtain⟨g,v,q,j⟩:=mb o he om E i;exact⟨.two (.Ri n) t g,by rw[gW];simp only[cL,c8];omega,om,j⟩
theorem Ke{R:Rd}(q:R.Wf){ty:Nat->PR Ty}{ex:Nat->PR Ex}{lo:Nat}(ht:Good ty R lo)(he:gi ex R lo):gi (l9 ty ex R) R lo:=by
 intro p U v L i h;rw[l9]at h;cases c:dl ty R p with
 |bad s C=>rw[c]at h;cases h
 |ok x f=>
  rw[c]at h;dsimp only at h;obtain⟨t1,t2,t3,t4⟩:=qh q (fun o x v t=>ht o x v om) i c;cases b:ex f with
  |bad s C=>rw[b]at h;cases h
  |ok K g=>
   rw[b]at h;dsimp only at h;obtain⟨D,V,W,N⟩:=he f K g om t4 b;cases d:ep ex R [116,104,101,110] g with
   |bad s C=>rw[d]at h;cases h
   |ok S M=>
    rw[d]at h;dsimp only at h;obtain⟨n,Q,O,d2⟩:=mb q he om N d;obtain⟨T,l,rfl⟩:=fj h;obtain⟨j,E,P,d3⟩:=mb q he om d2 l;exact⟨.three (.cond t1) D n j,by rw[gW];simp only[cL,c8];omega,om,d3⟩
theorem HU{R:Rd}(j:R.Wf)(s:R.Nm){ty:Nat->PR Ty}{ex:Nat->PR Ex}{lo:Nat}(ht:Good ty R lo)(he:gi ex R lo):gi (j7 ty ex R) R lo:=by
 intro p S C N l h;rw[j7]at h;cases d:dl ty R p with
 |bad v E=>rw[d]at h;cases h
 |ok D i=>
  rw[d]at h;dsimp only at h;obtain⟨t1,t2,t3,t4⟩:=qh j (fun t D C x=>ht t D C om) l d;cases b:ex i with
  |bad v E=>rw[b]at h;cases h
  |ok M g=>
   rw[b]at h;dsimp only at h;obtain⟨L,T,W,P⟩:=he i M g om t4 b;cases f:cv R [[123]] g with
   |bad v E=>rw[f]at h;cases h
   |ok V O=>
    rw[f]at h;dsimp only at h;obtain⟨rfl,n,_⟩:=j9 j P f;obtain⟨X,o,rfl⟩:=fj h;obtain⟨⟨c,K⟩,Q,q⟩:=uh (I:=PI 13 (g+1)) j PI.mono (J3 j s he) om n ⟨rU.nil 13,by rw[nz];omega⟩ o;refine⟨.mk (.Uu t1 (x8 c) ?_) (x7 c (by simpa using L)),?_,om,q⟩
    ·rw[Ys,Bj c,if_neg dc,YC];omega
    ·rw[vD];simp only[cL,c8];omega
theorem Kf{R:Rd}(l:R.Wf)(o:R.Nm){ty:Nat->PR Ty}{ex:Nat->PR Ex}{lo:Nat}(ht:Good ty R lo)(he:gi ex R lo):gi (j8 ty ex R) R lo:=by
 intro p A Q W t h;rw[j8]at h;cases g:dl ty R p with
 |bad n q=>rw[g]at h;cases h
 |ok S b=>
  rw[g]at h;dsimp only at h;obtain⟨t1,t2,t3,t4⟩:=qh l (fun O S Q P=>ht O S Q om) t g;cases f:dy R b with
  |bad n q=>rw[f]at h;cases h
  |ok s u=>
   rw[f]at h;dsimp only at h;obtain⟨N,rfl,x⟩:=pf l o t4 f;cases i:cv R [[44]] (b+1)with
   |bad n q=>rw[i]at h;cases h
   |ok F X=>
    rw[i]at h;dsimp only at h;obtain⟨rfl,C,_⟩:=j9 l x i;cases j:dy R (b+1+1)with
    |bad n q=>rw[j]at h;cases h
    |ok y e=>
     rw[j]at h;dsimp only at h;obtain⟨L,rfl,v⟩:=pf l o C j;cases c:ep ex R [105,110] (b+1+1+1)with
     |bad n q=>rw[c]at h;cases h
     |ok z E=>
      rw[c]at h;dsimp only at h;obtain⟨T,B,G,Y⟩:=mb l he om v c;cases d:ep ex R [102,114,111,109] E with
      |bad n q=>rw[d]at h;cases h
      |ok r V=>
       rw[d]at h;dsimp only at h;obtain⟨M,m,a,d2⟩:=mb l he om Y d;obtain⟨w,K,rfl⟩:=fj h;obtain⟨D,U,k,d3⟩:=mb l he om d2 K;exact⟨.three (.fold t1 N L) T M D,by rw[gW];simp only[cL,c8];omega,om,d3⟩
theorem Kg{R:Rd}(j:R.Wf)(s:R.Nm){ty:Nat->PR Ty}{ex:Nat->PR Ex}{lo:Nat}(ht:Good ty R lo)(he:gi ex R lo):gi (funcF ty ex R) R lo:=by
 intro p U P L l h;rw[funcF]at h;cases g:cv R [[40]] p with
 |bad D Q=>rw[g]at h;cases h
 |ok X K=>
  rw[g]at h;dsimp only at h;obtain⟨rfl,n,_⟩:=j9 j l g;cases c:dK (ee ty ex R) R [41] [] (p+1)with
  |bad D Q=>rw[c]at h;cases h
  |ok t S=>
   rw[c]at h;dsimp only at h;obtain⟨⟨d,x⟩,O,o⟩:=uh (I:=PI 8 (p+1)) j PI.mono (J4 j s ht he) om n ⟨rU.nil 8,by rw[nz];omega⟩ c;obtain⟨E,q,rfl⟩:=fj h;obtain⟨C,V,Y,M⟩:=mb j he om o q;have i:=vD (k:=8) (n:=[]) (types:=[]) (kids:=[]) (l:=t);rw[iS,dh]at i;refine⟨.mk (.func (x8 d) ?_) ?_,?_,om,M⟩
   ·rw[List.nil_append,Ys,Bj d,if_pos rfl,YC]
   ·intro v b;rcases YH.1 b with b|b
    ·exact x7 (n:=[]) (types:=[]) (kids:=[]) d sm v b
    ·obtain rfl:=Yo.1 b;exact C
   ·show dh (.mk 8 [] [] [] 0 [] _ (_++[E]))+p<=P;rw[dh,mR];simp only[c8,cL]at i⊢;omega
theorem Bt{R:Rd}(l:R.Wf)(d:R.Nm):∀(q g:Nat),gi (zy R q) R g:=by
 intro q;induction q with
 |zero=>intro g p n j _ _ h;cases h
 |succ q f=>
  intro g p n j C o h;have ht:∀g,Good (dG R R.ts.length) R g:=fun g p E j _=>M2 l d R.ts.length p E j (Yt _);have i:∀{fn:Nat->PR Ex},gi fn R 0->p+1<R.ts.length->fn (p+1)=.ok n j->fZ n/\dh n+p<=j/\p<j/\j<R.ts.length:=fun s t v=>by
   obtain⟨x,K,L,D⟩:=s (p+1) n j (Yt _) t v;exact⟨x,om,om,D⟩
  rw[zy,yE]at h;have c:(R.tok p).kind=5->p+1<R.ts.length:=fun b=>l.go p _ (b8 o) om;split at h
  ·rename_i b;exact i (Nf l d (f 0)) (c b.1) h
  ·split at h
   ·rename_i b;exact i (Ke l (ht 0) (f 0)) (c b.1) h
   ·split at h
    ·rename_i b;exact i (HU l d (ht 0) (f 0)) (c b.1) h
    ·split at h
     ·rename_i b;exact i (Kf l d (ht 0) (f 0)) (c b.1) h
     ·split at h
      ·rename_i b;exact i (Kg l d (ht 0) (f 0)) (c b.1) h
      ·exact PN l d (ht 0) (f 1) p n j (Yt _) o h
theorem hI{R R':Rd}(h:R.ts=R'.ts)(p:Nat):R.tok p=R'.tok p:=by unfold Rd.tok;rw[h]
theorem kb{R R':Rd}(h:R.ts=R'.ts):∀(b:List (List UInt8)) (p:Nat),cv R b p=cv R' b p:=by
 intro b;induction b with
 |nil=>intro p;rfl
 |cons d b c=>intro p;rw[cv,cv,hI h,c]
theorem HV{R R':Rd}(h:R.ts=R'.ts)(ty:Nat->PR Ty):∀(c:Nat) (b:List Ty) (p:Nat),ec ty R c b p=ec ty R' c b p:=by
 intro c;induction c with
 |zero=>intro b p;rfl
 |succ c d=>
  intro b p;rw[ec,ec];cases ty p with
  |bad i j=>rfl
  |ok g f=>dsimp only;rw[hI h,d,kb h]
theorem HW{R R':Rd}(h:R.ts=R'.ts)(ty:Nat->PR Ty)(p:Nat):fA ty R p=fA ty R' p:=by
 rw[fA,fA,hI h,HV h,h]
theorem yL{R R':Rd}(h:R.ts=R'.ts)(ty:Nat->PR Ty)(p:Nat):dl ty R p=dl ty R' p:=by
 rw[dl,dl,kb h];cases cv R' [[91]] p with
 |bad d f=>rfl
 |ok g b=>
  dsimp only;cases ty b with
  |bad d f=>rfl
  |ok i c=>dsimp only;rw[kb h]
theorem CD{R R':Rd}(h:R.ts=R'.ts)(ty:Nat->PR Ty)(c g:List UInt8)(d:Bool):∀(i:Nat) (b:List nB) (f:Nat),cW ty R c g d i b f=cW ty R' c g d i b f:=by
 intro i;induction i with
 |zero=>intro b f;rfl
 |succ i j=>
  intro b f;rw[cW,cW,hI h,hI h (f+1),kb h];split
  ·rfl
  ·split
   ·rfl
   ·cases cv R' [[58]] (if(d&&cD (R'.tok (f+1)) [63])=true then f+1+1 else f+1)with
    |bad o p=>rfl
    |ok q n=>
     dsimp only;cases ty n with
     |bad o p=>rfl
     |ok t l=>
      dsimp only;rw[hI h,kb h];split
      ·rfl
      ·cases cv R' [c] l with
       |bad o p=>rfl
       |ok q s=>exact j _ _
theorem Kh{R R':Rd}(h:R.ts=R'.ts)(ty:Nat->PR Ty)(d c:List UInt8)(b:Bool)(p:Nat):ea ty R d c b p=ea ty R' d c b p:=by
 rw[ea,ea,hI h,CD h,h]
theorem RG{R R':Rd}(h:R.ts=R'.ts)(ty:Nat->PR Ty)(c:Nat)(b:List UInt8)(d n:Nat):fH ty R c b d n=fH ty R' c b d n:=by
 have f:∀p,dl ty R p=dl ty R' p:=yL h ty;have l:∀t p,cv R t p=cv R' t p:=kb h;have g:∀q o s p,ea ty R q o s p=ea ty R' q o s p:=Kh h ty;have j:∀p,fA ty R p=fA ty R' p:=HW h ty;have i:∀p,R.tok p=R'.tok p:=hI h;unfold fH;simp only[f,l,g,j,i]
theorem RH{R R':Rd}(h:R.ts=R'.ts):∀(b:Nat),dG R b=dG R' b:=by
 intro b;induction b with
 |zero=>rfl
 |succ b c=>
  funext p;rw[dG,dG,c,hI h,RG h]
def PR.E{c:Type}(f:PR c):Prop:=∀b d,f=.bad b d->d≠0
theorem PR.E.ok{b:Type}{f:b}{d:Nat}:(PR.ok f d).E:=fun c g h=>by cases h
theorem PR.E.bad{c:Type}{b f:Nat}(h:f≠0):(PR.bad b f:PR c).E:=fun _ _ d=>by cases d;exact h
theorem PR.E.get{b:Type}(h:(PR.bad e J:PR b).E):J≠0:=h e J rfl
theorem PR.E.map{b c:Type}{f:b->c}{d:PR b}(h:d.E):(d.map f).E:=by
 cases d with
 |ok i g=>exact .ok
 |bad j l=>exact .bad h.get
theorem jn(R:Rd):∀(b:List (List UInt8)) (p:Nat),(cv R b p).E:=by
 intro b;induction b with
 |nil=>intro p;exact .ok
 |cons d b c=>
  intro p;rw[cv];split
  ·exact c _
  ·exact .bad dc
theorem Ki{ty:Nat->PR Ty}(ht:∀p,(ty p).E)(R:Rd):∀(f:Nat) (b:List Ty) (p:Nat),(ec ty R f b p).E:=by
 intro f;induction f with
 |zero=>intro b p;exact .bad dc
 |succ f g=>
  intro b p;rw[ec];have d:=ht p;cases i:ty p with
  |bad l n=>rw[i]at d;exact .bad d.get
  |ok s j=>
   dsimp only;split
   ·exact g _ _
   ·have c:=jn R [[93]] j;cases h:cv R [[93]] j with
    |ok q o=>exact .ok
    |bad l n=>rw[h]at c;exact .bad c.get
theorem Fh{ty:Nat->PR Ty}(ht:∀p,(ty p).E)(R:Rd)(p:Nat):(fA ty R p).E:=by
 rw[fA];split
 ·exact Ki ht R _ _ _
 ·exact .ok
theorem rX{ty:Nat->PR Ty}(ht:∀p,(ty p).E)(R:Rd)(p:Nat):(dl ty R p).E:=by
 rw[dl];have d:=jn R [[91]] p;cases h:cv R [[91]] p with
 |bad l n=>rw[h]at d;exact .bad d.get
 |ok o j=>
  dsimp only;have b:=ht j;cases g:ty j with
  |bad l n=>rw[g]at b;exact .bad b.get
  |ok s c=>
   dsimp only;have f:=jn R [[93]] c;cases i:cv R [[93]] c with
   |bad l n=>rw[i]at f;exact .bad f.get
   |ok o q=>exact .ok
theorem Fi{ty:Nat->PR Ty}(ht:∀p,(ty p).E)(R:Rd)(b i:List UInt8)(d:Bool):∀(q:Nat) (c:List nB) (f:Nat),(cW ty R b i d q c f).E:=by
 intro q;induction q with
 |zero=>intro c f;exact .bad dc
 |succ q x=>
  intro c f;rw[cW];split
  ·exact .bad dc
  ·split
   ·exact .bad dc
   ·generalize (if(d&&cD (R.tok (f+1)) [63])=true then f+1+1 else f+1)=g;have l:=jn R [[58]] g;cases v:cv R [[58]] g with
    |bad C D=>rw[v]at l;exact .bad l.get
    |ok K o=>
     dsimp only;have h:=ht o;cases t:ty o with
     |bad C D=>rw[t]at h;exact .bad h.get
     |ok L j=>
      dsimp only;split
      ·exact .ok
      ·have n:=jn R [b] j;cases s:cv R [b] j with
       |bad C D=>rw[s]at n;exact .bad n.get
       |ok K E=>exact x _ _
theorem yb{ty:Nat->PR Ty}(ht:∀p,(ty p).E)(R:Rd)(d c:List UInt8)(b:Bool)(p:Nat):(ea ty R d c b p).E:=by
 rw[ea];split
 ·exact .ok
 ·exact(Fi ht R d c b _ _ _).map
theorem TX{ty:Nat->PR Ty}(ht:∀p,(ty p).E)(R:Rd)(i:Nat)(f:List UInt8)(c d:Nat):(fH ty R i f c d).E:=by
 have g:(PR.bad c 3:PR Ty).E:=.bad dc;unfold fH;split
 ·split
  ·exact .ok
  ·split
   ·exact(rX ht R d).map
   ·split
    ·have b:=jn R [[40]] d;cases j:cv R [[40]] d with
     |bad q s=>rw[j]at b;exact .bad b.get
     |ok t h=>
      dsimp only;have l:=yb ht R [44] [41] true h;cases n:ea ty R [44] [41] true h with
      |bad q s=>rw[n]at l;exact .bad l.get
      |ok v o=>exact(ht o).map
    ·exact g
 ·split
  ·split
   ·exact(yb ht R _ _ _ _).map
   ·split
    ·exact(yb ht R _ _ _ _).map
    ·exact g
  ·split
   ·exact(Fh ht R d).map
   ·split
    ·have b:=jn R [[58,58]] d;cases j:cv R [[58,58]] d with
     |bad q s=>rw[j]at b;exact .bad b.get
     |ok t h=>
      dsimp only;split
      ·exact .bad dc
      ·exact(Fh ht R _).map
    ·exact g
theorem TY(R:Rd):∀(b p:Nat),(dG R b p).E:=by
 intro b;induction b with
 |zero=>intro p;exact .bad dc
 |succ b c=>intro p;rw[dG];exact TX c R _ _ _ _
def zc(c:UInt8):Nat:=c.toNat-48
def kC(b:Nat)(l:List UInt8):Nat:=l.foldl (fun d c=>d*10+zc c) b
theorem yM{c:UInt8}(h:isDigit c=true):48<=c.toNat/\c.toNat<=57:=by
 simp only[isDigit,Yw,decide_eq_true_eq,Yl]at h;omega
theorem Kj:∀(d:List UInt8) (b c:Nat),d.all isDigit=true->c+d.length<=19->b<10^c->Lib.parseUintM (2^64-1) b d=.ok (kC b d)/\kC b d<10^(c+d.length):=by
 intro d;induction d with
 |nil=>intro b c _ _ h;exact⟨rfl,h⟩
 |cons s q j=>
  intro b c f i x;rw[List.all_cons,Yw]at f;obtain⟨n,l⟩:=yM f.1;rw[Yv]at i;have v:10^c<=10^18:=YE dc om;have p:b*10+(s.toNat-48)<10^(c+1):=by rw[Nat.pow_succ];omega
  have t:10^(c+1)<=10^19:=YE dc om;obtain⟨g,o⟩:=j (b*10+(s.toNat-48)) (c+1) f.2 om p;refine⟨?_,?_⟩
  ·rw[Lib.parseUintM,if_pos ⟨n,l⟩,if_neg om,if_neg om];exact g
  ·rw[Yv,show c+(q.length+1)=c+1+q.length from by omega];exact o
theorem Bu{l:List UInt8}(c:l.all isDigit=true)(d:l.length<=19)(b:l≠[]):Lib.parseUintB 64 l=.ok (kC 0 l)/\kC 0 l<10^19:=by
 obtain⟨g,f⟩:=Kj l 0 0 c om dc;rw[Lib.parseUintB,if_neg b];refine⟨g,Nat.lt_of_lt_of_le f (YE dc om)⟩
def HX(t:Tok):Prop:=t.kind=3->t.text.all isDigit=true/\t.text.length<=19/\t.text≠[]
theorem PO{l t:List UInt8}{d n:Nat}(h:fG l=.ok d t n):d=3->t.all isDigit=true/\t.length<=19/\t≠[]:=by
 cases l with
 |nil=>cases h
 |cons i g=>
  rw[fG]at h;split at h
  ·unfold fF at h;split at h
   ·cases h;omega
   ·split at h
    ·cases h;omega
    ·split at h
     ·cases h;omega
     ·cases h
  ·split at h
   ·rename_i c;have b:=uk isDigit (i::g);unfold hD at h;split at h
    ·cases h
    ·rename_i j;cases h;refine fun _=>⟨b,om,fun f=>?_⟩;rw[mJ,if_pos c]at f;simp at f
   ·split at h
    ·split at h
     ·cases h;omega
     ·cases h
    ·split at h
     ·cases h
     ·cases h;omega
theorem Nh(s:List UInt8):∀(f b:Nat) (g:List Tok),h6 s f b=.ok g->∀j∈g,HX j:=by
 intro f;induction f with
 |zero=>intro b g h;cases h;simp
 |succ f i=>
  intro b g h;rw[h6]at h;split at h
  ·cases h;intro j ht;simp at ht;subst ht;exact fun h=>by simp at h
  ·cases ht:fG (s.drop b)with
   |err v=>rw[ht]at h;cases h
   |ok p j n=>
    rw[ht]at h;dsimp only at h;cases d:h6 s f (b+n+dw false (s.drop (b+n)))with
    |err t q=>rw[d]at h;cases h
    |ok o=>
     rw[d]at h;cases h;intro l c;rcases YA.1 c with rfl|c
     ·exact PO ht
     ·exact i _ _ d l c
theorem Dn{s:List UInt8}{R:Rd}(h:kJ s=.ok R.ts):∀p,HX (R.tok p):=by
 intro p;by_cases b:p<R.ts.length
 ·unfold kJ at h;split at h
  ·cases h
  ·exact Nh s _ _ _ h _ (List.mem_of_getElem? (b8 b))
 ·rw[Rd.tok,List.getElem?_eq_none om];exact fun h=>by simp at h
theorem HY{R:Rd}(h:kJ a=.ok R.ts):R.Ng:=by
 intro p b;obtain⟨f,c,d⟩:=Dn h p b;exact⟨⟨_,(Bu f c d).1⟩,om⟩
section
variable{R R':Rd} (h:R.ts=R'.ts)
include h
theorem tz(p:Nat):dy R p=dy R' p:=by rw[dy,dy,hI h]
theorem yc(b:List cV)(p:Nat):dS R b p=dS R' b p:=by rw[dS,dS,hI h]
theorem zD(ex:Nat->PR Ex)(b:List UInt8)(p:Nat):ep ex R b p=ep ex R' b p:=by rw[ep,ep,kb h]
theorem PP{d:Type}{step b:d->Nat->PR d}(j:∀f p,step f p=b f p)(c:List UInt8):∀(g:Nat) (f:d) (p:Nat),eY step R c g f p=eY b R' c g f p:=by
 intro g;induction g with
 |zero=>intro f p;rfl
 |succ g i=>intro f p;simp only[eY,j,hI h,kb h,i]
theorem xq{d:Type}{step b:d->Nat->PR d}(g:∀f p,step f p=b f p)(c:List UInt8)(f:d)(p:Nat):dK step R c f p=dK b R' c f p:=by
 rw[dK,dK,hI h,PP h g,h]
theorem PQ(ex:Nat->PR Ex)(b:List cV)(p:Nat):fW ex R b p=fW ex R' b p:=by simp only[fW,yc h,zD h]
theorem PS(ex:Nat->PR Ex)(b:List cV)(p:Nat):fD ex R b p=fD ex R' b p:=by simp only[fD,yc h,zD h,tz h]
theorem PT(ty:Nat->PR Ty)(ex:Nat->PR Ex)(b:List cV)(p:Nat):ee ty ex R b p=ee ty ex R' b p:=by simp only[ee,yc h,kb h,hI h]
theorem Dp(ex:Nat->PR Ex)(c:List UInt8)(d:Nat)(b:List Ex)(p:Nat):hZ ex R c d b p=hZ ex R' c d b p:=by rw[hZ,hZ,xq h (PQ h ex)]
theorem Lm(b p:Nat):oc b R p=oc b R' p:=by simp only[oc,hI h]
theorem RI{fn c:Nat->PR Ex}(g:∀p,fn p=c p)(b:List (List UInt8)):∀(d:Nat) (f:Ex) (p:Nat),rQ fn b R d f p=rQ c b R' d f p:=by
 intro d;induction d with
 |zero=>intro f p;rfl
 |succ d i=>intro f p;simp only[rQ,hI h,g,i]
theorem zE{fn b:Nat->PR Ex}(d:∀p,fn p=b p)(c:List (List UInt8))(p:Nat):l7 fn c R p=l7 b c R' p:=by
 simp only[l7,d,RI h d,h]
theorem Ni(ty:Nat->PR Ty)(b:List UInt8)(p:Nat):hF ty R b p=hF ty R' b p:=by simp only[hF,hI h,tz h,HW h]
theorem PU(ty:Nat->PR Ty)(ex:Nat->PR Ex)(p:Nat):fb ty ex R p=fb ty ex R' p:=by
 have c:∀b d p,dK (iT ex) R b d p=dK (iT ex) R' b d p:=xq h fun _ _=>rfl;simp only[fb,hI h,Lm h,Ni h,Dp h,tz h,zD h,kb h,c]
theorem PV(ex:Nat->PR Ex):∀(b:Nat) (c:Ex) (p:Nat),jL ex R b c p=jL ex R' b c p:=by
 intro b;induction b with
 |zero=>intro c p;rfl
 |succ b d=>intro c p;simp only[jL,hI h,tz h,Dp h,d]
theorem PW(ty:Nat->PR Ty)(ex:Nat->PR Ex)(p:Nat):gm ty ex R p=gm ty ex R' p:=by simp only[gm,PU h,PV h,h]
theorem RJ(ty:Nat->PR Ty)(ex:Nat->PR Ex):∀(b p:Nat),nI ty ex R b p=nI ty ex R' b p:=by
 intro b;induction b with
 |zero=>intro p;rfl
 |succ b c=>intro p;simp only[nI,hI h,Lm h,PW h,c]
theorem RL(ty:Nat->PR Ty)(ex:Nat->PR Ex)(p:Nat):kL ty ex R p=kL ty ex R' p:=by
 have b:R.ts.length=R'.ts.length:=by rw[h]
 refine zE h (fun p=>?_) _ p;refine zE h (fun p=>?_) _ p;rw[b];exact RJ h ty ex _ p
theorem RM(ty:Nat->PR Ty)(ex:Nat->PR Ex):∀(b p:Nat),l8 ty ex R b p=l8 ty ex R' b p:=by
 intro b;induction b with
 |zero=>intro p;rfl
 |succ b c=>intro p;simp only[l8,hI h,RL h,c]
theorem TZ(ty:Nat->PR Ty)(ex:Nat->PR Ex)(p:Nat):MI ty ex R p=MI ty ex R' p:=by
 have b:R.ts.length=R'.ts.length:=by rw[h]
 refine zE h (fun p=>?_) _ p;refine zE h (fun p=>?_) _ p;rw[b];exact RM h ty ex _ p
theorem PX:∀(b:Nat),zy R b=zy R' b:=by
 intro b;induction b with
 |zero=>rfl
 |succ b c=>
  funext p;have ht:dG R R.ts.length=dG R' R'.ts.length:=by rw[h];exact RH h _
  rw[zy,zy,c,ht];simp only[yE,hI h,sn,l9,j7,j8,funcF,tz h,zD h,yL h,kb h,xq h (PS h _),xq h (PT h _ _),TZ h]
end
def nV:Ex:=.mk 0 [] [] [] 0 [] [] []
theorem RN:hY nV [.int .i64 (Ym 0),.str [],.str [],.str [],.int .i64 0,.cC,.cC,.cC]:=.mk .nil .nil .nil
def mc(g:List UInt8):Ex×Nat×Nat:=match kJ g with
 |.err b d=>(nV,b,d)
 |.ok ts=>match zy ⟨0,0,ts⟩ ts.length 0 with
  |.bad b d=>(nV,b,d)
  |.ok c f=>if(Rd.tok ⟨0,0,ts⟩ f).kind≠0 then(nV,(Rd.tok ⟨0,0,ts⟩ f).off,3)else if rV c≠0 then(nV,0,rV c)else(c,0,0)
theorem PR.E.of{d b:Type}{g:PR d}{o i:Nat}(h:g=.bad o i)(f:g.E):(PR.bad o i:PR b).E:=fun _ _ c=>by
 cases c;exact f _ _ h
theorem um(R:Rd)(p:Nat):(dy R p).E:=by
 unfold dy;split
 ·exact .bad dc
 ·exact .ok
theorem Bv(R:Rd)(b:List cV)(p:Nat):(dS R b p).E:=by
 unfold dS;split
 ·exact .bad dc
 ·split
  ·exact .bad dc
  ·exact .ok
theorem qi{ex:Nat->PR Ex}(he:∀p,(ex p).E)(R:Rd)(b:List UInt8)(p:Nat):(ep ex R b p).E:=by
 unfold ep;split
 ·exact .of ‹_› (jn R _ _)
 ·exact he _
theorem RO{b:Type}{step:b->Nat->PR b}(h:∀d p,(step d p).E)(R:Rd)(c:List UInt8):∀(f:Nat) (d:b) (p:Nat),(eY step R c f d p).E:=by
 intro f;induction f with
 |zero=>intro d p;exact .bad dc
 |succ f g=>
  intro d p;rw[eY];split
  ·exact .of ‹_› (h _ _)
  ·split
   ·exact .ok
   ·split
    ·exact .of ‹_› (jn R _ _)
    ·exact g _ _
theorem zF{c:Type}{step:c->Nat->PR c}(f:∀d p,(step d p).E)(R:Rd)(b:List UInt8)(d:c)(p:Nat):(dK step R b d p).E:=by
 unfold dK;split
 ·exact .ok
 ·exact RO f R b _ _ _
section
variable{ty:Nat->PR Ty} {ex:Nat->PR Ex} (ht:∀p,(ty p).E) (he:∀p,(ex p).E) (R:Rd)
include he
theorem RP(b:List cV)(p:Nat):(fW ex R b p).E:=by
 unfold fW;split
 ·exact .of ‹_› (Bv R _ _)
 ·exact .map (qi he R _ _)
theorem RQ(b:List cV)(p:Nat):(fD ex R b p).E:=by
 unfold fD;split
 ·exact .of ‹_› (Bv R _ _)
 ·split
  ·exact .of ‹_› (um R _)
  ·exact .map (qi he R _ _)
theorem HZ(c:List UInt8)(d:Nat)(b:List Ex)(p:Nat):(hZ ex R c d b p).E:=.map (zF (RP he R) R _ _ _)
theorem T0(p:Nat):(sn ex R p).E:=by
 unfold sn;split
 ·exact .of ‹_› (um R _)
 ·split
  ·exact .of ‹_› (qi he R _ _)
  ·exact .map (qi he R _ _)
theorem T1(b:List (List UInt8)):∀(c:Nat) (d:Ex) (p:Nat),(rQ ex b R c d p).E:=by
 intro c;induction c with
 |zero=>intro d p;exact .bad dc
 |succ c f=>
  intro d p;rw[rQ];split
  ·exact .ok
  ·split
   ·exact .of ‹_› (he _)
   ·exact f _ _
theorem Fj(b:List (List UInt8))(p:Nat):(l7 ex b R p).E:=by
 unfold l7;split
 ·exact .of ‹_› (he _)
 ·exact T1 he R _ _ _ _
theorem RR:∀(c:Nat) (d:Ex) (p:Nat),(jL ex R c d p).E:=by
 intro c;induction c with
 |zero=>intro d p;exact .bad dc
 |succ c b=>
  intro d p;rw[jL];split
  ·split
   ·exact .of ‹_› (um R _)
   ·exact b _ _
  ·split
   ·split
    ·exact .of ‹_› (HZ he R _ _ _ _)
    ·exact b _ _
   ·exact .ok
omit he in
theorem PY(b p:Nat):(oc b R p).E:=by
 unfold oc;split
 ·exact .bad dc
 ·split
  ·split
   ·exact .bad dc
   ·exact .ok
  ·exact .bad dc
include ht
theorem RT(b:List cV)(p:Nat):(ee ty ex R b p).E:=by
 unfold ee;split
 ·exact .of ‹_› (Bv R _ _)
 ·split
  ·exact .of ‹_› (jn R _ _)
  ·split
   ·exact .of ‹_› (ht _)
   ·split
    ·exact .map (he _)
    ·exact .ok
omit he in
theorem PZ(c:List UInt8)(p:Nat):(hF ty R c p).E:=by
 have b:∀p,(if cD (R.tok p) [58,58]=true then(dy R (p+1)).map fun d=>(4,c,d)else .ok (3,[],c) p:PR (Nat×List UInt8×List UInt8)).E:=fun p=>by
  split
  ·exact .map (um R _)
  ·exact .ok
 unfold hF;split
 ·exact .of ‹_› (b _)
 ·split
  ·exact .map (Fh ht R _)
  ·exact .ok
theorem RU(p:Nat):(fb ty ex R p).E:=by
 have f:∀c b,(if cD (R.tok b) [58]=true then(ty (b+1)).map fun h=>Ex.mk 11 [] [] [] 0 [h] [] [c]else .ok c b).E:=fun c b=>by
  split
  ·exact .map (ht _)
  ·exact .ok
 have d:∀g p,(iT ex g p).E:=fun g p=>.map (he p);unfold fb;repeat' split
 all_goals first
  |exact PY R _ _
  |exact .ok
  |exact .bad dc
  |exact PZ ht R _ _
  |exact HZ he R _ _ _ _
  |exact .of ‹_› (um R _)
  |exact .of ‹_› (qi he R _ _)
  |exact .of ‹_› (ht _)
  |exact .of ‹_› (he _)
  |exact .of ‹_› (jn R _ _)
  |exact .of ‹_› (f _ _)
  |exact .map (jn R _ _)
  |exact .map (zF d R _ _ _)
theorem RV(p:Nat):(gm ty ex R p).E:=by
 unfold gm;split
 ·exact .of ‹_› (RU ht he R _)
 ·exact RR he R _ _ _
theorem T2:∀(b p:Nat),(nI ty ex R b p).E:=by
 intro b;induction b with
 |zero=>intro p;exact .bad dc
 |succ b c=>
  intro p;rw[nI];split
  ·exact .map (c _)
  ·split
   ·exact PY R _ _
   ·exact RV ht he R _
theorem P0(p:Nat):(kL ty ex R p).E:=Fj (Fj (T2 ht he R _) R _) R _ p
theorem T3:∀(b p:Nat),(l8 ty ex R b p).E:=by
 intro b;induction b with
 |zero=>intro p;exact .bad dc
 |succ b c=>
  intro p;rw[l8];split
  ·exact .map (c _)
  ·split
   ·exact .of ‹_› (P0 ht he R _)
   ·split
    ·exact .ok
    ·exact .map (P0 ht he R _)
theorem Vw(p:Nat):(MI ty ex R p).E:=Fj (Fj (T3 ht he R _) R _) R _ p
theorem RW(p:Nat):(l9 ty ex R p).E:=by
 unfold l9;split
 ·exact .of ‹_› (rX ht R _)
 ·split
  ·exact .of ‹_› (he _)
  ·split
   ·exact .of ‹_› (qi he R _ _)
   ·exact .map (qi he R _ _)
theorem P1(p:Nat):(j7 ty ex R p).E:=by
 unfold j7;split
 ·exact .of ‹_› (rX ht R _)
 ·split
  ·exact .of ‹_› (he _)
  ·split
   ·exact .of ‹_› (jn R _ _)
   ·exact .map (zF (RQ he R) R _ _ _)
theorem RX(p:Nat):(j8 ty ex R p).E:=by
 unfold j8;repeat' split
 all_goals first
  |exact .of ‹_› (rX ht R _)
  |exact .of ‹_› (um R _)
  |exact .of ‹_› (jn R _ _)
  |exact .of ‹_› (qi he R _ _)
  |exact .map (qi he R _ _)
theorem RY(p:Nat):(funcF ty ex R p).E:=by
 unfold funcF;split
 ·exact .of ‹_› (jn R _ _)
 ·split
  ·exact .of ‹_› (zF (RT ht he R) R _ _ _)
  ·exact .map (qi he R _ _)
end
theorem Vx(R:Rd):∀(c p:Nat),(zy R c p).E:=by
 intro c;induction c with
 |zero=>intro p;exact .bad dc
 |succ c b=>
  intro p;have ht:=TY R R.ts.length;rw[zy,yE];repeat' split
  ·exact T0 b R _
  ·exact RW ht b R _
  ·exact P1 ht b R _
  ·exact RX ht b R _
  ·exact RY ht b R _
  ·exact Vw ht b R _
def RS.ge(lo:Nat)(b:RS):Prop:=b.e=0->lo<=b.p/\b.off=0
theorem RS.ge.yd{lo p:Nat}(h:lo<=p):(cu p).ge lo:=fun _=>⟨h,rfl⟩
variable{I m:RS}
theorem RS.ge.err{lo:Nat}(h:m.e≠0):m.ge lo:=fun b=>absurd b h
theorem fX{lo:Nat}(h:m.ge lo)(he:m.e=0):m=cu m.p:=by
 obtain⟨p,c,d⟩:=m;obtain⟨_,b⟩:=h he;simp only at b he;subst b he;rfl
theorem RS.ge.mono{lo b:Nat}(h:m.ge lo)(c:b<=lo):m.ge b:=fun he=>⟨YG c (h he).1,(h he).2⟩
theorem RS.ge.fail{lo:Nat}{c:RS}(b d:Nat)(he:d≠0)(h:c.ge lo):(c.fail b d).ge lo:=by
 unfold RS.fail;split
 ·exact .err he
 ·exact h
theorem RS.ge.nU{R:Rd}{lo:Nat}{b:RS}(h:b.ge lo):(b.nU R).ge lo:=RS.ge.fail _ 3 dc h
theorem RS.ge.next{lo:Nat}{b:RS}(h:b.ge lo):b.next.ge lo:=fun he=>⟨Nat.le_succ_of_le (h he).1,(h he).2⟩
theorem RS.ge.expect{R:Rd}{lo:Nat}{b:RS}{c:List UInt8}(h:b.ge lo):(b.expect R c).ge lo:=by
 unfold RS.expect;split
 ·exact h.next
 ·exact h.nU
theorem RS.ge.word{R:Rd}{lo c:Nat}{b:RS}(h:b.ge lo):(b.word R c).ge lo:=by
 unfold RS.word;split
 ·exact h.next
 ·exact h.nU
theorem qY(c:RS)(b d:Nat):(c.fail b d).p=c.p:=by unfold RS.fail;split<;>rfl
theorem dL{R:Rd}(h:m.is R a=true):m.e=0/\cD (R.tok m.p) a=true:=by
 simp only[RS.is,Yw,decide_eq_true_eq]at h;exact h
theorem me{R:Rd}(h:m.isKind R e=true):m.e=0/\(R.tok m.p).kind=e:=by
 simp only[RS.isKind,Yw,decide_eq_true_eq]at h;exact h
theorem cM{R:Rd}(h:m.is R a=false)(he:m.e=0):cD (R.tok m.p) a=false:=by
 rw[RS.is,decide_eq_true he,Bool.true_and]at h;exact h
theorem gX{R:Rd}(h:m.isKind R e=false)(he:m.e=0):(R.tok m.p).kind≠e:=by
 rw[RS.isKind,decide_eq_true he,Bool.true_and]at h;exact of_decide_eq_false h
def eO{c:Type}(h:PR c)(d:RS)(j:c->Prop):Prop:=match h with
 |.ok i g=>d=cu g/\j i
 |.bad b f=>f≠0/\d.off=b/\d.e=f
theorem eO.ok{b:Type}{d:b}{c:Nat}{f:b->Prop}(h:f d):eO (.ok d c) (cu c) f:=⟨rfl,h⟩
theorem eO.bad{c:Type}{p b d:Nat}{f:c->Prop}(h:d≠0):eO (.bad b d:PR c) ⟨p,b,d⟩ f:=⟨h,rfl,rfl⟩
theorem eO.map{b c:Type}{f:PR b}{i:RS}{n:b->Prop}{j:c->Prop}{l:b->c}(h:eO f i n)(g:∀d,n d->j (l d)):eO (f.map l) i j:=by
 cases f with
 |ok d o=>exact⟨h.1,g d h.2⟩
 |bad q p=>exact h
theorem eO.imp{b:Type}{d:PR b}{i g:b->Prop}(h:eO d m i)(f:∀c,i c->g c):eO d m g:=by
 cases d with
 |ok c j=>exact⟨h.1,f c h.2⟩
 |bad n l=>exact h
def RS.stay(b c:RS):Prop:=b.e≠0->c=b
theorem RS.stay.expect{R:Rd}{b:RS}{c:List UInt8}:b.stay (b.expect R c):=fun h=>eA h c
theorem RS.stay.word{R:Rd}{b:RS}{c:Nat}:b.stay (b.word R c):=fun h=>lx h c
theorem RS.stay.trans{d:RS}(h:m.stay I)(c:I.stay d):m.stay d:=fun b=>by
 have:=h b;subst this;exact c b
def PR.bind{c b:Type}(g:PR c)(f:c->Nat->PR b):PR b:=match g with
 |.bad i j=>.bad i j
 |.ok h d=>f h d
theorem eO.bind{b c:Type}{p:PR b}{f:b->Nat->PR c}{l o:RS}{P:b->Prop}{t:c->Prop}(h:eO p l P)(s:l.stay o)(n:∀j i,l=cu i->P j->eO (f j i) o t):eO (p.bind f) o t:=by
 cases p with
 |ok j i=>exact n j i h.1 h.2
 |bad v x=>
  obtain⟨d,q,g⟩:=h;have:=s (by rw[g];exact d);subst this;exact⟨d,q,g⟩
theorem eO.name(R:Rd)(p:Nat):eO (dy R p) ((cu p).word R 1) (fun c=>(cu p).dm R 1=c):=by
 rw[dy];by_cases h:(R.tok p).kind=1
 ·rw[if_neg (fun b=>b h),ka h,RS.dm,fk,decide_eq_true h,if_pos rfl];exact .ok Z
 ·rw[if_pos h,mS h];exact .bad dc
theorem kc(R:Rd)(p:Nat)(s:List UInt8):eO (cv R [s] p) ((cu p).expect R s) (fun _=>True):=by
 rw[cv];cases h:cD (R.tok p) s with
 |true=>rw[if_pos rfl,dY h,cv];exact .ok trivial
 |false=>rw[if_neg dc,er h];exact .bad dc
def RZ(n:FuncId)(fn:Nat->PR Ty)(R:Rd)(lo:Nat):Prop:=∀b:RS,b.p<R.ts.length->b.ge lo->∀(d:VS) (h:cZ->VS->Prop),
  (∀(i j g l f:D) (c:RS),c.p<R.ts.length->c.ge lo->b.stay c->(b.e=0->eO (fn b.p) c (fun o=>hU o [i,j,g,l,f]))->h (.ret (.dN [.agg [.d i,.d j,.d g,.d l,.d f],c.v R])) d)->b3 C cn n [b.v R] d h
theorem uJ.g{ty:Nat->PR Ty}{R:Rd}{lo:Nat}(h:uJ ty R lo):RZ du ty R lo:=by
 intro q c j p x i;by_cases he:q.e=0
 ·have n:=fX j he;have g:=(j he).1;rw[n];refine h.call q.p g c p x (fun P O v d l=>?_) (fun o N v E L K C D d f t=>?_)
  ·obtain⟨E,L,K,C,D,rfl⟩:=l.eG;obtain⟨M,s⟩:=h.lt _ _ _ g c d;exact i _ _ _ _ _ (cu v) s (.yd om) (fun b=>absurd he b) (fun _=>by rw[d];exact .ok l)
  ·exact i _ _ _ _ _ ⟨v,o,N⟩ t (.err f) (fun b=>absurd he b) (fun _=>by rw[d];exact .bad f)
 ·refine h.err q he c p x (fun E L K C D=>?_);exact i _ _ _ _ _ q c j (fun _=>Z) (fun b=>absurd b he)
structure kW (g:FuncId) (A:V->List V) (fn:Nat->PR Ex) (R:Rd) (lo:Nat):Prop where
 call:∀x:RS,x.p<R.ts.length->x.ge lo->∀(σ:VS) (K:cZ->VS->Prop),
  (∀(c0 c1 c2 c3 c4 c5 c6 c7:D) (y:RS),y.p<R.ts.length->y.ge lo->x.stay y->(x.e=0->eO (fn x.p) y (fun t=>hY t [c0,c1,c2,c3,c4,c5,c6,c7]))->K (.ret (.dN [.agg [.d c0,.d c1,.d c2,.d c3,.d c4,.d c5,.d c6,.d c7],y.v R])) σ)->b3 C cn g (A (x.v R)) σ K
def one(b:V):List V:=[b]
def X7(fn:Nat->PR Ex)(R:Rd)(lo:Nat)(n:RS)(o:cZ):Prop:=∃(j l b d i g h f:D) (c:RS),c.p<R.ts.length/\c.ge lo/\n.stay c/\(n.e=0->eO (fn n.p) c (fun p=>hY p [j,l,b,d,i,g,h,f]))/\o=.ret (.dN [.agg [.d j,.d l,.d b,.d d,.d i,.d g,.d h,.d f],c.v R])
variable{B:FuncId} {z:V->List V}
theorem kW.of{fn:Nat->PR Ex}{R:Rd}{lo:Nat}(l:∀b:RS,gC 0 (z (b.v R))=true)(h:∀b:RS,b.p<R.ts.length->b.ge lo->b3 C cn B (z (b.v R)) [] fun d c=>c=[]/\cX d=true/\X7 fn R lo b d):kW B z fn R lo:=by
 refine⟨fun b n q K O g=>?_⟩;refine b3.closed (h b n q) (l b) (fun d o=>?_);obtain⟨N,t,v,D,M,E,L,s,x,j,f,p,i,rfl⟩:=o;exact g _ _ _ _ _ _ _ _ x j f p i
theorem kW.up{fn:Nat->PR Ex}{R:Rd}{lo c:Nat}(h:kW B z fn R lo)(g:∀p i q,lo<=p->p<R.ts.length->fn p=.ok i q->p<q/\q<R.ts.length)(n:lo<=c):kW B z fn R c:=by
 refine⟨fun i l f v x s=>h.call i l (f.mono n) v x (fun T K L O S P Q E M t C o j=>s _ _ _ _ _ _ _ _ M t ?_ o j)⟩;by_cases he:i.e=0
 ·have b:=j he;cases d:fn i.p with
  |ok X q=>
   rw[d]at b;obtain⟨rfl,_⟩:=b;obtain⟨N,D⟩:=g _ _ _ (YG n (f he).1) l d;have:=(f he).1;exact .yd om
  |bad U W=>
   rw[d]at b;exact .err (by rw[b.2.2];exact b.1)
 ·rw[o he];exact .err he
theorem Kk(ty:Nat->PR Ty)(R:Rd)(p:Nat):dl ty R p=(cv R [[91]] p).bind fun _ d=>(ty d).bind fun f c=>(cv R [[93]] c).bind fun _ b=>.ok f b:=by
 unfold dl PR.bind;repeat' split
 all_goals simp_all
theorem Vy{R:Rd}(E:R.Wf){ty:Nat->PR Ty}{lo:Nat}(ht:RZ du ty R lo):RZ iz (dl ty R) R lo:=by
 intro i o v W Y L;refine b3.closed (P:=fun T=>∃(l s p g j:D) (d:RS),d.p<R.ts.length/\d.ge lo/\i.stay d/\(i.e=0->eO (dl ty R i.p) d (fun U=>hU U [l,s,p,g,j]))/\T=.ret (.dN [.agg [.d l,.d s,.d p,.d g,.d j],d.v R])) ?_ Z (fun T O=>by
  obtain⟨l,s,p,g,j,d,f,K,Q,N,rfl⟩:=O;exact L _ _ _ _ _ d f K Q N)
 refine cB ?_;refine cG R E i [91] o ?_;have f:=cY E (s:=[91]) o;refine ht _ f v.expect _ _ (fun l s p g j d q n c b=>?_);repeat refine b1 ?_
 refine cG R E d [93] q ?_;repeat refine b1 ?_
 refine a6 0 ⟨Z,Z,l,s,p,g,j,_,cY E q,n.expect,(RS.stay.expect.trans c).trans .expect,fun he=>?_,Z⟩;rw[Kk];have h:=fX v he;rw[h]at c b;refine eO.bind (kc R i.p [91]) (c.trans .expect) (fun X a M _=>?_);rw[M]at b;refine eO.bind (b Z) .expect (fun U S x t=>?_);rw[x];refine eO.bind (kc R S [93]) (fun _=>Z) (fun X V C _=>?_);rw[C];exact .ok t
def AG(ty:Nat->PR Ty)(R:Rd)(lo:Nat):Prop:=∀b:RS,b.p<R.ts.length->b.ge lo->∀(d:VS) (g:cZ->VS->Prop),
  (∀(f:D) (c:RS),c.p<R.ts.length->c.ge lo->b.stay c->(∃i,fK i f)->(b.e=0->eO (fA ty R b.p) c (fun h=>fK h f))->(b.e≠0->f=.cC)->g (.ret (.dN [.d f,c.v R])) d)->b3 C cn gZ [b.v R] d g
theorem R0{R:Rd}(x:R.Wf){ty:Nat->PR Ty}{lo:Nat}(h:uJ ty R lo):AG ty R lo:=by
 intro q d j K N i;by_cases he:q.e=0
 ·have l:=fX j he;have p:=(j he).1;rw[l];refine yI R x ty q.p d (h.up p) (fun O D o f c=>?_) (fun n M o D f g c t=>?_)
  ·obtain⟨E,s⟩:=wY x (fun v L o C=>h.lt v L o om) d f;exact i _ (cu o) s (.yd om) (fun b=>absurd he b) ⟨_,c⟩ (fun _=>by rw[f];exact .ok c) (fun b=>absurd he b)
  ·exact i _ ⟨o,n,M⟩ t (.err g) (fun b=>absurd he b) c (fun _=>by rw[f];exact .bad g) (fun b=>absurd he b)
 ·exact qX R q he d (i _ q d j (fun _=>Z) ⟨_,.nil⟩ (fun b=>absurd b he) (fun _=>Z))
theorem T4{l:List (List UInt8)}{n:Nat}(d:n=l.length):cR 0 (.ret (.ms 0 1 0 n n)) [.row 1 (mT l)] fun f c=>c=[]/\cX f=true/\∃b,f=.ret (.d (.ps b 0 1 n (et l))):=by
 refine cR.freeze 0 (es:=1) (l:=et l) Z (ed _) (fun _=>⟨Z,by simp[et,d]⟩) (fun b=>?_);have g:sU 0 b (et l) (.ret (.ms 0 1 0 n n))=.ret (.d (.ps b (0*1) 1 n (et l))):=by
  show cZ.ret (iW 0 b _ (.ms 0 1 0 n n))=_;rw[iW,gE];show cZ.ret (.d (.ps b (0*1) 1 n (((et l).drop 0).take n)))=_;rw[gD _ _ (by simp[et,d])]
 rw[g];exact cR.drop 0 Z (qV 0 _) Z (cR.now Z ⟨Z,Z,b,Z⟩)
theorem H0(c:List iB)(g:List (List D))(n:l2 c g)(O:c.length<4294967296)(b i:Nat){σ:VS}{K:cZ->VS->Prop}(s:∀b,K (.ret (.d (.ps b 0 1 c.length (et (c.map iB.n))))) σ):
  b3 C cn gr [.d (.ps b 0 8 i g)] σ K:=by
 refine b3.closed (P:=fun v=>∃b,v=.ret (.d (.ps b 0 1 c.length (et (c.map iB.n))))) ?_ rfl (fun v h=>by obtain⟨b,rfl⟩:=h;exact s b);refine cy PB (fun _=>Z) ?_;have j:=n.len;refine cw (eh:=[(0,.d (.ps b 0 8 i g)),(3,.ms 0 1 0 0 0),(4,b6 0)]) (fN:=[.row 1 (mT ((c.take 0).map iB.n))]) (.same ⟨Z,Z,Z,tv⟩ Z) ?_;refine b5.iter (fun d:Nat=>[(0,.d (.ps b 0 8 i g)),(3,.ms 0 1 0 d d),(4,b6 d)]) (fun d=>[.row 1 (mT ((c.take d).map iB.n))]) (fun d=>c.length-d) (fun d=>d<=c.length) ?_ 0 (Yt _);intro d R;apply aZ<;>intro p
 ·have f:d<c.length:=j▸fq p;obtain⟨T,t,o⟩:=n.get f;obtain⟨M,S,tn,N,Q,rfl⟩:=o.eG;have q:=Yz f;have ht:(c.take (d+1)).map iB.n=(c.take d).map iB.n++[c[d].n]:=by rw[List.take_add_one,q,YI];rfl
  have l:d=((c.take d).map iB.n).length:=by simp;omega
  refine bZ Z ?_;refine b7 _ (by rw[cz];exact t) ?_;intro L;refine a7 Z (a7 ⟨Z,Z,by simp[mT,et];omega,Yu _,PA (Yu d) om⟩ ?_);refine a1 Z (a1 (dZ d) ?_);refine⟨d+1,f,by show c.length-(d+1)<c.length-d;omega,?_,rfl,rfl⟩;refine .pick 0 [1] ⟨Z,Z,int_eq (cq om),tv⟩ Z Z Z Z Z dc ⟨?_,SI _ _,tv⟩;rw[ht];exact Ll _ _ _ l
 ·have f:c.length<=d:=j▸dM p;obtain rfl:d=c.length:=om;rw[Yr (Yu _)];exact T4 sm
def Kl(c:Nat)(b:Bool):V:=if 9223372036854775808<c then .dN [b6 0,b0 false]else if b then .dN [.d (.int .i64 (-Ym c)),b0 true]else .dN [.d (.int .i64 (IntKind.i64.wrap (Ym c))),b0 (!decide (c=9223372036854775808))]
theorem R1(l:List UInt8):∀b,b<=kC b l:=by
 induction l with
 |nil=>intro b;exact Yu _
 |cons d f c=>intro b;exact YG om (c (b*10+zc d))
theorem H2(d b:List UInt8)(c:Nat):kC c (d++b)=kC (kC c d) b:=by rw[kC,List.foldl_append];rfl
theorem Nj{l:List UInt8}(h:e<l.length):kC 0 (l.take (e+1))=kC 0 (l.take e)*10+zc l[e]:=by
 rw[List.take_add_one,Yz h,H2];rfl
theorem Fk(l:List UInt8)(b:Nat):kC 0 (l.take b)<=kC 0 l:=by
 have h:=H2 (l.take b) (l.drop b) 0;rw[List.take_append_drop]at h;rw[h];exact R1 _ _
theorem P2{d:Nat}(b:d<=9):Int.tdiv (-9223372036854775808+Ym d) 10= -Ym ((9223372036854775808-d)/10):=by
 have:d=0∨d=1∨d=2∨d=3∨d=4∨d=5∨d=6∨d=7∨d=8∨d=9:=om;rcases this with rfl|rfl|rfl|rfl|rfl|rfl|rfl|rfl|rfl|rfl<;>rfl
theorem T5{n:Int}(c:0<=n)(b:n<256):IntKind.u8.wrap n=n:=by
 unfold IntKind.wrap;simp only[IntKind.signed,IntKind.bits];first
  |(show(if _ then _ else _)=_;split<;>omega)
  |(simp;omega)
theorem R2(h:e<=9223372036854775808):IntKind.i64.wrap (IntKind.u64.wrap (0-Ym e))= -Ym e:=by
 unfold IntKind.wrap;simp only[IntKind.signed,IntKind.bits,Yl];by_cases b:e=0
 ·subst b;rfl
 ·first
   |(simp only[Bool.false_eq_true,if_false,if_true];split<;>omega)
   |(simp;omega)
theorem Km(l:List UInt8)(d:Bool)(K:l.all isDigit=true)(Q:l.length<=19):b3 C cn mn [cE l,b0 d] [] fun P q=>q=[]/\P=.ret (Kl (kC 0 l) d):=by
 refine cB ?_;refine b5.less (eh:=[(0,cE l),(1,b0 d),(6,.d (.int .i64 (-Ym (kC 0 (l.take 0))))),(7,b6 0)]) ⟨Z,Z,Z,Z,tv⟩ ?_;refine b5.iter (fun c:Nat=>[(0,cE l),(1,b0 d),(6,.d (.int .i64 (-Ym (kC 0 (l.take c))))),(7,b6 c)]) (fun _=>[]) (fun c=>l.length-c) (fun c=>c<=l.length/\kC 0 (l.take c)<=9223372036854775808) ?_ 0 ⟨Yt _,by rw[List.take_zero];exact Yt _⟩;rintro c ⟨R,x⟩;apply aZ<;>intro E
 ·have b:c<l.length:=fq E;have o:=Yz b;have s:isDigit l[c]=true:=List.all_eq_true.1 K _ (List.getElem_mem b);obtain⟨N,L⟩:=yM s;have g:=Nj b;have O:=Fk l (c+1);generalize l[c]=f at o N L g;have p:zc f=f.toNat-48:=rfl;refine bZ Z (b7 f (by rw[cz];exact o) ?_);refine a7 dc ?_;have j:IntKind.u8.wrap (Ym f.toNat-48)=Ym (zc f):=by
   rw[p,T5 (by simp only[Yl];omega) (by simp only[Yl];omega)];simp only[Yl];omega
  have i:IntKind.i64.wrap (Ym (zc f))=Ym (zc f):=wrap64 (by simp only[Yl];omega) (by simp only[Yl];omega);have t:IntKind.i64.wrap (-9223372036854775808+Ym (zc f))= -9223372036854775808+Ym (zc f):=wrap64 (by simp only[Yl];omega) (by simp only[Yl];omega);have v:=P2 (d:=zc f) om;have n:IntKind.i64.wrap (-Ym ((9223372036854775808-zc f)/10))= -Ym ((9223372036854775808-zc f)/10):=wrap64 (by simp only[Yl];omega) (by simp only[Yl];omega);apply aZ<;>intro h
  ·rw[j,i,t,v,n]at h;have h:=of_decide_eq_true h;simp only[Yl]at h;exact a6 0 ⟨Z,by rw[Kl,if_pos om];rfl⟩
  ·rw[j,i,t,v,n]at h;have h:=of_decide_eq_false h;simp only[Yl]at h;refine⟨c+1,⟨b,om⟩,by show l.length-(c+1)<l.length-c;omega,.same ⟨rfl,rfl,int_eq ?_,int_eq (cq om),tv⟩ rfl,rfl,rfl⟩;have M:IntKind.i64.wrap (10* -Ym (kC 0 (l.take c)))=10* -Ym (kC 0 (l.take c)):=wrap64 (by simp only[Yl];omega) (by simp only[Yl];omega);show IntKind.i64.wrap (IntKind.i64.wrap (10* -Ym (kC 0 (l.take c)))-IntKind.i64.wrap (IntKind.u8.wrap (Ym f.toNat-48)))=_;rw[j,i,M,wrap64 (by simp only[Yl];omega) (by simp only[Yl];omega),g];simp only[Yl];omega
 ·have b:l.length<=c:=dM E;rw[Yr b]at x⊢;have D:¬9223372036854775808<kC 0 l:=om;rw[Kl,if_neg D];cases d with
  |true=>exact a6 0 ⟨rfl,rfl⟩
  |false=>
   refine a6 0 ⟨Z,?_⟩;rw[if_neg dc];show cZ.ret (.dN [.d (.int .i64 (IntKind.i64.wrap (0- -Ym (kC 0 l)))),b0 (!decide (-Ym (kC 0 l)= -9223372036854775808))])=.ret (.dN [.d (.int .i64 (IntKind.i64.wrap (Ym (kC 0 l)))),b0 (!decide (kC 0 l=9223372036854775808))]);rw[Int.sub_neg,Int.zero_add,show decide (-Ym (kC 0 l)= -9223372036854775808)=decide (kC 0 l=9223372036854775808)from decide_eq_decide.2 (by simp only[Yl];omega)]
theorem Dq(l:List UInt8)(b:Bool)(c:l.all isDigit=true)(f:l.length<=19){σ:VS}{K:cZ->VS->Prop}(d:K (.ret (Kl (kC 0 l) b)) σ):b3 C cn mn [cE l,b0 b] σ K:=by
 refine cN (Km l b c f) Z ?_ d;unfold Kl;split
 ·rfl
 ·split<;>rfl
def qj(b:Bool):Nat:=if b then 9223372036854775808 else 9223372036854775807
theorem P3{R:Rd}(P:R.Wf)(v:∀p,HX (R.tok p))(c:Bool)(lo:Nat):kW rs (fun Q=>[Q,b0 c]) (oc (qj c) R) R lo:=by
 refine kW.of (fun b=>Z) (fun b x o=>?_);refine cB ?_;refine dT R P b 3 x ?_;have f:=fv P (k:=3) dc x;by_cases i:b.isKind R 3=true
 ·obtain⟨he,n⟩:=me i;obtain⟨d1,d2,d3⟩:=v b.p n;obtain⟨K,E⟩:=Bu d1 d2 d3;have j:=fX o he;have s:b.word R 3=cu (b.p+1):=by rw[j];exact ka n
  have l:b.dm R 3=(R.tok b.p).text:=by rw[RS.dm,if_pos i]
  have d:∀N,b.stay N:=fun N h=>absurd he h;rw[s]at f;have M:=(o he).1;rw[s,l];refine Dq _ c d1 d2 ?_;rw[Kl];have g:oc (qj c) R b.p=if qj c<kC 0 (R.tok b.p).text then .bad (R.tok b.p).off 2 else .ok (.mk 0 [] [] [] (if qj c=9223372036854775808 then IntKind.i64.wrap (IntKind.u64.wrap (0-Ym (kC 0 (R.tok b.p).text)))else IntKind.i64.wrap (Ym (kC 0 (R.tok b.p).text))) [] [] []) (b.p+1):=by
   rw[oc,if_neg (fun h=>h n),K]
  generalize kC 0 (R.tok b.p).text=O at g E;by_cases t:9223372036854775808<O
  ·rw[if_pos t];refine jm R (cu (b.p+1)) (R.tok b.p).off 2 ?_;repeat refine b1 ?_
   refine a6 0 ⟨Z,Z,_,_,_,_,_,_,_,_,⟨b.p+1,(R.tok b.p).off,2⟩,f,.err (YB _),d _,fun _=>?_,Z⟩;rw[g,if_pos (by unfold qj;split<;>omega)];exact .bad dc
  ·rw[if_neg t];cases c with
   |true=>
    repeat refine b1 ?_
    refine a6 0 ⟨Z,Z,_,_,_,_,_,_,_,_,cu (b.p+1),f,.yd om,d _,fun _=>?_,Z⟩;rw[g,if_neg (by unfold qj;rw[if_pos rfl];omega),show qj true=9223372036854775808 from rfl,if_pos rfl];refine .ok ?_;rw[R2 om];exact .mk .nil .nil .nil
   |false=>
    by_cases q:O=9223372036854775808
    ·rw[if_neg dc,decide_eq_true q];refine jm R (cu (b.p+1)) (R.tok b.p).off 2 ?_;repeat refine b1 ?_
     refine a6 0 ⟨Z,Z,_,_,_,_,_,_,_,_,⟨b.p+1,(R.tok b.p).off,2⟩,f,.err (YB _),d _,fun _=>?_,Z⟩;rw[g,if_pos (by unfold qj;rw[if_neg dc];omega)];exact .bad dc
    ·rw[if_neg dc,decide_eq_false q];repeat refine b1 ?_
     refine a6 0 ⟨Z,Z,_,_,_,_,_,_,_,_,cu (b.p+1),f,.yd om,d _,fun _=>?_,Z⟩;rw[g,if_neg (by unfold qj;rw[if_neg dc];omega),show qj false=9223372036854775807 from rfl,if_neg dc];exact .ok (.mk .nil .nil .nil)
 ·have i:b.isKind R 3=false:=by simpa using i
  have l:b.dm R 3=[]:=by rw[RS.dm,i,if_neg dc]
  have s:b.word R 3=b.nU R:=by rw[RS.word,i,if_neg dc]
  rw[l];refine Dq [] c Z dc ?_;have D:∀L:Bool,Kl (kC 0 []) L=.dN [.d (.int .i64 0),b0 true]:=fun L=>by cases L<;>rfl
  rw[D];repeat refine b1 ?_
  refine a6 0 ⟨Z,Z,_,_,_,_,_,_,_,_,b.word R 3,f,o.word,.word,fun he=>?_,Z⟩;have j:=fX o he;have C:=gX i he;rw[oc,if_pos C,j,mS C];exact .bad dc
theorem zG{p c:Prop}(b:c)(h:p:=by repeat' (first|exact tv|exact rfl|exact Nat.zero_le _|exact Nat.le_refl _|exact Qm|exact Xe|exact Xf|exact Xg|exact Nat.le_of_ble_eq_true rfl|refine UM ?_ (Nat.le_of_ble_eq_true rfl)|refine UN ?_|exact vI|refine bZ rfl ?_|refine a7 ?_ ?_|refine And.intro ?_ ?_)):jI p c:=⟨h,b⟩
theorem CE:b3 C cn gr [.ms 0 8 0 0 0] [.row 8 []] fun d b=>b=[.row 8 []]/\∃c,d=.ret (.d (.ps c 0 1 0 (et []))):=by
 refine cy PB (fun _=>Z) ?_;refine b5.loop ?_;refine cR.freeze 1 (es:=1) (l:=[]) Z Z (fun _=>⟨Z,Yu _⟩) (fun c=>?_);exact cR.drop 1 Z Z Z (cR.now Z ⟨Z,c,Z⟩)
theorem oe(j:Nat){σ:VS}{K:cZ->VS->Prop}(c:nth σ j=some (.row 8 []))(g:∀d,K (.ret (.d (.ps d 0 1 0 (et [])))) σ):b3 C cn gr [.ms j 8 0 0 0] σ K:=by
 refine rD (eN:=[.ms 0 8 0 0 0]) (P:=fun i b=>b=[]/\∃d,i=.ret (.d (.ps d 0 1 0 (et [])))) (CE.mono fun i l h=>?_) j c (fun n h=>by cases h) rfl rfl (fun i b h=>?_)
 ·obtain⟨rfl,d,rfl⟩:=h;exact⟨[],Z,Z,(fun n h=>by cases h),rfl,d,rfl⟩
 ·obtain⟨rfl,d,rfl⟩:=h;rw[tg c];exact g d
theorem rY(c:List iB)(f:List (List D))(d:List (List UInt8))(l:c.map iB.n=d)(j:l2 c f)(i:c.length<4294967296)(b g:Nat){σ:VS}{K:cZ->VS->Prop}(h:∀b,K (.ret (.d (.ps b 0 1 c.length (et d)))) σ):b3 C cn gr [.d (.ps b 0 8 g f)] σ K:=by
 subst l;exact H0 c f j i b g h
theorem mV{R:Rd}{acc:List cV}{q:Nat}{b:Bool}(d:b=decide ((cu q).dm R 1∈acc.map cV.n)):eO (dS R acc q) (if b then((cu q).word R 1).fail (R.tok q).off 5 else(cu q).word R 1) (fun s=>(cu q).dm R 1=s):=by
 rw[dS];by_cases h:(R.tok q).kind=1
 ·have f:(cu q).dm R 1=(R.tok q).text:=by rw[RS.dm,fk,decide_eq_true h,if_pos rfl];rfl
  rw[if_neg (fun g=>g h),ka h];rw[f]at d⊢;by_cases c:(R.tok q).text∈acc.map cV.n
  ·rw[d,decide_eq_true c,if_pos rfl,if_pos c,RS.fail,if_pos (show(cu (q+1)).e=0 from rfl)];exact .bad dc
  ·rw[d,decide_eq_false c,if_neg c,if_neg (fun h=>by cases h)];exact .ok Z
 ·rw[if_pos h,mS h];have:(if b=true then(⟨q,(R.tok q).off,3⟩:RS).fail (R.tok q).off 5 else⟨q,(R.tok q).off,3⟩)=⟨q,(R.tok q).off,3⟩:=by
   split
   ·exact p4 (YB _) _ _
   ·rfl
  rw[this];exact .bad dc
theorem T6(ex:Nat->PR Ex)(R:Rd)(s:List UInt8)(p:Nat):ep ex R s p=(cv R [s] p).bind fun _ b=>ex b:=by
 unfold ep PR.bind;cases cv R [s] p<;>rfl
theorem Ln(ex:Nat->PR Ex)(R:Rd)(b:List cV)(p:Nat):fW ex R b p=(dS R b p).bind fun s c=>(ep ex R [58] c).map fun d=>b++[⟨s,[],eM,false,[d]⟩]:=by
 unfold fW PR.bind;cases dS R b p<;>rfl
theorem Lo(ex:Nat->PR Ex)(R:Rd)(b:List cV)(p:Nat):fD ex R b p=(dS R b p).bind fun s c=>(dy R c).bind fun g d=>(ep ex R [61,62] d).map fun f=>b++[⟨s,g,eM,false,[f]⟩]:=by
 unfold fD PR.bind;cases dS R b p with
 |bad h i=>rfl
 |ok s c=>dsimp only;cases dy R c<;>rfl
theorem eO.val{R:Rd}{ex:Nat->PR Ex}{lo f:Nat}{i:Ex->Prop}(g:m=cu f)(h:m.ge lo)(b:(m.expect R a).stay I)(c:(m.expect R a).e=0->eO (ex (m.expect R a).p) I i):eO (ep ex R a f) I i:=by
 subst g;rw[T6];refine eO.bind (kc R f a) b (fun l j d _=>?_);rw[d]at c;exact c Z
theorem RS.stay.fail{c:RS}{b d:Nat}:c.stay (c.fail b d):=fun h=>p4 h _ _
def xr(b c:List UInt8):List D:=[.str b,.str c,.int .i64 (Ym 0),.str [],.str [],.cC,.cC,.bool false]
theorem T7(b d:List UInt8)(t:Ty)(o:Bool)(ht:t=eM)(c:o=false):∃f,xr b d=Cw ⟨b,d,t,o⟩ f/\hU (iB.ty ⟨b,d,t,o⟩) f:=by
 subst ht c;exact⟨_,Z,.mk .nil .nil⟩
variable{F:List D} {w:List (List D)}
theorem l2.ins{l:iB}(h:l2 r w)(b:hU l.ty F)(t:Nat):l2 (r.take t++l::r.drop t) (w.take t++Cw l F::w.drop t):=by
 induction r generalizing w t with
 |nil=>cases h;cases t<;>exact .cons b .nil
 |cons i g f=>
  cases h with
  |cons d c=>
   cases t with
   |zero=>exact .cons b (.cons d c)
   |succ t=>exact .cons d (f c t)
theorem hh.ins{l:Ex}(h:hh A w)(b:hY l F)(t:Nat):hh (A.take t++l::A.drop t) (w.take t++F::w.drop t):=by
 induction A generalizing w t with
 |nil=>cases h;cases t<;>exact .cons b .nil
 |cons i g f=>
  cases h with
  |cons d c=>
   cases t with
   |zero=>exact .cons b (.cons d c)
   |succ t=>exact .cons d (f c t)
def H3(l:List cV):Prop:=∀p∈l,p.val.length=1
theorem Dr{l:List cV}(h:H3 l)(t:Nat):(l.take t).flatMap cV.val=(l.flatMap cV.val).take t/\(l.drop t).flatMap cV.val=(l.flatMap cV.val).drop t:=by
 induction l generalizing t with
 |nil=>simp
 |cons j l d=>
  have f:=h j sm;obtain⟨n,i⟩:=List.length_eq_one_iff.1 f;cases t with
  |zero=>simp
  |succ t=>
   obtain⟨b,g⟩:=d (fun p c=>h p (by simp[c])) t;simp[YF,i,b,g]
theorem P4{l:List cV}(h:H3 l):(l.flatMap cV.val).length=l.length:=by
 induction l with
 |nil=>rfl
 |cons d l b=>rw[YF,Ys,h d sm,b fun p c=>h p (by simp[c]),Yv];omega
structure Iq (acc:List cV) (xs ks:List (List D)):Prop where
 pc:l2 ((ct cV.n acc).map cV.pc) xs
 Wd:hh ((ct cV.n acc).flatMap cV.val) ks
 one:H3 acc
 nd:(acc.map cV.n).Nodup
theorem Iq.len{b:List cV}{xs f:List (List D)}(h:Iq b xs f):xs.length=b.length/\f.length=b.length:=by
 have d:=h.pc.len;have c:=h.Wd.len;rw[YD,eK]at d;rw[P4 (fun p g=>h.one p ((dC b).mem_iff.1 g)),eK]at c;exact⟨d,c⟩
theorem Iq.ins{acc:List cV}{xs ks:List (List D)}{b v:List UInt8}{c:Ex}{o:List D}(h:Iq acc xs ks)(n:b ∉ acc.map cV.n)(g:hY c o):
  Iq (acc++[⟨b,v,eM,false,[c]⟩]) (xs.take (nb ((ct cV.n acc).map cV.n) b)++xr b v::xs.drop (nb ((ct cV.n acc).map cV.n) b)) (ks.take (nb ((ct cV.n acc).map cV.n) b)++o::ks.drop (nb ((ct cV.n acc).map cV.n) b)):=by
 have he:ct cV.n (acc++[⟨b,v,eM,false,[c]⟩])=(ct cV.n acc).take (nb ((ct cV.n acc).map cV.n) b)++⟨b,v,eM,false,[c]⟩::(ct cV.n acc).drop (nb ((ct cV.n acc).map cV.n) b):=by
  rw[tj,Fb]
 have d:H3 (ct cV.n acc):=fun p hp=>h.one p ((dC acc).mem_iff.1 hp);refine⟨?_,?_,fun p hp=>?_,?_⟩
 ·rw[he,YI,List.map_cons,List.map_take,List.map_drop];obtain⟨d0,i,l⟩:=T7 b v eM false rfl rfl;rw[i];exact h.pc.ins l _
 ·rw[he,List.flatMap_append,YF,(Dr d _).1,(Dr d _).2];exact h.Wd.ins g _
 ·rcases YH.1 hp with hp|hp
  ·exact h.one p hp
  ·obtain rfl:=Yo.1 hp;rfl
 ·rw[YI,List.nodup_append];refine⟨h.nd,by simp,?_⟩;intro t j s f q;simp only[List.map_cons,List.map_nil,Yo]at f;subst q;subst f;exact n j
variable{H y:List cV}
theorem Iq.mem{xs b:List (List D)}(h:Iq y xs b)(c:List UInt8):decide (((ct cV.n y).map cV.n)[nb ((ct cV.n y).map cV.n) c]?=some c)=decide (c∈y.map cV.n):=by
 rw[Fc (gF h.nd)];exact decide_eq_decide.2 (((dC y).map cV.n).mem_iff)
theorem H4{R:Rd}(i:R.Wf){ex:Nat->PR Ex}{lo:Nat}(he:iD R lo ex){p c:Nat}(n:lo<=p)(f:p<R.ts.length)(h:fW ex R y p=.ok H c):p<c/\c<R.ts.length:=by
 rw[fW]at h;cases b:dS R y p with
 |bad q t=>rw[b]at h;cases h
 |ok s l=>
  rw[b]at h;dsimp only at h;obtain⟨f1,f2⟩:=ox i f b;obtain⟨o,g,rfl⟩:=fj h;obtain⟨j,d⟩:=jy i he om f2 g;exact⟨om,d⟩
theorem H5{R:Rd}(n:R.Wf){ex:Nat->PR Ex}{lo:Nat}(he:iD R lo ex){p j:Nat}(q:lo<=p)(d:p<R.ts.length)(h:fD ex R y p=.ok H j):p<j/\j<R.ts.length:=by
 rw[fD]at h;cases c:dS R y p with
 |bad o x=>rw[c]at h;cases h
 |ok s g=>
  rw[c]at h;dsimp only at h;obtain⟨f1,f2⟩:=ox n d c;cases b:dy R g with
  |bad o x=>rw[b]at h;cases h
  |ok D C=>
   rw[b]at h;dsimp only at h;obtain⟨v,l⟩:=nx n f2 b;obtain⟨E,i,rfl⟩:=fj h;obtain⟨t,f⟩:=jy n he om l i;exact⟨om,f⟩
def H6(R:Rd)(b:RS):List V:=[.d (.ps R.b 0 3 R.cap (R.ts.map mK)),b6 b.p,b6 b.off,b6 b.e]
theorem uo(d:List (List V))(xs:List (List D))(c:List D)(t:Nat):Yp (0+(Yn (fun b=>Yn V.d b) (Yq 0 (Yp t xs))).length+(Yn (fun b=>Yn V.d b) [c]).length) (Yq 0 (Yp (0+(Yn (fun b=>Yn V.d b) (Yq 0 (Yp t xs))).length) (Yq 0 (Yp 0 (Yq 0 d)++Yn (fun b=>Yn V.d b) (Yq 0 (Yp t xs))))++Yn (fun b=>Yn V.d b) [c]))++Yn (fun b=>Yn V.d b) (Yq t (Yp xs.length xs))=(xs.take t++c::xs.drop t).map fun b=>b.map V.d:=by
 simp;rw[Yr sm,Yr sm,List.append_assoc];rfl
theorem uq(d:List (List V))(xs:List (List D))(c:List D)(t:Nat)(h:t=0):Yp (0+(Yn (fun b=>Yn V.d b) [c]).length) (Yq 0 (Yp 0 (Yq 0 d)++Yn (fun b=>Yn V.d b) [c]))++Yn (fun b=>Yn V.d b) (Yq t (Yp xs.length xs))=(xs.take t++c::xs.drop t).map fun b=>b.map V.d:=by
 subst h;simp
theorem ur(c:List (List V))(xs:List (List D))(d:List D)(t:Nat)(h:t=xs.length):Yp (0+(Yn (fun b=>Yn V.d b) (Yq 0 (Yp t xs))).length) (Yq 0 (Yp 0 (Yq 0 c)++Yn (fun b=>Yn V.d b) (Yq 0 (Yp t xs))))++Yn (fun b=>Yn V.d b) [d]=(xs.take t++d::xs.drop t).map fun b=>b.map V.d:=by
 subst h;simp;exact Yr sm
theorem h9{b c n:Nat}(h:b=n):some (V.ms c 8 0 b b)=some (V.ms c 8 0 n n):=by rw[h]
theorem jo{i b n:Nat}{l:List (List D)}(h:n=l.length):some (iW i b l (.ms i 8 0 n n))=some (V.d (.ps b 0 8 l.length l)):=by
 subst h;rw[iW,gE];show some (V.d (.ps b (0*8) 8 l.length ((l.drop 0).take l.length)))=_;rw[gD _ _ rfl,Nat.zero_mul]
theorem UM{n d:Nat}(c:n<=4294967296)(b:d<=256):n*d<=eE:=by
 have:=Nat.mul_le_mul c b;unfold eE;omega
theorem UN{n:Nat}(b:n<=4294967296):n<=eE:=by
 unfold eE;omega
def Vz:Nat->Bool:=fun b=>Nat.beq b 58||Nat.beq b 70||Nat.beq b 1000013||Nat.beq b 1000008
def SL:D->Nat
 |.ps _ _ _ _ b=>b.length
 |_=>0
def We(fn:Nat->PR (List cV))(R:Rd)(lo:Nat)(g:RS)(h:cZ):Prop:=∃(c b:D) (f:RS),f.p<R.ts.length/\f.ge lo/\g.stay f/\(∃d,eV d c)/\(∃d,fM d b)/\SL b<=R.ts.length/\(g.e=0->eO (fn g.p) f (fun d=>eV ((ct cV.n d).map cV.pc) c/\fM ((ct cV.n d).flatMap cV.val) b))/\h=.ret (.dN [.d c,.d b,f.v R])
def XE(b:List UInt8)(d f:Nat)(xs c:List (List D)):Tm:=[(1,cE b),(2,.bp 0 0),(6,.bp 1 0),(7,.d (.ps d 0 8 xs.length xs)),(8,.d (.ps f 0 8 c.length c))]
def P5(b:List UInt8)(d f:Nat)(xs c:List (List D)):Tm:=[(1,cE b),(2,.bp 0 0),(6,.bp 1 0),(7,.d (.ps d 0 8 xs.length xs)),(8,.d (.ps f 0 8 c.length c)),(11,.bp 2 0)]
def T8(b:List UInt8)(d f:Nat)(xs c:List (List D))(g:List UInt8)(t:Nat):Tm:=[(1,cE b),(2,.bp 0 0),(6,.bp 1 0),(7,.d (.ps d 0 8 xs.length xs)),(8,.d (.ps f 0 8 c.length c)),(9,cE g),(11,.bp 2 0),(12,b6 t)]
def mj(R:Rd)(c b:RS):VS:=[.box (H6 R c),.box tx,.box (H6 R b)]
def Uz(R:Rd)(b:RS):VS:=[.box (H6 R b),.box tx]
theorem us{R:Rd}{fn:Nat->PR (List cV)}{lo:Nat}{acc:List cV}{xs ks:List (List D)}{f j:Nat}(b:Iq acc xs ks)(d:ks.length<=R.ts.length)(h:I.p<R.ts.length)(l:I.ge lo)(c:m.stay I)(i:m.e=0->eO (fn m.p) I (fun n=>n=acc)):
  We fn R lo m (.ret (.dN [.d (.ps e 0 8 f xs),.d (.ps J 0 8 j ks),I.v R])):=
 ⟨_,_,I,h,l,c,⟨_,.ps b.pc⟩,⟨_,.ps b.Wd⟩,d,fun he=>(i he).imp fun n g=>by subst g;exact⟨.ps b.pc,.ps b.Wd⟩,rfl⟩
theorem P6{σ:VS}{i j n:Nat}{xs ks:List (List D)}{R:Rd}{x:RS}(f:i≠j)(M:nth σ i=some (.row 8 (xs.map fun p=>p.map V.d)))(O:nth σ j=some (.row 8 (ks.map fun p=>p.map V.d)))(v:n=xs.length)(C:n=ks.length){S:cZ->Prop} 
  (P:∀b c,S (.ret (.dN [.d (.ps b 0 8 n xs),.d (.ps c 0 8 n ks),x.v R]))):cR 0 (.ret (.dN [.ms i 8 0 n n,.ms j 8 0 n n,x.v R])) σ fun Q s=>s=[]/\cX Q=true/\S Q:=by
 have t:∀(i g:Nat) (d:List (List D)),iW i g d (x.v R)=x.v R:=fun i g d=>by simp[RS.v,iW,wx,b6]
 have l:∀(i g:Nat) (d:List (List D)),n=d.length->iW i g d (.ms i 8 0 n n)=.d (.ps g 0 8 n d):=fun i g d h=>by
  rw[iW,gE];show V.d (.ps g (0*8) 8 n ((d.drop 0).take n))=_;rw[gD _ _ h,Nat.zero_mul]
 have o:∀(i j g:Nat) (d:List (List D)),i≠j->iW i g d (.ms j 8 0 n n)=.ms j 8 0 n n:=fun i j g d h=>by
  rw[iW,n5 (fun E=>h E.symm)]
 refine cR.freeze i (es:=8) (l:=xs) M (ed xs) (by simp[xS,pi,pN,RS.v,b6,v,f]) (fun b=>?_);have N:sU i b xs (.ret (.dN [.ms i 8 0 n n,.ms j 8 0 n n,x.v R]))=.ret (.dN [.d (.ps b 0 8 n xs),.ms j 8 0 n n,x.v R]):=by
  show cZ.ret (.dN [iW i b xs (.ms i 8 0 n n),iW i b xs (.ms j 8 0 n n),iW i b xs (x.v R)])=_;rw[l i b xs v,o i j b xs f,t]
 rw[N];have q:nth (σ.set i .gone) j=some (.row 8 (ks.map fun p=>p.map V.d)):=by
  rw[cz,List.getElem?_set_ne f,<-cz,O]
 refine cR.freeze j (es:=8) (l:=ks) q (ed ks) (by simp[xS,pi,pN,RS.v,b6,C]) (fun c=>?_);have K:sU j c ks (.ret (.dN [.d (.ps b 0 8 n xs),.ms j 8 0 n n,x.v R]))=.ret (.dN [.d (.ps b 0 8 n xs),.d (.ps c 0 8 n ks),x.v R]):=by
  show cZ.ret (.dN [.d (.ps b 0 8 n xs),iW j c ks (.ms j 8 0 n n),iW j c ks (x.v R)])=_;rw[l j c ks C,t]
 rw[K];exact cR.drop 0 (Nat.ble_eq_true_of_le (Yt _)) (qV 0 _) Z (cR.now Z ⟨Z,Z,P b c⟩)
theorem H7{R:Rd}(H:R.Wf){ex:Nat->PR Ex}{lo:Nat}(he:kW dP one ex R lo)(aF:iD R lo ex)(b:List UInt8)(az:b≠[44])(q:RS)(aB:q.p<R.ts.length)(I:q.ge lo):
  b3 C cn s5 [q.v R,cE b] [] fun bo bb=>bb=[]/\cX bo=true/\We (dK (fW ex R) R b []) R lo q bo:=by
 have bf:=H.len;refine cy Vz (fun _=>Z) ?_;refine cJ R q b aB ?_;cases aH:q.is R b with
 |true=>
  obtain⟨t,M⟩:=dL aH;have ak:=fX I t;refine cP R q om ?_;refine P6 (i:=2) (j:=3) (n:=0) (xs:=[]) (ks:=[]) (x:=q.next) dc Z Z Z Z (fun g o=>?_);refine us (acc:=[]) (xs:=[]) (ks:=[]) ⟨.nil,.nil,by simp[H3],by simp⟩ (Yt _) (H.step aB M) I.next (fun h=>absurd t h) (fun _=>?_)
  rw[dK,if_pos M,ak];exact .ok Z
 |false=>
  refine b5.loop ?_;refine dT R H q 1 aB ?_;refine oe 2 Z (fun aK=>?_);refine hP [] _ aK 0 dc ?_;refine ft ?_;have B:=fv H (k:=1) dc aB;have ah:=cY H (s:=[58]) B;refine cG R H _ [58] B ?_;refine he.call _ ah (I.word.expect) _ _ (fun m X W Y k u a r an L w K U=>?_);have af:q.stay an:=(RS.stay.word.trans .expect).trans K;have l:q.e=0->eO (fW ex R [] q.p) an (fun N=>∃j,N=[⟨q.dm R 1,[],eM,false,[j]⟩]/\hY j [m,X,W,Y,k,u,a,r]):=fun t=>by
   have ak:=fX I t;rw[Ln];have J:=mV (R:=R) (acc:=[]) (q:=q.p) (b:=false) sm;rw[if_neg (fun h=>by cases h),<-ak]at J;refine eO.bind J (RS.stay.expect.trans K) (fun s i aA aL=>?_);refine eO.map (eO.val aA I.word K U) (fun j h=>⟨j,by rw[aL];rfl,h⟩)
  have ar:q.e=0->dK (fW ex R) R b [] q.p=eY (fW ex R) R b R.ts.length [] q.p:=fun t=>by rw[dK,if_neg (by rw[cM aH t];decide)]
  apply aZ<;>intro M
  ·repeat refine e4 ?_
   have ap:an.e≠0:=fun F=>by rw[F]at M;cases M
   repeat refine b1 ?_
   refine a6 0 ⟨Z,Z,.cC,.cC,an,L,w,af,⟨_,.nil⟩,⟨_,.nil⟩,Yt _,fun t=>?_,Z⟩;rw[ar t];obtain⟨ad,J⟩:∃ad,R.ts.length=ad+1:=⟨R.ts.length-1,om⟩;rw[J,eY];have e:=l t;cases x:fW ex R [] q.p with
   |bad be F=>rw[x]at e;exact e
   |ok N i=>rw[x]at e;exact absurd (by rw[e.1];rfl) ap
  ·repeat refine e4 ?_
   have Q:an.e=0:=iZ M;have t:q.e=0:=by
    by_cases h:q.e=0
    ·exact h
    ·rw[af h]at Q;exact absurd Q h
   have ak:=fX I t;obtain⟨j,d,y,rfl,ai⟩:∃j d,fW ex R [] q.p=.ok [⟨q.dm R 1,[],eM,false,[j]⟩] d/\an=cu d/\hY j [m,X,W,Y,k,u,a,r]:=by
    have e:=l t;cases x:fW ex R [] q.p with
    |bad be F=>rw[x]at e;exact absurd (e.2.2.symm.trans Q) e.1
    |ok N i=>rw[x]at e;obtain⟨au,j,rfl,aM⟩:=e;exact⟨j,i,rfl,au,aM⟩
   have P:Iq [⟨q.dm R 1,[],eM,false,[j]⟩] [xr (q.dm R 1) []] [[m,X,W,Y,k,u,a,r]]:=Iq.ins (acc:=[]) (xs:=[]) (ks:=[]) ⟨.nil,.nil,by simp[H3],by simp⟩ sm ai;obtain⟨f0,aW⟩:∃ad,R.ts.length=ad+1:=⟨R.ts.length-1,om⟩;have T:=ar t;rw[aW,eY,y]at T;dsimp only at T;repeat first
    |refine bZ rfl ?_
    |intro am
    |refine zG ?_
    |refine a8 rfl ?_
    |refine a1 rfl ?_
   refine b5.freeze 7 [(1,cE b),(2,.bp 0 0),(6,.bp 1 0),(7,.ms 7 8 0 1 1),(8,.ms 9 8 0 1 1),(11,.bp 4 0)] (l:=[xr (q.dm R 1) []]) Z Z ⟨Z,Z,Z,Z,Z,Z,tv⟩ ⟨tv,tv,tv,fun _=>⟨Z,Yu _⟩,(fun h=>by cases h),tv,tv⟩ (fun g=>?_);refine b5.freeze 9 [(1,cE b),(2,.bp 0 0),(6,.bp 1 0),(7,.d (.ps g 0 8 1 [xr (q.dm R 1) []])),(8,.ms 9 8 0 1 1),(11,.bp 4 0)] (l:=[[m,X,W,Y,k,u,a,r]]) Z Z ⟨Z,Z,Z,Z,Z,Z,tv⟩ ⟨tv,tv,tv,tv,fun _=>⟨Z,Yu _⟩,tv,tv⟩ (fun o=>?_);refine cw (eh:=P5 b g o [xr (q.dm R 1) []] [[m,X,W,Y,k,u,a,r]]) (fN:=mj R q (cu d)) (.pick 2 [0,1,4] ⟨Z,Z,Z,Z,Z,Z,tv⟩ Z Z Z Z Z dc ⟨Z,Z,Z,Z,Z,Z,tv⟩) ?_;refine ft ?_;refine cJ R (cu d) [44] L ?_;rw[eS];cases E:cD (R.tok d) [44]with
   |false=>
    refine cG R H (cu d) b L ?_;refine a6 0 ⟨rfl,rfl,us P (by first|omega|(show 1<=R.ts.length;omega)) (cY H L) w.expect (fun h=>absurd t h) (fun _=>?_)⟩;rw[T];cases n:cD (R.tok d) b with
    |true=>rw[if_pos rfl,dY n];exact .ok rfl
    |false=>rw[if_neg (fun h=>by cases h),er n,cv,if_neg (by rw[E];decide)];exact .bad dc
   |true=>
    refine cP R (cu d) (by show d<4294967296;have:d<R.ts.length:=L;omega) ?_;have n:cD (R.tok d) b=false:=by
     cases n:cD (R.tok d) b with
     |false=>rfl
     |true=>exact absurd ((fx n).symm.trans (fx E)) az
    have ay:d+1<R.ts.length:=H.step L E;rw[if_neg (by rw[n];decide),cv,if_pos E,cv]at T;dsimp only at T
    skip
    have aE:=(I t).1;obtain⟨aU,_⟩:=H4 H aF aE aB y;refine cw (eh:=XE b g o [xr (q.dm R 1) []] [[m,X,W,Y,k,u,a,r]]) (fN:=Uz R (cu (d+1))) (.drop 2 ⟨Z,Z,Z,Z,Z,tv⟩ Z Z Z Z Z Z Z) ?_;refine b5.iter (fun N:Nat×List cV×List (List D)×List (List D)×Nat×Nat=>XE b N.2.2.2.2.1 N.2.2.2.2.2 N.2.2.1 N.2.2.2.1) (fun N=>Uz R (cu N.1)) (fun N=>R.ts.length-N.1)
     (fun N=>q.p<N.1/\N.1<R.ts.length/\Iq N.2.1 N.2.2.1 N.2.2.2.1/\0<N.2.2.1.length/\N.2.2.1.length<=N.1/\∃ad,R.ts.length-N.1<=ad/\dK (fW ex R) R b [] q.p=eY (fW ex R) R b ad N.2.1 N.1) ?_ (d+1,_,_,_,g,o) ⟨by show q.p<d+1;omega,ay,P,Nat.zero_lt_one,by show 1<=d+1;omega,f0,by show R.ts.length-(d+1)<=f0;omega,T⟩
    rintro⟨i,acc,xs,ks,g,o⟩ ⟨aY,aV,bc,aS,aQ,ad,aN,aX⟩;have bl:q.p<i:=aY;have aA:i<R.ts.length:=aV;have aC:Iq acc xs ks:=bc;have Xf:0<xs.length:=aS;have bm:xs.length<=i:=aQ;have J:R.ts.length-i<=ad:=aN;have O:dK (fW ex R) R b [] q.p=eY (fW ex R) R b ad acc i:=aX;clear aY aV bc aS aQ aN aX P T ai y K U l M Q L w af ar;obtain⟨ad,rfl⟩:∃bg,ad=bg+1:=⟨ad-1,om⟩;rw[eY]at O;obtain⟨aP,aO⟩:=aC.len;have bn:((ct cV.n acc).map cV.pc).length=acc.length:=by rw[YD,eK]
    refine dT R H (cu i) 1 aA ?_;refine rY _ xs ((ct cV.n acc).map cV.n) (by rw[List.map_map];rfl) aC.pc om g _ (fun aK=>?_);refine hP ((ct cV.n acc).map cV.n) _ aK _ (by rw[YD,eK];omega) ?_;rw[aC.mem];obtain⟨am,aq⟩:∃am,am=decide ((cu i).dm R 1∈acc.map cV.n):=⟨_,rfl⟩;rw[<-aq];have B:=fv H (x:=cu i) (k:=1) dc aA;have aj:(if am then((cu i).word R 1).fail (R.tok i).off 5 else(cu i).word R 1).p<R.ts.length:=by
     split
     ·rw[qY];exact B
     ·exact B
    obtain⟨ag,S⟩:∃ag,ag=(if am then((cu i).word R 1).fail (R.tok i).off 5 else(cu i).word R 1):=⟨_,rfl⟩;rw[<-S]at aj;apply eg (ι:=Unit) (T:=fun _=>T8 b g o xs ks ((cu i).dm R 1) (nb ((ct cV.n acc).map cV.n) ((cu i).dm R 1))) (S:=fun _=>mj R (cu i) ag) (I:=fun _=>True)
    ·intro al;apply aZ<;>intro M
     ·repeat refine e4 ?_
      refine jm R _ (R.tok i).off 5 ?_;refine cw (eh:=T8 b g o xs ks ((cu i).dm R 1) (nb ((ct cV.n acc).map cV.n) ((cu i).dm R 1))) (fN:=mj R (cu i) ag) (.same ⟨Z,Z,Z,Z,Z,Z,Z,Z,tv⟩ ?_) (al () trivial);rw[S,if_pos M];rfl
     ·repeat refine e4 ?_
      refine cw (eh:=T8 b g o xs ks ((cu i).dm R 1) (nb ((ct cV.n acc).map cV.n) ((cu i).dm R 1))) (fN:=mj R (cu i) ag) (.same ⟨Z,Z,Z,Z,Z,Z,Z,Z,tv⟩ ?_) (al () trivial);rw[S,M];rfl
    ·intro _ _;have ah:=cY H (s:=[58]) aj;refine cG R H _ [58] aj ?_;have aE:=(I t).1;have av:(cu i).ge lo:=.yd om;have ae:ag.ge lo:=by
      rw[S];split
      ·exact av.word.fail _ _ dc
      ·exact av.word
     refine he.call _ ah ae.expect _ _ (fun m X W Y k u a r an L w K U=>?_);have l:eO (fW ex R acc i) an (fun N=>∃j,N=acc++[⟨(cu i).dm R 1,[],eM,false,[j]⟩]/\hY j [m,X,W,Y,k,u,a,r]):=by
      rw[Ln];have J:=mV (R:=R) aq;rw[<-S]at J;refine eO.bind J (RS.stay.expect.trans K) (fun s bq aT aL=>?_);exact eO.map (eO.val aT ae K U) (fun j h=>⟨j,by rw[aL],h⟩)
     apply aZ<;>intro M
     ·repeat refine e4 ?_
      have ap:an.e≠0:=fun F=>by rw[F]at M;cases M
      repeat refine b1 ?_
      refine a6 0 ⟨Z,Z,.cC,.cC,an,L,w,(fun h=>absurd t h),⟨_,.nil⟩,⟨_,.nil⟩,Yt _,fun _=>?_,Z⟩;rw[O];cases x:fW ex R acc i with
      |bad be F=>rw[x]at l;exact l
      |ok N i=>rw[x]at l;exact absurd (by rw[l.1];rfl) ap
     ·repeat refine e4 ?_
      have Q:an.e=0:=iZ M;obtain⟨j,d,y,aR,ai⟩:∃j d,fW ex R acc i=.ok (acc++[⟨(cu i).dm R 1,[],eM,false,[j]⟩]) d/\an=cu d/\hY j [m,X,W,Y,k,u,a,r]:=by
       cases x:fW ex R acc i with
       |bad be F=>rw[x]at l;exact absurd (l.2.2.symm.trans Q) l.1
       |ok N i=>rw[x]at l;obtain⟨au,j,rfl,aM⟩:=l;exact⟨j,i,rfl,au,aM⟩
      have ba:(cu i).dm R 1 ∉ acc.map cV.n:=fun bi=>by
       rw[decide_eq_true bi]at aq;rw[aq,if_pos rfl]at S;have aw:ag.e≠0:=by
        rw[S,RS.fail];split
        ·exact YB _
        ·assumption
       have au:=(RS.stay.expect.trans K) aw;rw[au]at Q;exact aw Q
      have P:=aC.ins (v:=[]) ba ai;rw[y]at O;dsimp only at O;subst aR;have aI:=Fa ((ct cV.n acc).map cV.n) ((cu i).dm R 1);rw[YD,eK]at aI;obtain⟨ao,ht⟩:∃ao,ao=nb ((ct cV.n acc).map cV.n) ((cu i).dm R 1):=⟨_,rfl⟩;rw[<-ht]at P aI⊢;obtain⟨aP,aO⟩:=aC.len;have Qm:ao<=xs.length:=om;have Xe:ao<=ks.length:=om;have Xg:0<ks.length:=om;have aJ:ao=xs.length->ao=ks.length:=fun h=>om;clear l aq S aj B ah ae K U;obtain⟨c,aa⟩:∃c,c=xs.take ao++xr ((cu i).dm R 1) []::xs.drop ao:=⟨_,rfl⟩;obtain⟨f,ab⟩:∃f,f=ks.take ao++[m,X,W,Y,k,u,a,r]::ks.drop ao:=⟨_,rfl⟩;rw[<-aa,<-ab]at P;have bj:c.length=xs.length+1:=by rw[aa];simp only[Ys,List.length_take,List.length_drop,Yv];omega
      have bk:f.length=ks.length+1:=by rw[ab];simp only[Ys,List.length_take,List.length_drop,Yv];omega
      obtain⟨_,aU⟩:=H4 H aF (p:=i) om aA y;apply eg (ι:=Nat×Nat) (T:=fun am=>P5 b am.1 am.2 c f) (S:=fun _=>mj R (cu i) (cu d)) (I:=fun _=>True)
      ·intro al;by_cases aG:ao=0
       ·repeat first
         |refine bZ rfl ?_
         |refine zG ?_
         |intro am
         |refine rk ?_
        refine b5.freeze 6 [(1,cE b),(2,.bp 0 0),(6,.bp 1 0),(7,.ms 6 8 0 c.length c.length),(8,.ms 9 8 0 f.length f.length),(11,.bp 2 0)] (es:=8) (els:=c.map fun F=>F.map V.d) (l:=c) (congrArg (fun G=>some (cU.row 8 G)) (by rw[aa];exact(uq _ _ _ _ aG))) (ed _) ⟨rfl,rfl,rfl,h9 vI,h9 vI,rfl,tv⟩ ⟨tv,tv,tv,fun _=>⟨rfl,Yy (Yx _)⟩,(fun h=>by cases h),tv,tv⟩ (fun g=>?_);refine b5.freeze 9 [(1,cE b),(2,.bp 0 0),(6,.bp 1 0),(7,.d (.ps g 0 8 c.length c)),(8,.ms 9 8 0 f.length f.length),(11,.bp 2 0)] (es:=8) (els:=f.map fun F=>F.map V.d) (l:=f) (congrArg (fun G=>some (cU.row 8 G)) (by rw[ab];exact(uq _ _ _ _ aG))) (ed _) ⟨rfl,rfl,rfl,jo rfl,rfl,rfl,tv⟩ ⟨tv,tv,tv,tv,fun _=>⟨rfl,Yy (Yx _)⟩,tv,tv⟩ (fun o=>?_);exact cw (eh:=P5 b g o c f) (fN:=mj R (cu i) (cu d)) (.drop 3 ⟨Z,Z,Z,Z,jo Z,Z,tv⟩ Z Z Z Z Z Z Z) (al (g,o) trivial)
       ·by_cases aD:ao=xs.length
        ·repeat first
          |refine bZ rfl ?_
          |refine zG ?_
          |intro am
          |refine rk ?_
         refine b5.freeze 6 [(1,cE b),(2,.bp 0 0),(6,.bp 1 0),(7,.ms 6 8 0 c.length c.length),(8,.ms 9 8 0 f.length f.length),(11,.bp 2 0)] (es:=8) (els:=c.map fun F=>F.map V.d) (l:=c) (congrArg (fun G=>some (cU.row 8 G)) (by rw[aa];exact(ur _ _ _ _ aD))) (ed _) ⟨rfl,rfl,rfl,h9 vI,h9 vI,rfl,tv⟩ ⟨tv,tv,tv,fun _=>⟨rfl,Yy (Yx _)⟩,(fun h=>by cases h),tv,tv⟩ (fun g=>?_);refine b5.freeze 9 [(1,cE b),(2,.bp 0 0),(6,.bp 1 0),(7,.d (.ps g 0 8 c.length c)),(8,.ms 9 8 0 f.length f.length),(11,.bp 2 0)] (es:=8) (els:=f.map fun F=>F.map V.d) (l:=f) (congrArg (fun G=>some (cU.row 8 G)) (by rw[ab];exact(ur _ _ _ _ (aJ aD)))) (ed _) ⟨rfl,rfl,rfl,jo rfl,rfl,rfl,tv⟩ ⟨tv,tv,tv,tv,fun _=>⟨rfl,Yy (Yx _)⟩,tv,tv⟩ (fun o=>?_);exact cw (eh:=P5 b g o c f) (fN:=mj R (cu i) (cu d)) (.drop 3 ⟨Z,Z,Z,Z,jo Z,Z,tv⟩ Z Z Z Z Z Z Z) (al (g,o) trivial)
        ·repeat first
          |refine bZ rfl ?_
          |refine zG ?_
          |intro am
          |refine rk ?_
         refine b5.freeze 7 [(1,cE b),(2,.bp 0 0),(6,.bp 1 0),(7,.ms 7 8 0 c.length c.length),(8,.ms 11 8 0 f.length f.length),(11,.bp 2 0)] (es:=8) (els:=c.map fun F=>F.map V.d) (l:=c) (congrArg (fun G=>some (cU.row 8 G)) (by rw[aa];exact(uo _ _ _ _))) (ed _) ⟨rfl,rfl,rfl,h9 vI,h9 vI,rfl,tv⟩ ⟨tv,tv,tv,fun _=>⟨rfl,Yy (Yx _)⟩,(fun h=>by cases h),tv,tv⟩ (fun g=>?_);refine b5.freeze 11 [(1,cE b),(2,.bp 0 0),(6,.bp 1 0),(7,.d (.ps g 0 8 c.length c)),(8,.ms 11 8 0 f.length f.length),(11,.bp 2 0)] (es:=8) (els:=f.map fun F=>F.map V.d) (l:=f) (congrArg (fun G=>some (cU.row 8 G)) (by rw[ab];exact(uo _ _ _ _))) (ed _) ⟨rfl,rfl,rfl,jo rfl,rfl,rfl,tv⟩ ⟨tv,tv,tv,tv,fun _=>⟨rfl,Yy (Yx _)⟩,tv,tv⟩ (fun o=>?_);exact cw (eh:=P5 b g o c f) (fN:=mj R (cu i) (cu d)) (.drop 3 ⟨Z,Z,Z,Z,jo Z,Z,tv⟩ Z Z Z Z Z Z Z) (al (g,o) trivial)
      ·rintro⟨g,o⟩ _;refine cJ R (cu d) [44] L ?_;rw[eS];cases E:cD (R.tok d) [44]with
       |false=>
        refine cG R H (cu d) b L ?_;refine a6 0 ⟨rfl,rfl,us P (by first|omega|(show 1<=R.ts.length;omega)) (cY H L) w.expect (fun h=>absurd t h) (fun _=>?_)⟩;rw[O];cases n:cD (R.tok d) b with
        |true=>rw[if_pos rfl,dY n];exact .ok rfl
        |false=>rw[if_neg (fun h=>by cases h),er n,cv,if_neg (by rw[E];decide)];exact .bad dc
       |true=>
        refine cP R (cu d) (by show d<4294967296;have:d<R.ts.length:=L;omega) ?_;have n:cD (R.tok d) b=false:=by
         cases n:cD (R.tok d) b with
         |false=>rfl
         |true=>exact absurd ((fx n).symm.trans (fx E)) az
        have ay:d+1<R.ts.length:=H.step L E;rw[if_neg (by rw[n];decide),cv,if_pos E,cv]at O;dsimp only at O
        skip
        exact⟨(d+1,_,c,f,g,o),⟨by show q.p<d+1;omega,ay,P,by show 0<c.length;omega,by show c.length<=d+1;omega,ad,by show R.ts.length-(d+1)<=ad;omega,O⟩,by show R.ts.length-(d+1)<R.ts.length-i;omega,.drop 2 ⟨rfl,rfl,rfl,rfl,rfl,tv⟩ rfl rfl rfl rfl rfl rfl rfl,rfl,rfl⟩
end Go.Proofs.YthlkhjchcjflkaaGreatDoor
