/- Part of the proof. -/
import Derived.Test.YtpejealjkmhkgaaGreatDoorKAb
import Derived.Laws.Entries
import Derived.WideLaws
import Derived.Laws.Strings
set_option linter.all false
set_option maxHeartbeats 16000000
set_option maxRecDepth 100000
open Nat renaming le_of_ble_eq_true->abK,eq_of_beq_eq_true->aet,lt_or_ge->aeN,blt_eq->aeO
open Bool renaming and_eq_true->abL,eq_iff_iff->aev
open List renaming mem_cons->aeu,getElem?_eq_none->aeM,all_cons->aeP
open Array renaming getElem?_toList->aeQ,length_toList->aeR
namespace Go.AM
open Go.RowKit (Below)
theorem uk(b lo hi:Nat):∀(i:List Nat) (f:Tr fX),
  (∀h,(eh b lo hi i f).1.get h=f.get h∨((eh b lo hi i f).1.get h=some .dead/\h≠b/\∃c v t m,f.get h=some (.cells c v t m)/\overlaps m c.length lo hi=true))/\
  (∀h,h∈i->h≠b->∀c v t m,(eh b lo hi i f).1.get h=some (.cells c v t m)->overlaps m c.length lo hi=false)/\
  (∀h,h∈i->h∈(eh b lo hi i f).2∨(eh b lo hi i f).1.get h=some .dead):=by
 intro i;induction i with
 |nil=>intro f;exact⟨fun _=>.inl rfl,fun _ l=>by simp at l,fun _ l=>by simp at l⟩
 |cons w i L=>
  intro f;have s:∀(K:w≠b->∀c v t m,f.get w=some (.cells c v t m)->overlaps m c.length lo hi=false),
    (∀h,(eh b lo hi i f).1.get h=f.get h∨((eh b lo hi i f).1.get h=some .dead/\h≠b/\∃c v t m,f.get h=some (.cells c v t m)/\overlaps m c.length lo hi=true))/\
    (∀h,h∈w::i->h≠b->∀c v t m,(eh b lo hi i f).1.get h=some (.cells c v t m)->overlaps m c.length lo hi=false)/\
    (∀h,h∈w::i->h∈w::(eh b lo hi i f).2∨(eh b lo hi i f).1.get h=some .dead):=by
   intro K;obtain⟨A,D,E⟩:=L f;refine⟨A,fun h hx x c v t m n=>?_,fun h hx=>?_⟩
   ·rcases aeu.1 hx with rfl|hx
    ·rcases A h with l|⟨l,_⟩
     ·exact K x c v t m (l▸n)
     ·rw[l]at n;cases n
    ·exact D h hx x c v t m n
   ·rcases aeu.1 hx with rfl|hx
    ·exact .inl sm
    ·exact(E h hx).imp (fun l=>by simp[l]) id
  unfold eh;cases B:Nat.beq w b with
  |true=>
   simp only;have:w=b:=aet B;exact s fun l=>absurd this l
  |false=>
   have x:w≠b:=Nat.ne_of_beq_eq_false B;simp only;cases n:f.get w with
   |none=>simp only;exact s fun _ c v t m l=>by rw[n]at l;cases l
   |some o=>
    cases o with
    |cells c v t m=>
     simp only;cases H:overlaps m c.length lo hi with
     |false=>
      simp only;exact s fun _ F G J M l=>by rw[n]at l;cases l;exact H
     |true=>
      simp only;obtain⟨A,D,E⟩:=L (f.set w .dead);have p:(eh b lo hi i (f.set w .dead)).1.get w=some .dead:=by
       rcases A w with l|⟨l,_⟩
       ·rw[l,cB,if_pos rfl]
       ·exact l
      refine⟨fun h=>?_,fun h hx I F G J M y=>?_,fun h hx=>?_⟩
      ·by_cases C:h=w
       ·subst C;exact .inr ⟨p,x,c,v,t,m,n,H⟩
       ·have N:(f.set w .dead).get h=f.get h:=by rw[cB,if_neg C]
        have:=A h;rw[N]at this;exact this
      ·rcases aeu.1 hx with rfl|hx
       ·rw[p]at y;cases y
       ·exact D h hx I F G J M y
      ·rcases aeu.1 hx with rfl|hx
       ·exact .inr p
       ·exact E h hx
    |_=>simp only;exact s fun _ c v t m l=>by rw[n]at l;cases l
variable{q:Nat} {k:List Nat}
section
variable{st:St} {dP b lo hi:Nat}
theorem gM:(st.kill dP b lo hi).n=st.n:=by
 unfold St.kill;split<;>rfl
theorem ul(f:Nat):(st.kill dP b lo hi).get f=st.get f∨((st.kill dP b lo hi).get f=some .dead/\f≠b/\∃c l i h,st.get f=some (.cells c l i h)/\overlaps h c.length lo hi=true):=by
 unfold St.kill;split
 ·exact .inl Z
 ·exact(uk b lo hi _ st.hp).1 f
theorem Gn:(st.kill dP b lo hi).get b=st.get b:=by
 rcases ul (st:=st) (dP:=dP) (b:=b) (lo:=lo) (hi:=hi) b with c|⟨_,c,_⟩
 ·exact c
 ·exact absurd Z c
theorem wG(i:st.fm.get dP=some k)(m:q∈k)(l:q≠b){c:List Value}{n f p:Nat} 
  (h:(st.kill dP b lo hi).get q=some (.cells c n f p)):overlaps p c.length lo hi=false:=by
 unfold St.kill at h;rw[i]at h;exact(uk b lo hi k st.hp).2.1 q m l c n f p h
theorem kh{o:fX}(f:(st.kill dP b lo hi).get q=some o):o=.dead∨st.get q=some o:=by
 rcases ul (st:=st) (dP:=dP) (b:=b) (lo:=lo) (hi:=hi) q with c|⟨c,_⟩
 ·exact .inr (c▸f)
 ·rw[c]at f;cases f;exact .inl rfl
theorem gD(c:st.fm.get dP=none):st.kill dP b lo hi=st:=by
 unfold St.kill;rw[c]
theorem ik(c:st.fm.get dP=some k):st.kill dP b lo hi={st with hp:=(eh b lo hi k st.hp).1,fm:=st.fm.set dP (eh b lo hi k st.hp).2}:=by
 unfold St.kill;rw[c]
theorem WF.kill(s:WF st):WF (st.kill dP b lo hi):=by
 cases f:st.fm.get dP with
 |none=>rw[gD f];exact s
 |some t=>
  refine⟨fun x o l=>?_,fun x c w v A l=>?_,fun v y i=>?_⟩
  ·rw[gM];rcases ul (st:=st) (dP:=dP) (b:=b) (lo:=lo) (hi:=hi) x with w|⟨_,_,c,n,v,A,w,_⟩
   ·exact s.lt _ _ (w▸l)
   ·exact s.lt _ _ w
  ·rcases kh l with n|n
   ·cases n
   ·have i:=s.dP _ _ _ _ _ n;refine⟨by rw[gM];exact i.1,?_⟩;have m:=i.2;unfold uh at m⊢;rw[ik f]at l⊢;simp only[cB];by_cases h:v=dP
    ·subst h;rw[if_pos rfl];rw[f]at m;rcases(uk b lo hi t st.hp).2.2 x m with h1|h1
     ·exact h1
     ·exfalso;have p:(eh b lo hi t st.hp).1.get x=some (.cells c w v A):=l;rw[h1]at p;cases p
    ·rw[if_neg h];exact m
  ·rw[gM];rw[ik f]at i;simp only[cB]at i;by_cases h:v=dP
   ·subst h;exact s.NN _ _ f
   ·rw[if_neg h]at i;exact s.NN _ _ i
theorem um{fo c lo hi:Nat}(b:overlaps fo c lo hi=false):hi<=fo∨fo+c<=lo:=by
 unfold overlaps at b;rcases aeN fo hi with h1|h1
 ·rcases aeN lo (fo+c)with h2|h2
  ·rw[aeO.mpr h1,aeO.mpr h2]at b;cases b
  ·exact .inr h2
 ·exact .inl h1
theorem WF.BR(l:WF st){c s:List Value}{t f p:Nat}(m:st.get b=some (.cells c t f p)):WF (st.put b (.cells s t f p)):=by
 refine⟨fun n o h=>?_,fun n x w f1 v h=>?_,l.NN⟩
 ·rw[c8]at h;by_cases i:n=b
  ·subst i;exact l.lt _ _ m
  ·rw[if_neg i]at h;exact l.lt _ _ h
 ·rw[c8]at h;by_cases i:n=b
  ·subst i;rw[if_pos rfl]at h;cases h;exact l.dP _ _ _ _ _ m
  ·rw[if_neg i]at h;exact l.dP _ _ _ _ _ h
end
variable{e r:List Value}
section
variable{w0:World} {N0:Nat} {G:Nat->Prop} {ρ:Ren} {st:St} {w:World}
theorem cT.NO(f:cT ρ e r)(c:e.all fM=true):∀v∈r,fM v=true:=by
 induction e generalizing r with
 |nil=>cases f;intro v b;simp at b
 |cons i e h=>
  cases f with
  |cons f t=>
   simp only[aeP,abL]at c;intro v b;rcases aeu.1 b with rfl|b
   ·rw[<-f.fM];exact c.1
   ·exact h t c.2 v b
theorem kT{b o:Nat}{dC:St}(h:fY st b o e=some dC):
  ∃c es l i,st.get b=some (.cells c es l i)/\o+e.length<=c.length/\e.all fM=true/\
   dC=(st.put b (.cells (dw c o e) es l i)).kill l b (i+o) (i+o+e.length):=by
 unfold fY at h;split at h
 ·rename_i c es l i m;split at h
  ·rename_i f;rw[abL]at f;exact⟨c,es,l,i,m,abK f.1,f.2,by simpa using h.symm⟩
  ·cases h
 ·cases h
theorem di.write(C:di w0 N0 G ρ st w){b o:Nat}{dC:St}{l:Loc}(L:ρ b=some l)(ai:fY st b o e=some dC)(a:cT ρ e r)(an:Program):
  ∃K,(storeCells ⟨l.b,l.d+o,none⟩ r).run an w=.ok () K/\di w0 N0 G ρ dC K/\dC.n=st.n:=by
 obtain⟨c,es,ae,az,F,z,u,rfl⟩:=kT ai;obtain⟨c',y,lo,hi,g,d⟩:=C.obj _ _ _ L F;have ag:=a.length;have aq:=d.size;have V:=d.fits;obtain⟨K,ak,B⟩:=uj (P:=an) r w l.b (l.d+o) 0 c' y lo hi g om (fun ax h1 h2=>d.Lm ax om) (a.NO u);obtain⟨Q,k,ah,q⟩:=B.here;have ad:=C.xT _ _ L;have al:=C.Fi;have aa:=B.size;refine⟨K,ak,?_,by rw[gM];rfl⟩;refine⟨(C.wf.BR F).kill,?_,om,fun O h=>by rw[gM];exact C.K1 O h,?_,?_,?_⟩
 ·exact C.below.trans ⟨B.os,B.tape,B.output,om,fun O h=>B.other O om⟩
 ·intro O U h;rw[gM];have:=C.xT _ _ h;exact⟨this.1,this.2.1,om⟩
 ·intro O U M h S;rcases kh S with rfl|f
  ·trivial
  ·rw[c8]at f;by_cases m:O=b
   ·subst m;rw[if_pos rfl]at f;cases f;rw[L]at h;cases h;refine⟨Q,y,lo,hi,k,d.es,om,by rw[mf];exact V,fun i v hi'=>?_,d.Lm⟩;rw[nW _ _ _ _ z]at hi';rw[q];by_cases x:o<=i/\i<o+e.length
    ·rw[if_pos x]at hi';obtain⟨I,s,t⟩:=a.get hi';refine⟨I,?_,t⟩;rw[if_pos om,<-s];congr 1;omega
    ·rw[if_neg x]at hi';have Y:i<c.length:=by
      rcases aeN i c.length with hh|hh
      ·exact hh
      ·rw[aeM hh]at hi';cases hi'
     obtain⟨I,s,t⟩:=d.cell _ _ hi';exact⟨I,by rw[if_neg om];exact s,t⟩
   ·rw[if_neg m]at f;by_cases D:U.b=l.b
    ·have R:=C.sep _ _ _ _ _ _ L h D.symm F f (fun g=>m g.symm);cases M with
     |dead=>trivial
     |cells cx av aB aw=>
      obtain⟨rfl,am⟩:=R;have n:=(C.wf.dP _ _ _ _ _ f).2;have p:=(C.wf.dP _ _ _ _ _ F).2;unfold uh at n p;cases H:st.fm.get ae with
      |none=>rw[H]at n p;exact absurd (n.trans p.symm) m
      |some ac=>
       rw[H]at n;have T:(st.put b (.cells (dw c o e) es ae az)).fm.get ae=some ac:=H;have ap:=um (wG T n m S);obtain⟨au,ab,ar,ao,N,J⟩:=C.obj _ _ _ h f;rw[D,g]at N;cases N;rw[D];refine⟨Q,y,lo,hi,k,J.es,by rw[ah];exact J.size,J.fits,fun i v hi'=>?_,J.Lm⟩;have Y:i<cx.length:=by
        exact ach
       obtain⟨I,s,t⟩:=J.cell _ _ hi';refine⟨I,?_,t⟩;rw[q,if_neg om];exact s
     |_=>exact R.elim
    ·rw[B.other _ D];exact C.obj _ _ _ h f
 ·intro O aA U ay M j h X W aj af E;rcases kh aj with rfl|h1
  ·cases j<;>trivial
  ·rcases kh af with rfl|h2
   ·cases M<;>trivial
   ·rw[c8]at h1 h2;by_cases m:O=b
    ·subst m;rw[if_pos rfl]at h1;cases h1;rw[if_neg (fun g=>E g.symm)]at h2;have A:=C.sep _ _ _ _ _ _ h X W F h2 E;cases j<;>exact A
    ·rw[if_neg m]at h1;by_cases P:aA=b
     ·subst P;rw[if_pos rfl]at h2;cases h2;have A:=C.sep _ _ _ _ _ _ h X W h1 F E;cases M<;>exact A
     ·rw[if_neg P]at h2;exact C.sep _ _ _ _ _ _ h X W h1 h2 E
end
section
variable{w0:World} {N0:Nat} {G:Nat->Prop} {ρ:Ren} {st:St} {w:World}
theorem yk.symm{o b:fX}{l c:Loc}(i:yk o b l c):yk b o c l:=by
 cases o<;>cases b<;>first|trivial|exact i|(obtain⟨h,f⟩:=i;exact⟨h.symm,f.symm⟩)
theorem di.extend(F:di w0 N0 G ρ st w){dC:St}{w':World}{o:fX}{l:Loc}(V:dC.n=st.n+1)(J:∀t,dC.get t=if t=st.n then some o else st.get t)(K:WF dC) 
  (f:Below N0 w w') (M:N0<=l.b) (L:l.b<w'.heap.size)
  (C:∀t m x,ρ t=some m->st.get t=some x->yj ρ m x w'.heap[m.b]?)
  (D:yj (ρ.add st.n l) l o w'.heap[l.b]?)
  (B:∀t m x,ρ t=some m->st.get t=some x->m.b=l.b->yk x o m l):
  di w0 N0 G (ρ.add st.n l) dC w':=by
 have N:=ei (l:=l) F.ij;have O:=F.Fi;have R:=f.size;refine⟨K,F.below.trans f,om,fun t P=>by have:=F.K1 t P;exact⟨by rw[dU _ _ om];exact this.1,om⟩,?_,?_,?_⟩
 ·intro b Q c;by_cases H:b=st.n
  ·subst H;rw[c7]at c;cases c;exact⟨om,M,L⟩
  ·rw[dU _ _ H]at c;have:=F.xT _ _ c;exact⟨om,om,om⟩
 ·intro b Q U c h;rw[J]at h;by_cases H:b=st.n
  ·subst H;rw[c7]at c;cases c;rw[if_pos rfl]at h;cases h;exact D
  ·rw[dU _ _ H]at c;rw[if_neg H]at h;exact(C _ _ _ c h).mono N
 ·intro b I W X T S v p E s i A;rw[J]at s i;by_cases y:b=st.n
  ·by_cases n:I=st.n
   ·exact absurd (y.trans n.symm) A
   ·subst y;rw[c7]at v;cases v;rw[dU _ _ n]at p;rw[if_pos rfl]at s;cases s;rw[if_neg n]at i;exact(B _ _ _ p i E.symm).symm
  ·rw[dU _ _ y]at v;rw[if_neg y]at s;by_cases n:I=st.n
   ·subst n;rw[c7]at p;cases p;rw[if_pos rfl]at i;cases i;exact B _ _ _ v s E
   ·rw[dU _ _ n]at p;rw[if_neg n]at i;exact F.sep _ _ _ _ _ _ v p E s i A
theorem di.weaken(f:di w0 N0 G ρ st w){dC:St}(n:dC.n=st.n)(c:∀p o,dC.get p=some o->o=.dead∨st.get p=some o)(i:WF dC):di w0 N0 G ρ dC w:=by
 refine⟨i,f.below,f.Fi,fun p B=>by rw[n];exact f.K1 p B,fun b E D=>by rw[n];exact f.xT b E D,fun b E o D H=>?_,fun b F E I o A v s C y t h=>?_⟩
 ·rcases c _ _ H with rfl|x
  ·trivial
  ·exact f.obj _ _ _ D x
 ·rcases c _ _ y with rfl|l
  ·cases A<;>trivial
  ·rcases c _ _ t with rfl|m
   ·cases o<;>trivial
   ·exact f.sep _ _ _ _ _ _ v s C l m h
theorem WF.Ss(i:WF st){b:Nat}(l:b<st.n):WF (st.put b .dead):=by
 refine⟨fun h o c=>?_,fun h p n f1 m c=>?_,i.NN⟩
 ·rw[c8]at c;by_cases f:h=b
  ·subst f;exact l
  ·rw[if_neg f]at c;exact i.lt _ _ c
 ·rw[c8]at c;by_cases f:h=b
  ·subst f;rw[if_pos rfl]at c;cases c
  ·rw[if_neg f]at c;exact i.dP _ _ _ _ _ c
def grown(st:St)(es dP fo b o len n:Nat)(c old xs:List Value):St:=
 let f:=st.kill dP st.n (fo+o+len*es) (fo+o+(len+n)*es)
 let i:=match f.fm.get dP with|some i=>i|none=>if Nat.ble c.length (o+len*es)then [b]else []
 let h:=if Nat.ble c.length (o+len*es)then f else f.put b .dead
 {hp:=h.hp.set st.n (.cells (old++xs) es dP (fo+o)),n:=st.n+1,fm:=h.fm.set dP (st.n::i)}
def iU(st:St)(es dP fo b o len n:Nat)(c:List Value):St:=
 let f:=st.kill dP st.n (fo+o+len*es) (fo+o+(len+n)*es)
 if Nat.ble c.length (o+len*es)then f else f.put b .dead
variable{es dP fo b o len n:Nat} {c old xs:List Value}
theorem pG:(iU st es dP fo b o len n c).n=st.n:=by
 unfold iU;dsimp only;split
 ·exact gM
 ·exact gM (st:=st)
theorem lq{h:fX}(f:(iU st es dP fo b o len n c).get q=some h):h=.dead∨st.get q=some h:=by
 unfold iU at f;dsimp only at f;split at f
 ·exact kh f
 ·rw[c8]at f;split at f
  ·cases f;exact .inl rfl
  ·exact kh f
theorem Fj(h:WF st)(f:b<st.n):WF (iU st es dP fo b o len n c):=by
 unfold iU;dsimp only;split
 ·exact h.kill
 ·exact h.kill.Ss (by rw[gM];exact f)
theorem Gp(y:WF st)(w:st.get b=some (.cells c es dP fo)){v s:Nat} 
  (f:(iU st es dP fo b o len n c).get q=some (.cells e v dP s)):fo+o+(len+n)*es<=s∨s+e.length<=fo+o+len*es:=by
 have h:=(lq f).resolve_left (by intro C;cases C);have A:=y.lt _ _ h;have p:=(y.dP _ _ _ _ _ h).2;have l:=(y.dP _ _ _ _ _ w).2;unfold uh at p l;by_cases m:q=b
 ·subst m;rw[w]at h;cases h;unfold iU at f;dsimp only at f;split at f
  ·rename_i x;have:=abK x;exact .inr om
  ·rw[c8,if_pos rfl]at f;cases f
 ·cases i:st.fm.get dP with
  |none=>rw[i]at p l;exact absurd (p.trans l.symm) m
  |some B=>
   rw[i]at p;have t:(st.kill dP st.n (fo+o+len*es) (fo+o+(len+n)*es)).get q=some (.cells e v dP s):=by
    unfold iU at f;dsimp only at f;split at f
    ·exact f
    ·rw[c8,if_neg m]at f;exact f
   exact um (wG i p om t)
theorem kC(f:Nat):(grown st es dP fo b o len n c old xs).get f=if f=st.n then some (.cells (old++xs) es dP (fo+o))else(iU st es dP fo b o len n c).get f:=by
 unfold grown iU St.get;dsimp only;rw[cB]
theorem ym(J:WF st)(D:st.get b=some (.cells c es dP fo)):WF (grown st es dP fo b o len n c old xs):=by
 have I:=J.lt _ _ D;have y:=Fj (es:=es) (dP:=dP) (fo:=fo) (o:=o) (len:=len) (n:=n) (c:=c) J I;have A:=J.dP _ _ _ _ _ D;refine⟨fun B K f=>?_,fun B L N f1 M f=>?_,fun x l i=>?_⟩
 ·show B<st.n+1;rw[kC]at f;by_cases H:B=st.n
  ·omega
  ·rw[if_neg H]at f;have:=y.lt _ _ f;rw[pG]at this;omega
 ·show f1<st.n+1/\uh _ B f1;rw[kC]at f;have s:(iU st es dP fo b o len n c).fm=(st.kill dP st.n (fo+o+len*es) (fo+o+(len+n)*es)).fm:=by
   unfold iU;dsimp only;split<;>rfl
  have t:∀x,(grown st es dP fo b o len n c old xs).fm.get x=if x=dP then some (st.n::(match(st.kill dP st.n (fo+o+len*es) (fo+o+(len+n)*es)).fm.get dP with|some l=>l|none=>if Nat.ble c.length (o+len*es)then [b]else []))else(iU st es dP fo b o len n c).fm.get x:=by
   intro x;rw[s];unfold grown;dsimp only;rw[cB];split
   ·rfl
   ·split<;>rfl
  by_cases H:B=st.n
  ·subst H;rw[if_pos rfl]at f;cases f;refine⟨om,?_⟩;unfold uh;rw[t,if_pos rfl];simp
  ·rw[if_neg H]at f;have F:=y.dP _ _ _ _ _ f;rw[pG]at F;refine⟨om,?_⟩;have h:=F.2;unfold uh at h⊢;rw[t];by_cases m:f1=dP
   ·subst m;rw[if_pos rfl];rw[s]at h;refine aeu.2 (.inr ?_);cases p:(st.kill f1 st.n (fo+o+len*es) (fo+o+(len+n)*es)).fm.get f1 with
    |some l=>rw[p]at h;exact h
    |none=>
     rw[p]at h;have w:st.fm.get f1=none:=by
      cases G:st.fm.get f1 with
      |none=>rfl
      |some l=>rw[ik G]at p;simp only[cB]at p;simp at p
     have C:b=f1:=by have:=A.2;unfold uh at this;rw[w]at this;exact this
     have E:B=b:=by rw[C];exact h
     subst E;dsimp only;unfold iU at f;dsimp only at f;split at f
     ·rename_i v;rw[if_pos v];simp
     ·rw[c8,if_pos rfl]at f;cases f
   ·rw[if_neg m];exact h
 ·show x<st.n+1;unfold grown at i;dsimp only at i;rw[cB]at i;by_cases m:x=dP
  ·subst m;omega
  ·rw[if_neg m]at i;have:x<(iU st es dP fo b o len n c).n:=by
    refine y.NN x l ?_;unfold iU;dsimp only;split<;>(rename_i v;simp only[v]at i;exact i)
   rw[pG]at this;omega
end
theorem uo{v:Value}(b:flat v=true)(ρ:Ren):cX ρ v v:=by
 unfold flat at b;split at b<;>first|cases b|skip
 ·exact .bool _
 ·exact .int _ _
 ·exact .string _
 ·exact .Lk
 ·exact .me
 ·exact .Ll
 ·exact .nilFunc
 ·exact .nilIface
theorem jI{l:List Value}(b:l.all flat=true)(ρ:Ren):cT ρ l l:=by
 induction l with
 |nil=>exact .nil
 |cons v l c=>simp only[aeP,abL]at b;exact .cons (uo b.1 ρ) (c b.2)
def Lp:TypeDesc->Bool
 |.struct _=>true
 |.array _ _=>true
 |_=>false
def Gq(ti:TI)(b:Value):Prop:=(ti.agg=true/\b=.agg ti.zero.toArray)∨(ti.agg=false/\ti.zero=[b]/\flat b=true)
theorem Gq.cells{ti:TI}{c:Value}(f:Gq ti c):c.cells.toList=ti.zero:=by
 rcases f with⟨_,rfl⟩|⟨_,h,b⟩
 ·rfl
 ·rw[h];cases c<;>first|rfl|(simp[flat]at b;done)
variable{d u:Value}
theorem Gq.mk{ti:TI}(f:Gq ti d):Iz ti.agg ti.zero=some d:=by
 rcases f with⟨b,rfl⟩|⟨b,c,_⟩
 ·rw[b];rfl
 ·rw[b,c];rfl
structure nQ (C:dR):Prop where
 und:∀t ti,C.tt.get t=some ti->C.P.underlying t=some ti.desc
 VH:∀t ti,C.tt.get t=some ti->∃i z,C.P.info? t=some i/\i.size=ti.size/\i.bytes=ti.bytes/\i.zero=some z/\Gq ti z
 agg:∀t ti,C.tt.get t=some ti->ti.agg=Lp ti.desc
 aez:∀t ti,C.tt.get t=some ti->ti.zero.length=ti.size
 yn:∀t ti,C.tt.get t=some ti->ti.zero.all flat=true
section
variable{C:dR} {t:TypeId} {ti:TI}
theorem ed(c:nQ C)(b:C.tt.get t=some ti)(w:World):(underlying t).run C.P w=.ok ti.desc w:=run_underlying (c.und _ _ b) w
theorem Su(f:nQ C)(h:C.tt.get t=some ti)(w:World):∃b c,(typeInfo t).run C.P w=.ok b w/\b.size=ti.size/\b.bytes=ti.bytes/\b.zero=some c/\Gq ti c:=by
 obtain⟨b,c,l,i⟩:=f.VH _ _ h;exact⟨b,c,by simp[typeInfo,l],i⟩
theorem fO(b:nQ C)(c:C.tt.get t=some ti)(w:World):(sizeOf t).run C.P w=.ok ti.size w:=by
 obtain⟨l,i,f,h,_⟩:=b.VH _ _ c;simp[sizeOf,typeInfo,f,h]
theorem Fk(c:nQ C)(f:C.tt.get t=some ti)(w:World):∃b,(typeInfo t).run C.P w=.ok b w/\b.bytes=ti.bytes:=by
 obtain⟨b,l,i,m,h,_⟩:=Su c f w;exact⟨b,i,h⟩
theorem BS(c:nQ C)(b:C.tt.get t=some ti)(w:World):(isAgg t).run C.P w=.ok ti.agg w:=by
 unfold isAgg;rw[Sem.run_bind,ed c b w,Result.andThen_ok,c.agg _ _ b];cases ti.desc<;>rfl
theorem mg(f:nQ C)(i:C.tt.get t=some ti)(w:World):∃b,(zeroValue t).run C.P w=.ok b w/\Gq ti b:=by
 obtain⟨n,b,l,o,m,c,h⟩:=f.VH _ _ i;exact⟨b,by simp[zeroValue,typeInfo,l,c],h⟩
end
structure Kept (w0:World) (N0:Nat) (G:Nat->Prop) (ρ:Ren) (dC:St) (v:Value) (v':Value) (w':World) (dk:Ren):Prop where
 le:ρ.le dk
 world:di w0 N0 G dk dC w'
 value:cX dk v v'
def rh(w0:World)(N0:Nat)(G:Nat->Prop)(ρ:Ren)(dC:St)(v:Value)(h:Result Value):Prop:=
 ∃f c b,h=.ok c b/\Kept w0 N0 G ρ dC v c b f
section
variable{C:dR} {w0:World} {N0:Nat} {G:Nat->Prop} {ρ:Ren} {st dC:St} {w:World} {v:Value}
theorem rh.same(c:di w0 N0 G ρ st w)(b:cX ρ v d):rh w0 N0 G ρ st v (.ok d w):=⟨ρ,d,w,rfl,Ren.le_refl _,c,b⟩
theorem c9{st dC:St}{v b:Value}(c:val v st=some (.val b dC)):b=v/\dC=st:=by
 unfold val at c;cases c;exact⟨Z,Z⟩
theorem di.row(m:di w0 N0 G ρ st w){c:List Value}{f:Array Value}{es:Nat}(b:TypeId)(h:cT ρ c f.toList):
  di w0 N0 G (ρ.add st.n ⟨w.heap.size,0,es,f.size⟩) (st.new (.cells c es st.n 0)) {w with heap:=w.heap.push (.cells f b)}:=by
 refine m.new Z Z ⟨f,b,0,0,Z,Z,Z,?_,fun p v i=>?_,fun p _ o=>om⟩
 ·have:=h.length;simp at this;simp;omega
 ·obtain⟨l,s,n⟩:=h.get i;refine⟨l,?_,n.mono (ei m.ij)⟩;simpa using s
theorem iz{f:Program}{w:World}(b:TypeId)(c:Array Value):(Go.newRow b c).run f w=.ok ⟨w.heap.size,0,none⟩ {w with heap:=w.heap.push (.cells c b)}:=by
 simp[Go.newRow,newObj,Sem.run]
theorem Pd(f:nQ C)(n:di w0 N0 G ρ st w){t:TypeId}(c:xf C t st=some (.val v dC)):rh w0 N0 G ρ dC v ((Instr.alloc t true (.tuple #[])).run C.P w):=by
 unfold xf at c;split at c
 ·rename_i ti h;obtain⟨rfl,rfl⟩:=c9 c;obtain⟨m,l,i⟩:=mg f h w;have b:cT ρ ti.zero m.cells.toList:=by rw[i.cells];exact jI (f.yn _ _ h) ρ
  refine⟨_,.pointer (some ⟨w.heap.size,0,none⟩),_,?_,ei n.ij,n.row t b,?_⟩
  ·simp only[Instr.alloc,Sem.run_bind,l,Result.andThen_ok,newVar,iz,Sem.run_pure]
  ·exact .ptr (l:=⟨w.heap.size,0,ti.size,m.cells.size⟩) (c7 _ _ _)
 ·cases c
theorem VI(f:di w0 N0 G ρ st w){t:TypeId}(c:cX ρ d u)(b:Li d st=some (.val v dC)):rh w0 N0 G ρ dC v ((Instr.box t u).run C.P w):=by
 unfold Li at b;split at b
 ·obtain⟨rfl,rfl⟩:=c9 b;refine⟨_,.pointer (some ⟨w.heap.size,0,none⟩),_,?_,ei f.ij,f.row t c.cells,?_⟩
  ·simp only[Instr.box,Sem.run_bind,Result.andThen_ok,newVar,iz,Sem.run_pure]
  ·exact .ptr (l:=⟨w.heap.size,0,_,u.cells.size⟩) (c7 _ _ _)
 ·cases b
theorem qx{b o:Nat}(c:cX ρ (.pointer (some ⟨b,o,none⟩)) d):∃f,ρ b=some f/\d=.pointer (some ⟨f.b,f.d+o,none⟩):=by
 cases c with
 |ptr c=>exact⟨_,c,rfl⟩
theorem Lq(A:di w0 N0 G ρ st w){b o:Nat}{l:Loc}(i:ρ b=some l)(h:gq st b o 1=some [d]):
  ∃c,w.cell? ⟨l.b,l.d+o,none⟩=some c/\cX ρ d c:=by
 obtain⟨f,es,D,E,m,v,t⟩:=o8 h;obtain⟨y,s,lo,hi,C,B⟩:=A.obj _ _ _ i m;have n:f[o]?=some d:=by
  have:((f.drop o).take 1)[0]?=some d:=by rw[<-t];rfl
  simpa using this
 obtain⟨c,p,x⟩:=B.cell _ _ n;exact⟨c,by rw[cell_of C];exact p,x⟩
theorem IF(n:nQ C)(H:di w0 N0 G ρ st w){t:TypeId}(F:cX ρ d u)(h:ye C t d st=some (.val v dC)):
  ∃p,(Instr.loadAt t u).run C.P w=.ok p w/\cX ρ v p/\dC=st:=by
 unfold ye at h;split at h
 ·rename_i ti b o m;obtain⟨M,s,rfl⟩:=qx F;split at h
  ·rename_i c y l;split at h
   ·rename_i L f;obtain⟨rfl,rfl⟩:=c9 h;cases i:ti.agg with
    |true=>
     obtain⟨B,A,x⟩:=H.read s l C.P;refine⟨.agg B,?_,?_,Z⟩
     ·simp only[Instr.loadAt,Instr.sureAddr,loadVar,Sem.run_bind,Sem.run_pure,Result.andThen_ok,BS n m,i,if_true,fO n m,A]
     ·rw[i]at f;simp[Iz]at f;subst f;exact .agg x
    |false=>
     rw[i]at f y;have D:ti.size=1:=by simpa using y
     rw[D]at l;have E:=fk l
     match c,E,f with
     |[K],_,f=>
      simp[Iz]at f;subst f;obtain⟨u,J,I⟩:=Lq H s l;refine⟨u,?_,I,Z⟩;simp only[Instr.loadAt,Instr.sureAddr,loadVar,Sem.run_bind,Sem.run_pure,Result.andThen_ok,BS n m,i,Bool.false_eq_true,if_false,run_load J]
   ·cases h
  ·cases h
 ·cases h
theorem Pe(A:nQ C)(J:di w0 N0 G ρ st w){t:TypeId}{I h:Value}(s:cX ρ d u)(p:cX ρ I h)(c:iC C t d I st=some (.val v dC)):
  ∃f,(Instr.storeAt t u h).run C.P w=.ok () f/\di w0 N0 G ρ dC f/\v=lr/\dC.n=st.n:=by
 unfold iC at c;split at c
 ·rename_i ti b o x;obtain⟨K,y,rfl⟩:=qx s;split at c
  ·rename_i E;split at c
   ·rename_i H B;obtain⟨rfl,rfl⟩:=c9 c;obtain⟨f,D,l,F⟩:=J.write y B p.cells C.P;have i:=p.cells.length;have m:=aet E;refine⟨f,?_,l,Z,F⟩;have n:h.cells.size=ti.size:=by rw[<-m,i];simp
    simp only[Instr.storeAt,Instr.sureAddr,storeVar,Sem.run_bind,Sem.run_pure,Result.andThen_ok,fO A x,n,ne_eq,not_true_eq_false,if_false,D]
   ·cases c
  ·cases c
 ·cases c
end
variable{a:List (Nat×Value)}
section
variable{C:dR} {w0:World} {N0:Nat} {G:Nat->Prop} {ρ:Ren} {st dC:St} {w:World} {v:Value}
theorem Pf(f:List Value):∀(c:Array Value) (b h:Nat),b+h+f.length<=c.size->
  ((f.zipIdx h).foldl (fun o (s:Value×Nat)=>o.setIfInBounds (b+s.2) s.1) c).toList=dw c.toList (b+h) f:=by
 induction f with
 |nil=>intro c b h _;cases t:c.toList<;>simp[dw,t]
 |cons v f n=>
  intro c b h l;simp only[List.length_cons]at l;simp only[List.zipIdx_cons,List.foldl_cons];rw[n _ b (h+1) (by simp;omega)];refine List.ext_getElem? fun m=>?_;rw[nW _ _ _ _ (by simp;omega),nW _ _ _ _ (by simp;omega)];simp only[List.length_cons,Array.toList_setIfInBounds];by_cases p:m=b+h
  ·subst p;rw[if_neg om,if_pos om,Nat.sub_self,List.getElem?_set_self (by simp;omega)];rfl
  ·by_cases i:b+(h+1)<=m/\m<b+(h+1)+f.length
   ·rw[if_pos i,if_pos om,show m-(b+h)=(m-(b+(h+1)))+1 from by omega];rfl
   ·rw[if_neg i,if_neg om,List.getElem?_set_ne om]
inductive AN (ρ:Ren):List (Nat×Value)->List (Nat×Value)->Prop
 |nil:AN ρ [] []
 |cons {i:Nat} {v v':Value} {l l':List (Nat×Value)} (h:cX ρ v v') (t:AN ρ l l'):AN ρ ((i,v)::l) ((i,v')::l')
theorem IG{c i b f:List Value}(o:cT ρ c i)(h:cT ρ b f){n:Nat}(l:n+b.length<=c.length):cT ρ (dw c n b) (dw i n f):=by
 have s:=o.length;have p:=h.length;refine yi (by rw[mf,mf,s]) fun t v hi=>?_;rw[nW _ _ _ _ l]at hi;rw[nW _ _ _ _ om,<-p];by_cases m:n<=t/\t<n+b.length
 ·rw[if_pos m]at hi⊢;exact h.get hi
 ·rw[if_neg m]at hi⊢;exact o.get hi
theorem yo{l place':Nat->Option (Nat×Nat)}(J:∀L m,l L=some m->place' L=some m){x:List (Nat×Value)}(E:AN ρ a x):
  ∀{c:List Value} {f:Array Value} {G:List Value},cT ρ c f.toList->qq l c a=some G->∃o,Instr.fill place' f x=some o/\cT ρ G o.toList:=by
 induction E with
 |nil=>intro c f G w h;simp[qq]at h;subst h;exact⟨f,rfl,w⟩
 |@cons L v p Q P M t K=>
  intro c f G w h;simp only[qq]at h;split at h
  ·cases h
  ·rename_i i H C;split at h
   ·rename_i b;simp only[abL]at b;have O:=aet b.1;have N:=abK b.2;have y:=M.cells.length;have F:=w.length;simp only[aeR]at y F;have s:=Pf p.cells.toList f i 0 (by simp;omega);have A:cT ρ (dw c i (cellsOf v)) (p.cells.zipIdx.foldl (fun n (m:Value×Nat)=>n.setIfInBounds (i+m.2) m.1) f).toList:=by
     have I:p.cells.zipIdx.foldl (fun n (m:Value×Nat)=>n.setIfInBounds (i+m.2) m.1) f=(p.cells.toList.zipIdx 0).foldl (fun n (m:Value×Nat)=>n.setIfInBounds (i+m.2) m.1) f:=by
      rw[<-Array.foldl_toList,Array.toList_zipIdx]
     rw[I,s];exact IG w M.cells om
    obtain⟨o,D,B⟩:=K A h;refine⟨o,?_,B⟩;simp only[Instr.fill,J _ _ C];rw[if_neg ?_]
    ·exact D
    ·simp;omega
   ·cases h
theorem IH(v:nQ C):∀(b:List Field),(b.all fun i=>(C.tt.get i.type).isSome)=true->
  ∃c:List (Nat×Nat),(b.mapM (m:=Sem) fun i=>do pure (i.offset,<-sizeOf i.type)).run C.P w=.ok c w/\∀f l,gJ C ⟨b⟩ f=some l->c[f]?=some l:=by
 intro b;induction b with
 |nil=>intro _;exact⟨[],by simp,fun f l o=>by simp[gJ,nth]at o⟩
 |cons i b t=>
  intro o;simp only[aeP,abL]at o;obtain⟨c,x,s⟩:=t o.2;obtain⟨ti,p⟩:=Option.isSome_iff_exists.1 o.1;refine⟨(i.offset,ti.size)::c,?_,fun f l h=>?_⟩
  ·simp only[List.mapM_cons,Sem.run_bind,fO v p,Result.andThen_ok,Sem.run_pure,x]
  ·cases f with
   |zero=>simp only[gJ,nth,p]at h;simpa using h
   |succ f=>have n:gJ C ⟨b⟩ f=some l:=h;simpa using s f l n
theorem Pg(h:nQ C)(V:di w0 N0 G ρ st w){t:TypeId}{ps':Array (Nat×Value)}(x:AN ρ a ps'.toList)(b:xc C t a st=some (.val v dC)):
  ∃I,(Instr.build t ps').run C.P w=.ok I w/\cX ρ v I/\dC=st:=by
 unfold xc at b;split at b
 ·rename_i ti p;obtain⟨U,N,M⟩:=mg h p w;have s:cT ρ ti.zero U.cells.toList:=by rw[M.cells];exact jI (h.yn _ _ p) ρ
  split at b
  ·rename_i f y;split at b
   ·rename_i c F K D;obtain⟨rfl,rfl⟩:=c9 b;obtain⟨P,J,A⟩:=IH (w:=w) h f.toList F;obtain⟨B,o,i⟩:=yo (place':=fun H=>P.toArray[H]?) (fun H S E=>by
     have:=A H S E;simpa using this) x s D
    refine⟨.agg B,?_,.agg i,Z⟩;have R:(f.mapM (m:=Sem) fun T=>do pure (T.offset,<-sizeOf T.type)).run C.P w=.ok P.toArray w:=by
     rw[Array.mapM_eq_mapM_toList];simp only[map_eq_pure_bind,Sem.run_bind,J,Result.andThen_ok,Sem.run_pure]
    simp only[Instr.build,Sem.run_bind,N,Result.andThen_ok,ed h p,y,R,o,Sem.run_pure]
   ·cases b
  ·rename_i n Q y;split at b
   ·rename_i O L K;split at b
    ·rename_i c D;obtain⟨rfl,rfl⟩:=c9 b;obtain⟨B,o,i⟩:=yo (place':=fun H=>some (H*O.size,O.size)) (fun H S E=>E) x s D;refine⟨.agg B,?_,.agg i,Z⟩;simp only[Instr.build,Sem.run_bind,N,Result.andThen_ok,ed h p,y,fO h L,o,Sem.run_pure]
    ·cases b
   ·cases b
  ·cases b
 ·cases b
theorem NF(b:List Value):∀n,(wo b n).length=n*b.length/\∀c:Nat,c<n*b.length->(wo b n)[c]?=b[c%b.length]?:=by
 intro n;induction n with
 |zero=>exact⟨by simp[wo],fun c h=>om⟩
 |succ n f=>
  refine⟨by simp[wo,f.1,Nat.add_mul,Nat.add_comm],fun c h=>?_⟩;simp only[wo];by_cases hi:c<b.length
  ·rw[List.getElem?_append_left hi,Nat.mod_eq_of_lt hi]
  ·have i:c<n*b.length+b.length:=by rw[<-Nat.succ_mul];exact h
   rw[List.getElem?_append_right om,f.2 _ om];congr 1;exact(Nat.mod_eq_sub_mod om).symm
theorem vE{c:List Value}(b:c.all flat=true):∀n,(wo c n).all flat=true
 |0=>rfl
 |n+1=>by simp only[wo,List.all_append,b,Bool.true_and];exact vE b n
theorem Gi{h:Nat->Option (Nat×Nat)}:∀{b:List (Nat×Value)} {c i:List Value},qq h c b=some i->i.length=c.length:=by
 intro b;induction b with
 |nil=>intro c i f;simp[qq]at f;rw[f]
 |cons m b l=>
  intro c i f;obtain⟨n,v⟩:=m;simp only[qq]at f;split at f
  ·cases f
  ·split at f
   ·rw[l f,mf]
   ·cases f
theorem Cr(b:Array Value)(n:Nat):((Array.range (n*b.size)).map (b[· %b.size]!)).toList=wo b.toList n:=by
 refine List.ext_getElem? fun l=>?_;have c:=NF b.toList n;simp only[aeR]at c;rcases aeN l (n*b.size)with hi|hi
 ·rw[c.2 l hi];have f:0<b.size:=by
   rcases Nat.eq_zero_or_pos b.size with h|h
   ·rw[h]at hi;omega
   ·exact h
  have i:l%b.size<b.size:=Nat.mod_lt _ f;rw[aeQ,Array.getElem?_map,Array.getElem?_range,if_pos hi];simp[i,aeQ]
 ·rw[aeM (by simp;omega),aeM (by rw[c.1];exact hi)]
theorem Cs(hT:nQ C)(H:di w0 N0 G ρ st w){t:TypeId}{n:Nat}{i:Array (Nat×Value)}(A:AN ρ a i.toList)(b:kf C t n a st=some (.val v dC)):
  rh w0 N0 G ρ dC v ((Instr.buildSlice t n i).run C.P w):=by
 unfold kf at b;split at b
 ·rename_i ti ht;split at b
  ·rename_i m hd;split at b
   ·rename_i te hte;split at b
    ·rename_i c f hf;split at b
     ·rename_i F;obtain⟨rfl,rfl⟩:=c9 b;simp only[abL]at f;have D:=aeO.mp f.1.1;have I:=abK f.1.2;have hzl:=aet f.2;obtain⟨B,hz,h⟩:=mg hT hte w;have y:B.cells.size=te.size:=by rw[<-hzl,<-h.cells];simp
      have s:cT ρ (wo te.zero n) ((Array.range (n*te.size)).map (B.cells[· %B.cells.size]!)).toList:=by
       rw[<-y,Cr,h.cells];exact jI (vE (hT.yn _ _ hte) n) ρ
      obtain⟨p,If,RD⟩:=yo (place':=fun J=>some (J*te.size,te.size)) (fun J K E=>E) A s hf;have o:p.size=n*te.size:=by
       exact aaf
      refine⟨_,.slice (some ⟨w.heap.size,0,none⟩) n n,_,?_,ei H.ij,H.row m RD,?_⟩
      ·exact Ym
      ·refine .slice (l:=⟨w.heap.size,0,te.size,p.size⟩) (c7 _ _ _) (Nat.le_refl _) ?_;simp[o]
     ·cases b
    ·cases b
   ·cases b
  ·cases b
 ·cases b
end
theorem Ct{c b:Int}:qp c b=true↔c=b:=by
 cases c<;>cases b<;>simp only[qp,Nat.beq_eq]<;>first|(constructor<;>intro f<;>first|omega|(cases f;rfl)|(subst f;rfl))|simp
theorem vB(c b:Int):qp c b=(c==b):=by
 rw[aev,Ct];simp
variable{g z:IntKind}
theorem sk:tY g z=true↔g=z:=by
 cases g<;>cases z<;>simp[tY]
theorem Lr{c b:Int}:tZ c b=true↔c<b:=by
 cases c<;>cases b<;>simp only[tZ,aeO];all_goals simp only[Int.negSucc_eq,Int.ofNat_eq_natCast]
 ·omega
 ·exact⟨fun f=>absurd f sm,fun f=>om⟩
 ·exact⟨fun _=>om,fun _=>trivial⟩
 ·omega
theorem zP(c b:Int):tZ c b=decide (c<b):=by
 rw[aev,Lr];simp
theorem qy:∀(c b:cq),l8 c b=(c==b):=by
 intro c;induction c with
 |nil=>intro b;cases b<;>rfl
 |cons x c ih=>
  intro b;cases b with
  |nil=>rfl
  |cons y b=>
   simp only[l8];exact YN
theorem II:∀(c b:cq),cE c b=Op.bytesLess c b:=by
 intro c;induction c with
 |nil=>intro b;cases b<;>rfl
 |cons x c ih=>
  intro b;cases b with
  |nil=>rfl
  |cons y b=>
   simp only[cE,Op.bytesLess];have f:(decide (x<y))=Nat.blt x.toNat y.toNat:=by
    rw[aev];simp[UInt8.lt_iff_toNat_lt]
   rw[f];cases Nat.blt x.toNat y.toNat with
   |true=>rfl
   |false=>
    exact YN
theorem toList_data(s:ByteArray):s.toList=s.data.toList:=by
 rw[Go.ByteArray.toList_eq]
variable{j:BinOp}
section
variable{C:dR} {w0:World} {N0:Nat} {G:Nat->Prop} {ρ:Ren} {st dC:St} {w:World} {v:Value}
theorem Ls{c b:Int}(h:ub j g c b=some v)(f:BO j=false)(t:TypeId):(binOp j t (.int g c) (.int g b)).run C.P w=.ok v w:=by
 cases j<;>simp[BO]at f<;>simp only[ub,Option.some.injEq]at h
 case quo=>
  exact aal
 case rem=>
  exact aal
 all_goals
  subst h;simp only[binOp,ne_eq,not_true_eq_false,if_false,Op.intArith,Op.intBits,Op.intCmp,Sem.run_pure,vB,zP];try rfl
 ·have:decide (c<=b)= !decide (b<c):=by rw[aev];simp
  rw[this]
 ·have:decide (c≥b)= !decide (c<b):=by rw[aev];simp
  rw[this]
theorem Gr{f b:Int}(c:uc j g f b=some v)(t:TypeId):(binOp j t (.int g f) (.int z b)).run C.P w=.ok v w:=by
 unfold uc at c;split at c
 ·rename_i n;split at c
  ·cases c;simp[binOp,Op.shift];intro c;omega
  ·cases c;simp[binOp,Op.shift];intro c;omega
  ·cases c
 ·cases c
theorem size_data(s:ByteArray):s.size=s.data.toList.length:=by
 cases s;rfl
theorem Ph(c b:ByteArray):c++b=Lg c b:=by
 apply ByteArray.ext;simp[Lg,ByteArray.data_append]
theorem Lt{c b:ByteArray}(h:xg j c b=some v)(t:TypeId):(binOp j t (.string c) (.string b)).run C.P w=.ok v w:=by
 have l:(c.toList==b.toList)=pz c b:=by rw[toList_data,toList_data,pz,qy]
 have m:Op.bytesLess c.toList b.toList=Fh c b:=by rw[toList_data,toList_data,Fh,II]
 cases j<;>simp only[xg,Option.some.injEq]at h
 case add=>
  split at h
  ·rename_i i;cases h;have:=abK i;have f:¬(((c.size+b.size:Nat):Int)>IntKind.i64.max):=by
    rw[size_data,size_data];simp[IntKind.max,IntKind.signed,IntKind.bits];simp at this;omega
   simp only[binOp,Op.stringOp,if_neg f,Sem.run_pure,Ph]
  ·cases h
 all_goals first
  |cases h;done
  |(subst h;simp only[binOp,Op.stringOp,Sem.run_pure,l,m])
end
end Go.AM
