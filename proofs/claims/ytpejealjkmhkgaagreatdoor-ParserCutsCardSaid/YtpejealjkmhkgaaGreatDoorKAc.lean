/- Part of the proof. -/
import Derived.Test.YtpejealjkmhkgaaGreatDoorKAb
import Derived.Laws.Entries
import Derived.WideLaws
import Derived.Laws.Strings
set_option linter.all false
set_option maxHeartbeats 16000000
set_option maxRecDepth 100000
open Nat renaming eq_of_beq_eq_true->YL,le_of_ble_eq_true->YM,ne_of_beq_eq_false->YR,lt_or_ge->YS,blt_eq->YU
open Bool renaming and_eq_true->YN,eq_iff_iff->YQ
open List renaming getElem?_eq_none->YO,mem_cons->YP,all_cons->YV
open Array renaming length_toList->YT,getElem?_toList->YW,range->YX
namespace Go.AM
open Go.RowKit (Below)
theorem r2(b lo hi:Nat):∀(l:List Nat) (f:Tr fH),
  (∀h,(ep b lo hi l f).1.get h=f.get h∨((ep b lo hi l f).1.get h=some .dead/\h≠b/\∃c w v n,f.get h=some (.cells c w v n)/\overlaps n c.length lo hi=true))/\
  (∀h,h∈l->h≠b->∀c w v n,(ep b lo hi l f).1.get h=some (.cells c w v n)->overlaps n c.length lo hi=false)/\
  (∀h,h∈l->h∈(ep b lo hi l f).2∨(ep b lo hi l f).1.get h=some .dead):=by
 intro l;induction l with
 |nil=>intro f;exact⟨fun _=>.inl rfl,fun _ m=>by simp at m,fun _ m=>by simp at m⟩
 |cons x l L=>
  intro f;have t:∀(K:x≠b->∀c w v n,f.get x=some (.cells c w v n)->overlaps n c.length lo hi=false),
    (∀h,(ep b lo hi l f).1.get h=f.get h∨((ep b lo hi l f).1.get h=some .dead/\h≠b/\∃c w v n,f.get h=some (.cells c w v n)/\overlaps n c.length lo hi=true))/\
    (∀h,h∈x::l->h≠b->∀c w v n,(ep b lo hi l f).1.get h=some (.cells c w v n)->overlaps n c.length lo hi=false)/\
    (∀h,h∈x::l->h∈x::(ep b lo hi l f).2∨(ep b lo hi l f).1.get h=some .dead):=by
   intro K;obtain⟨A,D,E⟩:=L f;refine⟨A,fun h hx y c w v n p=>?_,fun h hx=>?_⟩
   ·rcases YP.1 hx with rfl|hx
    ·rcases A h with m|⟨m,_⟩
     ·exact K y c w v n (m▸p)
     ·rw[m]at p;cases p
    ·exact D h hx y c w v n p
   ·rcases YP.1 hx with rfl|hx
    ·exact .inl sm
    ·exact(E h hx).imp (fun m=>by simp[m]) id
  unfold ep;cases B:Nat.beq x b with
  |true=>
   simp only;have:x=b:=YL B;exact t fun m=>absurd this m
  |false=>
   have y:x≠b:=YR B;simp only;cases p:f.get x with
   |none=>simp only;exact t fun _ c w v n m=>by rw[p]at m;cases m
   |some o=>
    cases o with
    |cells c w v n=>
     simp only;cases H:overlaps n c.length lo hi with
     |false=>
      simp only;exact t fun _ F G J M m=>by rw[p]at m;cases m;exact H
     |true=>
      simp only;obtain⟨A,D,E⟩:=L (f.set x .dead);have s:(ep b lo hi l (f.set x .dead)).1.get x=some .dead:=by
       rcases A x with m|⟨m,_⟩
       ·rw[m,cw,if_pos rfl]
       ·exact m
      refine⟨fun h=>?_,fun h hx I F G J M z=>?_,fun h hx=>?_⟩
      ·by_cases C:h=x
       ·subst C;exact .inr ⟨s,y,c,w,v,n,p,H⟩
       ·have N:(f.set x .dead).get h=f.get h:=by rw[cw,if_neg C]
        have:=A h;rw[N]at this;exact this
      ·rcases YP.1 hx with rfl|hx
       ·rw[s]at z;cases z
       ·exact D h hx I F G J M z
      ·rcases YP.1 hx with rfl|hx
       ·exact .inr s
       ·exact E h hx
    |_=>simp only;exact t fun _ c w v n m=>by rw[p]at m;cases m
variable{k:Nat} {j:List Nat}
section
variable{st:St} {dS b lo hi:Nat}
theorem gF:(st.kill dS b lo hi).n=st.n:=by
 unfold St.kill;split<;>rfl
theorem r3(f:Nat):(st.kill dS b lo hi).get f=st.get f∨((st.kill dS b lo hi).get f=some .dead/\f≠b/\∃c m l h,st.get f=some (.cells c m l h)/\overlaps h c.length lo hi=true):=by
 unfold St.kill;split
 ·exact .inl Z
 ·exact(r2 b lo hi _ st.hp).1 f
theorem Dq:(st.kill dS b lo hi).get b=st.get b:=by
 rcases r3 (st:=st) (dS:=dS) (b:=b) (lo:=lo) (hi:=hi) b with c|⟨_,c,_⟩
 ·exact c
 ·exact absurd Z c
theorem ud(l:st.fm.get dS=some j)(n:k∈j)(m:k≠b){c:List Value}{o f p:Nat} 
  (h:(st.kill dS b lo hi).get k=some (.cells c o f p)):overlaps p c.length lo hi=false:=by
 unfold St.kill at h;rw[l]at h;exact(r2 b lo hi j st.hp).2.1 k n m c o f p h
theorem jj{o:fH}(f:(st.kill dS b lo hi).get k=some o):o=.dead∨st.get k=some o:=by
 rcases r3 (st:=st) (dS:=dS) (b:=b) (lo:=lo) (hi:=hi) k with c|⟨c,_⟩
 ·exact .inr (c▸f)
 ·rw[c]at f;cases f;exact .inl rfl
theorem gx(c:st.fm.get dS=none):st.kill dS b lo hi=st:=by
 unfold St.kill;rw[c]
theorem gZ(c:st.fm.get dS=some j):st.kill dS b lo hi={st with hp:=(ep b lo hi j st.hp).1,fm:=st.fm.set dS (ep b lo hi j st.hp).2}:=by
 unfold St.kill;rw[c]
theorem WF.kill(t:WF st):WF (st.kill dS b lo hi):=by
 cases f:st.fm.get dS with
 |none=>rw[gx f];exact t
 |some v=>
  refine⟨fun y o m=>?_,fun y c x w A m=>?_,fun w z l=>?_⟩
  ·rw[gF];rcases r3 (st:=st) (dS:=dS) (b:=b) (lo:=lo) (hi:=hi) y with x|⟨_,_,c,p,w,A,x,_⟩
   ·exact t.lt _ _ (x▸m)
   ·exact t.lt _ _ x
  ·rcases jj m with p|p
   ·cases p
   ·have l:=t.dS _ _ _ _ _ p;refine⟨by rw[gF];exact l.1,?_⟩;have n:=l.2;unfold rY at n⊢;rw[gZ f]at m⊢;simp only[cw];by_cases h:w=dS
    ·subst h;rw[if_pos rfl];rw[f]at n;rcases(r2 b lo hi v st.hp).2.2 y n with h1|h1
     ·exact h1
     ·exfalso;have s:(ep b lo hi v st.hp).1.get y=some (.cells c x w A):=m;rw[h1]at s;cases s
    ·rw[if_neg h];exact n
  ·rw[gF];rw[gZ f]at l;simp only[cw]at l;by_cases h:w=dS
   ·subst h;exact t.Kt _ _ f
   ·rw[if_neg h]at l;exact t.Kt _ _ l
theorem r4{fo c lo hi:Nat}(b:overlaps fo c lo hi=false):hi<=fo∨fo+c<=lo:=by
 unfold overlaps at b;rcases YS fo hi with h1|h1
 ·rcases YS lo (fo+c)with h2|h2
  ·rw[YU.mpr h1,YU.mpr h2]at b;cases b
  ·exact .inr h2
 ·exact .inl h1
theorem WF.zg(m:WF st){c t:List Value}{v f p:Nat}(n:st.get b=some (.cells c v f p)):WF (st.put b (.cells t v f p)):=by
 refine⟨fun s o h=>?_,fun s y x f1 w h=>?_,m.Kt⟩
 ·rw[cW]at h;by_cases l:s=b
  ·subst l;exact m.lt _ _ n
  ·rw[if_neg l]at h;exact m.lt _ _ h
 ·rw[cW]at h;by_cases l:s=b
  ·subst l;rw[if_pos rfl]at h;cases h;exact m.dS _ _ _ _ _ n
  ·rw[if_neg l]at h;exact m.dS _ _ _ _ _ h
end
variable{e q:List Value}
section
variable{w0:World} {N0:Nat} {G:Nat->Prop} {ρ:Ren} {st:St} {w:World}
theorem cU.Ku(f:cU ρ e q)(c:e.all fs=true):∀v∈q,fs v=true:=by
 induction e generalizing q with
 |nil=>cases f;intro v b;simp at b
 |cons l e h=>
  cases f with
  |cons f t=>
   simp only[YV,YN]at c;intro v b;rcases YP.1 b with rfl|b
   ·rw[<-f.fs];exact c.1
   ·exact h t c.2 v b
theorem j5{b o:Nat}{dI:St}(h:fI st b o e=some dI):
  ∃c es m l,st.get b=some (.cells c es m l)/\o+e.length<=c.length/\e.all fs=true/\
   dI=(st.put b (.cells (dw c o e) es m l)).kill m b (l+o) (l+o+e.length):=by
 unfold fI at h;split at h
 ·rename_i c es m l n;split at h
  ·rename_i f;rw[YN]at f;exact⟨c,es,m,l,n,YM f.1,f.2,by simpa using h.symm⟩
  ·cases h
 ·cases h
theorem dj.write(C:dj w0 N0 G ρ st w){b o:Nat}{dI:St}{l:Loc}(L:ρ b=some l)(ak:fI st b o e=some dI)(a:cU ρ e q)(ap:Program):
  ∃K,(storeCells ⟨l.b,l.d+o,none⟩ q).run ap w=.ok () K/\dj w0 N0 G ρ dI K/\dI.n=st.n:=by
 obtain⟨c,es,ag,aB,F,ab,aa,rfl⟩:=j5 ak;obtain⟨c',y,lo,hi,i,g⟩:=C.obj _ _ _ L F;have ai:=a.length;have au:=g.size;have V:=g.fits;obtain⟨K,am,B⟩:=r1 (P:=ap) q w l.b (l.d+o) 0 c' y lo hi i om (fun az h1 h2=>g.H9 az om) (a.Ku aa);obtain⟨Q,r,aj,u⟩:=B.here;have af:=C.vt _ _ L;have an:=C.Cu;have ac:=B.size;refine⟨K,am,?_,by rw[gF];rfl⟩;refine⟨(C.wf.zg F).kill,?_,om,fun O h=>by rw[gF];exact C.HZ O h,?_,?_,?_⟩
 ·exact C.below.trans ⟨B.os,B.tape,B.output,om,fun O h=>B.other O om⟩
 ·intro O U h;rw[gF];have:=C.vt _ _ h;exact⟨this.1,this.2.1,om⟩
 ·intro O U M h S;rcases jj S with rfl|f
  ·trivial
  ·rw[cW]at f;by_cases m:O=b
   ·subst m;rw[if_pos rfl]at f;cases f;rw[L]at h;cases h;refine⟨Q,y,lo,hi,r,g.es,om,by rw[kU];exact V,fun d v hi'=>?_,g.H9⟩;rw[ma _ _ _ _ ab]at hi';rw[u];by_cases x:o<=d/\d<o+e.length
    ·rw[if_pos x]at hi';obtain⟨I,s,t⟩:=a.get hi';refine⟨I,?_,t⟩;rw[if_pos om,<-s];congr 1;omega
    ·rw[if_neg x]at hi';have Y:d<c.length:=by
      rcases YS d c.length with A|A
      ·exact A
      ·rw[YO A]at hi';cases hi'
     obtain⟨I,s,t⟩:=g.cell _ _ hi';exact⟨I,by rw[if_neg om];exact s,t⟩
   ·rw[if_neg m]at f;by_cases D:U.b=l.b
    ·have R:=C.sep _ _ _ _ _ _ L h D.symm F f (fun i=>m i.symm);cases M with
     |dead=>trivial
     |cells k ax aD ay=>
      obtain⟨rfl,ao⟩:=R;have n:=(C.wf.dS _ _ _ _ _ f).2;have p:=(C.wf.dS _ _ _ _ _ F).2;unfold rY at n p;cases H:st.fm.get ag with
      |none=>rw[H]at n p;exact absurd (n.trans p.symm) m
      |some ae=>
       rw[H]at n;have T:(st.put b (.cells (dw c o e) es ag aB)).fm.get ag=some ae:=H;have ar:=r4 (ud T n m S);obtain⟨aw,ad,av,aq,N,J⟩:=C.obj _ _ _ h f;rw[D,i]at N;cases N;rw[D];refine⟨Q,y,lo,hi,r,J.es,by rw[aj];exact J.size,J.fits,fun d v hi'=>?_,J.H9⟩;have Y:d<k.length:=by
        rcases YS d k.length with A|A
        ·exact A
        ·rw[YO A]at hi';cases hi'
       obtain⟨I,s,t⟩:=J.cell _ _ hi';refine⟨I,?_,t⟩;rw[u,if_neg om];exact s
     |_=>exact R.elim
    ·rw[B.other _ D];exact C.obj _ _ _ h f
 ·intro O aC U aA M j h X W al ah E;rcases jj al with rfl|h1
  ·cases j<;>trivial
  ·rcases jj ah with rfl|h2
   ·cases M<;>trivial
   ·rw[cW]at h1 h2;by_cases m:O=b
    ·subst m;rw[if_pos rfl]at h1;cases h1;rw[if_neg (fun i=>E i.symm)]at h2;have z:=C.sep _ _ _ _ _ _ h X W F h2 E;cases j<;>exact z
    ·rw[if_neg m]at h1;by_cases P:aC=b
     ·subst P;rw[if_pos rfl]at h2;cases h2;have z:=C.sep _ _ _ _ _ _ h X W h1 F E;cases M<;>exact z
     ·rw[if_neg P]at h2;exact C.sep _ _ _ _ _ _ h X W h1 h2 E
end
section
variable{w0:World} {N0:Nat} {G:Nat->Prop} {ρ:Ren} {st:St} {w:World}
theorem vB.symm{o b:fH}{l c:Loc}(m:vB o b l c):vB b o c l:=by
 cases o<;>cases b<;>first|trivial|exact m|(obtain⟨h,f⟩:=m;exact⟨h.symm,f.symm⟩)
theorem dj.extend(F:dj w0 N0 G ρ st w){dI:St}{w':World}{o:fH}{l:Loc}(V:dI.n=st.n+1)(J:∀v,dI.get v=if v=st.n then some o else st.get v)(K:WF dI) 
  (f:Below N0 w w') (M:N0<=l.b) (L:l.b<w'.heap.size)
  (C:∀v n y,ρ v=some n->st.get v=some y->vA ρ n y w'.heap[n.b]?)
  (D:vA (ρ.add st.n l) l o w'.heap[l.b]?)
  (B:∀v n y,ρ v=some n->st.get v=some y->n.b=l.b->vB y o n l):
  dj w0 N0 G (ρ.add st.n l) dI w':=by
 have N:=er (l:=l) F.gY;have O:=F.Cu;have R:=f.size;refine⟨K,F.below.trans f,om,fun v P=>by have:=F.HZ v P;exact⟨by rw[dZ _ _ om];exact this.1,om⟩,?_,?_,?_⟩
 ·intro b Q c;by_cases H:b=st.n
  ·subst H;rw[c6]at c;cases c;exact⟨om,M,L⟩
  ·rw[dZ _ _ H]at c;have:=F.vt _ _ c;exact⟨om,om,om⟩
 ·intro b Q U c h;rw[J]at h;by_cases H:b=st.n
  ·subst H;rw[c6]at c;cases c;rw[if_pos rfl]at h;cases h;exact D
  ·rw[dZ _ _ H]at c;rw[if_neg H]at h;exact(C _ _ _ c h).mono N
 ·intro b I W X T S x s E t m A;rw[J]at t m;by_cases z:b=st.n
  ·by_cases p:I=st.n
   ·exact absurd (z.trans p.symm) A
   ·subst z;rw[c6]at x;cases x;rw[dZ _ _ p]at s;rw[if_pos rfl]at t;cases t;rw[if_neg p]at m;exact(B _ _ _ s m E.symm).symm
  ·rw[dZ _ _ z]at x;rw[if_neg z]at t;by_cases p:I=st.n
   ·subst p;rw[c6]at s;cases s;rw[if_pos rfl]at m;cases m;exact B _ _ _ x t E
   ·rw[dZ _ _ p]at s;rw[if_neg p]at m;exact F.sep _ _ _ _ _ _ x s E t m A
theorem dj.weaken(f:dj w0 N0 G ρ st w){dI:St}(p:dI.n=st.n)(c:∀s o,dI.get s=some o->o=.dead∨st.get s=some o)(l:WF dI):dj w0 N0 G ρ dI w:=by
 refine⟨l,f.below,f.Cu,fun s B=>by rw[p];exact f.HZ s B,fun b E D=>by rw[p];exact f.vt b E D,fun b E o D H=>?_,fun b F E I o A x t C z v h=>?_⟩
 ·rcases c _ _ H with rfl|y
  ·trivial
  ·exact f.obj _ _ _ D y
 ·rcases c _ _ z with rfl|m
  ·cases A<;>trivial
  ·rcases c _ _ v with rfl|n
   ·cases o<;>trivial
   ·exact f.sep _ _ _ _ _ _ x t C m n h
theorem WF.Ok(l:WF st){b:Nat}(m:b<st.n):WF (st.put b .dead):=by
 refine⟨fun h o c=>?_,fun h s p f1 n c=>?_,l.Kt⟩
 ·rw[cW]at c;by_cases f:h=b
  ·subst f;exact m
  ·rw[if_neg f]at c;exact l.lt _ _ c
 ·rw[cW]at c;by_cases f:h=b
  ·subst f;rw[if_pos rfl]at c;cases c
  ·rw[if_neg f]at c;exact l.dS _ _ _ _ _ c
def grown(st:St)(es dS fo b o len n:Nat)(c old xs:List Value):St:=
 let f:=st.kill dS st.n (fo+o+len*es) (fo+o+(len+n)*es)
 let l:=match f.fm.get dS with|some l=>l|none=>if Nat.ble c.length (o+len*es)then [b]else []
 let h:=if Nat.ble c.length (o+len*es)then f else f.put b .dead
 {hp:=h.hp.set st.n (.cells (old++xs) es dS (fo+o)),n:=st.n+1,fm:=h.fm.set dS (st.n::l)}
def h6(st:St)(es dS fo b o len n:Nat)(c:List Value):St:=
 let f:=st.kill dS st.n (fo+o+len*es) (fo+o+(len+n)*es)
 if Nat.ble c.length (o+len*es)then f else f.put b .dead
variable{es dS fo b o len n:Nat} {c old xs:List Value}
theorem nJ:(h6 st es dS fo b o len n c).n=st.n:=by
 unfold h6;dsimp only;split
 ·exact gF
 ·exact gF (st:=st)
theorem jk{h:fH}(f:(h6 st es dS fo b o len n c).get k=some h):h=.dead∨st.get k=some h:=by
 unfold h6 at f;dsimp only at f;split at f
 ·exact jj f
 ·rw[cW]at f;split at f
  ·cases f;exact .inl rfl
  ·exact jj f
theorem Cv(h:WF st)(f:b<st.n):WF (h6 st es dS fo b o len n c):=by
 unfold h6;dsimp only;split
 ·exact h.kill
 ·exact h.kill.Ok (by rw[gF];exact f)
theorem Dr(z:WF st)(x:st.get b=some (.cells c es dS fo)){w t:Nat} 
  (f:(h6 st es dS fo b o len n c).get k=some (.cells e w dS t)):fo+o+(len+n)*es<=t∨t+e.length<=fo+o+len*es:=by
 have h:=(jk f).resolve_left (by intro C;cases C);have A:=z.lt _ _ h;have s:=(z.dS _ _ _ _ _ h).2;have m:=(z.dS _ _ _ _ _ x).2;unfold rY at s m;by_cases p:k=b
 ·subst p;rw[x]at h;cases h;unfold h6 at f;dsimp only at f;split at f
  ·rename_i y;have:=YM y;exact .inr om
  ·rw[cW,if_pos rfl]at f;cases f
 ·cases l:st.fm.get dS with
  |none=>rw[l]at s m;exact absurd (s.trans m.symm) p
  |some B=>
   rw[l]at s;have v:(st.kill dS st.n (fo+o+len*es) (fo+o+(len+n)*es)).get k=some (.cells e w dS t):=by
    unfold h6 at f;dsimp only at f;split at f
    ·exact f
    ·rw[cW,if_neg p]at f;exact f
   exact r4 (ud l s om v)
theorem jJ(f:Nat):(grown st es dS fo b o len n c old xs).get f=if f=st.n then some (.cells (old++xs) es dS (fo+o))else(h6 st es dS fo b o len n c).get f:=by
 unfold grown h6 St.get;dsimp only;rw[cw]
theorem vC(J:WF st)(D:st.get b=some (.cells c es dS fo)):WF (grown st es dS fo b o len n c old xs):=by
 have I:=J.lt _ _ D;have z:=Cv (es:=es) (dS:=dS) (fo:=fo) (o:=o) (len:=len) (n:=n) (c:=c) J I;have A:=J.dS _ _ _ _ _ D;refine⟨fun B K f=>?_,fun B L N f1 M f=>?_,fun y m l=>?_⟩
 ·show B<st.n+1;rw[jJ]at f;by_cases H:B=st.n
  ·omega
  ·rw[if_neg H]at f;have:=z.lt _ _ f;rw[nJ]at this;omega
 ·show f1<st.n+1/\rY _ B f1;rw[jJ]at f;have t:(h6 st es dS fo b o len n c).fm=(st.kill dS st.n (fo+o+len*es) (fo+o+(len+n)*es)).fm:=by
   unfold h6;dsimp only;split<;>rfl
  have v:∀y,(grown st es dS fo b o len n c old xs).fm.get y=if y=dS then some (st.n::(match(st.kill dS st.n (fo+o+len*es) (fo+o+(len+n)*es)).fm.get dS with|some m=>m|none=>if Nat.ble c.length (o+len*es)then [b]else []))else(h6 st es dS fo b o len n c).fm.get y:=by
   intro y;rw[t];unfold grown;dsimp only;rw[cw];split
   ·rfl
   ·split<;>rfl
  by_cases H:B=st.n
  ·subst H;rw[if_pos rfl]at f;cases f;refine⟨om,?_⟩;unfold rY;rw[v,if_pos rfl];simp
  ·rw[if_neg H]at f;have F:=z.dS _ _ _ _ _ f;rw[nJ]at F;refine⟨om,?_⟩;have h:=F.2;unfold rY at h⊢;rw[v];by_cases p:f1=dS
   ·subst p;rw[if_pos rfl];rw[t]at h;refine YP.2 (.inr ?_);cases s:(st.kill f1 st.n (fo+o+len*es) (fo+o+(len+n)*es)).fm.get f1 with
    |some m=>rw[s]at h;exact h
    |none=>
     rw[s]at h;have x:st.fm.get f1=none:=by
      cases G:st.fm.get f1 with
      |none=>rfl
      |some m=>rw[gZ G]at s;simp only[cw]at s;simp at s
     have C:b=f1:=by have:=A.2;unfold rY at this;rw[x]at this;exact this
     have E:B=b:=by rw[C];exact h
     subst E;dsimp only;unfold h6 at f;dsimp only at f;split at f
     ·rename_i w;rw[if_pos w];simp
     ·rw[cW,if_pos rfl]at f;cases f
   ·rw[if_neg p];exact h
 ·show y<st.n+1;unfold grown at l;dsimp only at l;rw[cw]at l;by_cases p:y=dS
  ·subst p;omega
  ·rw[if_neg p]at l;have:y<(h6 st es dS fo b o len n c).n:=by
    refine z.Kt y m ?_;unfold h6;dsimp only;split<;>(rename_i w;simp only[w]at l;exact l)
   rw[nJ]at this;omega
end
theorem r5{v:Value}(b:flat v=true)(ρ:Ren):cY ρ v v:=by
 unfold flat at b;split at b<;>first|cases b|skip
 ·exact .bool _
 ·exact .int _ _
 ·exact .string _
 ·exact .H7
 ·exact .kT
 ·exact .H8
 ·exact .nilFunc
 ·exact .nilIface
theorem iO{l:List Value}(b:l.all flat=true)(ρ:Ren):cU ρ l l:=by
 induction l with
 |nil=>exact .nil
 |cons v l c=>simp only[YV,YN]at b;exact .cons (r5 b.1 ρ) (c b.2)
def Ic:TypeDesc->Bool
 |.struct _=>true
 |.array _ _=>true
 |_=>false
def Ds(ti:TI)(b:Value):Prop:=(ti.agg=true/\b=.agg ti.zero.toArray)∨(ti.agg=false/\ti.zero=[b]/\flat b=true)
theorem Ds.cells{ti:TI}{c:Value}(f:Ds ti c):c.cells.toList=ti.zero:=by
 rcases f with⟨_,rfl⟩|⟨_,h,b⟩
 ·rfl
 ·rw[h];cases c<;>first|rfl|(simp[flat]at b;done)
variable{d r:Value}
theorem Ds.mk{ti:TI}(f:Ds ti d):Fi ti.agg ti.zero=some d:=by
 rcases f with⟨b,rfl⟩|⟨b,c,_⟩
 ·rw[b];rfl
 ·rw[b,c];rfl
structure l6 (C:dU):Prop where
 WD:∀t ti,C.tt.get t=some ti->C.P.underlying t=some ti.desc
 Rr:∀t ti,C.tt.get t=some ti->∃i z,C.P.info? t=some i/\i.size=ti.size/\i.bytes=ti.bytes/\i.zero=some z/\Ds ti z
 agg:∀t ti,C.tt.get t=some ti->ti.agg=Ic ti.desc
 Ye:∀t ti,C.tt.get t=some ti->ti.zero.length=ti.size
 vD:∀t ti,C.tt.get t=some ti->ti.zero.all flat=true
section
variable{C:dU} {t:TypeId} {ti:TI}
theorem dT(c:l6 C)(b:C.tt.get t=some ti)(w:World):(underlying t).run C.P w=.ok ti.desc w:=run_underlying (c.WD _ _ b) w
theorem Ol(f:l6 C)(h:C.tt.get t=some ti)(w:World):∃b c,(typeInfo t).run C.P w=.ok b w/\b.size=ti.size/\b.bytes=ti.bytes/\b.zero=some c/\Ds ti c:=by
 obtain⟨b,c,m,l⟩:=f.Rr _ _ h;exact⟨b,c,by simp[typeInfo,m],l⟩
theorem e1(b:l6 C)(c:C.tt.get t=some ti)(w:World):(sizeOf t).run C.P w=.ok ti.size w:=by
 obtain⟨m,l,f,h,_⟩:=b.Rr _ _ c;simp[sizeOf,typeInfo,f,h]
theorem Cw(c:l6 C)(f:C.tt.get t=some ti)(w:World):∃b,(typeInfo t).run C.P w=.ok b w/\b.bytes=ti.bytes:=by
 obtain⟨b,m,l,n,h,_⟩:=Ol c f w;exact⟨b,l,h⟩
theorem zh(c:l6 C)(b:C.tt.get t=some ti)(w:World):(isAgg t).run C.P w=.ok ti.agg w:=by
 unfold isAgg;rw[Sem.run_bind,dT c b w,Result.andThen_ok,c.agg _ _ b];cases ti.desc<;>rfl
theorem kW(f:l6 C)(l:C.tt.get t=some ti)(w:World):∃b,(zeroValue t).run C.P w=.ok b w/\Ds ti b:=by
 obtain⟨o,b,m,p,n,c,h⟩:=f.Rr _ _ l;exact⟨b,by simp[zeroValue,typeInfo,m,c],h⟩
end
structure Kept (w0:World) (N0:Nat) (G:Nat->Prop) (ρ:Ren) (dI:St) (v:Value) (v':Value) (w':World) (dm:Ren):Prop where
 le:ρ.le dm
 world:dj w0 N0 G dm dI w'
 value:cY dm v v'
def pq(w0:World)(N0:Nat)(G:Nat->Prop)(ρ:Ren)(dI:St)(v:Value)(h:Result Value):Prop:=
 ∃f c b,h=.ok c b/\Kept w0 N0 G ρ dI v c b f
section
variable{C:dU} {w0:World} {N0:Nat} {G:Nat->Prop} {ρ:Ren} {st dI:St} {w:World} {v:Value}
theorem pq.same(c:dj w0 N0 G ρ st w)(b:cY ρ v d):pq w0 N0 G ρ st v (.ok d w):=⟨ρ,d,w,rfl,Ren.le_refl _,c,b⟩
theorem c7{st dI:St}{v b:Value}(c:val v st=some (.val b dI)):b=v/\dI=st:=by
 unfold val at c;cases c;exact⟨Z,Z⟩
theorem dj.row(n:dj w0 N0 G ρ st w){c:List Value}{f:Array Value}{es:Nat}(b:TypeId)(h:cU ρ c f.toList):
  dj w0 N0 G (ρ.add st.n ⟨w.heap.size,0,es,f.size⟩) (st.new (.cells c es st.n 0)) {w with heap:=w.heap.push (.cells f b)}:=by
 refine n.new Z Z ⟨f,b,0,0,Z,Z,Z,?_,fun s v l=>?_,fun s _ p=>om⟩
 ·have:=h.length;simp at this;simp;omega
 ·obtain⟨m,t,o⟩:=h.get l;refine⟨m,?_,o.mono (er n.gY)⟩;simpa using t
theorem gg{f:Program}{w:World}(b:TypeId)(c:Array Value):(Go.newRow b c).run f w=.ok ⟨w.heap.size,0,none⟩ {w with heap:=w.heap.push (.cells c b)}:=by
 simp[Go.newRow,newObj,Sem.run]
theorem LD(f:l6 C)(o:dj w0 N0 G ρ st w){t:TypeId}(c:uG C t st=some (.val v dI)):pq w0 N0 G ρ dI v ((Instr.alloc t true (.tuple #[])).run C.P w):=by
 unfold uG at c;split at c
 ·rename_i ti h;obtain⟨rfl,rfl⟩:=c7 c;obtain⟨n,m,l⟩:=kW f h w;have b:cU ρ ti.zero n.cells.toList:=by rw[l.cells];exact iO (f.vD _ _ h) ρ
  refine⟨_,.pointer (some ⟨w.heap.size,0,none⟩),_,?_,er o.gY,o.row t b,?_⟩
  ·simp only[Instr.alloc,Sem.run_bind,m,Result.andThen_ok,newVar,gg,Sem.run_pure]
  ·exact .ptr (l:=⟨w.heap.size,0,ti.size,n.cells.size⟩) (c6 _ _ _)
 ·cases c
theorem Rs(f:dj w0 N0 G ρ st w){t:TypeId}(c:cY ρ d r)(b:H5 d st=some (.val v dI)):pq w0 N0 G ρ dI v ((Instr.box t r).run C.P w):=by
 unfold H5 at b;split at b
 ·obtain⟨rfl,rfl⟩:=c7 b;refine⟨_,.pointer (some ⟨w.heap.size,0,none⟩),_,?_,er f.gY,f.row t c.cells,?_⟩
  ·simp only[Instr.box,Sem.run_bind,Result.andThen_ok,newVar,gg,Sem.run_pure]
  ·exact .ptr (l:=⟨w.heap.size,0,_,r.cells.size⟩) (c6 _ _ _)
 ·cases b
theorem oF{b o:Nat}(c:cY ρ (.pointer (some ⟨b,o,none⟩)) d):∃f,ρ b=some f/\d=.pointer (some ⟨f.b,f.d+o,none⟩):=by
 cases c with
 |ptr c=>exact⟨_,c,rfl⟩
theorem Ie(A:dj w0 N0 G ρ st w){b o:Nat}{l:Loc}(m:ρ b=some l)(h:fY st b o 1=some [d]):
  ∃c,w.cell? ⟨l.b,l.d+o,none⟩=some c/\cY ρ d c:=by
 obtain⟨f,es,D,E,n,x,v⟩:=mX h;obtain⟨z,t,lo,hi,C,B⟩:=A.obj _ _ _ m n;have p:f[o]?=some d:=by
  have:((f.drop o).take 1)[0]?=some d:=by rw[<-v];rfl
  simpa using this
 obtain⟨c,s,y⟩:=B.cell _ _ p;exact⟨c,by rw[cell_of C];exact s,y⟩
theorem Fp(p:l6 C)(H:dj w0 N0 G ρ st w){t:TypeId}(F:cY ρ d r)(h:vv C t d st=some (.val v dI)):
  ∃s,(Instr.loadAt t r).run C.P w=.ok s w/\cY ρ v s/\dI=st:=by
 unfold vv at h;split at h
 ·rename_i ti b o n;obtain⟨M,x,rfl⟩:=oF F;split at h
  ·rename_i c z m;split at h
   ·rename_i L f;obtain⟨rfl,rfl⟩:=c7 h;cases l:ti.agg with
    |true=>
     obtain⟨B,A,y⟩:=H.read x m C.P;refine⟨.agg B,?_,?_,Z⟩
     ·simp only[Instr.loadAt,Instr.sureAddr,loadVar,Sem.run_bind,Sem.run_pure,Result.andThen_ok,zh p n,l,if_true,e1 p n,A]
     ·rw[l]at f;simp[Fi]at f;subst f;exact .agg y
    |false=>
     rw[l]at f z;have D:ti.size=1:=by simpa using z
     rw[D]at m;have E:=eZ m
     match c,E,f with
     |[K],_,f=>
      simp[Fi]at f;subst f;obtain⟨r,J,I⟩:=Ie H x m;refine⟨r,?_,I,Z⟩;simp only[Instr.loadAt,Instr.sureAddr,loadVar,Sem.run_bind,Sem.run_pure,Result.andThen_ok,zh p n,l,Bool.false_eq_true,if_false,run_load J]
   ·cases h
  ·cases h
 ·cases h
theorem LF(A:l6 C)(J:dj w0 N0 G ρ st w){t:TypeId}{I h:Value}(x:cY ρ d r)(s:cY ρ I h)(c:hH C t d I st=some (.val v dI)):
  ∃f,(Instr.storeAt t r h).run C.P w=.ok () f/\dj w0 N0 G ρ dI f/\v=kn/\dI.n=st.n:=by
 unfold hH at c;split at c
 ·rename_i ti b o y;obtain⟨K,z,rfl⟩:=oF x;split at c
  ·rename_i E;split at c
   ·rename_i H B;obtain⟨rfl,rfl⟩:=c7 c;obtain⟨f,D,m,F⟩:=J.write z B s.cells C.P;have l:=s.cells.length;have n:=YL E;refine⟨f,?_,m,Z,F⟩;have p:h.cells.size=ti.size:=by rw[<-n,l];simp
    simp only[Instr.storeAt,Instr.sureAddr,storeVar,Sem.run_bind,Sem.run_pure,Result.andThen_ok,e1 A y,p,ne_eq,not_true_eq_false,if_false,D]
   ·cases c
  ·cases c
 ·cases c
end
variable{a:List (Nat×Value)}
section
variable{C:dU} {w0:World} {N0:Nat} {G:Nat->Prop} {ρ:Ren} {st dI:St} {w:World} {v:Value}
theorem LG(f:List Value):∀(c:Array Value) (b h:Nat),b+h+f.length<=c.size->
  ((f.zipIdx h).foldl (fun p (t:Value×Nat)=>p.setIfInBounds (b+t.2) t.1) c).toList=dw c.toList (b+h) f:=by
 induction f with
 |nil=>intro c b h _;cases w:c.toList<;>simp[dw,w]
 |cons v f o=>
  intro c b h m;simp only[List.length_cons]at m;simp only[List.zipIdx_cons,List.foldl_cons];rw[o _ b (h+1) (by simp;omega)];refine List.ext_getElem? fun n=>?_;rw[ma _ _ _ _ (by simp;omega),ma _ _ _ _ (by simp;omega)];simp only[List.length_cons,Array.toList_setIfInBounds];by_cases s:n=b+h
  ·subst s;rw[if_neg om,if_pos om,Nat.sub_self,List.getElem?_set_self (by simp;omega)];rfl
  ·by_cases l:b+(h+1)<=n/\n<b+(h+1)+f.length
   ·rw[if_pos l,if_pos om,show n-(b+h)=(n-(b+(h+1)))+1 from by omega];rfl
   ·rw[if_neg l,if_neg om,List.getElem?_set_ne om]
inductive yd (ρ:Ren):List (Nat×Value)->List (Nat×Value)->Prop
 |nil:yd ρ [] []
 |cons {i:Nat} {v v':Value} {l l':List (Nat×Value)} (h:cY ρ v v') (t:yd ρ l l'):yd ρ ((i,v)::l) ((i,v')::l')
theorem Fq{c l b f:List Value}(p:cU ρ c l)(h:cU ρ b f){n:Nat}(m:n+b.length<=c.length):cU ρ (dw c n b) (dw l n f):=by
 have t:=p.length;have s:=h.length;refine vz (by rw[kU,kU,t]) fun w v hi=>?_;rw[ma _ _ _ _ m]at hi;rw[ma _ _ _ _ om,<-s];by_cases o:n<=w/\w<n+b.length
 ·rw[if_pos o]at hi⊢;exact h.get hi
 ·rw[if_neg o]at hi⊢;exact p.get hi
theorem vE{m place':Nat->Option (Nat×Nat)}(J:∀L n,m L=some n->place' L=some n){y:List (Nat×Value)}(E:yd ρ a y):
  ∀{c:List Value} {f:Array Value} {G:List Value},cU ρ c f.toList->oz m c a=some G->∃p,Instr.fill place' f y=some p/\cU ρ G p.toList:=by
 induction E with
 |nil=>intro c f G x h;simp[oz]at h;subst h;exact⟨f,rfl,x⟩
 |@cons L v s Q P M t K=>
  intro c f G x h;simp only[oz]at h;split at h
  ·cases h
  ·rename_i l H C;split at h
   ·rename_i b;simp only[YN]at b;have O:=YL b.1;have N:=YM b.2;have z:=M.cells.length;have F:=x.length;simp only[YT]at z F;have w:=LG s.cells.toList f l 0 (by simp;omega);have A:cU ρ (dw c l (cellsOf v)) (s.cells.zipIdx.foldl (fun o (n:Value×Nat)=>o.setIfInBounds (l+n.2) n.1) f).toList:=by
     have I:s.cells.zipIdx.foldl (fun o (n:Value×Nat)=>o.setIfInBounds (l+n.2) n.1) f=(s.cells.toList.zipIdx 0).foldl (fun o (n:Value×Nat)=>o.setIfInBounds (l+n.2) n.1) f:=by
      rw[<-Array.foldl_toList,Array.toList_zipIdx]
     rw[I,w];exact Fq x M.cells om
    obtain⟨p,D,B⟩:=K A h;refine⟨p,?_,B⟩;simp only[Instr.fill,J _ _ C];rw[if_neg ?_]
    ·exact D
    ·simp;omega
   ·cases h
theorem Fs(x:l6 C):∀(b:List Field),(b.all fun l=>(C.tt.get l.type).isSome)=true->
  ∃c:List (Nat×Nat),(b.mapM (m:=Sem) fun l=>do pure (l.offset,<-sizeOf l.type)).run C.P w=.ok c w/\∀f n,gC C ⟨b⟩ f=some n->c[f]?=some n:=by
 intro b;induction b with
 |nil=>intro _;exact⟨[],by simp,fun f n p=>by simp[gC,nth]at p⟩
 |cons l b v=>
  intro p;simp only[YV,YN]at p;obtain⟨c,y,t⟩:=v p.2;obtain⟨ti,s⟩:=Option.isSome_iff_exists.1 p.1;refine⟨(l.offset,ti.size)::c,?_,fun f n h=>?_⟩
  ·simp only[List.mapM_cons,Sem.run_bind,e1 x s,Result.andThen_ok,Sem.run_pure,y]
  ·cases f with
   |zero=>simp only[gC,nth,s]at h;simpa using h
   |succ f=>have o:gC C ⟨b⟩ f=some n:=h;simpa using t f n o
theorem LH(h:l6 C)(V:dj w0 N0 G ρ st w){t:TypeId}{ps':Array (Nat×Value)}(y:yd ρ a ps'.toList)(b:rQ C t a st=some (.val v dI)):
  ∃I,(Instr.build t ps').run C.P w=.ok I w/\cY ρ v I/\dI=st:=by
 unfold rQ at b;split at b
 ·rename_i ti s;obtain⟨U,N,M⟩:=kW h s w;have x:cU ρ ti.zero U.cells.toList:=by rw[M.cells];exact iO (h.vD _ _ s) ρ
  split at b
  ·rename_i f z;split at b
   ·rename_i c F K D;obtain⟨rfl,rfl⟩:=c7 b;obtain⟨P,J,A⟩:=Fs (w:=w) h f.toList F;obtain⟨B,p,l⟩:=vE (place':=fun H=>P.toArray[H]?) (fun H S E=>by
     have:=A H S E;simpa using this) y x D
    refine⟨.agg B,?_,.agg l,Z⟩;have R:(f.mapM (m:=Sem) fun T=>do pure (T.offset,<-sizeOf T.type)).run C.P w=.ok P.toArray w:=by
     rw[Array.mapM_eq_mapM_toList];simp only[map_eq_pure_bind,Sem.run_bind,J,Result.andThen_ok,Sem.run_pure]
    simp only[Instr.build,Sem.run_bind,N,Result.andThen_ok,dT h s,z,R,p,Sem.run_pure]
   ·cases b
  ·rename_i n Q z;split at b
   ·rename_i O L K;split at b
    ·rename_i c D;obtain⟨rfl,rfl⟩:=c7 b;obtain⟨B,p,l⟩:=vE (place':=fun H=>some (H*O.size,O.size)) (fun H S E=>E) y x D;refine⟨.agg B,?_,.agg l,Z⟩;simp only[Instr.build,Sem.run_bind,N,Result.andThen_ok,dT h s,z,e1 h L,p,Sem.run_pure]
    ·cases b
   ·cases b
  ·cases b
 ·cases b
theorem Dt(b:List Value):∀n,(tR b n).length=n*b.length/\∀c:Nat,c<n*b.length->(tR b n)[c]?=b[c%b.length]?:=by
 intro n;induction n with
 |zero=>exact⟨by simp[tR],fun c h=>om⟩
 |succ n f=>
  refine⟨by simp[tR,f.1,Nat.add_mul,Nat.add_comm],fun c h=>?_⟩;simp only[tR];by_cases hi:c<b.length
  ·rw[List.getElem?_append_left hi,Nat.mod_eq_of_lt hi]
  ·have l:c<n*b.length+b.length:=by rw[<-Nat.succ_mul];exact h
   rw[List.getElem?_append_right om,f.2 _ om];congr 1;exact(Nat.mod_eq_sub_mod om).symm
theorem s4{c:List Value}(b:c.all flat=true):∀n,(tR c n).all flat=true
 |0=>rfl
 |n+1=>by simp only[tR,List.all_append,b,Bool.true_and];exact s4 b n
theorem vF{h:Nat->Option (Nat×Nat)}:∀{b:List (Nat×Value)} {c l:List Value},oz h c b=some l->l.length=c.length:=by
 intro b;induction b with
 |nil=>intro c l f;simp[oz]at f;rw[f]
 |cons n b m=>
  intro c l f;obtain⟨o,v⟩:=n;simp only[oz]at f;split at f
  ·cases f
  ·split at f
   ·rw[m f,kU]
   ·cases f
theorem zK(b:Array Value)(n:Nat):((YX (n*b.size)).map (b[· %b.size]!)).toList=tR b.toList n:=by
 refine List.ext_getElem? fun m=>?_;have c:=Dt b.toList n;simp only[YT]at c;rcases YS m (n*b.size)with hi|hi
 ·rw[c.2 m hi];have f:0<b.size:=by
   rcases Nat.eq_zero_or_pos b.size with h|h
   ·rw[h]at hi;omega
   ·exact h
  have l:m%b.size<b.size:=Nat.mod_lt _ f;rw[YW,Array.getElem?_map,Array.getElem?_range,if_pos hi];simp[l,YW]
 ·rw[YO (by simp;omega),YO (by rw[c.1];exact hi)]
theorem zL(o:l6 C)(W:dj w0 N0 G ρ st w){t:TypeId}{n:Nat}{A:Array (Nat×Value)}(O:yd ρ a A.toList)(b:jh C t n a st=some (.val v dI)):
  pq w0 N0 G ρ dI v ((Instr.buildSlice t n A).run C.P w):=by
 unfold jh at b;split at b
 ·rename_i ti I;split at b
  ·rename_i D F;split at b
   ·rename_i h m;split at b
    ·rename_i c f K;split at b
     ·rename_i V;obtain⟨rfl,rfl⟩:=c7 b;simp only[YN]at f;have R:=YU.mp f.1.1;have X:=YM f.1.2;have y:=YL f.2;obtain⟨P,S,z⟩:=kW o m w;have N:P.cells.size=h.size:=by rw[<-y,<-z.cells];simp
      have L:cU ρ (tR h.zero n) ((YX (n*h.size)).map (P.cells[· %P.cells.size]!)).toList:=by
       rw[<-N,zK,z.cells];exact iO (s4 (o.vD _ _ m) n) ρ
      obtain⟨H,p,s⟩:=vE (place':=fun Y=>some (Y*h.size,h.size)) (fun Y e U=>U) O L K;have E:H.size=n*h.size:=by
       have J:=s.length;have Q:=vF K;have T:=(Dt h.zero n).1;simp only[YT]at J;rw[<-J,Q,T,y]
      refine⟨_,.slice (some ⟨w.heap.size,0,none⟩) n n,_,?_,er W.gY,W.row D s,?_⟩
      ·by_cases B:n*h.size=0
       ·have x:∀d:Nat->Value,Array.map d (YX 0)= #[]:=fun _=>Array.eq_empty_of_size_eq_zero sm;simp only[B,x]at p;simp only[Instr.buildSlice,Sem.run_bind,dT o I,F,Result.andThen_ok,e1 o m,B,if_neg (by omega:¬0>2^24),if_true,Sem.run_pure,x,p,gg]
       ·simp only[Instr.buildSlice,Sem.run_bind,dT o I,F,Result.andThen_ok,e1 o m,if_neg (by omega:¬n*h.size>2^24),if_neg B,S,Sem.run_pure,p,gg]
      ·refine .slice (l:=⟨w.heap.size,0,h.size,H.size⟩) (c6 _ _ _) (Nat.le_refl _) ?_;simp[E]
     ·cases b
    ·cases b
   ·cases b
  ·cases b
 ·cases b
end
theorem zM{c b:Int}:oy c b=true↔c=b:=by
 cases c<;>cases b<;>simp only[oy,Nat.beq_eq]<;>first|(constructor<;>intro f<;>first|omega|(cases f;rfl)|(subst f;rfl))|simp
theorem pL(c b:Int):oy c b=(c==b):=by
 rw[YQ,zM];simp
variable{g u:IntKind}
theorem ql:rO g u=true↔g=u:=by
 cases g<;>cases u<;>simp[rO]
theorem If{c b:Int}:rP c b=true↔c<b:=by
 cases c<;>cases b<;>simp only[rP,YU];all_goals simp only[Int.negSucc_eq,Int.ofNat_eq_natCast]
 ·omega
 ·exact⟨fun f=>absurd f sm,fun f=>om⟩
 ·exact⟨fun _=>om,fun _=>trivial⟩
 ·omega
theorem xi(c b:Int):rP c b=decide (c<b):=by
 rw[YQ,If];simp
theorem oG:∀(c b:List UInt8),kP c b=(c==b):=by
 intro c;induction c with
 |nil=>intro b;cases b<;>rfl
 |cons h c l=>
  intro b;cases b with
  |nil=>rfl
  |cons f b=>
   simp only[kP];cases m:Nat.beq h.toNat f.toNat with
   |true=>
    have:h=f:=UInt8.toNat_inj.1 (YL m);subst this;simp[l]
   |false=>
    have:h≠f:=fun n=>YR m (by rw[n]);simp[this]
theorem Ft:∀(h b:List UInt8),cB h b=Op.bytesLess h b:=by
 intro h;induction h with
 |nil=>intro b;cases b<;>rfl
 |cons f h m=>
  intro b;cases b with
  |nil=>rfl
  |cons c b=>
   simp only[cB,Op.bytesLess];have l:(decide (f<c))=Nat.blt f.toNat c.toNat:=by
    rw[YQ];simp[UInt8.lt_iff_toNat_lt]
   rw[l];cases Nat.blt f.toNat c.toNat with
   |true=>rfl
   |false=>
    cases n:Nat.beq f.toNat c.toNat with
    |true=>
     have:f=c:=UInt8.toNat_inj.1 (YL n);subst this;simp[m]
    |false=>
     have:f≠c:=fun o=>YR n (by rw[o]);simp[this]
theorem toList_data(b:ByteArray):b.toList=b.data.toList:=by
 rw[Go.ByteArray.toList_eq]
variable{i:BinOp}
section
variable{C:dU} {w0:World} {N0:Nat} {G:Nat->Prop} {ρ:Ren} {st dI:St} {w:World} {v:Value}
theorem Ig{l b:Int}(h:rS i g l b=some v)(m:zd i=false)(t:TypeId):(binOp i t (.int g l) (.int g b)).run C.P w=.ok v w:=by
 cases i<;>simp[zd]at m<;>simp only[rS,Option.some.injEq]at h
 case quo=>
  split at h
  ·cases h
  ·rename_i f;have c:b≠0:=by rw[pL]at f;simpa using f
   cases h;simp[binOp,Op.intDiv,c]
 case rem=>
  split at h
  ·cases h
  ·rename_i f;have c:b≠0:=by rw[pL]at f;simpa using f
   cases h;simp[binOp,Op.intDiv,c]
 all_goals
  subst h;simp only[binOp,ne_eq,not_true_eq_false,if_false,Op.intArith,Op.intBits,Op.intCmp,Sem.run_pure,pL,xi];try rfl
 ·have:decide (l<=b)= !decide (b<l):=by rw[YQ];simp
  rw[this]
 ·have:decide (l≥b)= !decide (l<b):=by rw[YQ];simp
  rw[this]
theorem Du{f b:Int}(c:rT i g f b=some v)(t:TypeId):(binOp i t (.int g f) (.int u b)).run C.P w=.ok v w:=by
 unfold rT at c;split at c
 ·rename_i n;split at c
  ·cases c;simp[binOp,Op.shift];intro c;omega
  ·cases c;simp[binOp,Op.shift];intro c;omega
  ·cases c
 ·cases c
theorem size_data(s:ByteArray):s.size=s.data.toList.length:=by
 cases s;rfl
theorem LI(c b:ByteArray):c++b=H3 c b:=by
 apply ByteArray.ext;simp[H3,ByteArray.data_append]
theorem Ih{c b:ByteArray}(h:uH i c b=some v)(t:TypeId):(binOp i t (.string c) (.string b)).run C.P w=.ok v w:=by
 have m:(c.toList==b.toList)=nC c b:=by rw[toList_data,toList_data,nC,oG]
 have n:Op.bytesLess c.toList b.toList=Ct c b:=by rw[toList_data,toList_data,Ct,Ft]
 cases i<;>simp only[uH,Option.some.injEq]at h
 case add=>
  split at h
  ·rename_i l;cases h;have:=YM l;have f:¬(((c.size+b.size:Nat):Int)>IntKind.i64.max):=by
    rw[size_data,size_data];simp[IntKind.max,IntKind.signed,IntKind.bits];simp at this;omega
   simp only[binOp,Op.stringOp,if_neg f,Sem.run_pure,LI]
  ·cases h
 all_goals first
  |cases h;done
  |(subst h;simp only[binOp,Op.stringOp,Sem.run_pure,m,n])
end
end Go.AM
