/- Part of the proof. -/
import Derived.Test.YtpejealjkmhkgaaGreatDoorKAy
set_option linter.all false
set_option maxHeartbeats 16000000
set_option maxRecDepth 100000
open List renaming getElem?_eq_getElem->YL,getElem?_eq_some_iff->YN,pairwise_cons->YO,all_eq_true->YP,map_cons->YR,append_assoc->YS,map_congr_left->YU,mem_cons->YV,length_cons->YW,map->YX,take_append_drop->Y0,getElem?_of_mem->Y1
open Int renaming ofNat->YM
open Bool renaming and_eq_true->YQ,eq_false_iff->YT
open Nat renaming beq->YY,le_of_ble_eq_true->YZ
namespace Go.Proofs.YtpejealjkmhkgaaGreatDoor
open Go.AM Go.VM
def c0(t:Tok)(a:List UInt8):Bool:=decide (t.text=a)&&(decide (t.kind=5)||decide (t.kind=6))
theorem Jd{c:Rd}{p:Nat}{e:Bool}{f:Bool}{o:cL}(g:e=f):cP 1 (.ret (ct e)) [.box (ub c p),o] fun d b=>∃a,b=[.box a]/\cN d=true/\e5 0 a=true/\(d=.ret (ct f)/\a=ub c p):=
 .drop 1 rfl rfl rfl (.now rfl ⟨ub c p,rfl,rfl,rfl,by rw[g],rfl⟩)
theorem pb(e:Rd)(p:Nat)(t:Tok)(f:List UInt8)(k:e.ts[p]?=some t)(g:Nat){c:VS}{i:dC->VS->Prop}(d:nth c g=some (dq e p))(h:i (.ret (ct (c0 t f))) c):b1 C b7 jr [.bp g 0,cq f] c i:=by
 refine b1.one (dN:=[.bp 0 0,cq f]) (P:=fun l j=>l=.ret (ct (c0 t f))/\j=ub e p) ?_ g d Z Z Z (fun l m a=>by rw[a.1,a.2];show i _ (c.set g (dq e p));rw[sE d];exact h);refine cz ?_;refine ei e p t k 0 Z ?_;apply aZ<;>intro a
 ·repeat refine a8 a ?_
  apply aZ<;>intro b
  ·repeat first|refine a8 b ?_|refine a8 a ?_
   refine Jd ?_;rw[c0,a,show t.kind=5 from CM (b:=5) b];rfl
  ·repeat first|refine a6 b ?_|refine a8 a ?_
   refine Jd ?_;have:t.kind≠5:=Er (b:=5) b;rw[c0,a,decide_eq_false this,Bool.true_and,Bool.false_or];exact decide_eq_decide.2 (by simp only[Int.ofNat_eq_natCast];omega)
 ·repeat refine a6 a ?_
  refine Jd ?_;rw[c0,a];rfl
theorem qN{t:Tok}{b:List UInt8}(a:c0 t b=true):t.kind≠0:=by
 simp only[c0,YQ,Bool.or_eq_true,decide_eq_true_eq]at a;omega
theorem cG(g:Rd)(p:Nat)(t:Tok)(c:List UInt8)(f:g.ts[p]?=some t)(h:p<4294967296)(e:Nat){a:VS}{i:dC->VS->Prop}(b:nth a e=some (dq g p)) 
  (j:c0 t c=true->i (.ret (ct true)) (a.set e (dq g (p+1)))) (k:c0 t c=false->i (.ret (ct false)) a):b1 C b7 B8 [.bp e 0,cq c] a i:=by
 refine b9 ?_;refine pb g p t c f e b ?_;apply aZ<;>intro l
 ·exact k (by simpa using l)
 ·have d:c0 t c=true:=by simpa using l
  refine dr g p t f h e b ?_;have m:dW t p=p+1:=by rw[dW,if_neg (qN d)]
  rw[m];exact j d
theorem n8(d:Rd)(p c:Nat)(t:Tok)(n:d.ts[p]?=some t)(j:p<4294967296)(h:Nat){b:VS}{k:dC->VS->Prop}(g:nth b h=some (dq d p)) 
  (m:t.kind=c->k (.ret (cq t.text)) (b.set h (dq d (dW t p)))) (o:t.kind≠c->k (.eE (dt t.off 3)) (b.set h (dq d (dW t p)))):b1 C b7 sn [.bp h 0,b3 c] b k:=by
 refine b1.one (dN:=[.bp 0 0,b3 c]) (P:=fun l i=>i=ub d (dW t p)/\((t.kind=c/\l=.ret (cq t.text))∨(t.kind≠c/\l=.eE (dt t.off 3)))) ?_ h g Z Z Z ?_
 ·refine cz ?_;refine dr d p t n j 0 Z ?_;apply aZ<;>intro a
  ·have f:t.kind≠c:=fun e=>by
    rw[e]at a;rw[Bool.not_eq_true',decide_eq_false_iff_not]at a;exact a Z
   refine eO _ t.off 3 ?_;exact a7 1 ⟨ub d (dW t p),Z,Z,Z,Z,.inr ⟨f,Z⟩⟩
  ·have f:t.kind=c:=by
    rw[Bool.not_eq_false']at a;exact CM a
   exact a7 1 ⟨ub d (dW t p),Z,Z,Z,Z,.inl ⟨f,Z⟩⟩
 ·rintro l i ⟨rfl,⟨a,rfl⟩|⟨a,rfl⟩⟩
  ·exact m a
  ·exact o a
theorem jR(d:Rd)(p:Nat)(t:Tok)(i:d.ts[p]?=some t)(e:p<4294967296)(c:Nat){a:VS}{f:dC->VS->Prop}(b:nth a c=some (dq d p)) 
  (h:t.kind=1->f (.ret (cq t.text)) (a.set c (dq d (p+1)))) (j:t.kind≠1->f (.eE (dt t.off 3)) (a.set c (dq d (dW t p)))):b1 C b7 ur [.bp c 0] a f:=by
 refine b9 ?_;refine n8 d p 1 t i e c b (fun g=>?_) (fun g=>?_)
 ·have k:dW t p=p+1:=by rw[dW,if_neg om]
  rw[k];exact h g
 ·exact j g
inductive PR (α:Type)where
 |ok (a:α) (p:Nat)
 |bad (off e:Nat)
structure Rd.Wf (R:Rd):Prop where
 len:R.ts.length<4294967296
 go:∀p t,R.ts[p]?=some t->t.kind≠0->p+1<R.ts.length
def Rd.tok(a:Rd)(p:Nat):Tok:=(a.ts[p]?).getD ⟨0,[],0⟩
theorem bZ{a:Rd}{p:Nat}(b:p<a.ts.length):a.ts[p]?=some (a.tok p):=by
 rw[Rd.tok,YL b];rfl
theorem Rd.Wf.step{a:Rd}(e:a.Wf){p:Nat}{c:List UInt8}(d:p<a.ts.length)(b:c0 (a.tok p) c=true):p+1<a.ts.length:=e.go p _ (bZ d) (qN b)
theorem Rd.Wf.dW{a:Rd}(c:a.Wf){p:Nat}(b:p<a.ts.length):dW (a.tok p) p<a.ts.length:=by
 unfold YtpejealjkmhkgaaGreatDoor.dW;split
 ·exact b
 ·exact c.go p _ (bZ b) (by assumption)
def cu(b:Rd):List (List UInt8)->Nat->PR Unit
 |[],a=>.ok () a
 |s::c,a=>if c0 (b.tok a) s then cu b c (a+1)else .bad (b.tok a).off 3
theorem c8{c:Rd}(h:c.Wf):∀(e:List (List UInt8)) (d a:Nat),d<c.ts.length->cu c e d=.ok () a->a<c.ts.length:=by
 intro e;induction e with
 |nil=>intro d a f b;cases b;exact f
 |cons s e g=>
  intro d a f b;rw[cu]at b;split at b
  ·exact g _ _ (h.step f (by assumption)) b
  ·cases b
def Yp{α:Type}(f:Rd)(e:Nat)(b:VS)(d:dC->VS->Prop)(val:α->V):PR α->Prop
 |.ok g c=>d (.ret (val g)) (b.set e (dq f c))
 |.bad a h=>∀c,d (.eE (dt a h)) (b.set e (dq f c))
def eQ(l:List (List UInt8)):List (List D):=l.map fun a=>[.str a]
theorem ej(c:Rd)(E:c.Wf)(l:List (List UInt8))(F:l.length<4294967296)(p:Nat)(B:p<c.ts.length)(b d y:Nat){s:VS}{D:dC->VS->Prop}(w:nth s y=some (dq c p)) 
  (n:Yp c y s D (fun _=>.dV []) (cu c l p)):b1 C b7 uq [.bp y 0,.d (.ps b 0 1 d (eQ l))] s D:=by
 refine b1.one (dN:=[.bp 0 0,.d (.ps b 0 1 d (eQ l))]) (P:=fun z r=>match cu c l p with
  |.ok _ g=>z=.ret (.dV [])/\r=ub c g
  |.bad o e=>z=.eE (dt o e)/\∃g,r=ub c g) ?_ y w rfl rfl rfl ?_
 ·refine b9 ?_;refine cl.less (eW:=[(8,b3 0),(7,b3 l.length),(6,.d (.ps b 0 1 d (eQ l))),(0,.bp 0 0)]) ⟨Z,int_eq (by simp[eQ]),rfl,rfl,tv⟩ ?_;refine cl.iter (fun k:Nat×Nat=>[(8,b3 k.1),(7,b3 l.length),(6,.d (.ps b 0 1 d (eQ l))),(0,.bp 0 0)]) (fun k=>[.box (ub c k.2)]) (fun k=>l.length-k.1)
   (fun k=>k.1<=l.length/\k.2<c.ts.length/\cu c l p=cu c (l.drop k.1) k.2) ?_ (0,p) ⟨Nat.zero_le _,B,rfl⟩
  rintro⟨f,q⟩ ⟨x,i,j⟩;have x:f<=l.length:=x;have i:q<c.ts.length:=i;have j:cu c l p=cu c (l.drop f) q:=j;have A:=E.len;apply aZ<;>intro t
  ·have h:f<l.length:=fF t;refine b0 Z ?_;refine b4 [.str l[f]] (by rw[cv,eQ,List.getElem?_map,YL h];rfl) ?_;have u:l.drop f=l[f]::l.drop (f+1):=List.drop_eq_getElem_cons h;refine cG c q (c.tok q) l[f] (bZ i) om 0 Z (fun m=>?_) (fun m=>?_)
   ·refine⟨(f+1,q+1),⟨h,E.step i m,?_⟩,?_,.same ⟨int_eq (cp om),Z,Z,Z,tv⟩ Z,Z,Z⟩
    ·show cu c l p=cu c (l.drop (f+1)) (q+1);rw[j,u,cu,if_pos m]
    ·show l.length-(f+1)<l.length-f;omega
   ·refine ei c q (c.tok q) (bZ i) 0 Z ?_;refine eO _ (c.tok q).off 3 ?_;refine⟨ub c q,Z,Z,Z,?_⟩;rw[j,u,cu,if_neg (by rw[m];decide)];exact⟨Z,q,Z⟩
  ·have h:l.length<=f:=dR t;refine⟨ub c q,Z,Z,Z,?_⟩;rw[j,List.drop_of_length_le h];exact⟨Z,Z⟩
 ·intro z r t;cases v:cu c l p with
  |ok a g=>rw[v]at t n;obtain⟨rfl,rfl⟩:=t;exact n
  |bad o e=>rw[v]at t n;obtain⟨rfl,g,rfl⟩:=t;exact n g
end Go.Proofs.YtpejealjkmhkgaaGreatDoor
namespace Go.VM
open Go.AM
section
variable{C:dU} {cD:FuncId->List Value->Option Value}
theorem en(f:Nat->Nat)(o:cL)(a:fG 0 o=true):dH f o=o:=by
 cases o with
 |box g=>simp only[dH];rw[fj _ g a]
 |row d c=>
  simp only[dH];congr 1;simp only[fG,YP]at a;conv=>rhs;rw[<-List.map_id c]
  exact YU fun e b=>fj _ e (a e b)
 |map d m=>
  simp only[dH];congr 1;simp only[fG,YP,YQ]at a;conv=>rhs;rw[<-List.map_id d]
  exact YU fun e b=>by
   obtain⟨h,i,k⟩:=e;have:=a _ b;simp only[I3,jp _ h this.1,jp _ i this.2,id]
 |loop l=>simp only[fG,YQ]at a;exact absurd (gi a.2) (Nat.not_lt_zero _)
 |eG j=>rfl
 |gone=>rfl
theorem iA(c:Nat)(o:cL)(b:fG 0 o=true):fG c o=true:=by
 cases o with
 |box d=>exact gl c d b
 |row f g=>simp only[fG,YP]at b⊢;exact fun e a=>gl c e (b e a)
 |map f j=>simp only[fG,YP,YQ]at b⊢;exact fun e a=>⟨KU c _ (b e a).1,KU c _ (b e a).2⟩
 |loop i=>simp only[fG,YQ]at b;exact absurd (gi b.2) (Nat.not_lt_zero _)
 |eG h=>rfl
 |gone=>rfl
theorem b1.two{f:FuncId}{dN c:List V}{g e:cL}{P:dC->cL->cL->Prop}(s:b1 C cD f dN [g,e] fun k p=>∃b a,p=[b,a]/\cN k=true/\fG 0 b=true/\fG 0 a=true/\P k b a) 
  (j i:Nat) (l:j≠i) {d:VS} {D:dC->VS->Prop} (w:nth d j=some g) (r:nth d i=some e) (n:fG 0 g=true) (o:fG 0 e=true) (m:e5 2 dN=true) (z:c=gU (jg [j,i] d.length) dN)
  (t:∀k b a,P k b a->D k ((d.set j b).set i a)):b1 C cD f c d D:=by
 refine s.frame [j,i] Z (by simp[l]) (fun E q h=>?_) m z (fun v u h _=>?_)
 ·match E,h with
  |0,h=>
   obtain rfl:j=q:=by simpa using h
   exact⟨g,Z,by rw[<-cv,w,en _ _ n],iA _ _ n⟩
  |1,h=>
   obtain rfl:i=q:=by simpa using h
   exact⟨e,Z,by rw[<-cv,r,en _ _ o],iA _ _ o⟩
  |E+2,h=>simp at h
 ·obtain⟨b,a,rfl,A,B,x,y⟩:=h;rw[k7 _ _ A];simp only[YR,List.map_nil,en _ _ B,en _ _ x,merge,List.append_nil];exact t v b a y
end
end Go.VM
namespace Go.Proofs.YtpejealjkmhkgaaGreatDoor
open Go.AM Go.VM
def eC:Nat->List (List UInt8)->List pP
 |_,[]=>[]
 |k,a::b=>⟨cq a,ct true,k⟩::eC (k+1) b
theorem Pf(l:List (List UInt8))(b:List UInt8):∀a,eC a (l++[b])=eC a l++[⟨cq b,ct true,a+l.length⟩]:=by
 induction l with
 |nil=>intro a;rfl
 |cons d l c=>
  intro a;show _::eC (a+1) (l++[b])=_;rw[c];simp only[eC,List.cons_append,YW];rw[show a+1+l.length=a+(l.length+1)from by omega]
def nj(a:List (List UInt8)):cL:=.map (eC 0 a) a.length
theorem GB(a:List (List UInt8))(b:List UInt8):nj (a++[b])=.map (eC 0 a++[⟨cq b,ct true,a.length⟩]) (a.length+1):=by
 rw[nj,Pf,Nat.zero_add,List.length_append];rfl
theorem fQ(a:List (List UInt8)):fG 0 (nj a)=true:=by
 have:∀(b:List (List UInt8)) (d:Nat),(eC d b).all (fun e=>bd 0 e.key&&bd 0 e.val)=true:=by
  intro b;induction b with
  |nil=>intro d;rfl
  |cons f b c=>intro d;simp only[eC,List.all_cons,c];rfl
 exact this a 0
theorem xO{c:List UInt8}:∀{a:List (List UInt8)} {d b:Nat},c ∉ a->eN .string (cq c) (eC d a) b=some none:=by
 intro a;induction a with
 |nil=>intro d b _;rfl
 |cons h i e=>
  intro d b g;show(match decide (c=h)with
   |true=>some (some (b,ct true))
   |false=>eN .string (cq c) (eC (d+1) i) (b+1))=_
  rw[decide_eq_false (fun f=>g (by simp[f]))];exact e (fun f=>g (by simp[f]))
theorem Mx{b:List UInt8}:∀{a:List (List UInt8)} {k i:Nat},b∈a->∃f,eN .string (cq b) (eC k a) i=some (some (f,ct true)):=by
 intro a;induction a with
 |nil=>intro k i c;simp at c
 |cons g j d=>
  intro k i c;by_cases h:b=g
  ·refine⟨i,?_⟩;show(match decide (b=g)with
    |true=>some (some (i,ct true))
    |false=>eN .string (cq b) (eC (k+1) j) (i+1))=_
   rw[decide_eq_true h]
  ·obtain⟨f,e⟩:=d (k:=k+1) (i:=i+1) (by simpa [h]using c);refine⟨f,?_⟩;show(match decide (b=g)with
    |true=>some (some (i,ct true))
    |false=>eN .string (cq b) (eC (k+1) j) (i+1))=_
   rw[decide_eq_false h];exact e
theorem n9(b:Rd)(y:b.Wf)(p:Nat)(l:p<b.ts.length)(a:List (List UInt8))(h i:Nat)(j:h≠i){e:VS}{n:dC->VS->Prop}(m:nth e h=some (dq b p))(v:nth e i=some (nj a)) 
  (r:(b.tok p).kind=1->(b.tok p).text ∉ a->n (.ret (cq (b.tok p).text)) ((e.set h (dq b (p+1))).set i (nj (a++[(b.tok p).text]))))
  (q:(b.tok p).kind=1->(b.tok p).text∈a->n (.eE (dt (b.tok p).off 5)) ((e.set h (dq b (p+1))).set i (nj a)))
  (u:(b.tok p).kind≠1->n (.eE (dt (b.tok p).off 3)) ((e.set h (dq b (dW (b.tok p) p))).set i (nj a))):b1 C b7 AA [.bp h 0,.map i] e n:=by
 refine b1.two (dN:=[.bp 0 0,.map 1]) (P:=fun o g f=>
  ((b.tok p).kind=1/\(b.tok p).text ∉ a/\o=.ret (cq (b.tok p).text)/\g=dq b (p+1)/\f=nj (a++[(b.tok p).text]))∨
  ((b.tok p).kind=1/\(b.tok p).text∈a/\o=.eE (dt (b.tok p).off 5)/\g=dq b (p+1)/\f=nj a)∨
  ((b.tok p).kind≠1/\o=.eE (dt (b.tok p).off 3)/\g=dq b (dW (b.tok p) p)/\f=nj a)) ?_ h i j m v rfl (fQ a) rfl rfl ?_
 ·have s:=y.len;refine b9 ?_;refine ei b p (b.tok p) (bZ l) 0 Z ?_;refine jR b p (b.tok p) (bZ l) om 0 Z (fun d=>?_) (fun d=>?_)
  ·by_cases c:(b.tok p).text∈a
   ·obtain⟨x,w⟩:=Mx (k:=0) (i:=0) c;refine b4 (some (x,ct true)) w ?_;refine eO _ (b.tok p).off 5 ?_;exact⟨_,_,Z,Z,Z,fQ a,.inr (.inl ⟨d,c,Z,Z,Z⟩)⟩
   ·refine b4 none (xO c) ?_;refine b4 none (xO c) ?_;refine⟨dq b (p+1),nj (a++[(b.tok p).text]),?_,Z,Z,fQ _,.inl ⟨d,c,Z,Z,Z⟩⟩;rw[GB];rfl
  ·exact⟨_,_,Z,Z,Z,fQ a,.inr (.inr ⟨d,Z,Z,Z⟩)⟩
 ·rintro o g f (⟨k,t,rfl,rfl,rfl⟩|⟨k,t,rfl,rfl,rfl⟩|⟨k,rfl,rfl,rfl⟩)
  ·exact r k t
  ·exact q k t
  ·exact u k
inductive Ty where
 |mk (kind:Nat) (mod name:List UInt8) (args:List Ty) (fields:List (List UInt8×Ty×Bool))
mutual
inductive gK:Ty->List D->Prop
 |mk {k:Nat} {m n:List UInt8} {args:List Ty} {fields:List (List UInt8×Ty×Bool)} {a f:D} (ha:ib args a) (hf:ee fields f):gK (.mk k m n args fields) [.int .i64 (YM k),.str m,.str n,a,f]
inductive ib:List Ty->D->Prop
 |nil:ib [] .cn
 |ps {b o cap:Nat} {l:List Ty} {els:List (List D)} (h:eX l els) (YI:els≠[]):ib l (.ps b o 5 cap els)
inductive eX:List Ty->List (List D)->Prop
 |nil:eX [] []
 |cons {t:Ty} {d:List D} {l:List Ty} {els:List (List D)} (h:gK t d) (hl:eX l els):eX (t::l) (d::els)
inductive ee:List (List UInt8×Ty×Bool)->D->Prop
 |nil:ee [] .cn
 |ps {b o cap:Nat} {l:List (List UInt8×Ty×Bool)} {els:List (List D)} (h:sF l els):ee l (.ps b o 7 cap els)
inductive sF:List (List UInt8×Ty×Bool)->List (List D)->Prop
 |nil:sF [] []
 |cons {n:List UInt8} {t:Ty} {o:Bool} {d:List D} {l:List (List UInt8×Ty×Bool)} {els:List (List D)} (h:gK t d) (hl:sF l els):sF ((n,t,o)::l) ((.str n::d++[.bool o])::els)
end
theorem eX.snoc{l:List Ty}{a:List (List D)}{t:Ty}{f:List D}(g:eX l a)(e:gK t f):eX (l++[t]) (a++[f]):=by
 induction l generalizing a with
 |nil=>cases g;exact .cons e .nil
 |cons h l b=>cases g with|cons d c=>exact .cons d (b c)
theorem gK.di{t:Ty}{a:List D}(e:gK t a):∃g h d i b,a=[.int .i64 (YM g),.str h,.str d,i,b]:=by
 cases e with|mk f c=>exact⟨_,_,_,_,_,rfl⟩
structure eo (ty:Nat->PR Ty) (R:Rd) (lo:Nat):Prop where
 lt:∀p t q,lo<=p->p<R.ts.length->ty p=.ok t q->p<q/\q<R.ts.length
 call:∀p,lo<=p->p<R.ts.length->∀(i:Nat) (σ:VS) (K:dC->VS->Prop),nth σ i=some (dq R p)->(∀t d q,ty p=.ok t q->gK t d->K (.ret (.agg (d.map V.d))) (σ.set i (dq R q)))->
  (∀off e q,ty p=.bad off e->K (.eE (dt off e)) (σ.set i (dq R q)))->b1 C b7 dk [.bp i 0] σ K
def dE(b:Nat->PR Ty)(g:Rd):Nat->List Ty->Nat->PR (List Ty)
 |0,_,_=>.bad 0 3
 |f+1,a,j=>match b j with
  |.bad e c=>.bad e c
  |.ok i d=>if c0 (g.tok d) [44]then dE b g f (a++[i]) (d+1)else match cu g [[93]] d with
   |.ok _ h=>.ok (a++[i]) h
   |.bad e c=>.bad e c
def hQ(b:Nat->PR Ty)(a:Rd)(p:Nat):PR (List Ty):=if c0 (a.tok p) [91]then dE b a a.ts.length [] (p+1)else .ok [] p
def W8(b:Rd)(p:Nat):List (List D)->VS
 |[]=>[dq b p,.box [.bp 0 0],.box [.d .cn]]
 |e::a=>[dq b p,.box [.bp 0 0],.box [.ms 3 5 0 (a.length+1) (a.length+1)],.row 5 ((e::a).map fun c=>c.map V.d)]
def qO:List V:=[.d (.int .i64 0),.d (.str []),.d (.str []),.d .cn,.d .cn]
def Uj:Nat->Bool:=fun a=>YY a 5||YY a 13
def TD:Nat->Bool:=fun a=>YY a 6
theorem EC{a n c:Nat}(e:c<=a)(b:a<4294967296)(d:n=1):(c+n)*88<=eF/\c+n<=eF:=by
 unfold eF;omega
theorem Pg(a:List D):qs (a.map V.d)=some a:=by
 induction a with
 |nil=>rfl
 |cons c a b=>simp only[YR,qs,b]
theorem fZ(a:List (List D)):oK (a.map fun c=>c.map V.d)=some a:=by
 induction a with
 |nil=>rfl
 |cons e d b=>simp only[YR,oK,Pg,b]
def GC(f:Rd)(h:PR (List Ty))(e:dC)(a:VS):Prop:=match h with
 |.ok i c=>a=[dq f c]/\∃d,ib i d/\e=.ret (.d d)
 |.bad b g=>∃c,a=[dq f c]/\e=.eE (dt b g)
theorem GD{h:Rd}{f:Nat}{b:VS}{l:List Ty}{els:List (List D)}{k:PR (List Ty)}(a n:Nat)(d:n=els.length)(g:nth b a=some (.row 5 (els.map fun m=>m.map V.d)))(i:eX l els)(c:els≠[])(j:k=.ok l f):
  cP 1 (.ret (.ms (a+1) 5 0 n n)) (dq h f::b) (GC h k):=by
 subst j;refine cP.freeze (a+1) (es:=5) (l:=els) g (fZ els) (fun _=>⟨Z,by simp[d]⟩) (fun e=>?_);have p:uZ (a+1) e els (.ret (.ms (a+1) 5 0 n n))=.ret (.d (.ps e (0*5) 5 n els)):=by
  show dC.ret (nf (a+1) e els (.ms (a+1) 5 0 n n))=_;rw[nf,jQ];show dC.ret (.d (.ps e (0*5) 5 n ((els.drop 0).take n)))=_;rw[eH _ _ d]
 rw[p];refine cP.drop 1 Z (by show(fG 1 (dq h f)&&ln 1 (b.set a .gone) 0)=true;rw[ln];rfl) rfl (cP.now rfl ?_);exact⟨Z,_,.ps i c,Z⟩
theorem Ph(b:Nat->Nat)(a:List D):gU b (a.map V.d)=a.map V.d:=by
 induction a with
 |nil=>rfl
 |cons d a c=>simp only[YR,gU,gJ,c]
theorem pc(c:Nat)(a:List D):e5 c (a.map V.d)=true:=by
 induction a with
 |nil=>rfl
 |cons d a b=>simp only[YR,e5,bd,b];rfl
theorem sG(c:Nat->Nat)(es:Nat)(a:List (List D)):dH c (.row es (a.map fun b=>b.map V.d))=.row es (a.map fun b=>b.map V.d):=by
 simp only[dH,List.map_map];congr 1;exact YU fun b _=>Ph c b
theorem ju(c es:Nat)(a:List (List D)):fG c (.row es (a.map fun b=>b.map V.d))=true:=by
 simp only[fG,YP,List.mem_map];rintro _ ⟨b,_,rfl⟩;exact pc c b
theorem R1(c es:Nat)(a:List (List D))(b:List D):some (cL.box [.ms c es 0 (a.length+1+1) (a.length+1+1)])=some (cL.box [.ms c es 0 ((a++[b]).length+1) ((a++[b]).length+1)]):=by simp
theorem Je(a:List (List D)):a.length+1<a.length+1+1:=Nat.lt_succ_self _
theorem AN(a:List D)(b:List (List D)):nth (List.take (b.length+1) (List.drop 0 (YX (fun c=>YX V.d c) (a::b)))++[qO]) (0+(b.length+1))=some qO:=by
 rw[cv,List.getElem?_append_right sm];simp
theorem GF(b:List D)(c:List (List D))(a:List D):(List.take (c.length+1) (List.drop 0 (YX (fun a=>YX V.d a) (b::c)))++[qO]).set (0+(c.length+1)) (a.map V.d)=YX (fun a=>YX V.d a) (b::(c++[a])):=by
 rw[List.drop_zero,List.take_of_length_le sm,List.set_append_right _ _ sm];simp
theorem Jf(b:Rd)(J:b.Wf)(d:Nat->PR Ty)(p:Nat)(I:p<b.ts.length)(A:eo d b p):
  b1 C b7 uv [.bp 0 0] [dq b p] (GC b (hQ d b p)):=by
 have N:=J.len;refine cz ?_;refine pb b p (b.tok p) [91] (bZ I) 0 Z ?_;apply aZ<;>intro L
 ·have O:=J.step I L;refine b1.body Uj (fun _=>Z) ?_;intro T;refine ej b J [[91]] dc p I _ _ 0 Z ?_;rw[cu,if_pos L,cu];refine cl.less (eW:=[(0,.bp 0 0),(1,.fn rq [] [.bp 2 0,.bp 1 0])]) ⟨Z,Z,tv⟩ ?_;refine cl.iter (fun _:Nat×List Ty×List (List D)=>[(0,.bp 0 0),(1,.fn rq [] [.bp 2 0,.bp 1 0])]) (fun f=>W8 b f.1 f.2.2) (fun f=>b.ts.length-f.1)
   (fun f=>p<f.1/\f.1<b.ts.length/\f.2.2.length<=f.1/\eX f.2.1 f.2.2/\∃l,b.ts.length-f.1<=l/\dE d b b.ts.length [] (p+1)=dE d b l f.2.1 f.1) ?_ (p+1,[],[]) ⟨by show p<p+1;omega,O,Nat.zero_le _,.nil,_,by show b.ts.length-(p+1)<=b.ts.length;omega,rfl⟩
  rintro⟨r,y,h⟩ ⟨F,o,w,q,l,K,v⟩;have F:p<r:=F;have o:r<b.ts.length:=o;have w:h.length<=r:=w;have q:eX y h:=q;have K:b.ts.length-r<=l:=K;have v:dE d b b.ts.length [] (p+1)=dE d b l y r:=v;obtain⟨l,rfl⟩:∃z,l=z+1:=⟨l-1,om⟩;have n:hQ d b p=dE d b (l+1) y r:=by rw[hQ,if_pos L,v]
  rw[dE]at n;cases h with
  |nil=>
   refine b1.body TD (fun _=>Z) ?_;intro Q;repeat refine b6 ?_
   refine A.call r om o 0 _ _ ?_ (fun B S a c i=>?_) (fun s R a c=>?_)
   ·exact Z
   ·obtain⟨z,H,G,E,g,rfl⟩:=i.di;obtain⟨P,m⟩:=A.lt r B a om o c;repeat first
     |refine b0 rfl ?_
     |refine b8 ?_
    refine b4 qO Z ?_;refine cG b a (b.tok a) [44] (bZ m) om 0 ?_ (fun e=>?_) (fun e=>?_)
    ·exact Z
    ·refine⟨(a+1,y++[B],[[.int .i64 (YM z),.str H,.str G,E,g]]),⟨by show p<a+1;omega,J.step m e,by show 1<=a+1;omega,q.snoc i,l,by show b.ts.length-(a+1)<=l;omega,?_⟩,?_,?_,rfl,rfl⟩
     ·show dE d b b.ts.length [] (p+1)=dE d b l (y++[B]) (a+1);rw[v,dE,c];simp only[e,if_true]
     ·show b.ts.length-(a+1)<b.ts.length-r;omega
     ·exact .same ⟨Z,Z,tv⟩ Z
    ·intro M;refine ej b J [[93]] dc a m _ _ 0 ?_ ?_
     ·exact Z
     ·cases u:cu b [[93]] a with
      |ok _ x=>
       refine GD (l:=y++[B]) (els:=[[.int .i64 (YM z),.str H,.str G,E,g]]) 2 1 Z Z (q.snoc i) sm ?_;rw[n,c];simp only[e,u];rfl
      |bad s R=>
       intro x;refine a7 1 ?_;rw[n,c];simp only[e,u];exact⟨x,Z,Z⟩
   ·refine a7 1 ?_;rw[n,c];exact⟨a,Z,Z⟩
  |cons j k=>
   refine b1.body TD (fun _=>Z) ?_;intro Q;repeat refine b6 ?_
   refine A.call r om o 0 _ _ ?_ (fun B S a c i=>?_) (fun s R a c=>?_)
   ·exact Z
   ·obtain⟨z,H,G,E,g,rfl⟩:=i.di;obtain⟨P,m⟩:=A.lt r B a om o c;have t:k.length+1<=r:=w;refine a1 ?_ ?_
    ·repeat' (first|exact tv|exact rfl|exact Nat.le_refl _|exact(EC t om rfl).1|exact(EC t om rfl).2|(simp only[List.length_map,YW];omega)|refine b0 rfl ?_|refine And.intro ?_ ?_)
    refine a1 Z (a1 ⟨Z,Z,by simp,Nat.le_refl _,EC t om rfl⟩ ?_);refine a6 Z (a6 (fg (k.length+1)) ?_);refine a1 ?_ ?_
    ·repeat' (first|exact tv|exact rfl|exact YZ rfl|refine b0 rfl ?_|refine b4 qO (AN j k) ?_|refine a1 (Je k) ?_|refine And.intro ?_ ?_)
    refine b0 Z ?_;refine a1 (Je k) ?_;refine a1 ?_ ?_
    ·repeat' (first|exact tv|exact rfl|exact YZ rfl|refine b0 rfl ?_|refine b4 qO (AN j k) ?_|refine a1 (Je k) ?_|refine And.intro ?_ ?_)
    refine b4 qO (AN j k) ?_;refine cG b a (b.tok a) [44] (bZ m) om 0 ?_ (fun e=>?_) (fun e=>?_)
    ·exact Z
    ·refine⟨(a+1,y++[B],j::(k++[[.int .i64 (YM z),.str H,.str G,E,g]])),⟨by show p<a+1;omega,J.step m e,by show(k++[_]).length+1<=a+1;simp;omega,q.snoc i,l,by show b.ts.length-(a+1)<=l;omega,?_⟩,?_,?_,rfl,rfl⟩
     ·show dE d b b.ts.length [] (p+1)=dE d b l (y++[B]) (a+1);rw[v,dE,c];simp only[e,if_true]
     ·show b.ts.length-(a+1)<b.ts.length-r;omega
     ·refine .pick 3 [0,1,2,4] ⟨Z,Z,tv⟩ Z Z Z Z Z dc ⟨Z,Z,Z,Z,?_,Z,?_,ju _ _ _,tv⟩
      ·exact R1 4 5 k [.int .i64 (YM z),.str H,.str G,E,g]
      ·rw[sG];exact congrArg (fun f=>some (cL.row 5 f)) (GF j k [.int .i64 (YM z),.str H,.str G,E,g])
    ·intro M;refine ej b J [[93]] dc a m _ _ 0 ?_ ?_
     ·exact Z
     ·cases u:cu b [[93]] a with
      |ok _ x=>
       refine GD (l:=y++[B]) (els:=j::(k++[[.int .i64 (YM z),.str H,.str G,E,g]])) 3 (k.length+1+1) sm ?_ (q.snoc i) sm ?_
       ·exact congrArg (fun f=>some (cL.row 5 f)) (GF j k [.int .i64 (YM z),.str H,.str G,E,g])
       ·rw[n,c];simp only[e,u];rfl
      |bad s R=>
       intro x;refine a7 1 ?_;rw[n,c];simp only[e,u];exact⟨x,Z,Z⟩
   ·refine a7 1 ?_;rw[n,c];exact⟨a,Z,Z⟩
 ·refine a7 1 ?_;rw[hQ,if_neg (by rw[L];decide)];exact⟨Z,.cn,.nil,Z⟩
theorem ny(b:Rd)(A:b.Wf)(c:Nat->PR Ty)(p:Nat)(y:p<b.ts.length)(v:eo c b p)(n:Nat){f:VS}{s:dC->VS->Prop}(m:nth f n=some (dq b p)) 
  (x:∀o l q,hQ c b p=.ok o q->ib o l->s (.ret (.d l)) (f.set n (dq b q))) (j:∀a e q,hQ c b p=.bad a e->s (.eE (dt a e)) (f.set n (dq b q))):b1 C b7 uv [.bp n 0] f s:=by
 refine b1.one (dN:=[.bp 0 0]) (P:=fun t w=>GC b (hQ c b p) t [.box w]) ((Jf b A c p y v).mono fun t z d=>?_) n m Z Z Z (fun t g d=>?_)
 ·have k:=d;unfold GC at d;split at d
  ·obtain⟨rfl,l,j,rfl⟩:=d;exact⟨_,Z,Z,Z,k⟩
  ·obtain⟨q,rfl,rfl⟩:=d;exact⟨_,Z,Z,Z,k⟩
 ·unfold GC at d;split at d
  ·rename_i o q e;obtain⟨h,l,r,rfl⟩:=d;have:g=ub b q:=by injection h with i;injection i
   subst this;exact x o l q e r
  ·rename_i a u e;obtain⟨q,h,rfl⟩:=d;have:g=ub b q:=by injection h with i;injection i
   subst this;exact j a u q e
def dv(d:Nat->PR Ty)(f:Rd)(p:Nat):PR Ty:=match cu f [[91]] p with
 |.bad a b=>.bad a b
 |.ok _ g=>match d g with
  |.bad a b=>.bad a b
  |.ok h c=>match cu f [[93]] c with
   |.bad a b=>.bad a b
   |.ok _ e=>.ok h e
def zu(f:Rd)(g:PR Ty)(d:dC)(b:List V):Prop:=match g with
 |.ok h q=>b=ub f q/\∃c,gK h c/\d=.ret (.agg (c.map V.d))
 |.bad a e=>∃q,b=ub f q/\d=.eE (dt a e)
def W9:Nat->Bool:=fun a=>YY a 5||YY a 10
theorem cH{f:Rd}:∀(b:List (List UInt8)) (d c:Nat),cu f b d=.ok () c->c=d+b.length:=by
 intro b;induction b with
 |nil=>intro d c a;cases a;rfl
 |cons s b e=>
  intro d c a;rw[cu]at a;split at a
  ·rw[e _ _ a,YW];omega
  ·cases a
theorem Cj(f:Rd)(s:f.Wf)(m:Nat->PR Ty)(p:Nat)(l:p<f.ts.length)(j:eo m f p):
  b1 C b7 p1 [.bp 0 0] [dq f p] fun t n=>∃d,n=[.box d]/\cN t=true/\e5 0 d=true/\zu f (dv m f p) t d:=by
 refine cA W9 (fun _=>Z) ?_;intro E;refine ej f s [[91]] dc p l _ _ 0 Z ?_;cases b:cu f [[91]] p with
 |bad g u=>
  intro o;refine a7 1 ⟨_,Z,Z,Z,?_⟩;rw[dv,b];exact⟨o,Z,Z⟩
 |ok _ o=>
  have k:=c8 s _ _ _ l b;have a:=cH _ _ _ b;have a:p<=o:=by rw[a];omega
  refine j.call o a k 0 _ _ ?_ (fun y B c e i=>?_) (fun g u c e=>?_)
  ·exact Z
  ·obtain⟨A,F,D,z,x,rfl⟩:=i.di;obtain⟨w,r⟩:=j.lt o y c a k e;intro v;refine ej f s [[93]] dc c r _ _ 0 ?_ ?_
   ·exact Z
   ·cases h:cu f [[93]] c with
    |bad g u=>
     intro q;refine a7 1 ⟨_,Z,Z,Z,?_⟩;rw[dv,b];simp only[e,h];exact⟨q,Z,Z⟩
    |ok _ q=>
     refine a7 1 ⟨_,Z,Z,Z,?_⟩;rw[dv,b];simp only[e,h];exact⟨Z,_,i,Z⟩
  ·refine a7 1 ⟨_,Z,Z,Z,?_⟩;rw[dv,b];simp only[e];exact⟨c,Z,Z⟩
end Go.Proofs.YtpejealjkmhkgaaGreatDoor
namespace Go.VM
open Go.AM
theorem wF{a b:UInt8}{f e:List UInt8}:cB (a::f) (b::e)=true↔a.toNat<b.toNat∨(a=b/\cB f e=true):=by
 simp only[cB];rcases Nat.lt_trichotomy a.toNat b.toNat with h|h|h
 ·have:Nat.blt a.toNat b.toNat=true:=by simpa [Nat.blt_eq]using h
  simp only[this,true_iff];exact .inl h
 ·have i:a=b:=UInt8.toNat_inj.1 h;subst i;have:Nat.blt a.toNat a.toNat=false:=by rw[YT];intro h;rw[Nat.blt_eq]at h;omega
  simp only[this,Nat.beq_refl,Nat.lt_irrefl,false_or,true_and]
 ·have d:Nat.blt a.toNat b.toNat=false:=by rw[YT];intro h;rw[Nat.blt_eq]at h;omega
  have c:YY a.toNat b.toNat=false:=by rw[YT];intro h;rw[Nat.beq_eq]at h;omega
  simp only[d,c];constructor
  ·intro h;cases h
  ·rintro(g|⟨rfl,_⟩)
   ·omega
   ·omega
theorem Uk:∀a:List UInt8,cB a a=false:=by
 intro a;induction a with
 |nil=>rfl
 |cons d a c=>
  rw[YT];intro b;rcases wF.1 b with b|⟨_,b⟩
  ·omega
  ·rw[c]at b;cases b
theorem u9:∀e d c:List UInt8,cB e d=true->cB d c=true->cB e c=true:=by
 intro e;induction e with
 |nil=>
  intro d c b a;cases c with
  |nil=>cases d<;>cases a
  |cons c g=>rfl
 |cons i e f=>
  intro d c b a;cases d with
  |nil=>cases b
  |cons h d=>
   cases c with
   |nil=>cases a
   |cons g c=>
    rw[wF]at b a⊢;rcases b with b|⟨rfl,b⟩<;>rcases a with a|⟨rfl,a⟩
    ·exact .inl om
    ·exact .inl b
    ·exact .inl a
    ·exact .inr ⟨Z,f _ _ b a⟩
theorem wG:∀c a:List UInt8,cB c a=false->c≠a->cB a c=true:=by
 intro c;induction c with
 |nil=>
  intro a b d;cases a with
  |nil=>exact absurd rfl d
  |cons e a=>cases b
 |cons g c i=>
  intro a b d;cases a with
  |nil=>rfl
  |cons e a=>
   rw[wF];have f:¬(g.toNat<e.toNat∨(g=e/\cB c a=true)):=fun j=>by rw[wF.2 j]at b;cases b
   by_cases h:g=e
   ·subst h;refine .inr ⟨Z,i a ?_ (fun h=>d (by rw[h]))⟩;cases k:cB c a with
    |false=>rfl
    |true=>exact absurd (.inr ⟨rfl,k⟩) f
   ·have:g.toNat≠e.toNat:=fun j=>h (UInt8.toNat_inj.1 j);exact .inl om
section
variable{α:Type} {key:α->List UInt8}
def k8(key:α->List UInt8)(l:List α):Prop:=l.Pairwise fun a b=>cB (key a) (key b)=true
theorem k8.FR:∀{b a:List α},b.Perm a->k8 key b->k8 key a->b=a:=by
 intro b;induction b with
 |nil=>intro a e _ _;exact e.nil_eq
 |cons i n k=>
  intro a e m l;cases a with
  |nil=>exact absurd e.symm.nil_eq sm
  |cons h j=>
   have c:=YO.1 m;have d:=YO.1 l;have g:i=h:=by
    have m1:i∈h::j:=e.subset sm;have m2:h∈i::n:=e.symm.subset sm;rcases YV.1 m1 with g|m1
    ·exact g
    ·rcases YV.1 m2 with g|m2
     ·exact g.symm
     ·have f:=u9 _ _ _ (c.1 h m2) (d.1 i m1);rw[Uk]at f;cases f
   subst g;rw[k e.cons_inv c.2 d.2]
def qP(key:α->List UInt8)(a:α):List α->List α
 |[]=>[a]
 |x::b=>if cB (key x) (key a)then x::qP key a b else a::x::b
def cE(key:α->List UInt8)(l:List α):List α:=l.foldl (fun a b=>qP key b a) []
theorem xP(c:α):∀a:List α,(qP key c a).Perm (c::a):=by
 intro a;induction a with
 |nil=>exact .refl _
 |cons d e b=>
  simp only[qP];split
  ·exact(b.cons d).trans (.swap c d e)
  ·exact .refl _
theorem Pj{i:α}:∀{g:List α},k8 key g->(∀h∈g,key h≠key i)->k8 key (qP key i g):=by
 intro g;induction g with
 |nil=>intro _ _;exact List.pairwise_singleton _ _
 |cons h l j=>
  intro k e;have c:=YO.1 k;simp only[qP];split
  ·rename_i d;refine YO.2 ⟨fun f a=>?_,j c.2 (fun f a=>e f (by simp[a]))⟩;rcases YV.1 ((xP i l).subset a)with rfl|a
   ·exact d
   ·exact c.1 f a
  ·rename_i d;have b:cB (key i) (key h)=true:=wG _ _ (by simpa using d) (e h sm);refine YO.2 ⟨fun f a=>?_,k⟩;rcases YV.1 a with rfl|a
   ·exact b
   ·exact u9 _ _ _ b (c.1 f a)
theorem ED:∀(c b:List α),(c.foldl (fun b d=>qP key d b) b).Perm (b++c):=by
 intro c;induction c with
 |nil=>intro b;simp
 |cons d c e=>
  intro b;refine(e _).trans ?_;refine((xP d b).append_right c).trans ?_;exact(List.perm_middle (l₁:=b) (l₂:=c) (a:=d)).symm
theorem GG:∀(c b:List α),k8 key b->((b++c).map key).Nodup->k8 key (c.foldl (fun b d=>qP key d b) b):=by
 intro c;induction c with
 |nil=>intro b h _;exact h
 |cons d c g=>
  intro b h e;refine g _ (Pj h fun k j i=>?_) ?_
  ·rw[List.map_append,List.nodup_append]at e;exact e.2.2 (key k) (List.mem_map.2 ⟨k,j,Z⟩) (key d) sm i
  ·have f:(b++d::c).Perm (qP key d b++c):=(List.perm_middle (l₁:=b) (l₂:=c) (a:=d)).trans ((xP d b).symm.append_right c);exact(f.map key).nodup_iff.1 e
theorem dG(l:List α):(cE key l).Perm l:=ED (key:=key) l []
theorem hL{l:List α}(a:(l.map key).Nodup):k8 key (cE key l):=GG l [] List.Pairwise.nil (by simpa using a)
theorem yt{l b:List α}(d:(l.map key).Nodup)(a:b.Perm l)(c:k8 key b):b=cE key l:=
 k8.FR (a.trans (dG l).symm) c (hL d)
theorem k8.sH{l:List α}(j:k8 key l){e h:Nat}{i b:α}(c:l[e]?=some i)(g:l[h]?=some b)(a:e<h):cB (key i) (key b)=true:=by
 obtain⟨f,rfl⟩:=YN.1 c;obtain⟨d,rfl⟩:=YN.1 g;exact(List.pairwise_iff_getElem.1 j) e h f d a
theorem k8.le_of_le{l:List α}(h:k8 key l){d e:Nat}{f b:α}(c:l[d]?=some f)(a:l[e]?=some b)(g:d<=e):f=b∨cB (key f) (key b)=true:=by
 rcases Nat.lt_or_ge d e with h1|h1
 ·exact .inr (h.sH c a h1)
 ·obtain rfl:d=e:=om;rw[c]at a;cases a;exact .inl rfl
theorem CU{g b c f:α}(h1:g=b∨cB (key g) (key b)=true)(d:cB (key b) (key c)=true)(a:c=f∨cB (key c) (key f)=true):cB (key g) (key f)=true:=by
 have e:cB (key b) (key f)=true:=by
  rcases a with rfl|a
  ·exact d
  ·exact u9 _ _ _ d a
 rcases h1 with rfl|h1
 ·exact e
 ·exact u9 _ _ _ h1 e
theorem Ul{j k:List α}(o:k8 key j)(n:k8 key k)(s t:Nat)(x:s<=j.length)(w:t<=k.length) 
  (u:∀d m,0<s->j[s-1]?=some d->k[t]?=some m->cB (key d) (key m)=true)
  (r:∀d m,0<t->k[t-1]?=some d->j[s]?=some m->cB (key d) (key m)=true):
  ∀d∈j.take s++k.take t,∀m∈j.drop s++k.drop t,cB (key d) (key m)=true:=by
 intro d b m a;have f:∀{p:List α} {l:Nat} {d:α},d∈p.take l->∃i,i<l/\p[i]?=some d:=by
  intro p l d v;obtain⟨i,c⟩:=Y1 v;rw[List.getElem?_take]at c;split at c
  ·exact⟨i,by assumption,c⟩
  ·cases c
 have e:∀{p:List α} {l:Nat} {d:α},d∈p.drop l->∃i,l<=i/\p[i]?=some d:=by
  intro p l d v;obtain⟨i,c⟩:=Y1 v;rw[List.getElem?_drop]at c;exact⟨l+i,om,c⟩
 rcases List.mem_append.1 b with b|b<;>rcases List.mem_append.1 a with a|a<;>obtain⟨i,c,b⟩:=f b<;>obtain⟨y,q,a⟩:=e a
 ·exact o.sH b a om
 ·have g:s-1<j.length:=om;have h:t<k.length:=by
   have:=(YN.1 a).1;omega
  exact CU (o.le_of_le b (YL g) om) (u _ _ om (YL g) (YL h)) (n.le_of_le (YL h) a q)
 ·have g:t-1<k.length:=om;have h:s<j.length:=by
   have:=(YN.1 a).1;omega
  exact CU (n.le_of_le b (YL g) om) (r _ _ om (YL g) (YL h)) (o.le_of_le (YL h) a q)
 ·exact n.sH b a om
theorem k8.take{l:List α}(a:k8 key l)(n:Nat):k8 key (l.take n):=List.Pairwise.sublist (List.take_sublist n l) a
theorem k8.drop{l:List α}(a:k8 key l)(n:Nat):k8 key (l.drop n):=List.Pairwise.sublist (List.drop_sublist n l) a
theorem Pk{b a c d:List α}(j:k8 key b)(g:k8 key a)(e:b.Perm c)(h:a.Perm d)(m:∀k∈c,∀i∈d,cB (key k) (key i)=true):k8 key (b++a):=
 List.pairwise_append.2 ⟨j,g,fun k f i l=>m k (e.subset f) i (h.subset l)⟩
theorem GH(b a:List α)(c t:Nat):((b.take c++a.take t)++(b.drop c++a.drop t)).Perm (b++a):=by
 have d:b++a=b.take c++(b.drop c++(a.take t++a.drop t)):=by rw[Y0,<-YS,Y0]
 rw[d,YS];refine List.Perm.append_left _ ?_;rw[<-YS,<-YS];exact List.Perm.append_right _ List.perm_append_comm
end
end Go.VM
namespace Go.Proofs.YtpejealjkmhkgaaGreatDoor
open Go.AM Go.VM
abbrev mT:=List UInt8×Ty×Bool
structure FE where
 n:List UInt8
 k:Nat
 m:List UInt8
 nm:List UInt8
 a:D
 f:D
 o:Bool
 v:List UInt8
 w:D
def FE.ty(a:FE):List D:=[.int .i64 (YM a.k),.str a.m,.str a.nm,a.a,a.f]
def fe(a:FE):List D:=[.str a.n,.int .i64 (YM a.k),.str a.m,.str a.nm,a.a,a.f,.bool a.o]
def rows(xs:List FE):List (List V):=(xs.map fe).map fun a=>a.map V.d
def fw(a:FE):V:=.agg [.d (.str a.n),.d (.int .i64 (YM a.k)),.d (.str a.m),.d (.str a.nm),.d a.a,.d a.f,.d (.bool a.o)]
def pe(a:FE):List D:=[.str a.n,.str a.v,.int .i64 (YM a.k),.str a.m,.str a.nm,a.a,a.f,.bool a.o,a.w]
def pw(a:FE):V:=.agg [.d (.str a.n),.d (.str a.v),.d (.int .i64 (YM a.k)),.d (.str a.m),.d (.str a.nm),.d a.a,.d a.f,.d (.bool a.o),.d a.w]
inductive kM:List mT->List FE->Prop
 |nil:kM [] []
 |cons {t:Ty} {x:FE} {l:List mT} {xs:List FE} (h:gK t x.ty) (hl:kM l xs):kM ((x.n,t,x.o)::l) (x::xs)
theorem kM.snoc{l:List mT}{xs:List FE}{t:Ty}{x:FE}(e:kM l xs)(d:gK t x.ty):kM (l++[(x.n,t,x.o)]) (xs++[x]):=by
 induction l generalizing xs with
 |nil=>cases e;exact .cons d .nil
 |cons f l a=>cases e with|cons c b=>exact .cons c (a b)
theorem kM.Yq{l:List mT}{xs:List FE}(d:kM l xs):sF l (xs.map fe):=by
 induction l generalizing xs with
 |nil=>cases d;exact .nil
 |cons e l a=>cases d with|cons c b=>exact .cons c (a b)
theorem kM.names{l:List mT}{xs:List FE}(c:kM l xs):xs.map FE.n=l.map (·.1):=by
 induction l generalizing xs with
 |nil=>cases c;rfl
 |cons e l a=>cases c with|cons d b=>simp only[YR,a b]
theorem kM.len{l:List mT}{xs:List FE}(a:kM l xs):xs.length=l.length:=by
 have:=congrArg List.length a.names;simpa using this
theorem kM.ins{l:List mT}{xs:List FE}{t:Ty}{d:FE}(f:kM l xs)(c:gK t d.ty):kM (qP (·.1) (d.n,t,d.o) l) (qP FE.n d xs):=by
 induction l generalizing xs with
 |nil=>cases f;exact .cons c .nil
 |cons g l e=>
  cases f with
  |cons b a=>
   simp only[qP];split
   ·exact .cons b (e a)
   ·exact .cons c (.cons b a)
theorem kM.GI{l:List mT}{xs:List FE}(d:kM l xs):kM (cE (·.1) l) (cE FE.n xs):=by
 have:∀{l:List mT} {xs:List FE} {e:List mT} {b:List FE},kM l xs->kM e b->kM (l.foldl (fun a i=>qP (·.1) i a) e) (xs.foldl (fun a i=>qP FE.n i a) b):=by
  intro l;induction l with
  |nil=>intro xs e b d c;cases d;exact c
  |cons k l f=>
   intro xs e b d c;cases d with
   |cons h g=>have j:=f g (c.ins h);exact j
 exact this d .nil
structure iV where
 n:List UInt8
 v:List UInt8
 ty:Ty
 vu:Bool
inductive Ex where
 |mk (k:Nat) (m n x:List UInt8) (num:Int) (types:List Ty) (labels:List iV) (kids:List Ex)
def Jg(l:iV)(a:List D):List D:=.str l.n:: .str l.v::(a++[.bool l.vu])
inductive py:List iV->List (List D)->Prop
 |nil:py [] []
 |cons {l:iV} {d:List D} {ls:List iV} {els:List (List D)} (h:gK l.ty d) (hl:py ls els):py (l::ls) (Jg l d::els)
inductive fK:List iV->D->Prop
 |nil:fK [] .cn
 |ps {b o cap:Nat} {l:List iV} {els:List (List D)} (h:py l els):fK l (.ps b o 8 cap els)
mutual
inductive ly:Ex->List D->Prop
 |mk {k:Nat} {m n x:List UInt8} {num:Int} {types:List Ty} {labels:List iV} {kids:List Ex} {ty lb kd:D} (ht:ib types ty) (hl:fK labels lb) (hk:ij kids kd):
   ly (.mk k m n x num types labels kids) [.int .i64 (YM k),.str m,.str n,.str x,.int .i64 num,ty,lb,kd]
inductive ij:List Ex->D->Prop
 |nil:ij [] .cn
 |ps {b o cap:Nat} {l:List Ex} {els:List (List D)} (h:iL l els):ij l (.ps b o 8 cap els)
inductive iL:List Ex->List (List D)->Prop
 |nil:iL [] []
 |cons {e:Ex} {d:List D} {l:List Ex} {els:List (List D)} (h:ly e d) (hl:iL l els):iL (e::l) (d::els)
end
theorem iL.snoc{l:List Ex}{a:List (List D)}{h:Ex}{f:List D}(g:iL l a)(b:ly h f):iL (l++[h]) (a++[f]):=by
 induction l generalizing a with
 |nil=>cases g;exact .cons b .nil
 |cons i l c=>cases g with|cons e d=>exact .cons e (c d)
theorem iL.KR{l c:List Ex}{a b:List (List D)}(h:iL l a)(d:iL c b):iL (l++c) (a++b):=by
 induction l generalizing a with
 |nil=>cases h;exact d
 |cons i l e=>cases h with|cons g f=>exact .cons g (e f)
theorem iL.len{l:List Ex}{a:List (List D)}(d:iL l a):a.length=l.length:=by
 induction l generalizing a with
 |nil=>cases d;rfl
 |cons f l b=>cases d with|cons e c=>simp[b c]
theorem py.snoc{l:List iV}{a:List (List D)}{f:iV}{g:List D}(h:py l a)(b:gK f.ty g):py (l++[f]) (a++[Jg f g]):=by
 induction l generalizing a with
 |nil=>cases h;exact .cons b .nil
 |cons x l c=>cases h with|cons e d=>exact .cons e (c d)
theorem py.len{l:List iV}{a:List (List D)}(d:py l a):a.length=l.length:=by
 induction l generalizing a with
 |nil=>cases d;rfl
 |cons f l b=>cases d with|cons e c=>simp[b c]
theorem fK.inv{l:List iV}{c:D}(b:fK l c):(l=[]/\c=.cn)∨∃d f e a,c=.ps d f 8 e a/\py l a:=by
 cases b with
 |nil=>exact .inl ⟨rfl,rfl⟩
 |ps b=>exact .inr ⟨_,_,_,_,rfl,b⟩
theorem ij.inv{l:List Ex}{c:D}(b:ij l c):(l=[]/\c=.cn)∨∃d f e a,c=.ps d f 8 e a/\iL l a:=by
 cases b with
 |nil=>exact .inl ⟨rfl,rfl⟩
 |ps b=>exact .inr ⟨_,_,_,_,rfl,b⟩
theorem ly.eight{k:Ex}{e:List D}(h:ly k e):∃i j g f a c d b,e=[.int .i64 (YM i),.str j,.str g,.str f,.int .i64 a,c,d,b]:=by
 cases h with|mk _ _ _=>exact⟨_,_,_,_,_,_,_,_,rfl⟩
structure et where
 n:List UInt8
 v:List UInt8
 ty:Ty
 vu:Bool
 val:List Ex
def et.CV(p:et):iV:=⟨p.n,p.v,p.ty,p.vu⟩
inductive jS:List et->List FE->Prop
 |nil:jS [] []
 |cons {p:et} {x:FE} {l:List et} {xs:List FE} (hn:p.n=x.n) (hv:p.v=x.v) (ho:p.vu=x.o) (ht:gK p.ty x.ty) (hw:ij p.val x.w) (hl:jS l xs):jS (p::l) (x::xs)
theorem jS.snoc{l:List et}{xs:List FE}{p:et}{x:FE}(n:jS l xs)(m:p.n=x.n)(d:p.v=x.v)(c:p.vu=x.o)(j:gK p.ty x.ty)(a:ij p.val x.w):jS (l++[p]) (xs++[x]):=by
 induction l generalizing xs with
 |nil=>cases n;exact .cons m d c j a .nil
 |cons o l e=>cases n with|cons h f k g i b=>exact .cons h f k g i (e b)
theorem jS.names{l:List et}{xs:List FE}(d:jS l xs):xs.map FE.n=l.map et.n:=by
 induction l generalizing xs with
 |nil=>cases d;rfl
 |cons i l b=>cases d with|cons c e h f g a=>simp[b a,c]
theorem jS.len{l:List et}{xs:List FE}(a:jS l xs):xs.length=l.length:=by
 have:=congrArg List.length a.names;simpa using this
theorem jS.ins{l:List et}{xs:List FE}{p:et}{c:FE}(o:jS l xs)(b:p.n=c.n)(g:p.v=c.v)(f:p.vu=c.o)(k:gK p.ty c.ty)(d:ij p.val c.w):jS (qP et.n p l) (qP FE.n c xs):=by
 induction l generalizing xs with
 |nil=>cases o;exact .cons b g f k d .nil
 |cons q l n=>
  cases o with
  |cons a h m i j e=>
   simp only[qP];rw[b,a];split
   ·exact .cons a h m i j (n e)
   ·exact .cons b g f k d (.cons a h m i j e)
theorem jS.GI:∀{d:List et} {a:List FE},jS d a->jS (cE et.n d) (cE FE.n a):=by
 have key:∀(d:List et) (a:List FE) (g:List et) (f:List FE),jS d a->jS g f->jS (d.foldl (fun c o=>qP et.n o c) g) (a.foldl (fun c o=>qP FE.n o c) f):=by
  intro d;induction d with
  |nil=>intro a g f e b;cases e;exact b
  |cons p d i=>
   intro a g f e b;cases e with
   |cons l j n k m h=>
    simp only[List.foldl_cons];exact i _ _ _ h (b.ins l j n k m)
 intro d a e;exact key d a [] [] e .nil
theorem jS.get{l:List et}{xs:List FE}(n:jS l xs){i:Nat}(b:i<l.length):∃a,xs[i]?=some a/\l[i].n=a.n/\l[i].v=a.v/\l[i].vu=a.o/\gK l[i].ty a.ty/\ij l[i].val a.w:=by
 induction l generalizing xs i with
 |nil=>simp at b
 |cons o l e=>
  cases n with
  |cons h f m g k c=>
   cases i with
   |zero=>exact⟨_,rfl,h,f,m,g,k⟩
   |succ i=>
    obtain⟨a,d,j⟩:=e c (i:=i) (by simpa using b);exact⟨a,by simpa using d,by simpa using j⟩
def jv(b:Nat)(n:List UInt8)(types:List Ty)(a:List Ex)(l:List et):Ex:=.mk b [] n [] 0 types ((cE et.n l).map et.CV) (a++(cE et.n l).flatMap et.val)
end Go.Proofs.YtpejealjkmhkgaaGreatDoor
