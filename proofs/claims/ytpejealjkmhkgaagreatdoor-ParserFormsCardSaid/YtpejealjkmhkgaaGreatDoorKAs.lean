/- Part of the proof. -/
import Derived.Test.YtpejealjkmhkgaaGreatDoorKAr
set_option linter.all false
set_option maxHeartbeats 16000000
set_option maxRecDepth 100000
open Int renaming ofNat->abK
open Bool renaming and_eq_true->abL
open List renaming getElem?_eq_some_iff->aet,range'->aeM,length_cons->aeN,length_set->aeO,map_congr_left->aeP,cons_append->aeQ,getElem?_set_ne->aeS,map_id->aeT
open Nat renaming le_refl->aeu,not_lt_zero->aev,le_trans->aeR
namespace Go.VM
open Go.AM
def Aj:Nat->Bool:=fun _=>false
theorem aZ{b:Bool}{p e:Prop}(a:b=true->p)(c:b=false->e):jR p e b:=by
 cases b
 ·exact c Z
 ·exact a Z
theorem cg{b:Bool}{p e:Prop}(c:b=true)(a:p):jR p e b:=by rw[c];exact a
theorem a7{b:Bool}{p c:Prop}(e:b=false)(a:c):jR p c b:=by rw[e];exact a
theorem a6{p b:Prop}(c:p)(a:b):jS p b:=⟨c,a⟩
theorem bZ{n:Int}{m:Nat}{b:Nat->Prop}(c:n=abK m)(a:b m):GU n b:=⟨m,c,a⟩
theorem ch{p b:Prop}(a:b)(c:p:=by repeat' (first|exact tv|exact rfl|refine bZ rfl ?_|refine And.intro ?_ ?_)):jS p b:=⟨c,a⟩
theorem cc{a:Type}{p:a->Prop}{e:a->Prop}(b:a)(f:p b)(c:e b):∃b,p b/\e b:=⟨b,f,c⟩
theorem ZI{a:Prop}(b:a:=by simp only[List.length_map,List.length_take,List.length_drop,List.length_append,List.length_cons,List.length_nil,xo];omega):a:=b
theorem cf{p b:Prop}(a:b)(c:p:=by repeat' (first|exact tv|exact rfl|refine bZ rfl ?_|with_reducible assumption|exact Nat.zero_le _|exact Nat.le_refl _|exact Nat.le_of_ble_eq_true rfl|refine bZ (by with_reducible assumption) ?_|refine cc _ rfl ?_|refine cc _ (by with_reducible assumption) ?_|refine cg (by with_reducible assumption) ?_|refine a7 (by with_reducible assumption) ?_|refine a6 ?_ ?_|refine And.intro ?_ ?_|refine aeA ?_ (Nat.le_of_ble_eq_true rfl)|refine aeB ?_|refine cc _ (by assumption) ?_|refine bZ (by assumption) ?_|assumption|exact ZI|omega)):jS p b:=⟨c,a⟩
theorem de{b:Bool}{p e c:Prop}(a:c)(f:(b=true/\c=p)∨(b=false/\c=e):=by first|exact .inl ⟨by with_reducible assumption,rfl⟩|exact .inr ⟨by with_reducible assumption,rfl⟩):jR p e b:=by
 rcases f with⟨rfl,rfl⟩|⟨rfl,rfl⟩<;>exact a
theorem xE{b:Type}{p f h:b->Prop}(a:b)(i:p a)(e:f a)(c:h a):∃a,p a/\f a/\h a:=⟨a,i,e,c⟩
theorem jO{K:cO->VS->Prop}{a b:V}{σ:VS}(e:a=b)(c:K (.ret b) σ):K (.ret a) σ:=e▸c
theorem eL{K:cO->VS->Prop}{a b:Bool}{σ:VS}(e:a=b)(c:K (.ret (bX b)) σ):K (.ret (bX a)) σ:=e▸c
def bW(n:Nat):V:=.d (.int .i64 (abK n))
def cn(s:cq):V:=.d (.str s)
theorem int_eq{c:IntKind}{a b:Int}(e:a=b):some (V.d (.int c a))=some (V.d (.int c b)):=by rw[e]
theorem wrap64{n:Int}(b: -9223372036854775808<=n)(a:n<9223372036854775808):IntKind.i64.wrap n=n:=by
 exact aat
theorem c4{a b:Nat}(c:a+b<9223372036854775808):IntKind.i64.wrap (abK a+abK b)=abK (a+b):=by
 exact XU
theorem cp{a:Nat}(b:a<9223372036854775807):IntKind.i64.wrap (abK a+1)=abK (a+1):=c4 (b:=1) om
theorem JA{a b:Nat}(c:decide (abK a<=abK b)=true):a<=b:=by
 have:=of_decide_eq_true c;exact K8
theorem ee{a b:Nat}(c:decide (abK a<abK b)=true):a<b:=by
 have:=of_decide_eq_true c;exact K8
theorem AJ{a b:Nat}(c:decide (abK a=abK b)=true):a=b:=by
 have:=of_decide_eq_true c;exact K8
theorem Iv{a b:Nat}(c:decide (abK a<=abK b)=false):b<a:=by
 have:=of_decide_eq_false c;exact K8
theorem dq{a b:Nat}(c:decide (abK a<abK b)=false):b<=a:=by
 have:=of_decide_eq_false c;exact K8
theorem ED{a b:Nat}(c:decide (abK a=abK b)=false):a≠b:=by
 have:=of_decide_eq_false c;exact K8
variable{r:List V} {t:Nat} {u:uw} {d:Bu->Tm->List fq->lJ->VS->Prop} {q:lJ} {g:List fq} {w z:Tm} {y:VS}
section
variable{C:dR} {cF:ql}
theorem cj{f:FuncId}{σ:VS}{K:cO->VS->Prop}(a:CY C cF Aj f r false .none σ fun c _ σ=>K c σ)(b:∀e,cF f e=none:=by exact fun _=>rfl):bV C cF f r σ K:=bV.body Aj b a
theorem cm{f:FuncId}{σ:VS}{K:cO->VS->Prop}(b:CY C cF Aj f r false .none σ fun e _ a=>cU σ.length e a K)(c:∀h,cF f h=none:=by exact fun _=>rfl):bV C cF f r σ K:=cv Aj c b
def A4:Nat->List Nat->Nat->Bool
 |0,_,_=>true
 |_+1,[],_=>false
 |p+1,c::a,b=>Nat.beq c b&&A4 p a (b+1)
theorem rW:∀{e:Nat} {a:List Nat} {f b:Nat},A4 e a f=true->b<e->a[b]?=some (f+b):=by
 intro e;induction e with
 |zero=>intro a f b _ c;omega
 |succ e i=>
  intro a f b c h;cases a with
  |nil=>cases c
  |cons j a=>
   simp only[A4,abL]at c;cases b with
   |zero=>simp[Nat.eq_of_beq_eq_true c.1]
   |succ b=>
    have:=i c.2 (Nat.lt_of_succ_lt_succ h);simp only[List.getElem?_cons_succ,this];congr 1;omega
def uH(a:Nat->Nat)(e:Nat)(σ:VS):List Nat->VS->Prop
 |[],[]=>True
 |i::c,f::b=>nth σ i=some (dF a f)/\fW e f=true/\uH a e σ c b
 |_,_=>False
theorem C7{h:Nat->Nat}{σ:VS}:∀{b:List Nat} {a:VS},uH h t σ b a->b.length=a.length/\∀(e:Nat) (f:cN),a[e]?=some f->∃j,b[e]?=some j/\σ[j]?=some (dF h f)/\fW t f=true:=by
 intro b;induction b with
 |nil=>
  intro a i;cases a with
  |nil=>exact⟨rfl,fun e f c=>by simp at c⟩
  |cons _ _=>exact i.elim
 |cons j b s=>
  intro a i;cases a with
  |nil=>exact i.elim
  |cons f a=>
   obtain⟨m,k,n⟩:=i;obtain⟨p,l⟩:=s n;refine⟨by simp[p],fun e o c=>?_⟩;cases e with
   |zero=>simp at c;subst c;exact⟨j,rfl,by rw[<-ck];exact m,k⟩
   |succ e=>obtain⟨v,x,A,B⟩:=l e o (by simpa using c);exact⟨v,by simpa using x,A,B⟩
theorem Real.pick{Φ:Fz}{ρ:Nat->Nat}{σ fU:VS}{st:St}{h:List Nat}(k:Real Φ ρ σ st)(H:h.Nodup)(Q:uH (jT h σ.length) fU.length σ h fU):Real Φ (fun f=>ρ (jT h σ.length f)) fU st:=by
 obtain⟨Y,i⟩:=C7 Q;have a:∀{f j:Nat},h[f]?=some j->ρ (jT h σ.length f)=ρ j:=fun{f j} b=>by rw[kM b]
 refine⟨k.wf,k.wm,k.fz,k.PJ,k.ss,k.PK,fun f R J T N V W b e=>?_,fun f q b L=>?_,fun f M g X b P K I N=>?_,fun f R J T N V W O D b e S m n=>?_⟩
 ·obtain⟨j,o,x,_⟩:=i f _ b;rw[a o]at e;exact k.K2 j _ _ _ _ _ _ x e
 ·obtain⟨j,o,x,T⟩:=i f _ b;obtain⟨s,A⟩:=k.obj j _ x (by rw[iW];exact L);rw[a o];exact⟨s.S7 T,A⟩
 ·obtain⟨j,o,x,_⟩:=i f _ b;obtain⟨B,l,v,_⟩:=i M _ P;rw[a o,a l]at N;have:=k.inj j B _ _ x v (by rw[iW];exact K) (by rw[iW];exact I) N;subst this;obtain⟨D,m⟩:=aet.1 o;obtain⟨U,F⟩:=aet.1 l;have p:=List.pairwise_iff_getElem.1 H;rcases Nat.lt_trichotomy f M with c|c|c
  ·exact absurd (m.trans F.symm) (p f M D U c)
  ·exact c
  ·exact absurd (F.trans m.symm) (p M f U D c)
 ·obtain⟨j,o,x,_⟩:=i f _ b;rw[a o]at e n;obtain⟨s,A⟩:=k.dP j _ _ _ _ _ _ O D x e S m n;refine⟨s,fun C d E G=>?_⟩;obtain⟨B,l,v,_⟩:=i C _ E;show ρ (jT h σ.length C)≠D;rw[a l];exact A B _ v (by rw[iW];exact G)
theorem cd.pick(p:Nat)(b:List Nat){i:uw}{c:Code}{M dB:Tm}{σ fU:VS}{l:List fq}{h:lJ}{y:Bu->Tm->List fq->lJ->VS->Prop}(q:mP (rT (jT b σ.length) dB) M)(B:Ag fU.length dB=true)(e:Nat.ble i.fl p=true)(hid:A4 p b 0=true) 
  (A:C6 p l=true) (L:PZ p h=true) (H:b.Nodup) (D:uH (jT b σ.length) fU.length σ b fU) (ag:cd C cF i c dB l h fU y):cd C cF i c M l h σ y:=by
 refine⟨fun Φ ρ st X d R s S E=>?_⟩;obtain⟨Y,_⟩:=C7 D;have e:=Nat.le_of_ble_eq_true e;have o:∀j,j<p->jT b σ.length j=j:=fun j u=>by
  have:=rW hid u;rw[kM this];omega
 have k:p<=fU.length:=by
  rcases Nat.lt_or_ge fU.length p with h1|h1
  ·have:=rW hid h1;rw[<-Y,List.getElem?_eq_none (aeu _)]at this;cases this
  ·exact h1
 have a:iJ Φ ρ p Φ (fun j=>ρ (jT b σ.length j)) fU.length:=⟨Fz.le_refl _,fun ac r=>by show ρ (jT b σ.length ac)=_;rw[o ac r],k⟩;have n:=Oa A s.2;have f:Bx Φ p h:=by
  cases h with
  |gg aa=>exact JB (M:=σ.length) S L
  |none=>trivial
  |rD=>trivial
 have I:dV (fun j=>ρ (jT b σ.length j)) i=dV ρ i:=((a.weaken e).Mc (m:=σ.length) E).1;obtain⟨ae,ad,J,x,O,G,F,P,v,K,N,W,t,w,T,V,U,g⟩:=ag.go Φ (fun j=>ρ (jT b σ.length j)) st X (d.pick H D) (fun ab aa Q=>by
   obtain⟨z,af⟩:=R ab (gW (jT b σ.length) aa) (pP q ab _ (by rw[xD,Q];rfl));rw[jH]at z;exact⟨z,ml _ af (Ah B Q)⟩) (a.df ⟨s.1,n⟩) (a.ps f).2 ⟨E.1,aeR e k⟩
 refine⟨ae,ad,J,x,O,G,F,P,v,K,?_,?_,t,w,T,V,U,g⟩
 ·rw[I,(a.ps f).1]at N;exact N
 ·exact(a.weaken e).then W (aeu _)
inductive Gz (fl:Nat) (dB:Tm) (fU:VS) (df:List fq) (ps:lJ) (tm:Tm) (σ:VS):Prop
 |same (hs:mP dB tm) (h:σ=fU)
 |drop (n:Nat) (hs:mP dB tm) (hn:Nat.ble n σ.length=true) (K0:Nat.ble fl n=true) (hb:mJ n σ n=true) (ht:Ag n dB=true) (hdf:C6 n df=true) (DY:PZ n ps=true) (h:σ.take n=fU)
 |pick (p:Nat) (ix:List Nat) (hs:mP (rT (jT ix σ.length) dB) tm) (hbt:Ag fU.length dB=true) (K0:Nat.ble fl p=true) (hid:A4 p ix 0=true) (hdf:C6 p df=true) (DY:PZ p ps=true) (hnd:ix.Nodup) (hp:uH (jT ix σ.length) fU.length σ ix fU)
theorem cw{c:Code}{j dB:Tm}{σ fU:VS}(s:Gz u.fl dB fU g q j σ)(p:cd C cF u c dB g q fU d):cd C cF u c j g q σ d:=by
 cases s with
 |same e v=>subst v;exact p.less e
 |drop A e o b l k a f v=>subst v;exact cd.drop A e o b l k a f p
 |pick x n e h b hid a f i m=>exact cd.pick x n e h b hid a f i m p
theorem Gz.eS{σ:VS}(b:σ=y:=by exact rfl)(a:mP w z:=by repeat' (first|exact tv|with_reducible exact rfl|exact int_eq (cp om)|exact rfl|refine And.intro ?_ ?_)):Gz t w y g q z σ:=.same a b
theorem Gz.eP{σ:VS}(p:Nat)(a:List Nat)(j:mP (rT (jT a σ.length) w) z:=by repeat' (first|exact tv|with_reducible exact rfl|exact int_eq (cp om)|exact rfl|refine And.intro ?_ ?_))(i:uH (jT a σ.length) y.length σ a y:=by repeat' (first|exact tv|exact rfl|refine And.intro ?_ ?_))(f:Ag y.length w=true:=by exact rfl)(e:Nat.ble t p=true:=by exact rfl)(hid:A4 p a 0=true:=by exact rfl)(b:C6 p g=true:=by exact rfl)(c:PZ p q=true:=by exact rfl)(h:a.Nodup:=by decide):Gz t w y g q z σ:=.pick p a j f e hid b c h i
theorem Gz.eD{σ:VS}(n:Nat)(h:mP w z:=by repeat' (first|exact tv|with_reducible exact rfl|exact int_eq (cp om)|exact rfl|refine And.intro ?_ ?_))(i:Nat.ble n σ.length=true:=by exact rfl)(c:Nat.ble t n=true:=by exact rfl)(f:mJ n σ n=true:=by exact rfl)(e:Ag n w=true:=by exact rfl)(a:C6 n g=true:=by exact rfl)(b:PZ n q=true:=by exact rfl)(j:σ.take n=y:=by exact rfl):Gz t w y g q z σ:=.drop n h i c f e a b j
theorem cD{c:Code}{a dB:Tm}{σ:VS}(e:cd C cF u c dB g q σ d)(b:mP dB a:=by repeat' (first|exact tv|with_reducible exact rfl|exact int_eq (cp om)|exact rfl|refine And.intro ?_ ?_)):cd C cF u c a g q σ d:=e.less b
theorem iK{a:Nat}(b:a<t:=by first|assumption|omega):t-(a+1)<t-a:=om
theorem cd.iter{E:Type}(e:E->Tm)(f:E->VS)(H:E->Nat)(I:E->Prop){b:Code} 
  (an:∀k,I k->vc C cF u b (e k) g q (f k) fun x T o j σ=>match x with
   |.norm=>∃l,I l/\H l<H k/\Gz u.fl (e l) (f l) g q T σ/\o=g/\j=q
   |x=>d x T o j σ) (k:E) (N:I k):cd C cF u (.loop b) (e k) g q (f k) d:=by
 have Q:∀V k,H k=V->I k->cd C cF u (.loop b) (e k) g q (f k) d:=by
  intro V;induction V using Nat.strongRecOn with
  |_ V ai=>
   intro k af N;refine⟨fun Φ ρ st P ad t W aa M=>?_⟩;obtain⟨v,ao,J,m,c,D,i,x,F,A,n,h,p,s,a,al,rfl⟩:=rS b (an k N) (fr:=P) ⟨ad,t,W,aa⟩ M;cases x with
   |norm=>
    obtain⟨l,ag,Y,ac,rfl,rfl⟩:=p;have p:=cw ac (ai (H l) (af▸Y) l rfl ag);obtain⟨G,x,L,O,o,j,K,U,B,S,ah,y,aj,ak,X,w,r,ae⟩:=p.go m c i h a.real a.tm a.df a.ps (s.Mc M).2;refine⟨max v (G+1),x,L,O,o,j,K,U,B,S,?_,s.then y (aeu _),aj,ak,X,w,r,ae⟩;have z:=gN (hG (C:=C) (cF:=cF) (Nat.le_max_left v (G+1))) _ J;have ab:(jN C cF (G+1)).code (dV c u) (.loop b) h (c6 c n) i=some (ek B x,L,c6 B j,K):=ah;have R:=(hG (C:=C) (cF:=cF) (Nat.le_max_right v (G+1))).code _ _ _ _ _ _ ab;unfold code;rw[z];simp only[ek];rw[(s.Mc M).1]at R;exact R
   |exit id=>exact⟨v,.exit id,h,F,A,n,i,m,c,D,by unfold code;rw[J];rfl,s,a.real,a.tm,a.df,a.ps,tv,p⟩
   |ret=>exact⟨v,.ret,h,F,A,n,i,m,c,D,by unfold code;rw[J];rfl,s,a.real,a.tm,a.df,a.ps,tv,p⟩
   |panic am=>exact⟨v,.panic am,h,F,A,n,i,m,c,D,by unfold code;rw[J];rfl,s,a.real,a.tm,a.df,a.ps,al,p⟩
 exact Q _ k Z N
mutual
theorem km(π:Nat->Nat):∀v:V,bd 0 v=true->gW π v=v
 |.d _,_=>by simp only[gW]
 |.bp _ _,h=>by simp only[bd]at h;exact absurd (gw h) (aev _)
 |.ptr _ _ _ _,h=>by simp only[bd]at h;exact absurd (gw h) (aev _)
 |.fp _ _ _,_=>by simp only[gW]
 |.ms _ _ _ _ _,h=>by simp only[bd]at h;exact absurd (gw h) (aev _)
 |.map _,h=>by simp only[bd]at h;exact absurd (gw h) (aev _)
 |.fn _ a c,h=>by simp only[bd,abL]at h;simp only[gW,fL π a h.1,fL π c h.2]
 |.tR _,h=>by simp only[bd]at h;exact absurd (gw h) (aev _)
 |.iface _ v,h=>by simp only[bd]at h;simp only[gW,km π v h]
 |.agg l,h=>by simp only[bd]at h;simp only[gW,fL π l h]
 |.dS l,h=>by simp only[bd]at h;simp only[gW,fL π l h]
theorem fL(π:Nat->Nat):∀l:List V,fu 0 l=true->hU π l=l
 |[],_=>by simp only[hU]
 |v::l,h=>by simp only[fu,abL]at h;simp only[hU,km π v h.1,fL π l h.2]
end
def cM:cO->Bool
 |.ret a=>bd 0 a
 |.eH a=>bd 0 a
theorem a8{c:cO}{σ:VS}{K:cO->VS->Prop}(n:Nat)(b:K c (σ.take n))(h:Nat.ble n σ.length=true:=by exact rfl)(f:mJ n σ n=true:=by exact rfl)(e:PY n c=true:=by exact rfl)(a:Nat.ble t (σ.take n).length=true:=by exact rfl):cU t c σ K:=
 cU.drop n h f e (cU.now a b)
theorem bV.closed{f:FuncId}{args:List V}{P:cO->Prop}(l:bV C cF f args [] fun b h=>h=[]/\cM b=true/\P b)(c:fu 0 args=true){σ:VS}{K:cO->VS->Prop}(i:∀b,P b->K b σ):bV C cF f args σ K:=by
 refine l.frame [] Z List.nodup_nil (fun p o k=>by simp at k) c (fL _ args c).symm (fun a j k _=>?_);obtain⟨rfl,e,m⟩:=k;have:nZ (jT [] σ.length) a=a:=by
  cases a with
  |ret n=>simp only[nZ];rw[km _ n e]
  |eH n=>simp only[nZ];rw[km _ n e]
 rw[this];simp only[List.map_nil,merge,List.append_nil];exact i a m
theorem cC{f:FuncId}{v:V}(j:bV C cF f r [] fun b a=>a=[]/\b=.ret v)(i:fu 0 r=true)(h:bd 0 v=true){σ:VS}{K:cO->VS->Prop}(e:K (.ret v) σ):bV C cF f r σ K:=
 bV.closed (P:=fun b=>b=.ret v) (j.mono fun b a c=>⟨c.1,by rw[c.2];exact h,c.2⟩) i fun b c=>by rw[c];exact e
end
mutual
theorem sB(π:Nat->Nat)(k:Nat)(h:∀i,i<k->π i=i):∀v:V,bd k v=true->gW π v=v
 |.d _,_=>by simp only[gW]
 |.bp _ _,hb=>by simp only[bd]at hb;simp only[gW,h _ (gw hb)]
 |.ptr _ _ _ _,hb=>by simp only[bd]at hb;simp only[gW,h _ (gw hb)]
 |.fp _ _ _,_=>by simp only[gW]
 |.ms _ _ _ _ _,hb=>by simp only[bd]at hb;simp only[gW,h _ (gw hb)]
 |.map _,hb=>by simp only[bd]at hb;simp only[gW,h _ (gw hb)]
 |.fn _ a c,hb=>by simp only[bd,abL]at hb;simp only[gW,n0 π k h a hb.1,n0 π k h c hb.2]
 |.tR _,hb=>by simp only[bd]at hb;simp only[gW,h _ (gw hb)]
 |.iface _ v,hb=>by simp only[bd]at hb;simp only[gW,sB π k h v hb]
 |.agg l,hb=>by simp only[bd]at hb;simp only[gW,n0 π k h l hb]
 |.dS l,hb=>by simp only[bd]at hb;simp only[gW,n0 π k h l hb]
theorem n0(π:Nat->Nat)(k:Nat)(h:∀i,i<k->π i=i):∀l:List V,fu k l=true->hU π l=l
 |[],_=>by simp only[hU]
 |v::l,hb=>by simp only[fu,abL]at hb;simp only[hU,sB π k h v hb.1,n0 π k h l hb.2]
end
theorem P0(a:Nat->Nat)(f:Nat)(j:∀h,h<f->a h=h):∀c:Tm,Ag f c=true->rT a c=c:=by
 intro c;induction c with
 |nil=>intro _;rfl
 |cons i c e=>
  obtain⟨l,k⟩:=i;intro b;simp only[Ag,abL]at b;simp only[rT,sB a f j k b.1,e b.2]
theorem S8(b:Nat->Nat)(e:Nat)(f:∀k,k<e->b k=k)(o:cN)(a:fW e o=true):dF b o=o:=by
 cases o with
 |box l=>simp only[dF];rw[n0 b e f l a]
 |row i h=>
  simp only[dF];congr 1;simp only[fW,List.all_eq_true]at a;conv=>rhs;rw[<-aeT h]
  exact aeP fun j c=>n0 b e f j (a j c)
 |map i x=>
  simp only[dF];congr 1;simp only[fW,List.all_eq_true,abL]at a;conv=>rhs;rw[<-aeT i]
  exact aeP fun j c=>by
   obtain⟨m,p,v⟩:=j;have:=a _ c;simp only[O8,sB b e f m this.1,sB b e f p this.2,id]
 |loop n=>
  simp only[fW,abL]at a;simp only[dF,P0 b e f n.tm a.1,f _ (gw a.2)]
 |eI s=>rfl
 |gone=>rfl
theorem Wa(a:VS)(o b:cN)(c:VS):(a++o::c).set a.length b=a++b::c:=by
 induction a with
 |nil=>rfl
 |cons f a e=>simp only[aeQ,aeN,List.set_cons_succ,e]
theorem P1:∀(c a b ext:VS),c.length=a.length->merge (b++(a++ext)) (aeM b.length a.length) c=b++(c++ext):=by
 intro c;induction c with
 |nil=>
  intro a b ext e;have:a=[]:=List.eq_nil_of_length_eq_zero e.symm;subst this;simp[merge]
 |cons h c f=>
  intro a b ext e;cases a with
  |nil=>simp at e
  |cons i a=>
   simp only[aeN,List.range'_succ,merge];rw[aeQ,Wa];have:=f a (b++[h]) ext (by simpa using e);simp only[List.length_append,aeN,List.length_nil,List.append_assoc,aeQ,List.nil_append]at this;exact this
section
variable{C:dR} {cF:ql}
theorem bV.pre{f:FuncId}{o K:cO->VS->Prop}(A:bV C cF f r y o)(ext:VS)(n:mJ y.length y y.length=true)(s:fu y.length r=true) 
  (E:∀v c,o v c->c.length=y.length/\mJ y.length c c.length=true/\PY y.length v=true/\K v (c++ext)):bV C cF f r (y++ext) K:=by
 have hid:∀J k,k<y.length->jT (aeM 0 y.length) J k=k:=fun J k j=>by
  rw[kM (i:=k) (by rw[List.getElem?_range' j];simp)]
 have e:∀m,fW y.length m=true->dF (jT (aeM 0 y.length) (y++ext).length) m=m:=fun m b=>S8 _ _ (hid _) m b;refine A.frame (aeM 0 y.length) sm (List.nodup_range') (fun N k I=>?_) s (n0 _ _ (hid _) _ s).symm (fun i a I M=>?_)
 ·obtain⟨h,L⟩:=aet.1 I;simp only[List.length_range']at h;simp only[List.getElem_range',Nat.one_mul,Nat.zero_add]at L;subst L;have b:=List.getElem?_eq_getElem (l:=y) h;refine⟨_,b,?_,BZ n h b⟩;rw[e _ (BZ n h b),List.getElem?_append_left h,b]
 ·obtain⟨F,x,p,D⟩:=E i a I;have H:nZ (jT (aeM 0 y.length) (y++ext).length) i=i:=by
   cases i with
   |ret B=>simp only[nZ];rw[sB _ _ (hid _) B p]
   |eH B=>simp only[nZ];rw[sB _ _ (hid _) B p]
  have G:a.map (dF (jT (aeM 0 y.length) (y++ext).length))=a:=by
   conv=>rhs;rw[<-aeT a]
   refine aeP fun m b=>?_;obtain⟨k,j⟩:=List.getElem?_of_mem b;exact e m (BZ x (aet.1 j).1 j)
  rw[H,G];have:=P1 a y [] ext F;simp only[List.nil_append,List.length_nil]at this;rw[this];exact D
end
section
variable{C:dR} {cF:ql} {Φ:Fz} {ρ:Nat->Nat} {σ:VS} {st:St}
theorem Real.gone(h:Real Φ ρ σ st):Real Φ ρ (σ++[.gone]) st:=by
 have n:iJ Φ ρ σ.length Φ ρ (σ++[cN.gone]).length:=⟨Fz.le_refl _,fun _ _=>rfl,by simp⟩;have BM:∀(j:Nat) (a:cN),(σ++[cN.gone]:VS)[j]?=some a->live a=true->σ[j]?=some a:=by
  intro j a hj b;rw[kj]at hj;by_cases e:j=σ.length
  ·rw[if_pos e]at hj;cases hj;cases b
  ·rw[if_neg e]at hj;exact hj
 refine⟨h.wf,h.wm,h.fz,h.PJ,h.ss,h.PK,fun j es els c e f p hj hg=>h.K2 j es els c e f p (BM j _ hj Z) hg,fun j a hj b=>?_,fun j k a ok hj hk i Ld e=>h.inj j k a ok (BM j _ hj i) (BM k _ hk Ld) i Ld e,fun j es els c e f p ms x hj hg hm hx hn=>?_⟩
 ·obtain⟨l,m⟩:=h.obj j a (BM j a hj b) b;exact⟨n.obj (st:=st) (dC:=st) Z (fun _ _ _ _ _ hn=>hn) l,m⟩
 ·exact aan
theorem cd.gone{j:uw}{c:Code}{p:Tm}{e:List fq}{i:lJ}{N:Bu->Tm->List fq->lJ->VS->Prop}(S:cd C cF j c p e i (σ++[.gone]) N):cd C cF j c p e i σ N:=by
 refine⟨fun Φ ρ st H I a B A k=>?_⟩;have b:iJ Φ ρ σ.length Φ ρ (σ++[cN.gone]).length:=⟨Fz.le_refl _,fun _ _=>rfl,by simp⟩;obtain⟨R,Q,n,h,s,m,l,v,f,o,K,G,L,M,D,F,E,J⟩:=S.go Φ ρ st H I.gone (fun P O x=>⟨(a P O x).1,(a P O x).2.mono (Fz.le_refl _) ZI⟩) (b.df B) (b.ps A).2 ⟨k.1,aeR k.2 b.len⟩;exact⟨R,Q,n,h,s,m,l,v,f,o,K,G,L,M,D,F,E,J⟩
theorem bV.gone{f:FuncId}{a:List V}{K:cO->VS->Prop}(D:bV C cF f a (σ++[.gone]) K):bV C cF f a σ K:=by
 refine⟨fun Φ ρ st l o=>?_⟩;obtain⟨A,v,h,e,j,c,i,m,b,n,s,k⟩:=D.go Φ ρ st l.gone (fun x p=>(o x p).mono (Fz.le_refl _) ZI);exact⟨A,v,h,e,j,c,i,m,⟨b.le,fun E B=>b.vA E ZI,aeR ZI b.len⟩,n,s,k⟩
theorem cU.pick{A:Nat}(a:List Nat){F r0:cO}{fU:VS}{K:cO->VS->Prop}(x:F=nZ (jT a σ.length) r0)(e:PY fU.length r0=true)(hid:A4 A a 0=true)(f:a.Nodup)(v:uH (jT a σ.length) fU.length σ a fU)(o:cU A r0 fU K):cU A F σ K:=by
 subst x;refine⟨fun Φ ρ st H k=>?_⟩;obtain⟨m,j,b,h,B,s,C,D,l,p,n⟩:=o.go Φ (fun G=>ρ (jT a σ.length G)) st (H.pick f v) (by
  cases r0 with
  |ret c=>exact ml c k e
  |eH c=>exact ml c k e)
 refine⟨m,j,b,h,B,fun E i=>(s E i).trans ?_,C,D,l,p.trans ?_,n⟩
 ·have:=rW hid i;show ρ (jT a σ.length E)=ρ E;rw[kM this,Nat.zero_add]
 ·cases r0 with
  |ret c=>simp only[nZ,eG,jH]
  |eH c=>simp only[nZ,eG,jH]
theorem S9{a:D}(b:flat (cz a)=true):xw Φ a:=by
 cases a<;>first|(cases b;done)|constructor
theorem Ak{f:FuncId}{args xs:cH}{K:cO->VS->Prop}(h:cF f (args.map cz)=some (.tuple ⟨xs.map cz⟩))(i:∀b∈xs,flat (cz b)=true)(c:K (.ret (.dS (xs.map V.d))) σ):bV C cF f (args.map V.d) σ K:=by
 refine⟨fun Φ ρ st j k=>⟨1,.ret (.dS (xs.map V.d)),.none,st,Φ,ρ,σ,?_,.refl _ _ _,j,.dS ?_,c⟩⟩
 ·rw[nY];simp only[jN,h,eG,erase,nY];rfl
 ·intro l e;obtain⟨b,a,rfl⟩:=List.mem_map.1 e;exact .d (S9 (i b a))
end
section
variable{C:dR} {cF:ql} {σ:VS}
def Ta(a b:Nat)(l:List cH):Tm->Tm
 |[]=>[]
 |(f,c)::e=>(f,o5 a b l c)::Ta a b l e
def Hn(a es n:Nat):Tm->Prop
 |[]=>True
 |(_,c)::b=>uG a es n c/\Hn a es n b
theorem FA{j b:Nat}{l:List cH}:∀{a:Tm} {f:Nat} {h:V},gm (Ta j b l a) f=some h->∃e,gm a f=some e/\h=o5 j b l e:=by
 intro a;induction a with
 |nil=>intro f h c;cases c
 |cons k p i=>
  intro f h c;obtain⟨o,n⟩:=k;simp only[Ta,gm]at c⊢;split at c
  ·rename_i m;cases c;exact⟨n,Z,Z⟩
  ·exact i c
theorem A5{i es n:Nat}:∀{a:Tm},Hn i es n a->∀{h:Nat} {e:V},gm a h=some e->uG i es n e:=by
 intro a;induction a with
 |nil=>intro _ h e b;cases b
 |cons j l f=>
  intro c h e b;obtain⟨k,m⟩:=j;simp only[gm]at b;split at b
  ·cases b;exact c.1
  ·exact f c.2 b
theorem cd.freeze(a:Nat)(h:Tm){D:uw}{c:Code}{H:Tm}{o:List fq}{B:lJ}{r:Bu->Tm->List fq->lJ->VS->Prop}{es:Nat}{els:List (List V)}{l:List cH}(j:nth σ a=some (.row es els))(F:qC els=some l)(W:mP h H)(S:Hn a es l.length h) 
  (L:∀T,cd C cF D c (Ta a T l h) o B (σ.set a .gone) r):cd C cF D c H o B σ r:=by
 refine⟨fun Φ ρ st O Y J m Q hf=>?_⟩;rw[ck]at j;obtain⟨e,f,p,s⟩:=sf Y j;have X:=(Y.obj a _ j rfl).2;have G:cl ρ els.flatten=l.flatten.map cz:=by rw[fQ F,uD]
 rw[G]at s;have U:=Y.freeze j s;have i:=vI (o:=fX.cells (l.flatten.map cz) es f p) X;rw[fQ F]at e;obtain⟨d1,d2⟩:=e.d;have v:∀q∈l,∀P∈q,xw (oz Φ (ρ a) (.cells (l.flatten.map cz) es f p)) P:=fun q d P m=>(d2 q d P m).mono i;have b:(σ.set a .gone).length=σ.length:=aeO;have g:∀k,e9 Φ σ.length k->uG a es l.length k->e9 (oz Φ (ρ a) (.cells (l.flatten.map cz) es f p)) σ.length (o5 a (ρ a) l k)/\erase ρ (o5 a (ρ a) l k)=erase ρ k:=
  fun k M K=>po (Φ:=oz Φ (ρ a) (.cells (l.flatten.map cz) es f p)) (f:=f) (p:=p) rfl (by rw[lf];exact if_pos rfl) (Or.inl rfl) d1 v k (M.mono i (aeu _)) K
 have O5:iJ Φ ρ σ.length (oz Φ (ρ a) (.cells (l.flatten.map cz) es f p)) ρ (σ.set a .gone).length:=⟨i,fun _ _=>rfl,by rw[b];exact aeu _⟩;obtain⟨n,x,fr',VC,Rw,ps',dC,du,dk,oK,e1,e2,e3,e4,e5,e6,e7,e8⟩:=(L (ρ a)).go _ ρ st O U (fun t k A=>by
  obtain⟨I,E,rfl⟩:=FA A;obtain⟨u,T⟩:=J t I (pP W t _ E);obtain⟨N,R⟩:=g I T (A5 S E);rw[b];exact⟨by rw[R];exact u,N⟩) (O5.df m) (O5.ps Q).2 ⟨hf.1,by rw[b];exact hf.2⟩
 exact aaq
end
section
variable{C:dR} {cF:ql} {σ:VS}
theorem Tb(i b:Nat)(l:List cH)(c:V)(e:gE c=true):gE (o5 i b l c)=true:=by
 cases c with
 |ms m j k h f=>
  unfold o5;split<;>rfl
 |agg a=>cases e
 |dS a=>cases e
 |_=>rfl
theorem Mg{Φ:Fz}{ρ:Nat->Nat}{f b e n i:Nat}{l:List cH}(v:∀c,e9 Φ i c->uG f e n c->e9 Φ i (o5 f b l c)/\erase ρ (o5 f b l c)=erase ρ c):
  ∀a:List V,eV Φ i a->yM f e n a->eV Φ i (B0 f b l a)/\cl ρ (B0 f b l a)=cl ρ a/\(B0 f b l a).length=a.length:=by
 intro a;induction a with
 |nil=>intro _ _;exact⟨fun c j=>(by simp[B0]at j),rfl,rfl⟩
 |cons c B x=>
  intro j h;obtain⟨A,k⟩:=v c (j c sm) h.1;obtain⟨p,o,m⟩:=x (fun s hu=>j s (by simp[hu])) h.2;refine⟨fun s hu=>?_,?_,?_⟩
  ·simp only[B0,List.mem_cons]at hu;rcases hu with rfl|hu
   ·exact A
   ·exact p s hu
  ·simp only[B0,cl,k,o]
  ·simp only[B0,aeN,m]
theorem Tc{m b:Nat}{l:List cH}:∀c:List V,(∀e∈c,gE e=true)->∀e∈B0 m b l c,gE e=true:=by
 intro c;induction c with
 |nil=>intro _ e f;simp[B0]at f
 |cons j k i=>
  intro f e a;simp only[B0,List.mem_cons]at a;rcases a with rfl|a
  ·exact Tb _ _ _ _ (f j sm)
  ·exact i (fun n h=>f n (by simp[h])) e a
theorem Real.acB{Φ:Fz}{ρ:Nat->Nat}{st:St}(m:Real Φ ρ σ st){j:Nat}{cs cs':List V}(B:σ[j]?=some (.box cs))(U:cl ρ cs'=cl ρ cs)(R:cs'.length=cs.length)(W:eV Φ σ.length cs')(g:∀q∈cs',gE q=true):
  Real Φ ρ (σ.set j (.box cs')) st:=by
 have F:j<σ.length:=(aet.1 B).1;have f:∀c i,(σ.set j (.box cs'))[c]?=some i->(c=j/\i=.box cs')∨(c≠j/\σ[c]?=some i):=fun c i a=>by
  by_cases n:c=j
  ·subst n;rw[List.getElem?_set_self F]at a;exact .inl ⟨Z,(Option.some.inj a).symm⟩
  ·rw[aeS (fun M=>n M.symm)]at a;exact .inr ⟨n,a⟩
 have e:∀c i,(σ.set j (.box cs'))[c]?=some i->live i=true->∃H,σ[c]?=some H/\live H=true:=fun c i a h=>by
  rcases f c i a with⟨rfl,rfl⟩|⟨_,b⟩
  ·exact⟨_,B,Z⟩
  ·exact⟨_,b,h⟩
 refine⟨m.wf,m.wm,m.fz,m.PJ,m.ss,m.PK,fun c A l d n K N a o=>?_,fun c i a h=>?_,fun c G L Q a p X Y n=>?_,fun c A l d n K N J r a o T S C=>?_⟩
 ·rcases f c _ a with⟨_,b⟩|⟨_,b⟩
  ·cases b
  ·exact m.K2 c A l d n K N b o
 ·rw[aeO];rcases f c i a with⟨rfl,rfl⟩|⟨_,b⟩
  ·obtain⟨⟨⟨x,D⟩,E,t⟩,P⟩:=m.obj c _ B rfl;exact⟨⟨⟨by rw[U,R];exact x,D⟩,W,g⟩,P⟩
  ·exact m.obj c i b h
 ·obtain⟨v,s,k⟩:=e c L a X;obtain⟨O,b,I⟩:=e G Q p Y;exact m.inj c G v O s b k I n
 ·rcases f c _ a with⟨_,b⟩|⟨_,b⟩
  ·cases b
  ·obtain⟨x,E⟩:=m.dP c A l d n K N J r b o T S C;refine⟨x,fun G i p h=>?_⟩;obtain⟨v,s,k⟩:=e G i p h;exact E G v s k
theorem rk(a j:Nat)(s:Tm){c:Code}{es:Nat}{A:List (List V)}{l:List cH}{cs:List V}(v:nth σ a=some (.row es A))(B:nth σ j=some (.box cs))(N:qC A=some l)(ae:mP s w)(ab:Hn a es l.length s)(W:yM a es l.length cs) 
  (Y:∀S,cd C cF u c (Ta a S l s) g q ((σ.set a .gone).set j (.box (B0 a S l cs))) d):cd C cF u c w g q σ d:=by
 refine⟨fun Φ ρ st t T Q E z hf=>?_⟩;rw[ck]at v B;have L:a≠j:=fun R=>by subst R;rw[v]at B;cases B
 obtain⟨i,f,p,K⟩:=sf T v;have af:=(T.obj a _ v rfl).2;have O:cl ρ A.flatten=l.flatten.map cz:=by rw[fQ N,uD]
 rw[O]at K;have ac:=T.freeze v K;have h:=vI (o:=fX.cells (l.flatten.map cz) es f p) af;rw[fQ N]at i;obtain⟨d1,d2⟩:=i.d;have D:∀R∈l,∀y∈R,xw (oz Φ (ρ a) (.cells (l.flatten.map cz) es f p)) y:=fun R ag y E=>(d2 R ag y E).mono h;have o:(σ.set a .gone).length=σ.length:=aeO;have H:∀e,e9 Φ σ.length e->uG a es l.length e->e9 (oz Φ (ρ a) (.cells (l.flatten.map cz) es f p)) σ.length (o5 a (ρ a) l e)/\erase ρ (o5 a (ρ a) l e)=erase ρ e:=
  fun e G F=>po (Φ:=oz Φ (ρ a) (.cells (l.flatten.map cz) es f p)) (f:=f) (p:=p) rfl (by rw[lf];exact if_pos rfl) (Or.inl rfl) d1 D e (G.mono h (aeu _)) F
 have m:=(T.obj j _ B rfl).1;have J:eV (oz Φ (ρ a) (.cells (l.flatten.map cz) es f p)) σ.length cs:=fun e H=>(m.2.1 e H).mono h (aeu _);have k:∀e,e9 (oz Φ (ρ a) (.cells (l.flatten.map cz) es f p)) σ.length e->uG a es l.length e->e9 (oz Φ (ρ a) (.cells (l.flatten.map cz) es f p)) σ.length (o5 a (ρ a) l e)/\erase ρ (o5 a (ρ a) l e)=erase ρ e:=
  fun e G F=>po (Φ:=oz Φ (ρ a) (.cells (l.flatten.map cz) es f p)) (f:=f) (p:=p) rfl (by rw[lf];exact if_pos rfl) (Or.inl rfl) d1 D e G F
 obtain⟨U,ad,X⟩:=Mg k cs J W;have I:=ac.acB (j:=j) (cs:=cs) (cs':=B0 a (ρ a) l cs) (by rw[aeS L];exact B) ad X (by rw[o];exact U) (Tc cs m.2.2);have b:((σ.set a .gone).set j (.box (B0 a (ρ a) l cs))).length=σ.length:=by rw[aeO,o]
 have O5:iJ Φ ρ σ.length (oz Φ (ρ a) (.cells (l.flatten.map cz) es f p)) ρ ((σ.set a .gone).set j (.box (B0 a (ρ a) l cs))).length:=⟨h,fun _ _=>rfl,by rw[b];exact aeu _⟩;obtain⟨n,x,fr',VC,Rw,ps',dC,du,dk,oK,e1,e2,e3,e4,e5,e6,e7,e8⟩:=(Y (ρ a)).go _ ρ st t I (fun ah e k=>by
  obtain⟨P,M,rfl⟩:=FA k;obtain⟨ai,S⟩:=Q ah P (pP ae ah _ M);obtain⟨r,aa⟩:=H P S (A5 ab M);rw[b];exact⟨by rw[aa];exact ai,r⟩) (O5.df E) (O5.ps z).2 ⟨hf.1,by rw[b];exact hf.2⟩
 exact aaq
end
end Go.VM
