/- Part of the proof. -/
import Derived.Test.YtpejealjkmhkgaaGreatDoorKAr
set_option linter.all false
set_option maxHeartbeats 16000000
set_option maxRecDepth 100000
open Int renaming ofNat->YL,ofNat_eq_natCast->YM
open Bool renaming and_eq_true->YN
open List renaming getElem?_eq_some_iff->YO,range'->YR,length_cons->YS,length_set->YT,map_congr_left->YU,cons_append->YV,getElem?_set_ne->YX,map_id->YY
open Nat renaming le_refl->YP,not_lt_zero->YQ,le_trans->YW
namespace Go.VM
open Go.AM
def xH:Nat->Bool:=fun _=>false
theorem aZ{b:Bool}{p e:Prop}(a:b=true->p)(c:b=false->e):hz p e b:=by
 cases b
 ·exact c Z
 ·exact a Z
theorem a8{b:Bool}{p e:Prop}(c:b=true)(a:p):hz p e b:=by rw[c];exact a
theorem a6{b:Bool}{p c:Prop}(e:b=false)(a:c):hz p c b:=by rw[e];exact a
theorem a1{p b:Prop}(c:p)(a:b):iY p b:=⟨c,a⟩
theorem b0{n:Int}{m:Nat}{b:Nat->Prop}(c:n=YL m)(a:b m):DU n b:=⟨m,c,a⟩
theorem b6{p b:Prop}(a:b)(c:p:=by repeat' (first|exact tv|exact rfl|refine b0 rfl ?_|refine And.intro ?_ ?_)):iY p b:=⟨c,a⟩
theorem b4{a:Type}{p:a->Prop}{e:a->Prop}(b:a)(f:p b)(c:e b):∃b,p b/\e b:=⟨b,f,c⟩
theorem Ug{a:Prop}(b:a:=by simp only[List.length_map,List.length_take,List.length_drop,List.length_append,List.length_cons,List.length_nil,uO];omega):a:=b
theorem b8{p b:Prop}(a:b)(c:p:=by repeat' (first|exact tv|exact rfl|refine b0 rfl ?_|with_reducible assumption|exact Nat.zero_le _|exact Nat.le_refl _|exact Nat.le_of_ble_eq_true rfl|refine b0 (by with_reducible assumption) ?_|refine b4 _ rfl ?_|refine b4 _ (by with_reducible assumption) ?_|refine a8 (by with_reducible assumption) ?_|refine a6 (by with_reducible assumption) ?_|refine a1 ?_ ?_|refine And.intro ?_ ?_|refine Yi ?_ (Nat.le_of_ble_eq_true rfl)|refine Yj ?_|refine b4 _ (by assumption) ?_|refine b0 (by assumption) ?_|assumption|exact Ug|omega)):iY p b:=⟨c,a⟩
theorem dX{b:Bool}{p e c:Prop}(a:c)(f:(b=true/\c=p)∨(b=false/\c=e):=by first|exact .inl ⟨by with_reducible assumption,rfl⟩|exact .inr ⟨by with_reducible assumption,rfl⟩):hz p e b:=by
 rcases f with⟨rfl,rfl⟩|⟨rfl,rfl⟩<;>exact a
theorem Ep{b:Type}{p f i:b->Prop}(a:b)(j:p a)(e:f a)(c:i a):∃a,p a/\f a/\i a:=⟨a,j,e,c⟩
variable{d:dC->VS->Prop}
theorem iU{a b:V}{σ:VS}(e:a=b)(c:d (.ret b) σ):d (.ret a) σ:=e▸c
theorem db{a b:Bool}{σ:VS}(e:a=b)(c:d (.ret (ct b)) σ):d (.ret (ct a)) σ:=e▸c
variable{q:IntKind}
theorem ki{a b:Int}{σ:VS}(e:a=b)(c:d (.ret (.d (.int q b))) σ):d (.ret (.d (.int q a))) σ:=e▸c
def b3(n:Nat):V:=.d (.int .i64 (YL n))
def cq(a:List UInt8):V:=.d (.str a)
theorem int_eq{a b:Int}(c:a=b):some (V.d (.int q a))=some (V.d (.int q b)):=by rw[c]
theorem wrap64{n:Int}(b: -9223372036854775808<=n)(a:n<9223372036854775808):IntKind.i64.wrap n=n:=by
 unfold IntKind.wrap;simp only[IntKind.signed,IntKind.bits];first
  |(show(if _ then _ else _)=_;split<;>omega)
  |(simp;omega)
theorem dg{a b:Nat}(c:a+b<9223372036854775808):IntKind.i64.wrap (YL a+YL b)=YL (a+b):=by
 simp only[YM];rw[wrap64 om om];omega
theorem cp{a:Nat}(b:a<9223372036854775807):IntKind.i64.wrap (YL a+1)=YL (a+1):=dg (b:=1) om
theorem CL{a b:Nat}(c:decide (YL a<=YL b)=true):a<=b:=by
 have:=of_decide_eq_true c;simp only[YM]at this;omega
theorem fF{a b:Nat}(c:decide (YL a<YL b)=true):a<b:=by
 have:=of_decide_eq_true c;simp only[YM]at this;omega
theorem CM{a b:Nat}(c:decide (YL a=YL b)=true):a=b:=by
 have:=of_decide_eq_true c;simp only[YM]at this;omega
theorem wc{a b:Nat}(c:decide (YL a<=YL b)=false):b<a:=by
 have:=of_decide_eq_false c;simp only[YM]at this;omega
theorem dR{a b:Nat}(c:decide (YL a<YL b)=false):b<=a:=by
 have:=of_decide_eq_false c;simp only[YM]at this;omega
theorem Er{a b:Nat}(c:decide (YL a=YL b)=false):a≠b:=by
 have:=of_decide_eq_false c;simp only[YM]at this;omega
variable{k:List V} {t:Nat} {r:s7} {g:zk->Tm->List e8->lm->VS->Prop} {s:lm} {h:List e8}
section
variable{C:dU} {cD:FuncId->List Value->Option Value}
theorem b9{f:FuncId}{σ:VS}(a:Ap C cD xH f k false .none σ fun c _ σ=>d c σ)(b:∀e,cD f e=none:=by exact fun _=>rfl):b1 C cD f k σ d:=b1.body xH b a
theorem cz{f:FuncId}{σ:VS}(b:Ap C cD xH f k false .none σ fun e _ a=>cP σ.length e a d)(c:∀i,cD f i=none:=by exact fun _=>rfl):b1 C cD f k σ d:=cA xH c b
def Ay:Nat->List Nat->Nat->Bool
 |0,_,_=>true
 |_+1,[],_=>false
 |p+1,c::a,b=>Nat.beq c b&&Ay p a (b+1)
theorem p0:∀{e:Nat} {a:List Nat} {f b:Nat},Ay e a f=true->b<e->a[b]?=some (f+b):=by
 intro e;induction e with
 |zero=>intro a f b _ c;omega
 |succ e j=>
  intro a f b c i;cases a with
  |nil=>cases c
  |cons l a=>
   simp only[Ay,YN]at c;cases b with
   |zero=>simp[Nat.eq_of_beq_eq_true c.1]
   |succ b=>
    have:=j c.2 (Nat.lt_of_succ_lt_succ i);simp only[List.getElem?_cons_succ,this];congr 1;omega
def u0(a:Nat->Nat)(e:Nat)(σ:VS):List Nat->VS->Prop
 |[],[]=>True
 |i::c,f::b=>nth σ i=some (dH a f)/\fG e f=true/\u0 a e σ c b
 |_,_=>False
theorem Az{i:Nat->Nat}{σ:VS}:∀{b:List Nat} {a:VS},u0 i t σ b a->b.length=a.length/\∀(e:Nat) (f:cL),a[e]?=some f->∃l,b[e]?=some l/\σ[l]?=some (dH i f)/\fG t f=true:=by
 intro b;induction b with
 |nil=>
  intro a j;cases a with
  |nil=>exact⟨rfl,fun e f c=>by simp at c⟩
  |cons _ _=>exact j.elim
 |cons l b w=>
  intro a j;cases a with
  |nil=>exact j.elim
  |cons f a=>
   obtain⟨o,m,p⟩:=j;obtain⟨v,n⟩:=w p;refine⟨by simp[v],fun e u c=>?_⟩;cases e with
   |zero=>simp at c;subst c;exact⟨l,rfl,by rw[<-cv];exact o,m⟩
   |succ e=>obtain⟨x,y,z,A⟩:=n e u (by simpa using c);exact⟨x,by simpa using y,z,A⟩
theorem Real.pick{Φ:Fz}{ρ:Nat->Nat}{σ ii:VS}{st:St}{i:List Nat}(m:Real Φ ρ σ st)(G:i.Nodup)(P:u0 (jg i σ.length) ii.length σ i ii):Real Φ (fun f=>ρ (jg i σ.length f)) ii st:=by
 obtain⟨X,j⟩:=Az P;have a:∀{f l:Nat},i[f]?=some l->ρ (jg i σ.length f)=ρ l:=fun{f l} b=>by rw[jY b]
 refine⟨m.wf,m.wm,m.fz,m.Ma,m.qu,m.Mb,fun f Q I S M U V b e=>?_,fun f g b K=>?_,fun f L d W b O J H M=>?_,fun f Q I S M U V N C b e R o p=>?_⟩
 ·obtain⟨l,u,y,_⟩:=j f _ b;rw[a u]at e;exact m.H0 l _ _ _ _ _ _ y e
 ·obtain⟨l,u,y,S⟩:=j f _ b;obtain⟨w,z⟩:=m.obj l _ y (by rw[h9];exact K);rw[a u];exact⟨w.OZ S,z⟩
 ·obtain⟨l,u,y,_⟩:=j f _ b;obtain⟨A,n,x,_⟩:=j L _ O;rw[a u,a n]at M;have:=m.inj l A _ _ y x (by rw[h9];exact J) (by rw[h9];exact H) M;subst this;obtain⟨C,o⟩:=YO.1 u;obtain⟨T,E⟩:=YO.1 n;have v:=List.pairwise_iff_getElem.1 G;rcases Nat.lt_trichotomy f L with c|c|c
  ·exact absurd (o.trans E.symm) (v f L C T c)
  ·exact c
  ·exact absurd (E.trans o.symm) (v L f T C c)
 ·obtain⟨l,u,y,_⟩:=j f _ b;rw[a u]at e p;obtain⟨w,z⟩:=m.dS l _ _ _ _ _ _ N C y e R o p;refine⟨w,fun B Y D F=>?_⟩;obtain⟨A,n,x,_⟩:=j B _ D;show ρ (jg i σ.length B)≠C;rw[a n];exact z A _ x (by rw[h9];exact F)
theorem cl.pick(p:Nat)(b:List Nat){j:s7}{c:Code}{L eW:Tm}{σ ii:VS}{o:List e8}{i:lm}{s:zk->Tm->List e8->lm->VS->Prop}(g:nU (rj (jg b σ.length) eW) L)(A:At ii.length eW=true)(e:Nat.ble j.fl p=true)(hid:Ay p b 0=true) 
  (z:Eo p o=true) (K:RQ p i=true) (G:b.Nodup) (B:u0 (jg b σ.length) ii.length σ b ii) (ag:cl C cD j c eW o i ii s):cl C cD j c L o i σ s:=by
 refine⟨fun Φ ρ st W Y Q w R D=>?_⟩;obtain⟨X,_⟩:=Az B;have e:=Nat.le_of_ble_eq_true e;have v:∀l,l<p->jg b σ.length l=l:=fun l q=>by
  have:=p0 hid q;rw[jY this];omega
 have n:p<=ii.length:=by
  rcases Nat.lt_or_ge ii.length p with h1|h1
  ·have:=p0 hid h1;rw[<-X,List.getElem?_eq_none (YP _)]at this;cases this
  ·exact h1
 have a:hU Φ ρ p Φ (fun l=>ρ (jg b σ.length l)) ii.length:=⟨Fz.le_refl _,fun ac h=>by show ρ (jg b σ.length ac)=_;rw[v ac h],n⟩;have u:=KQ z w.2;have f:yT Φ p i:=by
  cases i with
  |fu aa=>exact Gr (M:=σ.length) R K
  |none=>trivial
  |pG=>trivial
 have H:ea (fun l=>ρ (jg b σ.length l)) j=ea ρ j:=((a.weaken e).I0 (m:=σ.length) D).1;obtain⟨ae,ad,I,y,N,F,E,O,x,J,M,V,k,r,S,U,T,d⟩:=ag.go Φ (fun l=>ρ (jg b σ.length l)) st W (Y.pick G B) (fun ab aa P=>by
   obtain⟨t,af⟩:=Q ab (gJ (jg b σ.length) aa) (nV g ab _ (by rw[uY,P];rfl));rw[h8]at t;exact⟨t,k1 _ af (xF A P)⟩) (a.df ⟨w.1,u⟩) (a.ps f).2 ⟨D.1,YW e n⟩
 refine⟨ae,ad,I,y,N,F,E,O,x,J,?_,?_,k,r,S,U,T,d⟩
 ·rw[H,(a.ps f).1]at M;exact M
 ·exact(a.weaken e).then V (YP _)
inductive N9 (fl:Nat) (eW:Tm) (ii:VS) (df:List e8) (ps:lm) (tm:Tm) (σ:VS):Prop
 |same (hs:nU eW tm) (h:σ=ii)
 |drop (n:Nat) (hs:nU eW tm) (hn:Nat.ble n σ.length=true) (Yk:Nat.ble fl n=true) (hb:ln n σ n=true) (ht:At n eW=true) (Yl:Eo n df=true) (Ym:RQ n ps=true) (h:σ.take n=ii)
 |pick (p:Nat) (ix:List Nat) (hs:nU (rj (jg ix σ.length) eW) tm) (YG:At ii.length eW=true) (Yk:Nat.ble fl p=true) (hid:Ay p ix 0=true) (Yl:Eo p df=true) (Ym:RQ p ps=true) (YH:ix.Nodup) (hp:u0 (jg ix σ.length) ii.length σ ix ii)
theorem cF{c:Code}{l eW:Tm}{σ ii:VS}(w:N9 r.fl eW ii h s l σ)(v:cl C cD r c eW h s ii g):cl C cD r c l h s σ g:=by
 cases w with
 |same e x=>subst x;exact v.less e
 |drop z e u b n m a f x=>subst x;exact cl.drop z e u b n m a f v
 |pick y p e i b hid a f j o=>exact cl.pick y p e i b hid a f j o v
theorem cl.iter{D:Type}(e:D->Tm)(f:D->VS)(G:D->Nat)(I:D->Prop){b:Code} 
  (an:∀m,I m->vc C cD r b (e m) h s (f m) fun x S u l σ=>match x with
   |.norm=>∃n,I n/\G n<G m/\N9 r.fl (e n) (f n) h s S σ/\u=h/\l=s
   |x=>g x S u l σ) (m:D) (M:I m):cl C cD r (.loop b) (e m) h s (f m) g:=by
 have P:∀U m,G m=U->I m->cl C cD r (.loop b) (e m) h s (f m) g:=by
  intro U;induction U using Nat.strongRecOn with
  |_ U ai=>
   intro m af M;refine⟨fun Φ ρ st O ad d V aa L=>?_⟩;obtain⟨y,ao,H,o,c,B,j,x,E,z,p,i,v,w,a,al,rfl⟩:=pX b (an m M) (fr:=O) ⟨ad,d,V,aa⟩ L;cases x with
   |norm=>
    obtain⟨n,ag,X,ac,rfl,rfl⟩:=v;have v:=cF ac (ai (G n) (af▸X) n rfl ag);obtain⟨F,x,K,N,u,l,J,T,A,R,ah,q,aj,ak,W,k,Y,ae⟩:=v.go o c j i a.real a.tm a.df a.ps (w.I0 L).2;refine⟨max y (F+1),x,K,N,u,l,J,T,A,R,?_,w.then q (YP _),aj,ak,W,k,Y,ae⟩;have t:=gG (gP (C:=C) (cD:=cD) (Nat.le_max_left y (F+1))) _ H;have ab:(iS C cD (F+1)).code (ea c r) (.loop b) i (c4 c p) j=some (eh A x,K,c4 A l,J):=ah;have Q:=(gP (C:=C) (cD:=cD) (Nat.le_max_right y (F+1))).code _ _ _ _ _ _ ab;unfold code;rw[t];simp only[eh];rw[(w.I0 L).1]at Q;exact Q
   |exit id=>exact⟨y,.exit id,i,E,z,p,j,o,c,B,by unfold code;rw[H];rfl,w,a.real,a.tm,a.df,a.ps,tv,v⟩
   |ret=>exact⟨y,.ret,i,E,z,p,j,o,c,B,by unfold code;rw[H];rfl,w,a.real,a.tm,a.df,a.ps,tv,v⟩
   |panic am=>exact⟨y,.panic am,i,E,z,p,j,o,c,B,by unfold code;rw[H];rfl,w,a.real,a.tm,a.df,a.ps,al,v⟩
 exact P _ m Z M
mutual
theorem jp(π:Nat->Nat):∀v:V,bd 0 v=true->gJ π v=v
 |.d _,_=>by simp only[gJ]
 |.bp _ _,h=>by simp only[bd]at h;exact absurd (gi h) (YQ _)
 |.ptr _ _ _ _,h=>by simp only[bd]at h;exact absurd (gi h) (YQ _)
 |.fp _ _ _,_=>by simp only[gJ]
 |.ms _ _ _ _ _,h=>by simp only[bd]at h;exact absurd (gi h) (YQ _)
 |.map _,h=>by simp only[bd]at h;exact absurd (gi h) (YQ _)
 |.fn _ a c,h=>by simp only[bd,YN]at h;simp only[gJ,fj π a h.1,fj π c h.2]
 |.rN _,h=>by simp only[bd]at h;exact absurd (gi h) (YQ _)
 |.iface _ v,h=>by simp only[bd]at h;simp only[gJ,jp π v h]
 |.agg l,h=>by simp only[bd]at h;simp only[gJ,fj π l h]
 |.dV l,h=>by simp only[bd]at h;simp only[gJ,fj π l h]
theorem fj(π:Nat->Nat):∀l:List V,e5 0 l=true->gU π l=l
 |[],_=>by simp only[gU]
 |v::l,h=>by simp only[e5,YN]at h;simp only[gU,jp π v h.1,fj π l h.2]
end
def cN:dC->Bool
 |.ret a=>bd 0 a
 |.eE a=>bd 0 a
theorem a7{c:dC}{σ:VS}(n:Nat)(b:d c (σ.take n))(i:Nat.ble n σ.length=true:=by exact rfl)(f:ln n σ n=true:=by exact rfl)(e:O0 n c=true:=by exact rfl)(a:Nat.ble t (σ.take n).length=true:=by exact rfl):cP t c σ d:=
 cP.drop n i f e (cP.now a b)
theorem b1.closed{f:FuncId}{args:List V}{P:dC->Prop}(n:b1 C cD f args [] fun b i=>i=[]/\cN b=true/\P b)(c:e5 0 args=true){σ:VS}(j:∀b,P b->d b σ):b1 C cD f args σ d:=by
 refine n.frame [] Z List.nodup_nil (fun v u m=>by simp at m) c (fj _ args c).symm (fun a l m _=>?_);obtain⟨rfl,e,o⟩:=m;have:mf (jg [] σ.length) a=a:=by
  cases a with
  |ret p=>simp only[mf];rw[jp _ p e]
  |eE p=>simp only[mf];rw[jp _ p e]
 rw[this];simp only[List.map_nil,merge,List.append_nil];exact j a o
theorem cQ{f:FuncId}{v:V}(l:b1 C cD f k [] fun b a=>a=[]/\b=.ret v)(j:e5 0 k=true)(i:bd 0 v=true){σ:VS}(e:d (.ret v) σ):b1 C cD f k σ d:=
 b1.closed (P:=fun b=>b=.ret v) (l.mono fun b a c=>⟨c.1,by rw[c.2];exact i,c.2⟩) j fun b c=>by rw[c];exact e
end
mutual
theorem qC(π:Nat->Nat)(k:Nat)(h:∀i,i<k->π i=i):∀v:V,bd k v=true->gJ π v=v
 |.d _,_=>by simp only[gJ]
 |.bp _ _,hb=>by simp only[bd]at hb;simp only[gJ,h _ (gi hb)]
 |.ptr _ _ _ _,hb=>by simp only[bd]at hb;simp only[gJ,h _ (gi hb)]
 |.fp _ _ _,_=>by simp only[gJ]
 |.ms _ _ _ _ _,hb=>by simp only[bd]at hb;simp only[gJ,h _ (gi hb)]
 |.map _,hb=>by simp only[bd]at hb;simp only[gJ,h _ (gi hb)]
 |.fn _ a c,hb=>by simp only[bd,YN]at hb;simp only[gJ,mg π k h a hb.1,mg π k h c hb.2]
 |.rN _,hb=>by simp only[bd]at hb;simp only[gJ,h _ (gi hb)]
 |.iface _ v,hb=>by simp only[bd]at hb;simp only[gJ,qC π k h v hb]
 |.agg l,hb=>by simp only[bd]at hb;simp only[gJ,mg π k h l hb]
 |.dV l,hb=>by simp only[bd]at hb;simp only[gJ,mg π k h l hb]
theorem mg(π:Nat->Nat)(k:Nat)(h:∀i,i<k->π i=i):∀l:List V,e5 k l=true->gU π l=l
 |[],_=>by simp only[gU]
 |v::l,hb=>by simp only[e5,YN]at hb;simp only[gU,qC π k h v hb.1,mg π k h l hb.2]
end
theorem Mo(a:Nat->Nat)(f:Nat)(l:∀i,i<f->a i=i):∀c:Tm,At f c=true->rj a c=c:=by
 intro c;induction c with
 |nil=>intro _;rfl
 |cons j c e=>
  obtain⟨n,m⟩:=j;intro b;simp only[At,YN]at b;simp only[rj,qC a f l m b.1,e b.2]
theorem O1(b:Nat->Nat)(f:Nat)(i:∀m,m<f->b m=m)(o:cL)(a:fG f o=true):dH b o=o:=by
 cases o with
 |box n=>simp only[dH];rw[mg b f i n a]
 |row l j=>
  simp only[dH];congr 1;simp only[fG,List.all_eq_true]at a;conv=>rhs;rw[<-YY j]
  exact YU fun e c=>mg b f i e (a e c)
 |map l y=>
  simp only[dH];congr 1;simp only[fG,List.all_eq_true,YN]at a;conv=>rhs;rw[<-YY l]
  exact YU fun e c=>by
   obtain⟨p,v,x⟩:=e;have:=a _ c;simp only[I3,qC b f i p this.1,qC b f i v this.2,id]
 |loop u=>
  simp only[fG,YN]at a;simp only[dH,Mo b f i u.tm a.1,i _ (gi a.2)]
 |eG w=>rfl
 |gone=>rfl
theorem RR(a:VS)(o b:cL)(c:VS):(a++o::c).set a.length b=a++b::c:=by
 induction a with
 |nil=>rfl
 |cons f a e=>simp only[YV,YS,List.set_cons_succ,e]
theorem Mq:∀(c a b ext:VS),c.length=a.length->merge (b++(a++ext)) (YR b.length a.length) c=b++(c++ext):=by
 intro c;induction c with
 |nil=>
  intro a b ext e;have:a=[]:=List.eq_nil_of_length_eq_zero e.symm;subst this;simp[merge]
 |cons i c f=>
  intro a b ext e;cases a with
  |nil=>simp at e
  |cons j a=>
   simp only[YS,List.range'_succ,merge];rw[YV,RR];have:=f a (b++[i]) ext (by simpa using e);simp only[List.length_append,YS,List.length_nil,List.append_assoc,YV,List.nil_append]at this;exact this
section
variable{C:dU} {cD:FuncId->List Value->Option Value}
theorem b1.pre{f:FuncId}{a:VS}{I:dC->VS->Prop}(z:b1 C cD f k a d)(ext:VS)(u:ln a.length a a.length=true)(w:e5 a.length k=true) 
  (D:∀x e,d x e->e.length=a.length/\ln a.length e e.length=true/\O0 a.length x=true/\I x (e++ext)):b1 C cD f k (a++ext) I:=by
 have hid:∀J o,o<a.length->jg (YR 0 a.length) J o=o:=fun J o n=>by
  rw[jY (i:=o) (by rw[List.getElem?_range' n];simp)]
 have i:∀p,fG a.length p=true->dH (jg (YR 0 a.length) (a++ext).length) p=p:=fun p c=>O1 _ _ (hid _) p c;refine z.frame (YR 0 a.length) sm (List.nodup_range') (fun M o H=>?_) w (mg _ _ (hid _) _ w).symm (fun m b H L=>?_)
 ·obtain⟨j,K⟩:=YO.1 H;simp only[List.length_range']at j;simp only[List.getElem_range',Nat.one_mul,Nat.zero_add]at K;subst K;have c:=List.getElem?_eq_getElem (l:=a) j;refine⟨_,c,?_,zp u j c⟩;rw[i _ (zp u j c),List.getElem?_append_left j,c]
 ·obtain⟨E,y,v,B⟩:=D m b H;have G:mf (jg (YR 0 a.length) (a++ext).length) m=m:=by
   cases m with
   |ret A=>simp only[mf];rw[qC _ _ (hid _) A v]
   |eE A=>simp only[mf];rw[qC _ _ (hid _) A v]
  have F:b.map (dH (jg (YR 0 a.length) (a++ext).length))=b:=by
   conv=>rhs;rw[<-YY b]
   refine YU fun p c=>?_;obtain⟨o,n⟩:=List.getElem?_of_mem c;exact i p (zp y (YO.1 n).1 n)
  rw[G,F];have:=Mq b a [] ext E;simp only[List.nil_append,List.length_nil]at this;rw[this];exact B
end
section
variable{C:dU} {cD:FuncId->List Value->Option Value} {Φ:Fz} {ρ:Nat->Nat} {σ:VS} {st:St}
theorem Real.gone(j:Real Φ ρ σ st):Real Φ ρ (σ++[.gone]) st:=by
 have C:hU Φ ρ σ.length Φ ρ (σ++[cL.gone]).length:=⟨Fz.le_refl _,fun _ _=>rfl,by simp⟩;have b:∀(f:Nat) (c:cL),(σ++[cL.gone]:VS)[f]?=some c->live c=true->σ[f]?=some c:=by
  intro f c a l;rw[jm]at a;by_cases n:f=σ.length
  ·rw[if_pos n]at a;cases a;cases l
  ·rw[if_neg n]at a;exact a
 refine⟨j.wf,j.wm,j.fz,j.Ma,j.qu,j.Mb,fun f v i G n A B a o=>j.H0 f v i G n A B (b f _ a Z) o,fun f c a l=>?_,fun f x c u a p m e n=>j.inj f x c u (b f _ a m) (b x _ p e) m e n,fun f v i G n A B y I a o E D w=>?_⟩
 ·obtain⟨z,F⟩:=j.obj f c (b f c a l) l;exact⟨C.obj (st:=st) (dI:=st) Z (fun _ _ _ _ _ w=>w) z,F⟩
 ·obtain⟨H,J⟩:=j.dS f v i G n A B y I (b f _ a rfl) o E D w;exact⟨H,fun x u p e=>J x u (b x _ p e) e⟩
theorem cl.gone{l:s7}{c:Code}{v:Tm}{e:List e8}{j:lm}{M:zk->Tm->List e8->lm->VS->Prop}(R:cl C cD l c v e j (σ++[.gone]) M):cl C cD l c v e j σ M:=by
 refine⟨fun Φ ρ st G H a A z m=>?_⟩;have b:hU Φ ρ σ.length Φ ρ (σ++[cL.gone]).length:=⟨Fz.le_refl _,fun _ _=>rfl,by simp⟩;obtain⟨Q,P,p,i,w,o,n,x,f,u,J,F,K,L,B,E,D,I⟩:=R.go Φ ρ st G H.gone (fun O N y=>⟨(a O N y).1,(a O N y).2.mono (Fz.le_refl _) Ug⟩) (b.df A) (b.ps z).2 ⟨m.1,YW m.2 b.len⟩;exact⟨Q,P,p,i,w,o,n,x,f,u,J,F,K,L,B,E,D,I⟩
theorem b1.gone{f:FuncId}{a:List V}{x:dC->VS->Prop}(D:b1 C cD f a (σ++[.gone]) x):b1 C cD f a σ x:=by
 refine⟨fun Φ ρ st n u=>?_⟩;obtain⟨A,y,i,e,l,c,j,o,b,p,w,m⟩:=D.go Φ ρ st n.gone (fun z v=>(u z v).mono (Fz.le_refl _) Ug);exact⟨A,y,i,e,l,c,j,o,⟨b.le,fun E B=>b.rG E Ug,YW Ug b.len⟩,p,w,m⟩
theorem cP.pick{z:Nat}(a:List Nat){F r0:dC}{ii:VS}{E:dC->VS->Prop}(y:F=mf (jg a σ.length) r0)(e:O0 ii.length r0=true)(hid:Ay z a 0=true)(f:a.Nodup)(x:u0 (jg a σ.length) ii.length σ a ii)(u:cP z r0 ii E):cP z F σ E:=by
 subst y;refine⟨fun Φ ρ st H m=>?_⟩;obtain⟨o,l,b,i,A,w,B,C,n,v,p⟩:=u.go Φ (fun G=>ρ (jg a σ.length G)) st (H.pick f x) (by
  cases r0 with
  |ret c=>exact k1 c m e
  |eE c=>exact k1 c m e)
 refine⟨o,l,b,i,A,fun D j=>(w D j).trans ?_,B,C,n,v.trans ?_,p⟩
 ·have:=p0 hid j;show ρ (jg a σ.length D)=ρ D;rw[jY this,Nat.zero_add]
 ·cases r0 with
  |ret c=>simp only[mf,eu,h8]
  |eE c=>simp only[mf,eu,h8]
theorem O2{a:D}(b:flat (cx a)=true):uS Φ a:=by
 cases a<;>first|(cases b;done)|constructor
theorem xI{f:FuncId}{args xs:List D}(i:cD f (args.map cx)=some (.tuple ⟨xs.map cx⟩))(j:∀c∈xs,flat (cx c)=true)(b:d (.ret (.dV (xs.map V.d))) σ):b1 C cD f (args.map V.d) σ d:=by
 refine⟨fun Φ ρ st l m=>⟨1,.ret (.dV (xs.map V.d)),.none,st,Φ,ρ,σ,?_,.refl _ _ _,l,.dV ?_,b⟩⟩
 ·rw[mc];simp only[iS,i,eu,erase,mc];rfl
 ·intro n e;obtain⟨c,a,rfl⟩:=List.mem_map.1 e;exact .d (O2 (j c a))
end
section
variable{C:dU} {cD:FuncId->List Value->Option Value} {σ:VS}
def O3(a b:Nat)(l:List (List D)):Tm->Tm
 |[]=>[]
 |(f,c)::e=>(f,nf a b l c)::O3 a b l e
def Es(a es n:Nat):Tm->Prop
 |[]=>True
 |(_,c)::b=>sk a es n c/\Es a es n b
theorem CN{m b:Nat}{l:List (List D)}:∀{a:Tm} {f:Nat} {i:V},fb (O3 m b l a) f=some i->∃e,fb a f=some e/\i=nf m b l e:=by
 intro a;induction a with
 |nil=>intro f i c;cases c
 |cons n v j=>
  intro f i c;obtain⟨u,p⟩:=n;simp only[O3,fb]at c⊢;split at c
  ·rename_i o;cases c;exact⟨p,Z,Z⟩
  ·exact j c
theorem yr{j es n:Nat}:∀{a:Tm},Es j es n a->∀{i:Nat} {e:V},fb a i=some e->sk j es n e:=by
 intro a;induction a with
 |nil=>intro _ i e b;cases b
 |cons l o f=>
  intro c i e b;obtain⟨m,p⟩:=l;simp only[fb]at b;split at b
  ·cases b;exact c.1
  ·exact f c.2 b
theorem cl.freeze(a:Nat)(j:Tm){F:s7}{c:Code}{N:Tm}{w:List e8}{E:lm}{al:zk->Tm->List e8->lm->VS->Prop}{es:Nat}{els:List (List V)}{l:List (List D)}(n:nth σ a=some (.row es els))(H:oK els=some l)(ac:nU j N)(s:Es a es l.length j) 
  (W:∀t,cl C cD F c (O3 a t l j) w E (σ.set a .gone) al):cl C cD F c N w E σ al:=by
 refine⟨fun Φ ρ st h ag R u q v=>?_⟩;rw[cv]at n;obtain⟨i,f,p,y⟩:=oQ ag n;have ad:=(ag.obj a _ n rfl).2;have K:cm ρ els.flatten=l.flatten.map cx:=by rw[fx H,sh]
 rw[K]at y;have aa:=ag.freeze n y;have m:=tb (o:=fH.cells (l.flatten.map cx) es f p) ad;rw[fx H]at i;obtain⟨d1,d2⟩:=i.d;have z:∀ak∈l,∀k∈ak,uS (mw Φ (ρ a) (.cells (l.flatten.map cx) es f p)) k:=fun ak ah k u=>(d2 ak ah k u).mono m;have e:(σ.set a .gone).length=σ.length:=YT;have ai:∀o,eV Φ σ.length o->sk a es l.length o->eV (mw Φ (ρ a) (.cells (l.flatten.map cx) es f p)) σ.length (nf a (ρ a) l o)/\erase ρ (nf a (ρ a) l o)=erase ρ o:=
  fun o Y T=>nx (Φ:=mw Φ (ρ a) (.cells (l.flatten.map cx) es f p)) (f:=f) (p:=p) rfl (by rw[kh];exact if_pos rfl) (Or.inl rfl) d1 z o (Y.mono m (YP _)) T
 have b:hU Φ ρ σ.length (mw Φ (ρ a) (.cells (l.flatten.map cx) es f p)) ρ (σ.set a .gone).length:=⟨m,fun _ _=>rfl,by rw[e];exact YP _⟩;obtain⟨ap,ao,L,A,O,J,I,P,x,M,ae,d,af,aj,S,X,U,ab⟩:=(W (ρ a)).go _ ρ st h aa (fun am o B=>by
  obtain⟨Q,G,rfl⟩:=CN B;obtain⟨an,t⟩:=R am Q (nV ac am _ G);obtain⟨g,r⟩:=ai Q t (yr s G);rw[e];exact⟨by rw[r];exact an,g⟩) (b.df u) (b.ps q).2 ⟨v.1,by rw[e];exact v.2⟩
 refine⟨ap,ao,L,A,O,J,I,P,x,M,ae,?_,af,aj,S,X,U,ab⟩;exact(b.weaken v.2).then d (YP _)
end
section
variable{C:dU} {cD:FuncId->List Value->Option Value} {σ:VS}
theorem O4(j b:Nat)(l:List (List D))(c:V)(e:gy c=true):gy (nf j b l c)=true:=by
 cases c with
 |ms o m n i f=>
  unfold nf;split<;>rfl
 |agg a=>cases e
 |dV a=>cases e
 |_=>rfl
theorem I5{Φ:Fz}{ρ:Nat->Nat}{f b e n j:Nat}{l:List (List D)}(x:∀c,eV Φ j c->sk f e n c->eV Φ j (nf f b l c)/\erase ρ (nf f b l c)=erase ρ c):
  ∀a:List V,eP Φ j a->wb f e n a->eP Φ j (zq f b l a)/\cm ρ (zq f b l a)=cm ρ a/\(zq f b l a).length=a.length:=by
 intro a;induction a with
 |nil=>intro _ _;exact⟨fun c m=>(by simp[zq]at m),rfl,rfl⟩
 |cons c A y=>
  intro m i;obtain⟨z,o⟩:=x c (m c sm) i.1;obtain⟨v,u,p⟩:=y (fun w hu=>m w (by simp[hu])) i.2;refine⟨fun w hu=>?_,?_,?_⟩
  ·simp only[zq,List.mem_cons]at hu;rcases hu with rfl|hu
   ·exact z
   ·exact v w hu
  ·simp only[zq,cm,o,u]
  ·simp only[zq,YS,p]
theorem O5{o b:Nat}{l:List (List D)}:∀c:List V,(∀e∈c,gy e=true)->∀e∈zq o b l c,gy e=true:=by
 intro c;induction c with
 |nil=>intro _ e f;simp[zq]at f
 |cons m n j=>
  intro f e a;simp only[zq,List.mem_cons]at a;rcases a with rfl|a
  ·exact O4 _ _ _ _ (f m sm)
  ·exact j (fun p i=>f p (by simp[i])) e a
theorem Real.VC{Φ:Fz}{ρ:Nat->Nat}{st:St}(p:Real Φ ρ σ st){j:Nat}{cs cs':List V}(A:σ[j]?=some (.box cs))(S:cm ρ cs'=cm ρ cs)(Q:cs'.length=cs.length)(T:eP Φ σ.length cs')(Y:∀d∈cs',gy d=true):
  Real Φ ρ (σ.set j (.box cs')) st:=by
 have E:j<σ.length:=(YO.1 A).1;have i:∀c o,(σ.set j (.box cs'))[c]?=some o->(c=j/\o=.box cs')∨(c≠j/\σ[c]?=some o):=fun c o a=>by
  by_cases e:c=j
  ·subst e;rw[List.getElem?_set_self E]at a;exact .inl ⟨Z,(Option.some.inj a).symm⟩
  ·rw[YX (fun L=>e L.symm)]at a;exact .inr ⟨e,a⟩
 have f:∀c o,(σ.set j (.box cs'))[c]?=some o->live o=true->∃G,σ[c]?=some G/\live G=true:=fun c o a l=>by
  rcases i c o a with⟨rfl,rfl⟩|⟨_,b⟩
  ·exact⟨_,A,Z⟩
  ·exact⟨_,b,l⟩
 refine⟨p.wf,p.wm,p.fz,p.Ma,p.qu,p.Mb,fun c z n X e J M a u=>?_,fun c o a l=>?_,fun c F K P a v U W e=>?_,fun c z n X e J M I g a u R hx B=>?_⟩
 ·rcases i c _ a with⟨_,b⟩|⟨_,b⟩
  ·cases b
  ·exact p.H0 c z n X e J M b u
 ·rw[YT];rcases i c o a with⟨rfl,rfl⟩|⟨_,b⟩
  ·obtain⟨⟨⟨y,C⟩,D,h⟩,O⟩:=p.obj c _ A rfl;exact⟨⟨⟨by rw[S,Q];exact y,C⟩,T,Y⟩,O⟩
  ·exact p.obj c o b l
 ·obtain⟨x,w,m⟩:=f c K a U;obtain⟨N,b,H⟩:=f F P v W;exact p.inj c F x N w b m H e
 ·rcases i c _ a with⟨_,b⟩|⟨_,b⟩
  ·cases b
  ·obtain⟨y,D⟩:=p.dS c z n X e J M I g b u R hx B;refine⟨y,fun F o v l=>?_⟩;obtain⟨x,w,m⟩:=f F o v l;exact D F x w m
theorem pu(b j:Nat)(z:Tm){c:Code}{d:Tm}{es:Nat}{B:List (List V)}{l:List (List D)}{cs:List V}(A:nth σ b=some (.row es B))(E:nth σ j=some (.box cs))(S:oK B=some l)(aw:nU z d)(aq:Es b es l.length z)(ag:wb b es l.length cs) 
  (ai:∀ab,cl C cD r c (O3 b ab l z) h s ((σ.set b .gone).set j (.box (zq b ab l cs))) g):cl C cD r c d h s σ g:=by
 refine⟨fun Φ ρ st am ac aa G ao J=>?_⟩;rw[cv]at A E;have P:b≠j:=fun e=>by subst e;rw[A]at E;cases E
 obtain⟨v,f,p,O⟩:=oQ ac A;have ax:=(ac.obj b _ A rfl).2;have W:cm ρ B.flatten=l.flatten.map cx:=by rw[fx S,sh]
 rw[W]at O;have ar:=ac.freeze A O;have u:=tb (o:=fH.cells (l.flatten.map cx) es f p) ax;rw[fx S]at v;obtain⟨d1,d2⟩:=v.d;have F:∀e∈l,∀an∈e,uS (mw Φ (ρ b) (.cells (l.flatten.map cx) es f p)) an:=fun e aA an G=>(d2 e aA an G).mono u;have y:(σ.set b .gone).length=σ.length:=YT;have K:∀m,eV Φ σ.length m->sk b es l.length m->eV (mw Φ (ρ b) (.cells (l.flatten.map cx) es f p)) σ.length (nf b (ρ b) l m)/\erase ρ (nf b (ρ b) l m)=erase ρ m:=
  fun m I H=>nx (Φ:=mw Φ (ρ b) (.cells (l.flatten.map cx) es f p)) (f:=f) (p:=p) rfl (by rw[kh];exact if_pos rfl) (Or.inl rfl) d1 F m (I.mono u (YP _)) H
 have x:=(ac.obj j _ E rfl).1;have N:eP (mw Φ (ρ b) (.cells (l.flatten.map cx) es f p)) σ.length cs:=fun m K=>(x.2.1 m K).mono u (YP _);have w:∀m,eV (mw Φ (ρ b) (.cells (l.flatten.map cx) es f p)) σ.length m->sk b es l.length m->eV (mw Φ (ρ b) (.cells (l.flatten.map cx) es f p)) σ.length (nf b (ρ b) l m)/\erase ρ (nf b (ρ b) l m)=erase ρ m:=
  fun m I H=>nx (Φ:=mw Φ (ρ b) (.cells (l.flatten.map cx) es f p)) (f:=f) (p:=p) rfl (by rw[kh];exact if_pos rfl) (Or.inl rfl) d1 F m I H
 obtain⟨ae,au,ah⟩:=I5 w cs N ag;have M:=ar.VC (j:=j) (cs:=cs) (cs':=zq b (ρ b) l cs) (by rw[YX P];exact E) au ah (by rw[y];exact ae) (O5 cs x.2.2);have i:((σ.set b .gone).set j (.box (zq b (ρ b) l cs))).length=σ.length:=by rw[YT,y]
 have n:hU Φ ρ σ.length (mw Φ (ρ b) (.cells (l.flatten.map cx) es f p)) ρ ((σ.set b .gone).set j (.box (zq b (ρ b) l cs))).length:=⟨u,fun _ _=>rfl,by rw[i];exact YP _⟩;obtain⟨aE,aD,X,Q,k,U,T,q,L,Y,ay,ak,az,aB,ad,aj,af,av⟩:=(ai (ρ b)).go _ ρ st am M (fun aC m w=>by
  obtain⟨t,R,rfl⟩:=CN w;obtain⟨a,ab⟩:=aa aC t (nV aw aC _ R);obtain⟨al,ap⟩:=K t ab (yr aq R);rw[i];exact⟨by rw[ap];exact a,al⟩) (n.df G) (n.ps ao).2 ⟨J.1,by rw[i];exact J.2⟩
 refine⟨aE,aD,X,Q,k,U,T,q,L,Y,ay,?_,az,aB,ad,aj,af,av⟩;exact(n.weaken J.2).then ak (YP _)
end
end Go.VM
