/- Part of the proof. -/
import Derived.Test.YtdocmpeionacbaaGreatDoorKAj
set_option linter.all false
set_option maxHeartbeats 16000000
set_option maxRecDepth 100000
open Nat renaming le_refl->ais,le_of_ble_eq_true->aiv,zero_le->aiy,beq->aiE,zero_add->aiM,le_succ_of_le->aiW,not_lt_zero->ai0,ble_eq->ai2
open List renaming length_cons->ait,length_append->aiw,length_nil->aiz,getElem?_eq_getElem->aiA,getElem_mem->aiB,map->aiC,take_of_length_le->aiD,length_set->aiF,length_map->aiG,eq_nil_of_length_eq_zero->aiH,cons_append->aiI,take_add_one->aiJ,drop->aiK,length_pos_iff->aiL,take->aiN,map_append->aiR,mem_cons->aiT,map_cons->aiU,getElem?_map->aiX,append_assoc->aiY,length_drop->aiZ,mem_append->ai1,getElem?_set_self->ai4,take_append_drop->ai5,length->j'
open Int renaming ofNat->aiu,ofNat_eq_natCast->aiP
open Bool renaming false_eq_true->aix,and_eq_true->aiO,true_or->aiS,and_true->aiV,true_and->ai3,true->A',false->B'
open And renaming intro->aiQ
open Option renaming some->q',none->u'
namespace Go.Proofs.YtdocmpeionacbaaGreatDoor
open Go.AM Go.VM
abbrev jP(d:Rd)(c:Nat)(fn:Nat->PR Ex):Prop:=∀a e b,c<=a->a<j' d.ts->fn a=.ok e b->a<b/\b<j' d.ts
abbrev SG(d:Rd)(c:Nat)(fn:Nat->PR Ty):Prop:=∀a e b,c<=a->a<j' d.ts->fn a=.ok e b->a<b/\b<j' d.ts
def kJ{b:Rd}(l:b.Wf){a:Nat->PR Ex}{c:Nat}(f:jP b c a){j:cC}{d e:Nat}{i:Ex}(h:c<=d)(g:d<j' b.ts)(k:eV a b j d=.ok i e):d<e/\e<j' b.ts:=Ux l f h g (.inr k)
theorem p2{a:Rd}(j:a.Wf){g:cC}{d b:Nat}{f:Unit}(c:d<j' a.ts)(e:cw a [g] d=.ok f b):d<b/\b<j' a.ts:=by
 have h:=dI _ _ _ e;have i:=eo j _ _ _ c e
 grind [ait,aiz]
def acw{e:Rd}(j:e.Wf){b:Nat->PR Ex}{d:Nat}(c:jP e d b):jP e d (vW b e):=by
 intro r q u l f a;rw[vW]at a;split at a
 ·cases a
 rename_i s q1 i;have⟨p,n⟩:=gy j f i;split at a
 ·cases a
 rename_i t q2 h;have⟨v,m⟩:=kJ j c om n h;have⟨o,g,_⟩:=dY a;have⟨w,k⟩:=kJ j c om m g;exact⟨om,k⟩
def ZM{f:Rd}(m:f.Wf){g:Nat->PR Ty}{e:Nat->PR Ex}{d:Nat}(i:SG f d g)(c:jP f d e):jP f d (ol g e f):=by
 intro B z n q h a;rw[ol]at a;split at a
 ·cases a
 rename_i s q1 k;have⟨y,v⟩:=lC m (λl w n t=>i l w n om) h k;split at a
 ·cases a
 rename_i u q2 j;have⟨C,r⟩:=c q1 u q2 om v j;split at a
 ·cases a
 rename_i o q3 b;have⟨D,p⟩:=kJ m c om r b;have⟨o,b,_⟩:=dY a;have⟨A,x⟩:=kJ m c om p b;exact⟨om,x⟩
def WE{h:Rd}(f:h.Wf){i:Nat->PR Ty}{g:Nat->PR Ex}{c:Nat}(k:SG h c i)(j:jP h c g):jP h c (lD i g h):=by
 intro x E p l d a;rw[lD]at a;split at a
 ·cases a
 rename_i s q1 e;have⟨u,o⟩:=lC f (λr A p y=>k r A p om) d e;split at a
 ·cases a
 rename_i z q2 n;have⟨C,m⟩:=j q1 z q2 om o n;split at a
 ·cases a
 rename_i t q3 b;have⟨G,v⟩:=p2 f m b;have⟨t,b,_⟩:=dY a;have:=BD f (lo:=c) (λu x w p l d a=>?_) om v b
 ·exact⟨om,this.2⟩
 rw[fX]at a;split at a
 ·cases a
 rename_i s q1 e;have⟨u,o⟩:=q9 f d e;split at a
 ·cases a
 rename_i D q2 q;have⟨C,m⟩:=gy f o q;have⟨t,b,_⟩:=dY a;have⟨F,B⟩:=kJ f j om m b;exact⟨om,B⟩
def ZN{g:Rd}(e:g.Wf){h:Nat->PR Ty}{f:Nat->PR Ex}{d:Nat}(k:SG g d h)(c:jP g d f):jP g d (lE h f g):=by
 intro G E o u j b;rw[lE]at b;split at b
 ·cases b
 rename_i s q1 m;have⟨C,y⟩:=lC e (λn A o x=>k n A o om) j m;split at b
 ·cases b
 rename_i H q2 l;have⟨J,w⟩:=gy e y l;split at b
 ·cases b
 rename_i i q3 a;have⟨K,q⟩:=p2 e w a;split at b
 ·cases b
 rename_i i q4 a;have⟨F,B⟩:=gy e q a;split at b
 ·cases b
 rename_i i v a;have⟨D,t⟩:=kJ e c om B a;split at b
 ·cases b
 rename_i i r a;have⟨L,z⟩:=kJ e c om t a;have⟨i,a,_⟩:=dY b;have⟨I,p⟩:=kJ e c om z a;exact⟨om,p⟩
def ZO{i:Rd}(g:i.Wf){j:Nat->PR Ty}{h:Nat->PR Ex}{b:Nat}(m:SG i b j)(k:jP i b h):jP i b (funcF j h i):=by
 intro z C w n c a;rw[funcF]at a;split at a
 ·cases a
 rename_i s q1 e;have⟨t,q⟩:=p2 g c e;split at a
 ·cases a
 rename_i E q2 p;have o:=BD g (lo:=b) (λt z y w n c a=>?_) om q p
 ·have⟨r,d,_⟩:=dY a;have⟨F,x⟩:=kJ g k om o.2 d;exact⟨om,x⟩
 rw[eA]at a;split at a
 ·cases a
 rename_i s q1 e;have⟨t,q⟩:=q9 g c e;split at a
 ·cases a
 rename_i u q2 f;have⟨G,A⟩:=p2 g q f;split at a
 ·cases a
 rename_i u q3 f;have⟨H,v⟩:=m q2 u q3 om A f;split at a
 ·rename_i l;have⟨r,d,_⟩:=dY a;have⟨D,B⟩:=k (q3+1) r w om (g.step v l) d;exact⟨om,B⟩
 cases a;exact⟨om,v⟩
def WG{c:Rd}(n:c.Wf){i:Nat->PR Ty}{f:Nat}(k:SG c f i){s:cC}{h j:Nat}{p:Ex}(q:f<=h)(e:h<j' c.ts)(d:iA i c s h=.ok p j):h<=j/\j<j' c.ts:=by
 rw[iA]at d;split at d
 ·cases d
 rename_i w y x q1 b;have g:h<=q1/\q1<j' c.ts:=by
  split at b
  ·rename_i m;have⟨o,a,_⟩:=dY b;have⟨v,t⟩:=gy n (n.step e m) a;exact⟨om,t⟩
  cases b;exact⟨ais _,e⟩
 split at d
 ·have⟨o,a,_⟩:=dY d;have:=Bx n (λl u j r=>k l u j om) g.2 a;exact⟨om,this.2⟩
 cases d;exact g
theorem GJ{k:Rd}(f:k.Wf){t:Nat->PR Ty}{p:Nat->PR Ex}{h:Nat}(m:SG k h t)(j:jP k (h+1) p):jP k h (fG t p k):=by
 intro n D z q c a;have v:(k.tok n).kind≠0->n+1<j' k.ts:=λa=>f.go n _ (cn c) a;rw[fG]at a;split at a
 ·exact Uv f c a
 split at a
 ·grind
 split at a
 ·have:=WG f m om (v om) a;exact⟨om,this.2⟩
 split at a
 ·rename_i b;have:=f.step c b;cases a;exact⟨om,this⟩
 split at a
 ·rename_i b;have:=f.step c b;cases a;exact⟨om,this⟩
 split at a
 ·rename_i b;have⟨u,l⟩:=yr f j om (f.step c b) a;exact⟨om,l⟩
 split at a
 ·rename_i b;have e:=f.step c b;split at a
  ·cases a
  rename_i s q1 i;have⟨u,l⟩:=gy f e i;split at a
  ·cases a
  rename_i y q2 g;have⟨A,r⟩:=kJ f j om l g;have⟨o,d,_⟩:=dY a;have⟨C,w⟩:=p2 f r d;exact⟨om,w⟩
 split at a
 ·rename_i b;have e:=f.step c b;split at a
  ·cases a
  rename_i s q1 i;have⟨u,l⟩:=m (n+1) s q1 om e i;split at a
  ·cases a
  rename_i y q2 g;have⟨A,r⟩:=p2 f l g;have⟨o,d,_⟩:=dY a;have:=BD f (lo:=h+1) (λu n B z q c a=>by
   have⟨o,d,_⟩:=dY a;exact j n o z q c d) om r d
  exact⟨om,this.2⟩
 split at a
 ·rename_i b;have e:=f.step c b;split at a
  ·cases a
  rename_i s q1 i;have⟨u,l⟩:=j (n+1) s q1 om e i;split at a
  ·cases a
  rename_i y q2 g;have x:q1<=q2/\q2<j' k.ts:=by
   split at g
   ·rename_i b;have⟨o,d,_⟩:=dY g;have⟨A,r⟩:=m (q1+1) o q2 om (f.step l b) d;exact⟨om,r⟩
   cases g;exact⟨ais _,l⟩
  have⟨o,d,_⟩:=dY a;have⟨C,w⟩:=p2 f x.2 d;exact⟨om,w⟩
 cases a
def aeV{f:Rd}(l:f.Wf){i:Nat->PR Ty}{h:Nat->PR Ex}{lo:Nat}(e:SG f (lo+1) i)(d:jP f (lo+1) h)(n:jP f lo (Wx i h f)):jP f lo (DY i h f):=by
 intro g k j o m b;have c:(f.tok g).kind=5->g+1<j' f.ts:=λb=>l.go g _ (cn m) om;rw[DY]at b;split at b
 ·rename_i a;have:=acw l d (g+1) k j om (c a.1) b;exact⟨om,this.2⟩
 split at b
 ·rename_i a;have:=ZM l e d (g+1) k j om (c a.1) b;exact⟨om,this.2⟩
 split at b
 ·rename_i a;have:=WE l e d (g+1) k j om (c a.1) b;exact⟨om,this.2⟩
 split at b
 ·rename_i a;have:=ZN l e d (g+1) k j om (c a.1) b;exact⟨om,this.2⟩
 split at b
 ·rename_i a;have:=ZO l e d (g+1) k j om (c a.1) b;exact⟨om,this.2⟩
 exact n g k j o m b
def xi{p:FuncId}{c:Rd}{q:Nat}{d:PR Ex}(i:b7 C cm p [.bp 0 0] [ee c q] (Ra c d))(f:Nat){σ:VS}{l:dt->VS->Prop}(e:nth σ f=q' (ee c q))(j:∀o h b,d=.ok o b->iz o h->l (.ret (.agg (h.map V.d))) (σ.set f (ee c b))) 
  (n:∀a s b,d=.bad a s->l (.fJ (dX a s)) (σ.set f (ee c b))):b7 C cm p [.bp f 0] σ l:=by
 refine b7.one (fk:=[.bp 0 0]) (P:=Wy c d) i f e Z Z Z (λu r i=>?_);cases d with
 |ok t b=>
  obtain⟨rfl,h,k,rfl⟩:=i;exact j t h b Z k
 |bad a m=>
  obtain⟨b,rfl,rfl⟩:=i;exact n a m b Z
def DZ:n_ tK:=[⟨cv [108,101,116],.fn uV [.bp 0 0] [],0⟩,⟨cv [105,102],.fn ly [.bp 0 0] [],1⟩,⟨cv [109,97,116,99,104],.fn rF [.bp 0 0] [],2⟩,⟨cv [102,111,108,100],.fn s3 [.bp 0 0] [],3⟩,⟨cv [102,110],.fn n7 [.bp 0 0] [],4⟩]
def SH{a:cC}(d:a≠[108,101,116])(b:a≠[105,102])(f:a≠[109,97,116,99,104])(c:a≠[102,111,108,100])(e:a≠[102,110]):je .string (cv a) DZ 0=q' u':=by
 unfold DZ;rw[na,Z' d,na,Z' b,na,Z' f,na,Z' c,na,Z' e];rfl
def SI{d:Rd}(v:d.Wf){u:Nat->PR Ty}{t:Nat->PR Ex}{c:Nat}(r:iW u d (c+1))(l:oo dz t d (c+1))(s:oo sw (Wx u t d) d c)(i:c<j' d.ts):
  b7 C cm dz [.bp 0 0] [ee d c] (Ra d (DY u t d c)):=by
 have B:=v.len;refine cD ?_;refine cp u' Z ?_;refine cp u' Z ?_;refine cp u' Z ?_;refine cp u' Z ?_;refine cp u' Z ?_;refine iL d c _ (cn i) 0 Z ?_;by_cases b:(d.tok c).kind=5
 ·refine b9 (BE b) ?_;have j:c+1<j' d.ts:=v.go c _ (cn i) om;have k:gZ (d.tok c) c=c+1:=by rw[gZ,W' om]
  by_cases t1:(d.tok c).text=[108,101,116]
  ·refine cp (q' (0,.fn uV [.bp 0 0] [])) (show je .string (cv (d.tok c).text) DZ 0=_ by rw[t1];rfl) ?_;refine j8 d c _ (cn i) om 0 Z ?_;rw[k];refine xi (WC v l j) 0 Z (λw y q e a=>?_) (λg m q e=>?_)
   ·obtain⟨x,A,z,o,f,h,p,n,rfl⟩:=a.eight;refine a8 1 (eL (by simp only[DY,b,t1,true_and,c_,b_];exact e) a)
   refine a8 1 (cZ (by simp only[DY,b,t1,true_and,c_,b_];exact e))
  by_cases t2:(d.tok c).text=[105,102]
  ·refine cp (q' (1,.fn ly [.bp 0 0] [])) (show je .string (cv (d.tok c).text) DZ 0=_ by rw[t2];rfl) ?_;refine j8 d c _ (cn i) om 0 Z ?_;rw[k];refine xi (SB v r l j) 0 Z (λw y q e a=>?_) (λg m q e=>?_)
   ·obtain⟨x,A,z,o,f,h,p,n,rfl⟩:=a.eight;refine a8 1 (eL (by simp only[DY,b,t1,t2,true_and,c_,b_];exact e) a)
   refine a8 1 (cZ (by simp only[DY,b,t1,t2,true_and,c_,b_];exact e))
  by_cases t3:(d.tok c).text=[109,97,116,99,104]
  ·refine cp (q' (2,.fn rF [.bp 0 0] [])) (show je .string (cv (d.tok c).text) DZ 0=_ by rw[t3];rfl) ?_;refine j8 d c _ (cn i) om 0 Z ?_;rw[k];refine xi (PK v r l j) 0 Z (λw y q e a=>?_) (λg m q e=>?_)
   ·obtain⟨x,A,z,o,f,h,p,n,rfl⟩:=a.eight;refine a8 1 (eL (by simp only[DY,b,t1,t2,t3,true_and,c_,b_];exact e) a)
   refine a8 1 (cZ (by simp only[DY,b,t1,t2,t3,true_and,c_,b_];exact e))
  by_cases t4:(d.tok c).text=[102,111,108,100]
  ·refine cp (q' (3,.fn s3 [.bp 0 0] [])) (show je .string (cv (d.tok c).text) DZ 0=_ by rw[t4];rfl) ?_;refine j8 d c _ (cn i) om 0 Z ?_;rw[k];refine xi (SC v r l j) 0 Z (λw y q e a=>?_) (λg m q e=>?_)
   ·obtain⟨x,A,z,o,f,h,p,n,rfl⟩:=a.eight;refine a8 1 (eL (by simp only[DY,b,t1,t2,t3,t4,true_and,c_,b_];exact e) a)
   refine a8 1 (cZ (by simp only[DY,b,t1,t2,t3,t4,true_and,c_,b_];exact e))
  by_cases t5:(d.tok c).text=[102,110]
  ·refine cp (q' (4,.fn n7 [.bp 0 0] [])) (show je .string (cv (d.tok c).text) DZ 0=_ by rw[t5];rfl) ?_;refine j8 d c _ (cn i) om 0 Z ?_;rw[k];refine xi (SF v r l j) 0 Z (λw y q e a=>?_) (λg m q e=>?_)
   ·obtain⟨x,A,z,o,f,h,p,n,rfl⟩:=a.eight;refine a8 1 (eL (by simp only[DY,b,t1,t2,t3,t4,t5,true_and,c_,b_];exact e) a)
   refine a8 1 (cZ (by simp only[DY,b,t1,t2,t3,t4,t5,true_and,c_,b_];exact e))
  refine cp u' (show je .string (cv (d.tok c).text) DZ 0=_ from SH t1 t2 t3 t4 t5) ?_;refine s.call c (ais _) i 0 _ _ Z (λw y q e a=>?_) (λg m q e=>?_)
  ·obtain⟨x,A,z,o,f,h,p,n,rfl⟩:=a.eight;refine a8 1 (eL (by simp only[DY,b,t1,t2,t3,t4,t5,true_and,b_];exact e) a)
  refine a8 1 (cZ (by simp only[DY,b,t1,t2,t3,t4,t5,true_and,b_];exact e))
 refine a7 (E4 b) ?_;refine s.call c (ais _) i 0 _ _ Z (λw y q e a=>?_) (λg m q e=>?_)
 ·obtain⟨x,A,z,o,f,h,p,n,rfl⟩:=a.eight;refine a8 1 (eL (by simp only[DY,b,false_and,b_];exact e) a)
 refine a8 1 (cZ (by simp only[DY,b,false_and,b_];exact e))
def aeW{b:Rd}(d:b.Wf)(e:b.Ng){i:Nat->PR Ty}{f:Nat->PR Ex}{a:Nat}(h:iW i b a)(c:oo dz f b (a+1)):oo sw (Wx i f b) b a:=by
 have o:oo lY (fG i f b) b a:=oo.of (λl m j n g p=>GJ d (λl m j p=>h.lt l m j om) (λl m j p=>c.lt l m j om) l m j n g p) (λl n g=>GI d e ⟨λk v j p=>h.lt k v j om,λk p=>h.call k om⟩ (c.up om) g);have q:=ZK d o c;have r:=agr d e q (j' b.ts) a (j' b.ts) (ais _) om om;have t:=agm d r;have u:=agn d t;have s:=agq d u (j' b.ts) a (j' b.ts) (ais _) om om;exact ahE d (ago d s)
def ZP{b:Rd}(i:b.Wf)(j:b.Ng):∀(h a:Nat),j' b.ts-a<=h->oo dz (By b h) b a:=by
 intro h;induction h with
 |zero=>intro a l;exact⟨λf o k d c=>om,λf d c=>om⟩
 |succ h g=>
  intro a l;have e:oo sw (Wx (iM b (j' b.ts)) (By b h) b) b a:=aeW i j (GG i (j' b.ts) a om) (g (a+1) om);have n:=GG i (j' b.ts) a om;refine oo.of (λf m k d c l=>aeV i (lo:=a) (λf m k l=>n.lt f m k om) (g (a+1) om).lt e.lt f m k d c l) (λf d c=>?_);exact SI i (GG i (j' b.ts) (f+1) om) (g (f+1) om) (e.up d) c
def dJ:cC->n_ cC
 |[]=>[[]]
 |c::a=>if c.toNat=47 then []::dJ a else match dJ a with
  |[]=>[[c]]
  |x::b=>(c::x)::b
def oG:cC->Bool
 |[]=>B'
 |v::a=>decide (v=118)&&(!decide (a=[])&&(decide (j' a<=3)&&(!(decide (1<j' a)&&decide (aiu (a.headD 0).toNat=48))&&a.all isDigit)))
def qn(a:UInt8):Bool:=jR a||isDigit a
def fQ(a:cC):Bool:=oG ((dJ a).getLastD [])&&(decide (j' a<=64)&&(decide (2<=j' (dJ a))&&(dJ a).all λb=>c8 b&&b.all qn))
def uj{a:Nat}(c:0<a)(d:a<9223372036854775807):IntKind.i64.wrap (aiu a-1)=aiu (a-1):=by
 obtain⟨b,rfl⟩:∃b,a=b+1:=⟨a-1,om⟩;rw[show aiu (b+1)-1=aiu b+aiu 0 by simp only[aiP];omega];exact dk om
theorem nx(s:cC):dJ s≠[]:=by
 cases s with
 |nil=>simp[dJ]
 |cons a b=>
  all_goals grind [dJ]
theorem GK(b:cC):j' (dJ b)=countB 47 b+1:=by
 induction b with
 |nil=>rfl
 |cons d e c=>
  rw[dJ,countB];by_cases a:d.toNat=47
  ·rw[X' a,a];simp[c]
  rw[W' a,show aiE d.toNat 47=B' by rw[<-Bool.not_eq_true,Nat.beq_eq];exact a]
  grind [nx]
def PL(a:cC):∀b,(indexByte a 47 b= -1/\dJ a=[a])∨∃c,c<j' a/\indexByte a 47 b=aiu (b+c)/\dJ a=a.take c::dJ (a.drop (c+1)):=by
 induction a with
 |nil=>intro b;exact .inl ⟨rfl,rfl⟩
 |cons h j e=>
  intro b;rw[dJ,indexByte];by_cases d:h.toNat=47
  ·rw[X' d,d];exact .inr ⟨0,by simp,Z,Z⟩
  rw[W' d,show aiE h.toNat 47=B' by rw[<-Bool.not_eq_true,Nat.beq_eq];exact d];rcases e (b+1)with⟨g,f⟩|⟨c,g,f,i⟩
  ·exact .inl ⟨g,by rw[f]⟩
  refine .inr ⟨c+1,by simpa using g,?_,by rw[i];rfl⟩;rw[show b+(c+1)=b+1+c by omega];exact f
def WH(a:cC):C.ext vV ([D.str a,wC 47].map cK)=q' (cK (.int .i64 (aiu (countB 47 a)))):=rfl
def index_spec(c:cC){f:Int}(b:indexByte c 47 0=f){σ:VS}{g:dt->VS->Prop}(a:g (.ret (.d (.int .i64 f))) σ):b7 C cm Eu [cv c,cv [47]] σ g:=by
 refine cA ?_;refine cA ?_;apply aZ<;>intro e
 ·have d: [47]=c:=f_ e;subst d;subst b;repeat refine b9 e ?_
  exact a
 repeat refine a7 e ?_
 refine bZ Z (cp 47 Z ?_);refine vI c 47 ?_;subst b;exact a
def spR(b:n_ cC)(c:Nat):n_ (n_ V):=b.map (λa=>[cv a])++tL [cv []] c
def UA{b:n_ cC}{a d:Nat}(c:a=d+1):nth (spR b a) (0+j' b)=q' [cv []]:=by
 subst c;rw[cx,spR,aiM,List.getElem?_append_right sm];simp only[aiG,Nat.sub_self];rfl
def UB{a:n_ cC}{c d:Nat}(e:c=d+1)(b:cC):(spR a c).set (0+j' a) [cv b]=spR (a++[b]) d:=by
 subst e;rw[spR,aiM,List.set_append_right _ _ sm];simp only[aiG,Nat.sub_self,spR,aiR,aiY];rfl
def aeX{c:n_ cC}{f e:cC}{d:Nat}(a:d=0+1)(b:dJ e=c++[f]):(spR c d).set (0+j' c) [cv f]=(gv (dJ e)).map λg=>g.map V.d:=by
 rw[UB a,b];simp[spR,gv,tL,Function.comp_def];exact⟨λ_ _=>Z,Z⟩
theorem PM(s:cC)(A:j' s<4294967296):b7 C cm vE [cv s,cv [47]] [] λr w=>w=[]/\da r=A'/\∃g t,r=.ret (.d (.ps g 0 1 t (gv (dJ s)))):=by
 have F:countB 47 s<=j' s:=by
  clear A;exact KO
 have o:=GK s;refine cD ?_;refine cA ?_;refine cA ?_;refine bZ Z (cp 47 Z ?_);refine zI (.int .i64 (aiu (countB 47 s))) (WH s) Z ?_;obtain⟨a,B⟩:∃a,a=countB 47 s:=⟨_,rfl⟩;have h:min (IntKind.i64.wrap (aiu (countB 47 s)+1)) (IntKind.i64.wrap (aiu (j' s)+1))=aiu (a+1):=by
  grind [cF,aiP]
 refine bZ h ?_;refine a6 ⟨Z,?_,?_⟩ ?_
 ·show(a+1)*16<=_;omega
 ·omega
 refine ck.less (fx:=[(0,cv s),(1,cv [47]),(2,cl 0),(3,cl a),(9,.ms 0 1 0 (a+1) (a+1)),(10,cl 0)]) ⟨Z,Z,Z,int_eq (by show IntKind.i64.wrap (min _ _-1)=_;rw[h];exact uj om om),Z,Z,tv⟩ ?_;refine ck.iter (λe:n_ cC×cC=>[(0,cv e.2),(1,cv [47]),(2,cl 0),(3,cl a),(9,.ms 0 1 0 (a+1) (a+1)),(10,cl (j' e.1))]) (λe=>[.row 1 (spR e.1 (a+1-j' e.1))]) (λe=>j' e.2)
  (λe=>dJ s=e.1++dJ e.2/\j' e.2<=j' s) ?_ ([],s) ⟨rfl,ais _⟩
 rintro⟨b,r⟩ ⟨u,n⟩;have m:dJ s=b++dJ r:=u;have D:j' r<=j' s:=n;have l:j' b+j' (dJ r)=a+1:=by rw[<-aiw,<-m,o,B]
 clear u n;have y:0<j' (dJ r):=aiL.2 (nx r);obtain⟨q,i⟩:∃q,j' (dJ r)=q+1:=⟨j' (dJ r)-1,om⟩;have f:a+1-j' b=q+1:=om;apply aZ<;>intro E
 ·have x:j' b<a:=eK E;rcases PL r 0 with⟨_,e⟩|⟨d,e,g,z⟩
  ·rw[e]at i;simp at i;omega
  rw[aiM]at g;refine index_spec r g ?_;refine bZ (m:=d) (dk (b:=0) om) ?_;refine a6 ⟨aiy _,by show d<=j' r;omega⟩ ?_;refine bZ Z ?_;refine a6 (by show (j' b)<a+1;omega) ?_;refine cp [cv []] (UA f) ?_;refine bZ (m:=d+1) (dk (b:=1) om) ?_;refine a6 ⟨by show d+1<=j' r;omega,ais _⟩ ?_;have k:a+1-j' (b++[r.take d])=q:=by simp only[aiw,ait,aiz];omega
  refine⟨(b++[r.take d],r.drop (d+1)),⟨by rw[m,z];simp,by show(r.drop (d+1)).length<=j' s;rw[aiZ];omega⟩,by show(r.drop (d+1)).length<j' r;rw[aiZ];omega,.same ⟨d_ (λG=>q' (cv (aiK (d+1) G))) List.take_length,Z,Z,Z,Z,int_eq (by show IntKind.i64.wrap (aiu (j' b)+1)=aiu (j' (b++[r.take d]));rw[cF om];simp),tv⟩ (d_ (λk=>[cX.row 1 k]) ((UB f (r.take d)).trans (by rw[k]))),Z,Z⟩
 have x:a<=j' b:=dK E;have v:dJ r=[r]:=by
  rcases PL r 0 with⟨_,e⟩|⟨d,_,_,z⟩
  ·exact e
  have I:0<j' (dJ (r.drop (d+1))):=aiL.2 (nx _);rw[z,ait]at l;omega
 have p:q=0:=by rw[v]at i;simpa using i.symm
 subst p;refine bZ Z ?_;refine a6 (by show (j' b)<a+1;omega) ?_;refine cp [cv []] (UA f) ?_;refine bZ (m:=j' b+1) (cF (by show (j' b)<_;omega)) ?_;refine a6 ⟨aiy _,by show (j' b)+1<=a+1;omega,ais _,aiy _,Z,Z,Z⟩ ?_;have j:dJ s=b++[r]:=by rw[m,v]
 have J:j' b+1=j' (gv (dJ s)):=by rw[j];simp[gv]
 refine cV.freeze 0 (es:=1) (l:=gv (dJ s)) (d_ (λk=>q' (cX.row 1 k)) (aeX f j)) (dF _) (λ_=>⟨Z,by show 0+0+(j' b+1-0)<=_;omega⟩) (λg=>?_);have k:qL 0 g (gv (dJ s)) (.ret (.ms 0 1 0 (j' b+1) (a+1)))=.ret (.d (.ps g (0*1) 1 (a+1) (gv (dJ s)))):=by
  show dt.ret (jN 0 g (gv (dJ s)) (.ms 0 1 0 (j' b+1) (a+1)))=_
  grind [jN,gr,eG]
 show cV 0 (qL 0 g (gv (dJ s)) (.ret (.ms 0 1 0 (j' b+1) (a+1)))) _ _;rw[k];refine cV.drop 0 Z (by rw[ml]) Z (cV.now Z ?_);exact⟨Z,Z,g,a+1,Z⟩
structure ny where
 n:cC
 vr:Nat
 b:Ty
structure jj where
 k:Nat
 n:cC
 exp:Bool
 B3:Bool
 note:cC
 ps:List ny
 lo:Ty
 up:Ty
 ty:Ty
 ex:Ex
 m:cC
 tg:cC
structure ux where
 p:cC
 a:cC
structure Da where
 p:cC
 is:List ux
 ds:List jj
def fH(c:Nat)(b:Rd)(a:Nat):PR cC:=if(b.tok a).kind≠c then .bad (b.tok a).off 3 else .ok (b.tok a).text (a+1)
def l9(a:Rd):Nat->cC->Nat->PR cC
 |0,_,_=>.bad 0 3
 |f+1,c,b=>if cG (a.tok b) [47]then match dp a (b+1)with
   |.bad g h=>.bad g h
   |.ok e d=>l9 a f (c++47::e) d
  else .ok c b
def gj(b:Rd)(f:Nat):PR cC:=match dp b f with
 |.bad d e=>.bad d e
 |.ok a c=>match l9 b (j' b.ts) a c with
  |.bad d e=>.bad d e
  |.ok a c=>if fQ a then .ok a c else .bad (b.tok f).off 4
def nA{a:Type}(step:a->Nat->PR a)(d:Rd):Nat->a->Nat->PR a
 |0,_,_=>.bad 0 3
 |f+1,e,h=>match step e h with
  |.bad g i=>.bad g i
  |.ok b c=>if cG (d.tok c) [44]then nA step d f b (c+1)else(cw d [[93]] c).map λ_=>b
def gi{a:Type}(step:a->Nat->PR a)(b:Rd)(d:a)(c:Nat):PR a:=if cG (b.tok c) [91]then nA step b (j' b.ts) d (c+1)else .ok d c
def oq(a:Tok):Option Nat:=if cG a [43]then q' 0 else if cG a [45]then q' 1 else if cG a [61]then q' 2 else u'
def fM(b:Rd)(a:n_ ny)(c:Nat):PR (n_ ny):=match oq (b.tok c)with
 |none=>.bad (b.tok c).off 3
 |some e=>(fH 2 b (c+1)).map λd=>a++[⟨d,e,cY⟩]
def eX(c:Nat->PR Ty)(e:Rd)(a:n_ ny)(i:Nat):PR (n_ ny):=match fH 2 e i with
 |.bad h f=>.bad h f
 |.ok d b=>if cG (e.tok b) [60,58]then(c (b+1)).map λg=>a++[⟨d,0,g⟩]else .ok (a++[⟨d,0,cY⟩]) b
def uk:Ty:=.mk 1 [] [] [] []
def mw:Ex:=.mk 0 [] [] [] 0 [] [] []
def ka(a:Nat->PR Ty)(e:Rd)(c:cC)(t0:Ty)(b:Nat):PR (Bool×Ty):=if cG (e.tok b) c then(a (b+1)).map λd=>(A',d)else .ok (B',t0) b
def dC{a:Type}(b:Nat->PR a)(f:Rd)(d:cC)(e:Nat):PR a:=match cw f [d] e with
 |.bad g h=>.bad g h
 |.ok _ c=>b c
def jk(c:Nat->PR Ty)(f:Rd)(h g:Bool)(b:cC)(m:Nat):PR jj:=match fH 2 f m with
 |.bad d a=>.bad d a
 |.ok l k=>match gi (fM f) f [] k with
  |.bad d a=>.bad d a
  |.ok i q1=>match ka c f [62,58] uk q1 with
   |.bad d a=>.bad d a
   |.ok e q2=>match ka c f [60,58] cY q2 with
    |.bad d a=>.bad d a
    |.ok up q3=>(dC c f [61] q3).map λj=>⟨0,l,h,g,b,i,if e.1||up.1 then e.2 else j,if e.1||up.1 then up.2 else j,j,mw,[],[]⟩
def lF(e:Nat->PR Ty)(h:Nat->PR Ex)(d:Rd)(g c:Bool)(a:cC)(n:Nat):PR jj:=match dp d n with
 |.bad f b=>.bad f b
 |.ok k j=>match gi (eX e d) d [] j with
  |.bad f b=>.bad f b
  |.ok i q1=>match dC e d [58] q1 with
   |.bad f b=>.bad f b
   |.ok m q2=>(dC h d [61] q2).map λl=>⟨1,k,g,c,a,i,cY,cY,m,l,[],[]⟩
def gF(b:Rd)(a:Nat):PR cC:=if(b.tok a).kind=2 then fH 2 b a else dp b a
def kA(c:Rd)(d b:Bool)(a:cC)(k:Nat):PR jj:=match dp c k with
 |.bad f g=>.bad f g
 |.ok j h=>match dC (gF c) c [58,58] h with
  |.bad f g=>.bad f g
  |.ok e q1=>(dC (gF c) c [97,115] q1).map λi=>⟨2,i,d,b,a,[],cY,cY,cY,mw,j,e⟩
def kl(b:Rd)(a:Nat):PR (Bool×Bool×cC):=if cG (b.tok a) [101,120,112,111,114,116]then
  if cG (b.tok (a+1)) [100,101,112,114,101,99,97,116,101,100]then(fH 4 b (a+2)).map λc=>(A',A',c)else .ok (A',B',[]) (a+1)
 else .ok (B',B',[]) a
def km(d:Nat->PR Ty)(e:Nat->PR Ex)(b:Rd)(g:Nat):PR jj:=match kl b g with
 |.bad f h=>.bad f h
 |.ok a c=>
  if cG (b.tok c) [116,121,112,101]then jk d b a.1 a.2.1 a.2.2 (c+1)
  else if cG (b.tok c) [108,101,116]then lF d e b a.1 a.2.1 a.2.2 (c+1)
  else if cG (b.tok c) [117,115,101]then kA b a.1 a.2.1 a.2.2 (c+1)
  else .bad (b.tok c).off 3
def gG(a:Rd)(f:Nat):PR ux:=match gj a f with
 |.bad e g=>.bad e g
 |.ok c b=>(dC (dp a) a [97,115] b).map λd=>⟨c,d⟩
def eI(a:Rd):Nat->n_ ux->Nat->PR (n_ ux)
 |0,_,_=>.bad 0 3
 |f+1,c,b=>if cG (a.tok b) [105,109,112,111,114,116]then match gG a (b+1)with
   |.bad g h=>.bad g h
   |.ok e d=>eI a f (c++[e]) d
  else .ok c b
def ja(c:Nat->PR Ty)(a:Nat->PR Ex)(d:Rd):Nat->n_ jj->n_ Nat->Nat->PR (n_ jj×n_ Nat)
 |0,_,_,_=>.bad 0 3
 |f+1,g,b,e=>if(d.tok e).kind≠0 then match km c a d e with
   |.bad k i=>.bad k i
   |.ok h j=>ja c a d f (g++[h]) (b++[(d.tok e).off]) j
  else .ok (g,b) e
def rR(f:Nat->PR Ty)(b:Nat->PR Ex)(a:Rd)(j:Nat):PR (Da×n_ Nat):=match dC (gj a) a [109,111,100,117,108,101] j with
 |.bad d e=>.bad d e
 |.ok i h=>match eI a (j' a.ts) [] h with
  |.bad d e=>.bad d e
  |.ok c q1=>(ja f b a (j' a.ts) [] [] q1).map λg=>(⟨i,c,g.1⟩,g.2)
def M9(a:ny)(c:cP):Prop:=∃b,fF a.b b/\c=.str a.n:: .int .i64 (aiu a.vr)::b
inductive rS:List ny->List cP->Prop
 |nil:rS [] []
 |cons {p:ny} {d:cP} {l:List ny} {els:List cP} (h:M9 p d) (hl:rS l els):rS (p::l) (d::els)
inductive nB:List ny->D->Prop
 |nil:nB [] .cu
 |ps {b o cap:Nat} {l:List ny} {els:List cP} (h:rS l els):nB l (.ps b o 7 cap els)
def qT(k:Nat)(j:cC)(c b:Bool)(a:cC)(e:D)(h i g d:cP)(l f:cC):cP:=
 [.int .i64 (aiu k),.str j,.bool c,.bool b,.str a,e]++(h++(i++(g++(d++[.str l,.str f]))))
def ot(a:jj)(g:cP):Prop:=∃b e f d c,nB a.ps b/\fF a.lo e/\fF a.up f/\fF a.ty d/\iz a.ex c/\g=qT a.k a.n a.exp a.B3 a.note b e f d c a.m a.tg
inductive oD:List jj->List cP->Prop
 |nil:oD [] []
 |cons {p:jj} {d:cP} {l:List jj} {els:List cP} (h:ot p d) (hl:oD l els):oD (p::l) (d::els)
inductive ul:List jj->D->Prop
 |nil:ul [] .cu
 |ps {b o cap:Nat} {l:List jj} {els:List cP} (h:oD l els) (hc:j' els<=cap):ul l (.ps b o 31 cap els)
def fT(a:ux):cP:=[.str a.p,.str a.a]
inductive sN:List ux->D->Prop
 |nil:sN [] .cu
 |ps {b o cap:Nat} {l:List ux} (hc:j' l<=cap):sN l (.ps b o 2 cap (l.map fT))
inductive Lo:List Nat->D->Prop
 |nil:Lo [] .cu
 |ps {b o cap:Nat} {l:List Nat}:Lo l (.ps b o 1 cap (l.map λn=>[.int .i64 (aiu n)]))
def xj(c:Da)(d:cP):Prop:=∃a b,sN c.is a/\ul c.ds b/\d=[.str c.p,a,b]
def agt(b:cC)(a:Tok):Prop:=(a.kind=1->c8 a.text=A')/\(a.kind=2->eC a.text=A')/\a.off<=j' b
theorem WI{c b:cC}{a d:Nat}(e:j7 c=.ok a b d):a≠0/\(a=1->c8 b=A')/\(a=2->eC b=A'):=by
 cases c with
 |nil=>cases e
 |cons g f=>
  all_goals grind [j7,lN,mb]
theorem PN(s:cC):∀(h a:Nat) (e:n_ Tok),j' s-a<h->jA s h a=.ok e->
  e≠[]/\(∀k g,e[k]?=q' g->g.kind≠0->k+1<j' e)/\j' e<=j' s-a+1/\∀g∈e,agt s g:=by
 intro h;induction h with
 |zero=>intro a e b;omega
 |succ h r=>
  intro a e z b;rw[jA]at b;split at b
  ·cases b;refine⟨by simp,λk g n l=>?_,by simp,λg c=>?_⟩
   ·grind
   simp at c;subst c;exact⟨λb=>by simp at b,λb=>by simp at b,ais _⟩
  rename_i t;cases c:j7 (s.drop a)with
  |err C=>rw[c]at b;cases b
  |ok B g v=>
   rw[c]at b;dsimp only at b;have⟨y,p⟩:=xd c;rw[aiZ]at p;cases f:jA s h (a+v+dO B' (s.drop (a+v)))with
   |err u w=>rw[f]at b;cases b
   |ok j=>
    rw[f]at b;cases b;have⟨q,x,A,o⟩:=r _ j om f;have m:0<j' j:=aiL.2 q;refine⟨by simp,λk i n l=>?_,?_,λi d=>?_⟩
    ·grind [ait]
    ·simp only[ait];omega
    rcases aiT.1 d with rfl|d
    ·have⟨_,u,w⟩:=WI c;exact⟨u,w,by show a<=j' s;omega⟩
    exact o i d
def Na{s:cC}{a:n_ Tok}(b:k5 s=.ok a):j' s<=65536/\a≠[]/\(∀d c,a[d]?=q' c->c.kind≠0->d+1<j' a)/\j' a<=65537/\∀c∈a,agt s c:=by
 unfold k5 at b;split at b
 ·cases b
 have⟨g,f,h,e⟩:=PN s _ _ a om b;exact⟨om,g,f,om,e⟩
def BG{a:cC}{R:Rd}(b:k5 a=.ok R.ts):R.Wf/\0<j' R.ts:=by
 have⟨_,d,c,e,_⟩:=Na b;exact⟨⟨om,c⟩,aiL.2 d⟩
theorem WJ(s:cC):∀(f a c g:Nat),jA s f a=.err c g->g≠0:=by
 intro f;induction f with
 |zero=>intro a c g b;cases b
 |succ f h=>
  intro a c g b;rw[jA]at b;split at b
  ·cases b
  cases e:j7 (s.drop a)with
  |err k=>rw[e]at b;cases b;exact Fo e
  |ok m l i=>
   rw[e]at b;dsimp only at b;cases d:jA s f (a+i+dO B' (s.drop (a+i)))with
   |err o n=>rw[d]at b;cases b;exact h _ _ _ d
   |ok j=>rw[d]at b;cases b
theorem GL{c:cC}{a b:Nat}(d:k5 c=.err a b):b≠0:=by
 all_goals grind [k5,WJ]
def WK(c:cC){σ:VS}{e:dt->VS->Prop}(b:∀f,Sn (k5 c) f->e f σ):b7 C cm DS [cv c] σ e:=by
 by_cases d:j' c<4294967296
 ·exact Zu c d b
 refine b7.closed (P:=Sn (k5 c)) ?_ Z b;refine cB xfz (λ_=>Z) ?_;refine aZ (λh=>?_) (λh=>Y' (dK (a:=65536) h) om);exact KT
mutual
def cM:Ty->Nat
 |.mk _ _ _ args fields=>cQ args+rT fields+1
def cQ:n_ Ty->Nat
 |[]=>0
 |t::l=>cM t+cQ l
def rT:n_ (cC×Ty×Bool)->Nat
 |[]=>0
 |(_,t,_)::l=>cM t+rT l
end
mutual
def px:Ty->Nat
 |.mk _ _ _ args fields=>max (hJ args) (E5 fields)+1
def hJ:n_ Ty->Nat
 |[]=>0
 |t::l=>max (px t) (hJ l)
def E5:n_ (cC×Ty×Bool)->Nat
 |[]=>0
 |(_,t,_)::l=>max (px t) (E5 l)
end
mutual
def tb:Ty->Bool
 |.mk _ _ _ args fields=>decide (32<j' fields)||decide (8<j' args)||qA args||UC fields
def qA:n_ Ty->Bool
 |[]=>B'
 |t::l=>tb t||qA l
def UC:n_ (cC×Ty×Bool)->Bool
 |[]=>B'
 |(_,t,_)::l=>tb t||UC l
end
def fa(b:n_ oK):n_ Ty:=b.map λa=>a.2.1
def eJ:Ty->n_ Ty
 |.mk _ _ _ b a=>b++fa a
theorem gY(a c:n_ Ty):cQ (a++c)=cQ a+cQ c:=by
 induction a with
 |nil=>simp[cQ]
 |cons d a b=>simp only[aiI,cQ,b];omega
def py(b:n_ oK):rT b=cQ (fa b):=by
 induction b with
 |nil=>rfl
 |cons c b a=>have⟨d,e,f⟩:=c;simp only[rT,fa,aiU,cQ]at a⊢;rw[a]
theorem gz(c:Ty):cM c=cQ (eJ c)+1:=by
 have⟨e,f,d,b,a⟩:=c;rw[cM,eJ,gY,py]
def D0(a c:n_ Ty):hJ (a++c)=max (hJ a) (hJ c):=by
 induction a with
 |nil=>simp[hJ]
 |cons d a b=>simp only[aiI,hJ,b];omega
def SJ(b:n_ oK):E5 b=hJ (fa b):=by
 induction b with
 |nil=>rfl
 |cons c b a=>have⟨d,e,f⟩:=c;simp only[E5,fa,aiU,hJ]at a⊢;rw[a]
def vh(c:Ty):px c=hJ (eJ c)+1:=by
 have⟨e,f,d,b,a⟩:=c;rw[px,eJ,D0,SJ]
def WL(a c:n_ Ty):qA (a++c)=(qA a||qA c):=by
 induction a with
 |nil=>simp[qA]
 |cons d a b=>simp only[aiI,qA,b,Bool.or_assoc]
def ZQ(b:n_ oK):UC b=qA (fa b):=by
 induction b with
 |nil=>rfl
 |cons c b a=>have⟨d,e,f⟩:=c;simp only[UC,fa,aiU,qA]at a⊢;rw[a]
def r7:Ty->Bool
 |.mk _ _ _ b a=>decide (32<j' a)||decide (8<j' b)
def zS(b:Ty):tb b=(r7 b||qA (eJ b)):=by
 have⟨e,f,d,c,a⟩:=b;rw[tb,eJ,WL,ZQ,r7,Bool.or_assoc]
def jm(a:Ty):0<cM a:=by rw[gz];omega
theorem ey(a:n_ Ty):j' a<=cQ a:=by
 induction a with
 |nil=>simp
 |cons c a b=>have:=jm c;simp only[ait,cQ];omega
theorem eU{a:n_ Ty}{b:Ty}(d:b∈a):cM b<=cQ a:=by
 induction a with
 |nil=>simp at d
 |cons e a c=>
  all_goals grind [cQ,aiT.1]
theorem WN(c:Nat):∀a:Ty,cM a<=c->px a<=cM a:=by
 induction c with
 |zero=>intro a d;have:=jm a;omega
 |succ c f=>
  intro a d;rw[gz]at d⊢;rw[vh];have:∀b:n_ Ty,cQ b<=c->hJ b<=cQ b:=by
   intro b;induction b with
   |nil=>intro _;simp[hJ]
   |cons g b e=>
    grind [cQ,hJ]
  grind
def dZ.len{l:n_ Ty}{els:n_ cP}(h:dZ l els):j' els=j' l:=by
 exact Kc
theorem dZ.get{l:n_ Ty}{els:n_ cP}(h:dZ l els){i:Nat}(hi:i<j' l):∃d,els[i]?=q' d/\fF l[i] d:=by
 exact tp
def dZ.Wm{l c:n_ Ty}{els b:n_ cP}(h:dZ l els)(h':dZ c b):dZ (l++c) (els++b):=by
 exact Kj
def xf.len{l:n_ oK}{els:n_ cP}(h:xf l els):j' els=j' l:=by
 exact Kc
theorem xf.get{b:n_ oK}{a:n_ cP}(n:xf b a){i:Nat}(d:i<j' b):∃e:FE,a[i]?=q' (fe e)/\b[i].1=e.n/\b[i].2.2=e.o/\fF b[i].2.1 e.ty:=by
 induction b generalizing a i with
 |nil=>simp at d
 |cons l b g=>
  cases n with
  |cons c h=>
   cases i with
   |zero=>
    obtain⟨o,q,f,j,k,rfl⟩:=c.dL;exact⟨⟨_,o,q,f,j,k,_,[],.cu⟩,Z,Z,Z,c⟩
   |succ i=>obtain⟨m,l,p⟩:=g h (i:=i) (by simpa using d);exact⟨m,by simpa using l,p⟩
inductive NZ:List Ty->D->Prop
 |nil:NZ [] .cu
 |ps {b o cap:Nat} {l:List Ty} {els:List cP} (h:dZ l els):NZ l (.ps b o 5 cap els)
def aeY:Nat->Bool:=λa=>aiE a 19
def zT(c:Nat)(d b:cC)(e a:D):n_ V:=[.d (.int .i64 (aiu c)),.d (.str d),.d (.str b),.d e,.d a]
def ad3(a:n_ V):n_ cP->VS
 |[]=>[.box a]
 |e::c=>[.box a,.row 5 ((e::c).map λb=>b.map V.d)]
def ad4:n_ cP->V
 |[]=>.d .cu
 |_::a=>.ms 1 5 0 (j' a+1) (j' a+1)
def Vc{c:Nat->Nat}(b:cP)(d:n_ cP)(a:cP):q' (cX.row 5 (aiN (j' d+1) (aiK 0 (aiC (λa=>aiC V.d a) (b::d)))++[a.map V.d]))=q' (eb c (.row 5 (aiC (λa=>aiC V.d a) (b::(d++[a]))))):=by
 rw[k9,List.drop_zero,aiD sm];simp
def Yk(c:Nat)(a:n_ cP)(b:cP):q' (V.ms c 5 0 (j' a+1+1) (j' a+1+1))=q' (V.ms c 5 0 (j' (a++[b])+1) (j' (a++[b])+1)):=by simp
def kF{l:n_ V}{a:VS}{g:n_ Ty}{els:n_ cP}(i n:Nat)(h:n=j' els)(e:nth a i=q' (.row 5 (els.map λd=>d.map V.d)))(f:dZ g els):
  cV 0 (.ret (.ms (i+1) 5 0 n n)) (.box l::a) λj c=>c=[]/\da j=A'/\∃d,NZ g d/\j=.ret (.d d):=by
 refine cV.freeze (i+1) (es:=5) (l:=els) e (dF els) (λ_=>⟨Z,by simp[h]⟩) (λb=>?_);have k:qL (i+1) b els (.ret (.ms (i+1) 5 0 n n))=.ret (.d (.ps b (0*5) 5 n els)):=by
  exact KR
 rw[k];refine cV.drop 0 Z (by rw[ml]) Z (cV.now Z ?_);exact⟨Z,Z,_,.ps f,Z⟩
def Ak{a b:Nat}(d:a<=4294967296)(c:b=1:=by rfl):(a+b)*88<=en/\a+b<=en:=by
 unfold en;omega
theorem ys(a:cP)(b:n_ cP)(d:j' b+1<4294967296):(0+j' (aiC (λc=>aiC V.d c) (a::b)))*88<=en/\0+j' (aiC (λc=>aiC V.d c) (a::b))<=en:=by
 grind [en,aiG,ait]
def zU{c:Nat->Nat}(a:cP)(d:n_ cP):q' (cX.row 5 (aiN 0 (aiK 0 [])++aiC (λb=>aiC V.d b) (a::d)))=q' (eb c (.row 5 (aiC (λb=>aiC V.d b) (a::d)))):=by
 rw[k9];rfl
def WO(d:Nat)(a:cP)(b:n_ cP):q' (V.ms d 5 0 (0+j' (aiC (λc=>aiC V.d c) (a::b))) (0+j' (aiC (λc=>aiC V.d c) (a::b))))=q' (V.ms d 5 0 (j' b+1) (j' b+1)):=by simp
theorem yt{a:n_ oK}{b:Nat}(c:b<j' a):fa (a.take (b+1))=fa (a.take b)++[a[b].2.1]:=by
 grind [fa,aiJ]
def PO(z:Nat)(B A:cC)(c:n_ Ty)(a:n_ oK)(G H:D)(E:ft c G)(g:uz a H)(K:j' c+j' a<4294967296):
  b7 C cm wU [.agg (zT z B A G H)] [] λr w=>w=[]/\da r=A'/\∃I,NZ (c++fa a) I/\r=.ret (.d I):=by
 refine cB aeY (λ_=>Z) ?_;refine cA ?_;cases E with
 |nil=>
  cases g with
  |nil=>
   refine ck.loop ?_;refine a8 0 ⟨Z,Z,.cu,.nil,Z⟩
  |ps g=>
   rename_i n l d f;have m:=g.len;refine ck.iter (λx:Nat×n_ cP=>[(3,ad4 x.2),(10,.d (.ps n l 7 d f)),(11,cl (j' a)),(12,cl x.1)]) (λx=>ad3 (zT z B A .cu (.ps n l 7 d f)) x.2) (λx=>j' a-x.1)
    (λx=>x.1<=j' a/\dZ ([]++fa (a.take x.1)) x.2) ?_ (0,[]) ⟨aiy _,by exact .nil⟩ (.same ⟨rfl,rfl,int_eq (by rw[m]),rfl,tv⟩ rfl)
   rintro⟨j,acc⟩ ⟨o,b⟩;have o:j<=j' a:=o;have b:dZ ([]++fa (a.take j)) acc:=b;have hcl:=b.len;rw[aiw,fa,aiG,List.length_take]at hcl;try simp only[aiz]at hcl
   apply aZ<;>intro q
   ·have nH:j<j' a:=eK q;have⟨x,hx,_,_,p⟩:=g.get nH;have Aj:dZ ([]++fa (a.take (j+1))) (acc++[x.ty]):=by rw[yt nH,<-aiY];exact b.snoc p
    exact IK
   have nH:j' a<=j:=dK q;rw[aiD nH]at b;cases acc with
   |nil=>
    have i: []++fa a=[]:=aiH b.len.symm;refine a8 0 ⟨Z,Z,.cu,?_,Z⟩;rw[i];exact .nil
   |cons e r=>exact kF 0 (j' r+1) rfl rfl b
 |ps F u=>
  rename_i L J v s;cases s with
  |nil=>exact Y' rfl u
  |cons k h=>
   have y:=F.len;have t:j' h+1<4294967296:=by simp only[ait]at y;omega
   refine a6 Z (a6 ⟨Z,Z,ais _,ais _,ys k h t⟩ ?_);refine a7 Z (a7 Z ?_);cases g with
   |nil=>
    refine ck.loop ?_;refine kF (els:=k::h) 1 _ sm ?_ ?_
    ·exact Z
    simpa [fa]using F
   |ps g=>
    rename_i n l d f;have m:=g.len;refine ck.iter (λx:Nat×n_ cP=>[(3,ad4 x.2),(10,.d (.ps n l 7 d f)),(11,cl (j' a)),(12,cl x.1)]) (λx=>ad3 (zT z B A (.ps L J 5 v (k::h)) (.ps n l 7 d f)) x.2) (λx=>j' a-x.1)
     (λx=>x.1<=j' a/\dZ (c++fa (a.take x.1)) x.2) ?_ (0,(k::h)) ⟨aiy _,by simpa [fa]using F⟩ (.pick 1 [0,2] ⟨WO 2 k h,rfl,int_eq (by rw[m]),rfl,tv⟩ rfl rfl rfl rfl rfl dc ⟨rfl,rfl,zU k h,fU _ _ _,tv⟩)
    rintro⟨j,acc⟩ ⟨o,b⟩;have o:j<=j' a:=o;have b:dZ (c++fa (a.take j)) acc:=b;have hcl:=b.len;rw[aiw,fa,aiG,List.length_take]at hcl;try simp only[aiz]at hcl
    apply aZ<;>intro q
    ·have nH:j<j' a:=eK q;have⟨x,hx,_,_,p⟩:=g.get nH;have Aj:dZ (c++fa (a.take (j+1))) (acc++[x.ty]):=by rw[yt nH,<-aiY];exact b.snoc p
     exact IK
    have nH:j' a<=j:=dK q;rw[aiD nH]at b;cases acc with
    |nil=>
     have i:c++fa a=[]:=aiH b.len.symm;refine a8 0 ⟨Z,Z,.cu,?_,Z⟩;rw[i];exact .nil
    |cons e r=>exact kF 0 (j' r+1) rfl rfl b
def zV(l:Ty)(c:cP)(d:fF l c)(i:cM l<4294967296){σ:VS}{m:dt->VS->Prop}(e:∀c,NZ (eJ l) c->m (.ret (.d c)) σ):b7 C cm wU [.agg (c.map V.d)] σ m:=by
 cases d with
 |mk k g=>
  rename_i f j h b a p q;have r:=ey (eJ (.mk f j h b a));rw[gz]at i;have o:j' (eJ (.mk f j h b a))=j' b+j' a:=by simp[eJ,fa]
  exact b7.closed (P:=λn=>∃c,NZ (b++fa a) c/\n=.ret (.d c)) (PO f j h b a p q k g om) Z λn ⟨c,s,t⟩=>by rw[t];exact e c s
def BH{a:n_ Ty}{b:Nat}(c:b<j' a):hJ (a.take (b+1))=max (hJ (a.take b)) (px a[b]):=by
 rw[aiJ,aiA c,D0];simp[hJ]
def sO{a:n_ Ty}{b:Nat}(c:b<j' a):cQ (a.take (b+1))=cQ (a.take b)+cM a[b]:=by
 rw[aiJ,aiA c,gY];simp[cQ]
theorem ou(a:n_ Ty)(b:Nat):cQ (a.take b)<=cQ a:=by
 grind [ai5,gY]
def GM(a:n_ Ty):hJ a<=cQ a:=by
 induction a with
 |nil=>simp[hJ]
 |cons c a b=>have:=WN _ c (ais _);simp only[hJ,cQ];omega
def PP(o:Nat)(r:∀(c:Ty) (h:cP),cM c<=o->fF c h->∀{σ:VS} {s:dt->VS->Prop},s (.ret (cl (px c))) σ->b7 C cm mU [.agg (h.map V.d)] σ s) 
  (c:Ty) (h:cP) (G:cM c<=o+1) (L:o<4294967295) (i:fF c h):b7 C cm mU [.agg (h.map V.d)] [] λB m=>m=[]/\B=.ret (cl (px c)):=by
 obtain⟨I,J,p,F,H,rfl⟩:=i.dL;have w:=gz c;refine cD ?_;refine zV c _ i om (λh l=>?_);rw[vh];have j:cQ (eJ c)<=o:=om;generalize eJ c=a at l j;have t:=ey a;cases l with
 |nil=>
  exact iH
 |ps z=>
  rename_i x u e f;have k:=z.len;refine ck.less (fx:=[(3,cl 0),(7,.d (.ps x u 5 e f)),(8,cl (j' a)),(9,cl 0)]) ⟨Z,Z,int_eq (by rw[k]),Z,tv⟩ ?_;refine ck.iter (λd:Nat=>[(3,cl (hJ (a.take d))),(7,.d (.ps x u 5 e f)),(8,cl (j' a)),(9,cl d)]) (λ_=>[.box (zT I J p F H)]) (λd=>j' a-d) (λd=>d<=j' a) ?_ 0 (aiy _);intro d K;apply aZ<;>intro n
  ·have b:d<j' a:=eK n;have⟨h,q,g⟩:=z.get b;refine bZ Z ?_;obtain⟨M,E,v,N,f2,rfl⟩:=g.dL;refine cp _ (by rw[cx];exact q) ?_;have A:=eU (aiB b);refine r a[d] _ om g ?_;refine⟨d+1,b,ik,.drop 1 ⟨int_eq ?_,Z,Z,int_eq (cF om),tv⟩ Z Z Z Z Z Z Z,Z,Z⟩;rw[BH b];exact nj
  have b:j' a<=d:=dK n;rw[aiD b];have y:=GM a;exact Cl
def SK:∀(c:Nat) (a:Ty) (b:cP),c<4294967295->cM a<=c->fF a b->∀{σ:VS} {f:dt->VS->Prop},f (.ret (cl (px a))) σ->b7 C cm mU [.agg (b.map V.d)] σ f:=by
 intro c;induction c with
 |zero=>intro a b _ j;have:=jm a;omega
 |succ c g=>
  intro a b l j d σ f e;obtain⟨n,o,k,p,m,rfl⟩:=d.dL;exact cI (PP c (λa b i h=>g a b om i h) a _ j om d) Z Z e
def lh(d:n_ V)(b a:n_ V)(c:la):VS:=[.box b,.box d,.box a,.fP B',.loop c,.box [.wA 4],.box [.fn fA [] [.bp 5 0,.bp 6 0]]]
def pG{g b a:n_ V}{h:la}(d:hP 0 g=A')(f:hP 0 b=A')(e:hP 0 a=A')(c:gP 7 (.loop h)=A'):ml 7 (lh g b a h) 7=A':=by
 simp only[lh,ml,gP,ig 7 g d,ig 7 b f,ig 7 a e,ai3,aiV]at c⊢;rw[c];rfl
def ZR{j c a b:n_ V}{e:VS}{k:la}(f:hP 0 j=A')(h:hP 0 c=A')(g:hP 0 a=A')(i:hP 0 b=A')(d:gP 8 (.loop k)=A'):ml 8 (lh j c a k++.box b::e) 8=A':=by
 simp only[lh,aiI,List.nil_append,ml,gP,ig 8 j f,ig 8 c h,ig 8 a g,ig 8 b i,ai3,aiV]at d⊢;rw[d];rfl
def Ey(d:Nat)(b a:n_ V)(c:la):VS:=lh [cl d] b a c
def WQ(d c:n_ V)(i:la)(Yf:hP 0 d=A')(N5:hP 0 c=A')(hL:gP 7 (.loop i)=A')(q:gP 8 (.loop i)=A') 
  (H:∀(o:Nat) (w j:n_ V) (N:dt->VS->Prop),o<4294967296->N (.ret (cj A')) (Ey (o+1) d c i++[.box w])->jF C cm 4 [.agg j] (Ey o d c i++[.box w]) N) (o:Nat)
  (L:∀(f:Ty) (j:cP),cM f<=o->fF f j->∀h,h+cM f<4294967296->b7 C cm fA [.agg (j.map V.d),.bp 5 0,.bp 6 0] (Ey h d c i) λA e=>e=Ey (h+cM f) d c i/\A=.ret (cj A'))
  (f:Ty) (j:cP) (T:cM f<=o+1) (r:fF f j) (h:Nat) (p:h+cM f<4294967296):
  b7 C cm fA [.agg (j.map V.d),.bp 5 0,.bp 6 0] (Ey h d c i) λA e=>e=Ey (h+cM f) d c i/\A=.ret (cj A'):=by
 obtain⟨G,I,n,E,F,rfl⟩:=r.dL;have x:=gz f;refine cD ?_;refine H h (zT G I n E F) _ _ om ?_;refine zV f _ r om (λj y=>?_);rw[x];have s:cQ (eJ f)<=o:=om;have z:h+(cQ (eJ f)+1)<4294967296:=om;generalize eJ f=a at y s z;have O:=ey a;cases y with
 |nil=>
  exact J4
 |ps B=>
  rename_i R P k l;have v:=B.len;refine ck.less (fx:=[(12,.d (.ps R P 5 k l)),(13,cl (j' a)),(14,cl 0),(2,.bp 6 0)]) ⟨Z,int_eq (by rw[v]),Z,Z,tv⟩ ?_;refine ck.iter (λg:Nat=>[(12,.d (.ps R P 5 k l)),(13,cl (j' a)),(14,cl g),(2,.bp 6 0)]) (λg=>Ey (h+1+cQ (a.take g)) d c i++[.box (zT G I n E F)]) (λg=>j' a-g) (λg=>g<=j' a) ?_ 0 (aiy _);intro g U;apply aZ<;>intro p
  ·have b:g<j' a:=eK p;have⟨j,J,m⟩:=B.get b;refine bZ Z ?_;obtain⟨K,D,u,M,f2,rfl⟩:=m.dL;refine cp _ (by rw[cx];exact J) ?_;have S:=eU (aiB b);have t:=sO b;have Q:=ou a (g+1);refine(L a[g] _ om m (h+1+cQ (a.take g)) om).pre [.box (zT G I n E F),.box (zT K D u M f2)] (pG Z Yf N5 hL) Z (λA e B=>?_);obtain⟨rfl,rfl⟩:=B;refine⟨Z,pG Z Yf N5 hL,Z,?_⟩;refine⟨g+1,b,ik,.drop 8 ⟨Z,Z,int_eq (cF om),Z,tv⟩ Z Z ?_ Z Z Z ?_,Z,Z⟩
   ·exact ZR Z Yf N5 Z q
   rw[t,<-Nat.add_assoc];rfl
  have b:j' a<=g:=dK p;rw[aiD b];refine cV.drop 7 ?_ ?_ ?_ ?_
  ·exact Z
  ·exact pG Z Yf N5 hL
  ·exact Z
  refine cV.now Z ⟨?_,Z⟩;rw[show h+(cQ a+1)=h+1+cQ a from by omega];rfl
def ZS(b a:n_ V)(e:la)(i:hP 0 b=A')(j:hP 0 a=A')(n:gP 7 (.loop e)=A')(g:gP 8 (.loop e)=A') 
  (o:∀(c:Nat) (h f:n_ V) (r:dt->VS->Prop),c<4294967296->r (.ret (cj A')) (Ey (c+1) b a e++[.box h])->jF C cm 4 [.agg f] (Ey c b a e++[.box h]) r):∀(c:Nat)
  (d:Ty) (f:cP),cM d<=c->fF d f->∀l,l+cM d<4294967296->b7 C cm fA [.agg (f.map V.d),.bp 5 0,.bp 6 0] (Ey l b a e) λt k=>k=Ey (l+cM d) b a e/\t=.ret (cj A'):=by
 intro c;induction c with
 |zero=>intro d f s;have:=jm d;omega
 |succ c p=>intro d f s m l q;exact WQ b a e i j n g o c p d f s m l q
def SL(e:Ty)(f:cP)(b:fF e f)(h:cM e<4294967296):b7 C cm sy [.agg (f.map V.d)] [] λj a=>a=[]/\j=.ret (cl (cM e)):=by
 obtain⟨k,l,d,g,i,rfl⟩:=b.dL;refine cD ?_;refine cA ?_;refine cA ?_;refine(ZS (zT k l d g i) (zT k l d g i) _ Z Z ?_ ?_ (λm o f p h c=>?_) _ e _ (ais _) b 0 om).mono (λj a n=>?_)
 ·exact Z
 ·exact Z
 ·refine jF.intro ?_;rw[Ey,cl,<-cF (a:=m) om]at c;exact c
 obtain⟨rfl,rfl⟩:=n;refine a8 0 ⟨Z,?_⟩;show dt.ret (cl (0+cM e))=_;rw[aiM]
def pz(b:Ty)(e:cP)(a:fF b e)(d:cM b<4294967296){σ:VS}{f:dt->VS->Prop}(c:f (.ret (cl (cM b))) σ):b7 C cm sy [.agg (e.map V.d)] σ f:=by
 obtain⟨i,j,g,k,h,rfl⟩:=a.dL;exact cI (SL b _ a d) Z Z c
def acx(a b:cC):C.ext gl ([D.str a,D.str b].map cK)=q' (cK (.int .i64 (AL a b))):=by
 exact KN
def BI(a b:cC){σ:VS}{d:dt->VS->Prop}(c:d (.ret (.d (.int .i64 (AL a b)))) σ):b7 C cm sF [cv a,cv b] σ d:=by
 refine cA ?_;refine cA ?_;refine zI (.int .i64 (AL a b)) (acx a b) Z ?_;exact c
def Yy{a b:cC}(c:cS a b=A'):AL a b= -1:=by rw[AL,c]
def ZT{h:Nat}(e:(C.ff.get h).isSome=A')(s:D)(a:n_ oK)(n:uz a s)(w:j' a<4294967296) 
  (l:∀(f:FE) (k:Nat) (y:k<j' a),a[k].1=f.n->a[k].2.2=f.o->∀{σ:VS} {d:dt->VS->Prop},d (.ret (cj B')) σ->b7 C cm h [fw f] σ d)
  {σ:VS} {d:dt->VS->Prop} (g:d (.ret (.d (.int .i64 (-1)))) σ):b7 C cm qg [.d s,.fn h [] []] σ d:=by
 refine cA ?_;cases n with
 |nil=>
  refine ck.loop ?_;exact g
 |ps u=>
  rename_i t r b c;have j:=u.len;refine ck.less (fx:=[(0,.d (.ps t r 7 b c)),(1,.fn h [] []),(7,cl (j' a)),(8,cl 0)]) ⟨Z,Z,int_eq (by rw[j]),Z,tv⟩ ?_;refine ck.iter (λi:Nat=>[(0,.d (.ps t r 7 b c)),(1,.fn h [] []),(7,cl (j' a)),(8,cl i)]) (λ_=>σ) (λi=>j' a-i) (λi=>i<=j' a) ?_ 0 (aiy _);intro i x;apply aZ<;>intro q
  ·have hi':i<j' a:=eK q;have⟨f,o,p,m,v⟩:=u.get hi';refine bZ Z ?_;refine cp _ (by rw[cx];exact o) ?_;refine b9 e ?_;refine l f i hi' p m ?_;exact xW
  exact g
def lk{h:Nat}(c:(C.ff.get h).isSome=A')(d:D)(a:n_ oK)(e:uz a d)(i:j' a<4294967296) 
  (k:∀(f:FE) (j:Nat) (l:j<j' a),a[j].1=f.n->a[j].2.2=f.o->∀{σ:VS} {b:dt->VS->Prop},b (.ret (cj B')) σ->b7 C cm h [fw f] σ b)
  {σ:VS} {b:dt->VS->Prop} (g:b (.ret (cj B')) σ):b7 C cm oC [.d d,.fn h [] []] σ b:=by
 refine cA ?_;refine ZT c d a e i k ?_;exact g
def LL(a:FE){σ:VS}{c:dt->VS->Prop}(b:c (.ret (cj a.o)) σ):b7 C cm Bk [fw a] σ c:=by
 refine cI (v:=cj a.o) ?_ Z Z b;exact lP
def SM(b:FE)(c:c8 b.n=A'){σ:VS}{e:dt->VS->Prop}(d:e (.ret (cj B')) σ):b7 C cm yO [fw b] σ e:=by
 refine cI (v:=cj B') ?_ Z Z d;refine cD ?_;have a:j' b.n<4294967296:=by
  simp only[c8,aiO,j_]at c;omega
 refine jo b.n a ?_;refine a8 0 ⟨Z,?_⟩;show dt.ret (cj (!(c8 b.n)))=_;rw[c];rfl
def GN(a:FE){σ:VS}{c:dt->VS->Prop}(b:c (.ret (cv a.n)) σ):b7 C cm mg [fw a] σ c:=by
 refine cI (v:=cv a.n) ?_ Z Z b;exact lP
theorem yu{a:Nat}(b:0<a)(c:a<9223372036854775807):IntKind.i64.wrap (aiu a-1)=aiu (a-1):=by
 grind [aiP,wrap64]
def pF(v:D)(a:n_ oK)(m:uz a v)(A:j' a<4294967296)(o:nJ (·.1) a) 
  {σ:VS} {u:dt->VS->Prop} (e:u (.ret (cl 0)) σ):b7 C cm qO [.d v,.fn mg [] []] σ u:=by
 refine cA ?_;cases m with
 |nil=>
  refine ck.loop ?_;exact e
 |ps s=>
  rename_i B y g b;have f:=s.len;refine ck.iter (λi:Nat=>[(0,.d (.ps B y 7 g b)),(1,.fn mg [] []),(5,cl i)]) (λ_=>σ) (λi=>j' a-i) (λi=>1<=i) ?_ 1 (ais _);intro i p;apply aZ<;>intro t
  ·have c:i<j' a:=f▸eK t;have⟨k,q,r,z,x⟩:=s.get c;obtain⟨l,n,f1,f2,w⟩:=s.get (show i-1<j' a by omega);have hlt:cS l.n k.n=A':=by
    rw[<-r,<-f1];exact o.rN (aiA om) (aiA c) om
   have j:=yu (a:=i) p om;have d:nth b i=q' (fe k):=by rw[cx];exact q
   have h:nth b (i-1)=q' (fe l):=by rw[cx];exact n
   repeat first
    |refine bZ j ?_
    |refine bZ rfl ?_
    |refine cp _ h ?_
    |refine cp _ d ?_
    |refine cO ?_
    |refine GN l ?_
    |refine GN k ?_
    |refine BI l.n k.n ?_
   exact JQ
  exact e
structure FlW (lM:Bool) (fields:List oK):Prop where
 name:∀x∈fields,c8 x.1=A'
 srt:nJ (·.1) fields
 lM:lM=B'->∀x∈fields,x.2.2=B'
inductive qB:Ty->Prop
 |base {k:Nat} (h:k<=4):qB (.mk k [] [] [] [])
 |list {t:Ty}:qB (.mk 5 [] [] [t] [])
 |ZU {fields:List oK} (h:FlW B' fields):qB (.mk 6 [] [] [] fields)
 |vrt {fields:List oK} (h:FlW B' fields):qB (.mk 7 [] [] [] fields)
 |func {t:Ty} {fields:List oK} (h:FlW A' fields):qB (.mk 8 [] [] [t] fields)
 |ref {m n:cC} {args:List Ty} (hm:m=[]∨c8 m=A') (hn:eC n=A'):qB (.mk 10 m n args [])
def uz.dB{b:D}(h:uz [] b):b=.cu∨∃d c a,b=.ps d c 7 a []:=by
 exact tw
def ft.dB{c:D}(b:ft [] c):c=.cu:=by
 cases b with
 |nil=>rfl
 |ps b a=>cases b;exact Y' rfl a
def ft.pE{f:Ty}{d:D}(a:ft [f] d):∃g h b e,d=.ps g h 5 b [e]:=by
 cases a with
 |ps a c=>cases a with|cons _ a=>cases a;exact⟨_,_,_,_,rfl⟩
theorem GO{e:Nat}{f c:cC}{b:n_ Ty}{a:n_ oK}(d:cM (.mk e f c b a)<4294967296):j' a<4294967296/\j' b<4294967296:=by
 grind [gz,fa,eJ,aiw,ey]
def Nb(p:Ty)(m:cP)(b:fF p m)(o:qB p)(g:cM p<4294967296):b7 C cm vC [.agg (m.map V.d)] [] λt l=>l=[]/\t=.ret (cj A'):=by
 refine cD ?_;cases o with
 |base hk=>
  rename_i k;cases b with
  |mk a hf=>
   obtain rfl:=a.dB;rcases hf.dB with rfl|⟨s,r,e,rfl⟩
   ·have c:k=0∨k=1∨k=2∨k=3∨k=4:=om;rcases c with rfl|rfl|rfl|rfl|rfl
    ·exact kM
    ·exact kM
    ·exact kM
    ·exact kM
    exact kM
   have c:k=0∨k=1∨k=2∨k=3∨k=4:=om;rcases c with rfl|rfl|rfl|rfl|rfl
   ·exact nf
   ·exact nf
   ·exact nf
   ·exact nf
   exact nf
 |list=>
  cases b with
  |mk a hf=>
   obtain⟨s,r,e,m,rfl⟩:=a.pE;rcases hf.dB with rfl|⟨i,f,d,rfl⟩
   ·exact kM
   exact nf
 |ZU n=>
  cases b with
  |mk a hf=>
   obtain rfl:=a.dB;have ho:=n.lM rfl;have h:=(GO g).1;cases hf with
   |nil=>
    exact kM
   |ps hf=>
    exact Jx
 |vrt n=>
  cases b with
  |mk a hf=>
   obtain rfl:=a.dB;have ho:=n.lM rfl;have h:=(GO g).1;cases hf with
   |nil=>
    exact kM
   |ps hf=>
    exact Jx
 |func n=>
  cases b with
  |mk a hf=>
   obtain⟨s,r,e,m,rfl⟩:=a.pE;cases hf with
   |nil=>
    exact xV
   |ps hf=>
    exact xV
 |ref v u=>
  cases b with
  |mk a hf=>
   cases a with
   |nil=>
    rcases hf.dB with rfl|⟨i,f,d,rfl⟩
    ·exact kM
    exact nf
   |ps a q=>
    rcases hf.dB with rfl|⟨i,f,d,rfl⟩
    ·exact kM
    exact nf
def sP(b:Ty)(f:cP)(a:fF b f)(c:qB b)(e:cM b<4294967296){σ:VS}{g:dt->VS->Prop}(d:g (.ret (cj A')) σ):b7 C cm vC [.agg (f.map V.d)] σ g:=by
 obtain⟨j,k,h,l,i,rfl⟩:=a.dL;exact cI (Nb b _ a c e) Z Z d
def nL{a:cC}(b:c8 a=A'):j' a<4294967296:=by
 simp only[c8,aiO,j_]at b;omega
def PQ{a:cC}(b:eC a=A'):j' a<4294967296:=by
 simp only[eC,aiO,j_]at b;omega
def nh(s:cC)(h:s=[]∨c8 s=A'){σ:VS}{c:dt->VS->Prop}(b:c (.ret (cj A')) σ):b7 C cm Eo [cv s] σ c:=by
 refine cA ?_;rcases h with rfl|h
 ·exact b
 have a:s≠[]:=λd=>by subst d;cases h
 refine a7 (Z' a) ?_;repeat refine a7 (Z' a) ?_
 refine jo s (nL h) ?_;rw[h];repeat refine a7 (Z' a) ?_
 exact b
def xk(a:Bool):Nat:=if a then 7 else 0
def GP(w:Ty)(u:cP)(h:fF w u)(p:qB w)(g:cM w<4294967296):b7 C cm sA [.agg (u.map V.d)] [] λA r=>r=[]/\A=.ret (cl (xk (r7 w))):=by
 refine cD ?_;have d:=p;cases p with
 |@base m k=>
  cases h with
  |mk a hf=>
   refine sP _ _ (fF.mk a hf) d g ?_;obtain rfl:=a.dB;have l:m=0∨m=1∨m=2∨m=3∨m=4:=om;rcases l with rfl|rfl|rfl|rfl|rfl<;>rcases hf.dB with rfl|⟨q,o,e,rfl⟩;all_goals exact JI
 |list=>
  cases h with
  |mk a hf=>
   refine sP _ _ (fF.mk a hf) d g ?_;obtain⟨E,B,n,u,rfl⟩:=a.pE;rcases hf.dB with rfl|⟨q,o,e,rfl⟩;all_goals exact JI
 |ZU v|vrt v|func v=>
  cases h with
  |mk a hf=>
   refine sP _ _ (fF.mk a hf) d g ?_;first
    |obtain rfl:=a.dB
    |obtain⟨E,B,n,u,rfl⟩:=a.pE
   have z:=(GO g).1;cases hf with
   |nil=>
    refine lk Z _ [] .nil dc (λ_ _ hj=>Y' hj (ai0 _)) ?_;refine pF _ [] .nil dc .nil ?_;exact a8 0 ⟨Z,Z⟩
   |ps hf=>
    have i:=hf.len;apply aZ<;>intro b
    ·have c:=eK (a:=32) b;rw[i]at c;repeat refine b9 b ?_
     exact a8 0 ⟨Z,by simp[r7,c,xk];rfl⟩
    have c:=dK (a:=32) b;rw[i]at c;repeat refine a7 b ?_
    refine lk Z _ _ (.ps hf) om (λD F hj y _=>λk=>SM D (by rw[<-y];exact v.name _ (aiB hj)) k) ?_;refine pF _ _ (.ps hf) om v.srt ?_;exact a8 0 ⟨Z,by simp[r7,Nat.not_lt.2 c,xk];rfl⟩
 |ref t s=>
  cases h with
  |mk a hf=>
   refine sP _ _ (fF.mk a hf) d g ?_;rcases hf.dB with rfl|⟨q,o,e,rfl⟩<;>cases a;all_goals
    first
     |refine nh _ t ?_
     |have j:= ‹dZ _ _›.len
      apply aZ<;>intro b
      ·have f:=eK (a:=8) b;rw[j]at f;repeat refine b9 b ?_
       exact a8 0 ⟨Z,by simp[r7,f,xk];rfl⟩
      have f:=dK (a:=8) b;rw[j]at f;repeat refine a7 b ?_
      refine nh _ t ?_
    refine ng _ (PQ s) ?_;rw[s];refine lk Z _ [] hf dc (λ_ _ hj=>Y' hj (ai0 _)) ?_;refine pF _ [] hf dc .nil ?_;first
     |exact a8 0 ⟨rfl,rfl⟩
     |exact a8 0 ⟨rfl,by simp[r7,Nat.not_lt.2 f,xk];rfl⟩
def Ir(b:Ty)(f:cP)(a:fF b f)(c:qB b)(e:cM b<4294967296){σ:VS}{g:dt->VS->Prop}(d:g (.ret (cl (xk (r7 b)))) σ):b7 C cm sA [.agg (f.map V.d)] σ g:=by
 obtain⟨j,k,h,l,i,rfl⟩:=a.dL;exact cI (GP b _ a c e) Z Z d
inductive hO:Ty->Prop
 |mk {t:Ty} (h:qB t) (hp:∀p∈eJ t,hO p):hO t
def xl{a:n_ Ty}:qA a=B'↔∀c∈a,tb c=B':=by
 induction a with
 |nil=>simp[qA]
 |cons d a b=>simp[qA,b]
def GQ{d:n_ Ty}{b:Ty}(e:b∈d)(a:tb b=A'):qA d=A':=by
 cases c:qA d with
 |true=>rfl
 |false=>rw[xl.1 c b e]at a;cases a
def acy(c b:n_ V)(g d:la)(f:Bool)(e:dt)(a:VS):Prop:=match f with
 |true=>a=lh [cl 7] c b d/\e=.ret (cj B')
 |false=>a=lh [cl 0] c b g/\e=.ret (cj A')
def ZV(d b:n_ V)(m n:la)(Yf:hP 0 d=A')(N5:hP 0 b=A')(hL:gP 7 (.loop m)=A')(k:gP 7 (.loop n)=A')(G:∀h u,hP 0 h=A'->hP 0 u=A'->ml 9 (lh [cl 0] d b m++[.box h,.box u]) 9=A') 
  (O:∀(h:n_ V) (c:Ty) (i:cP) (M:dt->VS->Prop),fF c i->qB c->cM c<4294967296->(r7 c=B'->M (.ret (cj A')) (lh [cl 0] d b m++[.box h,.box (i.map V.d)]))->(r7 c=A'->M (.ret (cj B')) (lh [cl 7] d b n++[.box h,.box (i.map V.d)]))->
   jF C cm 4 [.agg (i.map V.d)] (lh [cl 0] d b m++[.box h]) M) (L:Nat)
  (R:∀(c:Ty) (i:cP),cM c<=L->fF c i->hO c->b7 C cm fA [.agg (i.map V.d),.bp 5 0,.bp 6 0] (lh [cl 0] d b m) (acy d b m n (tb c)))
  (c:Ty) (i:cP) (B:cM c<=L+1) (ad:L+1<4294967296) (x:fF c i) (y:hO c):
  b7 C cm fA [.agg (i.map V.d),.bp 5 0,.bp 6 0] (lh [cl 0] d b m) (acy d b m n (tb c)):=by
 obtain⟨H,I,j,A,D,rfl⟩:=x.dL;have X:=gz c;cases y with
 |mk y s=>
 refine cD ?_;refine O (zT H I j A D) c _ _ x y om (λf=>?_) (λf=>?_)
 ·refine zV c _ x om (λi J=>?_);rw[zS,f,Bool.false_or];have z:cQ (eJ c)<=L:=om;generalize eJ c=a at J z s;have T:=ey a;cases J with
  |nil=>
   exact J4
  |ps p=>
   rename_i Y U t v;have F:=p.len;refine ck.less (fx:=[(12,.d (.ps Y U 5 t v)),(13,cl (j' a)),(14,cl 0),(2,.bp 6 0)]) ⟨Z,int_eq (by rw[F]),Z,Z,tv⟩ ?_;refine ck.iter (λg:Nat=>[(12,.d (.ps Y U 5 t v)),(13,cl (j' a)),(14,cl g),(2,.bp 6 0)]) (λg=>lh [cl 0] d b m++[.box (zT H I j A D),.box (zT H I j A D)]) (λg=>j' a-g) (λg=>g<=j' a/\∀l (q:l<j' a),l<g->tb a[l]=B') ?_ 0 ⟨aiy _,λl _ p=>Y' p (ai0 _)⟩;rintro g ⟨ac,r⟩;apply aZ<;>intro K
   ·have e:g<j' a:=eK K;have⟨i,P,w⟩:=p.get e;refine bZ Z ?_;obtain⟨Q,N,E,S,f2,rfl⟩:=w.dL;refine cp _ (by rw[cx];exact P) ?_;have ab:=eU (aiB e);refine(R a[g] _ om w (s _ (aiB e))).pre [.box (zT H I j A D),.box (zT H I j A D),.box (zT Q N E S f2)] (pG Z Yf N5 hL) Z (λae aa p=>?_);cases o:tb a[g]with
    |false=>
     rw[o]at p;obtain⟨rfl,rfl⟩:=p;refine⟨Z,pG Z Yf N5 hL,Z,?_⟩;refine⟨g+1,⟨e,λl q W=>?_⟩,ik,.drop 9 ⟨Z,Z,int_eq (cF om),Z,tv⟩ Z Z ?_ Z Z Z Z,Z,Z⟩
     ·rcases Nat.lt_or_ge l g with h1|h1
      ·exact r l q h1
      obtain rfl:l=g:=om;exact o
     exact G _ _ Z Z
    |true=>
     rw[o]at p;obtain⟨rfl,rfl⟩:=p;refine⟨Z,pG Z Yf N5 k,Z,?_⟩;refine cV.drop 7 ?_ ?_ ?_ ?_
     ·exact Z
     ·exact pG Z Yf N5 k
     ·exact Z
     refine cV.now Z ?_;rw[GQ (aiB e) o];exact⟨Z,Z⟩
   have e:j' a<=g:=dK K;refine cV.drop 7 ?_ ?_ ?_ ?_
   ·exact Z
   ·exact pG Z Yf N5 hL
   ·exact Z
   refine cV.now Z ?_;rw[xl.2 (λc B=>by
    obtain⟨l,q,rfl⟩:=List.mem_iff_getElem.1 B;exact r l q om)]
   exact⟨Z,Z⟩
 refine cV.drop 7 ?_ ?_ ?_ ?_
 ·exact Z
 ·exact pG Z Yf N5 k
 ·exact Z
 refine cV.now Z ?_;rw[zS,f,aiS];exact⟨Z,Z⟩
def acz(b a:n_ V)(h f:la)(k:hP 0 b=A')(l:hP 0 a=A')(r:gP 7 (.loop h)=A')(m:gP 7 (.loop f)=A')(j:∀d g,hP 0 d=A'->hP 0 g=A'->ml 9 (lh [cl 0] b a h++[.box d,.box g]) 9=A') 
  (t:∀(d:n_ V) (c:Ty) (e:cP) (o:dt->VS->Prop),fF c e->qB c->cM c<4294967296->(r7 c=B'->o (.ret (cj A')) (lh [cl 0] b a h++[.box d,.box (e.map V.d)]))->(r7 c=A'->o (.ret (cj B')) (lh [cl 7] b a f++[.box d,.box (e.map V.d)]))->
   jF C cm 4 [.agg (e.map V.d)] (lh [cl 0] b a h++[.box d]) o):∀(i:Nat) (c:Ty) (e:cP),i<4294967296->cM c<=i->fF c e->hO c->b7 C cm fA [.agg (e.map V.d),.bp 5 0,.bp 6 0] (lh [cl 0] b a h) (acy b a h f (tb c)):=by
 intro i;induction i with
 |zero=>intro c e _ x;have:=jm c;omega
 |succ i w=>intro c e v x n s;exact ZV b a h f k l r m j t i (λc e q p u=>w c e om q p u) c e x v n s
def UD(a:la):la:={a with state:=.done,pending:=q' .ret}
def ZW(b a:n_ V)(e:la)(h:hP 0 b=A')(i:hP 0 a=A')(j:gP 7 (.loop e)=A')(f:gP 9 (.loop e)=A') 
  (r:∀(c:n_ V) (d:Ty) (g:cP) (m:dt->VS->Prop),fF d g->qB d->cM d<4294967296->(r7 d=B'->m (.ret (cj A')) (lh [cl 0] b a e++[.box c,.box (g.map V.d)]))->(r7 d=A'->m (.ret (cj B')) (lh [cl 7] b a (UD e)++[.box c,.box (g.map V.d)]))->
   jF C cm 4 [.agg (g.map V.d)] (lh [cl 0] b a e++[.box c]) m) (q:Nat) (d:Ty) (g:cP) (s:q<4294967296) (n:cM d<=q) (l:fF d g) (p:hO d):b7 C cm fA [.agg (g.map V.d),.bp 5 0,.bp 6 0] (lh [cl 0] b a e) (acy b a e (UD e) (tb d)):=
 acz b a e (UD e) h i j j (λc k t o=>by
  simp only[lh,aiI,List.nil_append,ml,gP,ig 9 b h,ig 9 a i,ig 9 c t,ig 9 k o,ai3,aiV]at f⊢;rw[f];rfl) r q d g s n l p
def p3(a:Ty):Bool:=decide (4096<cM a)||decide (32<px a)||tb a
def Ez(b:Ty)(q:cP)(a:fF b q)(k:hO b)(t:cM b<4294967295):b7 C cm rC [.agg (q.map V.d)] [] λv h=>h=[]/\v=.ret (cl (xk (p3 b))):=by
 obtain⟨p,s,i,j,o,rfl⟩:=a.dL;refine cD ?_;refine pz b _ a om ?_;apply aZ<;>intro d
 ·have g:=eK (a:=4096) d;repeat refine b9 d ?_
  refine a8 0 ⟨Z,?_⟩;rw[p3,a_ g,aiS,aiS];rfl
 have g:=dK (a:=4096) d;repeat refine a7 d ?_
 refine SK _ b _ t (ais _) a ?_;repeat refine a7 d ?_
 apply aZ<;>intro e
 ·have f:=eK (a:=32) e;repeat refine b9 e ?_
  refine a8 0 ⟨Z,?_⟩;rw[p3,a_ f,Bool.or_true,aiS];rfl
 have f:=dK (a:=32) e;repeat refine a7 e ?_
 have l:p3 b=tb b:=by rw[p3,Z' om,Z' om];rfl
 rw[l];refine cA ?_;refine cA ?_;refine(ZW (zT p s i j o) (zT p s i j o) _ Z Z ?_ ?_ (λw b q x a k r n u=>?_) _ b _ om (ais _) a k).mono (λv h m=>?_)
 ·exact Z
 ·exact Z
 ·obtain⟨p,s,i,j,o,rfl⟩:=a.dL;refine jF.intro ?_;refine Ir b _ a k r ?_;cases c:r7 b with
  |false=>exact n c
  |true=>exact u c
 cases c:tb b with
 |false=>
  rw[c]at m;obtain⟨rfl,rfl⟩:=m;exact a8 0 ⟨Z,Z⟩
 |true=>
  rw[c]at m;obtain⟨rfl,rfl⟩:=m;exact a8 0 ⟨Z,Z⟩
def xm(b:Ty)(f:cP)(a:fF b f)(c:hO b)(e:cM b<4294967295){σ:VS}{g:dt->VS->Prop}(d:g (.ret (cl (xk (p3 b)))) σ):b7 C cm rC [.agg (f.map V.d)] σ g:=by
 obtain⟨j,k,h,l,i,rfl⟩:=a.dL;exact cI (Ez b _ a c e) Z Z d
def Rd.Nm(b:Rd):Prop:=∀a,a<j' b.ts->((b.tok a).kind=1->c8 (b.tok a).text=A')/\((b.tok a).kind=2->eC (b.tok a).text=A')
def BJ{c:cC}{R:Rd}(d:k5 c=.ok R.ts):R.Nm:=by
 have⟨_,_,_,_,b⟩:=Na d;intro g a;have:=cn a;have⟨f,e,_⟩:=b _ (List.mem_of_getElem? this);exact⟨f,e⟩
def Good(d:Nat->PR Ty)(f:Rd)(e:Nat):Prop:=∀a c b,e<=a->a<j' f.ts->d a=.ok c b->hO c/\cM c+a<=b/\a<b/\b<j' f.ts
theorem PS{e a:n_ Ty}(g:e.Perm a):cQ e=cQ a:=by
 induction g with
 |nil=>rfl
 |cons f _ b=>simp only[cQ,b]
 |swap f h e=>simp only[cQ];omega
 |trans _ _ d c=>rw[d,c]
theorem Is{f:Nat->PR Ty}{i:Rd}(u:i.Wf){k:Nat}(q:Good f i k):
  ∀(n:Nat) (a:n_ Ty) (e:Nat) (l:n_ Ty) (j:Nat),k<=e->e<j' i.ts->(∀h∈a,hO h)->eO f i n a e=.ok l j->(∀h∈l,hO h)/\cQ l+e<=cQ a+j/\j<j' i.ts:=by
 intro n;induction n with
 |zero=>intro a e l j _ _ _ b;cases b
 |succ n t=>
  intro a e l j s r C b;rw[eO]at b;cases g:f e with
  |bad w E=>rw[g]at b;cases b
  |ok o q1=>
   rw[g]at b;have⟨y,z,x,m⟩:=q e o q1 s r g;have d:∀h∈a++[o],hO h:=λh B=>by
    all_goals grind
   have A:cQ (a++[o])=cQ a+cM o:=by rw[gY];simp[cQ]
   dsimp only at b;split at b
   ·rename_i p;have⟨v,F,D⟩:=t _ _ _ _ om (u.step m p) d b;exact⟨v,om,D⟩
   cases c:cw i [[93]] q1 with
   |bad w E=>rw[c]at b;cases b
   |ok G q2=>
    rw[c]at b;cases b;have:=dI _ _ _ c;exact⟨d,om,eo u _ _ _ m c⟩
theorem zW{b:Nat->PR Ty}{a:Rd}(j:a.Wf){c:Nat}(h:Good b a c)(d:c<j' a.ts){i:n_ Ty}{e:Nat}(f:fS b a c=.ok i e):(∀k∈i,hO k)/\cQ i+c<=e/\e<j' a.ts:=by
 rw[fS]at f;split at f
 ·rename_i g;have⟨n,l,m⟩:=Is j h _ _ _ _ _ om (j.step d g) sm f
  grind [cQ]
 grind [cQ]
structure FlG (lM:Bool) (l:List oK):Prop where
 name:∀x∈l,c8 x.1=A'
 all:∀x∈l,hO x.2.1
 lM:lM=B'->∀x∈l,x.2.2=B'
 nd:(l.map (·.1)).Nodup
def FlG.snoc{a:Bool}{g:n_ oK}{c:cC}{i:Ty}{j:Bool}(h:FlG a g)(e:c8 c=A')(d:hO i)(f:a=B'->j=B')(k:c ∉ g.map (·.1)):FlG a (g++[(c,i,j)]):=by
 refine⟨λx hx=>?_,λx hx=>?_,λb x hx=>?_,?_⟩
 ·rcases ai1.1 hx with hx|hx
  ·exact h.name x hx
  simp at hx;subst hx;exact e
 ·rcases ai1.1 hx with hx|hx
  ·exact h.all x hx
  simp at hx;subst hx;exact d
 ·rcases ai1.1 hx with hx|hx
  ·exact h.lM b x hx
  simp at hx;subst hx;exact f b
 exact xJ
theorem EA{k:Nat->PR Ty}{e:Rd}(y:e.Wf)(D:e.Nm){u:Nat}(z:Good k e u)(i n:cC)(a:Bool):
  ∀(w:Nat) (b:n_ oK) (c:Nat) (v:n_ oK) (s:Nat),u<=c->c<j' e.ts->FlG a b->ep k e i n a w b c=.ok v s->FlG a v/\cQ (fa v)+c<=cQ (fa b)+s/\s<j' e.ts:=by
 intro w;induction w with
 |zero=>intro b c v s _ _ _ d;cases d
 |succ w Q=>
  intro b c v s N o E d;rw[ep]at d;split at d
  ·cases d
  rename_i j;have j:(e.tok c).kind=1:=by simpa using j
  have h:c+1<j' e.ts:=y.go c _ (cn o) om;split at d
  ·cases d
  rename_i p;have r:(if a&&cG (e.tok (c+1)) [63]then c+1+1 else c+1)<j' e.ts:=by
   split
   ·rename_i q;rw[aiO]at q;exact y.step h q.2
   exact h
  have I:c+1<=(if a&&cG (e.tok (c+1)) [63]then c+1+1 else c+1):=by split<;>omega
  cases g:cw e [[58]] (if a&&cG (e.tok (c+1)) [63]then c+1+1 else c+1)with
  |bad G K=>rw[g]at d;cases d
  |ok P q2=>
   rw[g]at d;dsimp only at d;have t:=eo y _ _ _ r g;have H:=dI _ _ _ g;cases l:k q2 with
   |bad G K=>rw[l]at d;cases d
   |ok x q1=>
    rw[l]at d;dsimp only at d;have⟨A,M,L,F⟩:=z q2 x q1 om t l;have m:FlG a (b++[((e.tok c).text,x,a&&cG (e.tok (c+1)) [63])]):=E.snoc ((D c o).1 j) A (λB=>by rw[B];rfl) p;have O:cQ (fa (b++[((e.tok c).text,x,a&&cG (e.tok (c+1)) [63])]))=cQ (fa b)+cM x:=by
     simp only[fa,aiR,gY,aiU,List.map_nil,cQ,Nat.add_zero]
    split at d
    ·rename_i C;cases d;exact⟨m,om,y.step F C⟩
    cases f:cw e [i] q1 with
    |bad G K=>rw[f]at d;cases d
    |ok P q3=>
     rw[f]at d;have J:=dI _ _ _ f
     grind [eo]
theorem vj{i:Nat->PR Ty}{g:Rd}(w:g.Wf)(t:g.Nm){l:Nat}(q:Good i g l){c d:cC}{a:Bool}(b:l<j' g.ts){o:n_ oK}{u:Nat}(j:ek i g c d a l=.ok o u):
  FlW a o/\(∀f∈fa o,hO f)/\cQ (fa o)+l<=u/\u<j' g.ts:=by
 rw[ek]at j;split at j
 ·rename_i p;cases j;exact⟨⟨by simp,List.Pairwise.nil,by simp⟩,by simp[fa],by simp[fa,cQ],w.step b p⟩
 cases h:ep i g c d a (j' g.ts) [] l with
 |bad A C=>rw[h]at j;cases j
 |ok k z=>
  rw[h]at j;cases j;obtain⟨n,B,y⟩:=EA w t q c d a _ _ _ _ _ (ais _) b ⟨by simp,by simp,by simp,by simp⟩ h;have b:=dU (key:=λf:oK=>f.1) k;have m:(fa (cz (·.1) k)).Perm (fa k):=b.map _;refine⟨⟨λf e=>n.name f (b.subset e),ii n.nd,λr f e=>n.lM r f (b.subset e)⟩,λf e=>?_,?_,y⟩
  ·obtain⟨x,s,rfl⟩:=List.mem_map.1 (m.subset e);exact n.all x s
  grind [PS,fa,cQ]
theorem WR{u:Nat->PR Ty}{n:Rd}(s:n.Wf)(v:n.Nm){g:Nat}{i:cC}{F p l:Nat}{j:Ty}(f:Good u n p) 
  (d:g≠0->p<j' n.ts) (A:g=1->c8 i=A') (H:g=2->eC i=A') (b:vf u n g i F p=.ok j l):hO j/\cM j+p<=l+1/\p<=l/\l<j' n.ts:=by
 have⟨y,C⟩:=Us s (λm j l t K L=>⟨(f m j l t K L).2.2.1,(f m j l t K L).2.2.2⟩) d b
 suffices hO j/\cM j+p<=l+1 from⟨this.1,this.2,y,C⟩
 unfold vf at b;split at b
 ·have d:=d om;split at b
  ·rename_i T N;cases b;refine⟨.mk (.base ?_) (by simp[eJ,fa]),by simp[cM,cQ,rT];omega⟩;all_goals grind [GB]
  split at b
  ·obtain⟨t,a,rfl⟩:=fR b;rw[dE]at a;cases c:cw n [[91]] p with
   |bad E G=>rw[c]at a;cases a
   |ok I q1=>
    rw[c]at a;dsimp only at a;have x:=dI _ _ _ c;have k:=eo s _ _ _ d c;cases D:u q1 with
    |bad E G=>rw[D]at a;cases a
    |ok j q2=>
     rw[D]at a;dsimp only at a;have⟨e,h,q,w⟩:=f q1 j q2 om k D;cases r:cw n [[93]] q2 with
     |bad E G=>rw[r]at a;cases a
     |ok I q3=>
      rw[r]at a;cases a;have J:=dI _ _ _ r;exact⟨.mk .list (by simp[eJ,fa];exact e),by simp[cM,cQ,rT];omega⟩
  split at b
  ·cases c:cw n [[40]] p with
   |bad E G=>rw[c]at b;cases b
   |ok I q1=>
    rw[c]at b;dsimp only at b;have x:=dI _ _ _ c;have k:=eo s _ _ _ d c;cases B:ek u n [44] [41] A' q1 with
    |bad E G=>rw[B]at b;cases b
    |ok U q2=>
     rw[B]at b;dsimp only at b;have⟨e,h,q,w⟩:=vj s v (λm j l A=>f m j l om) k B;obtain⟨t,a,rfl⟩:=fR b;have⟨P,M,R,O⟩:=f q2 t l om w a;refine⟨.mk (.func e) (λS Q=>?_),?_⟩
     ·all_goals grind [eJ,List.mem_singleton]
     simp only[cM,cQ,py];omega
  cases b
 split at b
 ·have d:=d om;split at b
  ·obtain⟨t,a,rfl⟩:=fR b;have⟨e,h,q,w⟩:=vj s v f d a;exact⟨.mk (.ZU e) (by simpa [eJ]using h),by simp only[cM,cQ,py];omega⟩
  split at b
  ·obtain⟨t,a,rfl⟩:=fR b;have⟨e,h,q,w⟩:=vj s v f d a;exact⟨.mk (.vrt e) (by simpa [eJ]using h),by simp only[cM,cQ,py];omega⟩
  cases b
 split at b
 ·rename_i z;obtain⟨t,a,rfl⟩:=fR b;have⟨e,h,q⟩:=zW s f (d om) a;exact⟨.mk (.ref (.inl Z) (H z)) (by simpa [eJ,fa]using e),by simp only[cM,rT];omega⟩
 split at b
 ·rename_i z;have d:=d om;cases c:cw n [[58,58]] p with
  |bad E G=>rw[c]at b;cases b
  |ok I q1=>
   rw[c]at b;dsimp only at b;have x:=dI _ _ _ c;have k:=eo s _ _ _ d c;split at b
   ·cases b
   rename_i o;have o:(n.tok q1).kind=2:=by simpa using o
   obtain⟨t,a,rfl⟩:=fR b;have⟨e,h,q⟩:=zW s (λm j l A=>f m j l om) (s.go q1 _ (cn k) om) a;exact⟨.mk (.ref (.inr (A z)) ((v q1 k).2 o)) (by simpa [eJ,fa]using e),by simp only[cM,rT];omega⟩
 cases b
def um{h:Rd}(p:h.Wf)(c:h.Nm):∀(f:Nat),Good (iM h f) h 0:=by
 intro f;induction f with
 |zero=>intro e m i _ _ g;cases g
 |succ f k=>
  intro e m i _ b g;rw[iM]at g;have⟨a,q,r,d⟩:=WR p c (p:=e+1) (λn m i _ o l=>k n m i (aiy _) o l) (λj=>p.go e _ (cn b) j) (c e b).1 (c e b).2 g;exact tA
def ZX(c:UInt8){σ:VS}{d:dt->VS->Prop}(b:d (.ret (cj (qn c))) σ):b7 C cm vG [io c] σ d:=by
 refine cA ?_;refine u2 c ?_;apply aZ<;>intro a
 ·exact b9 a (b9 a (fK (by simp only[qn,a,aiS]) b))
 refine a7 a (rJ c ?_);exact a7 a (fK (by simp only[qn,a,Bool.false_or]) b)
def uA{a:Bool}(b:(!a)=A'):a=B':=by cases a with
 |true=>cases b
 |false=>rfl
def Fh{a:Bool}(b:(!a)=B'):a=A':=by cases a with
 |false=>cases b
 |true=>rfl
def aeZ:Gp vG qn:=⟨rfl,λa=>ZX a⟩
def acA(a:cC){σ:VS}{c:dt->VS->Prop}(b:c (.ret (.dP [cv a,cj A'])) σ):b7 C cm qz [cv (118::a),cv [118]] σ c:=by
 refine cA ?_;refine cA ?_;refine qj (118::a) [118] ?_;refine bZ Z ?_;refine a6 ⟨by show 1<=_;simp,ais _⟩ ?_;show c (.ret (.dP [V.d (.str (aiK 1 (aiN (j' (118::a)) (118::a)))),cj A'])) σ;rw[List.take_length];exact b
def ZY(a:cC)(d:ef a [118]=B'){σ:VS}{c:dt->VS->Prop}(b:c (.ret (.dP [cv a,cj B'])) σ):b7 C cm qz [cv a,cv [118]] σ c:=by
 refine cA ?_;refine cA ?_;refine qj a [118] ?_;refine b9 (by rw[d];rfl) ?_;exact b
def It(s:cC)(n:j' s<4294967296):b7 C cm vF [cv s] [] λb l=>l=[]/\da b=A'/\∃x,b=.ret (.dP [.d (.int .i64 x),cj (oG s)]):=by
 refine cD ?_;cases s with
 |nil=>
  refine ZY [] Z ?_;refine a8 0 ⟨Z,Z,_,Z⟩
 |cons m b=>
  by_cases e:m=118
  ·subst e;have o:j' b<4294967295:=by simp only[ait]at n;omega
   refine acA b ?_;have hI:oG (118::b)=(!decide (b=[])&&(decide (j' b<=3)&&(!(decide (1<j' b)&&decide (aiu (b.headD 0).toNat=48))&&b.all isDigit))):=by rw[oG];rfl
   apply aZ<;>intro d
   ·have Hu:b=[]:=f_ d;repeat refine b9 d ?_
    refine a8 0 ⟨Z,Z,_,by rw[hI,Hu];rfl⟩
   have Hu:b≠[]:=e_ d;repeat refine a7 d ?_
   apply aZ<;>intro f
   ·have LJ:3<j' b:=eK (a:=3) f;refine cN ?_;refine a8 0 ⟨Z,Z,_,by rw[hI,Z' Hu,Z' (p:=j' b<=3) om];rfl⟩
   have LJ:j' b<=3:=dK (a:=3) f;refine cN ?_;obtain⟨c,r2,rfl⟩:∃c r2,b=c::r2:=by cases b with
    |nil=>exact Y' rfl Hu
    |cons c r2=>exact⟨c,r2,rfl⟩
   apply aZ<;>intro h
   ·have j:1<j' (c::r2):=eK (a:=1) h;refine cN ?_;refine bZ Z (cp c Z ?_);refine cN ?_;apply aZ<;>intro g
    ·refine cN ?_;refine a8 0 ⟨Z,Z,_,by rw[hI,a_ j,show decide (aiu ((c::r2).headD 0).toNat=48)=A' from g];simp;rfl⟩
    have hB:(decide (1<j' (c::r2))&&decide (aiu ((c::r2).headD 0).toNat=48))=B':=by rw[show decide (aiu ((c::r2).headD 0).toNat=48)=B' from g,Bool.and_false]
    exact IJ
   have hB:(decide (1<j' (c::r2))&&decide (aiu ((c::r2).headD 0).toNat=48))=B':=by rw[Z' (Nat.not_lt.2 (dK (a:=1) h)),Bool.false_and]
   exact IJ
  refine ZY (m::b) (by show(decide ((118:UInt8)=m)&&A')=B';rw[Z' λp=>e p.symm];rfl) ?_;refine a8 0 ⟨Z,Z,_,by rw[oG,Z' e];rfl⟩
def Nc(b:cC)(d:j' b<4294967296){σ:VS}{e:dt->VS->Prop}(c:∀a,e (.ret (.dP [.d (.int .i64 a),cj (oG b)])) σ):b7 C cm vF [cv b] σ e:=
 b7.closed (P:=λf=>∃a,f=.ret (.dP [.d (.int .i64 a),cj (oG b)])) (It b d) rfl (λf ⟨a,g⟩=>by rw[g];exact c a)
def SN(b:cC)(e:j' b<4294967296){σ:VS}{f:dt->VS->Prop}(d:∀c a,f (.ret (.d (.ps c 0 1 a (gv (dJ b))))) σ):b7 C cm vE [cv b,cv [47]] σ f:=
 b7.closed (P:=λg=>∃c a,g=.ret (.d (.ps c 0 1 a (gv (dJ b))))) (PM b e) rfl (λg ⟨c,h,i⟩=>by rw[i];exact d c h)
theorem Nd(a:cC):∀b∈dJ a,j' b<=j' a:=by
 induction a with
 |nil=>intro b c;simp[dJ]at c;subst c;exact ais _
 |cons f e d=>
  all_goals grind [dJ,aiT.1,aiW,nx,Nat.succ_le_succ]
def Nf(s:cC)(I:j' s<4294967296):b7 C cm wR [cv s] [] λr J=>J=[]/\da r=A'/\r=.ret (cj (fQ s)):=by
 refine cD ?_;refine cA ?_;refine SN s I (λL t=>?_);obtain⟨a,f⟩:∃a,a=dJ s:=⟨_,rfl⟩;have z:a≠[]:=f▸nx s;have w:∀e∈a,j' e<=j' s:=f▸Nd s;have m:fQ s=(oG (a.getLastD [])&&(decide (j' s<=64)&&(decide (2<=j' a)&&a.all λe=>c8 e&&e.all qn))):=by rw[fQ,<-f]
 rw[<-f];have x:0<j' a:=aiL.2 z;have j:j' (gv a)=j' a:=by simp[gv]
 have o:∀d (h:d<j' a),nth (gv a) d=q' [D.str a[d]]:=λd h=>by rw[cx,gv,aiX,aiA h];rfl
 have M:j' a<=j' s+1:=by
  have Q:countB 47 s<=j' s:=by
   clear I w m f;exact KO
  rw[f,GK];omega
 have p:a.getLastD []=a[j' a-1]:=by rw[List.getLastD_eq_getLast?,List.getLast?_eq_getElem?,aiA om];rfl
 have i:∀d (h:d<j' a),j' a[d]<4294967296:=λd h=>by have:=w _ (aiB h);omega
 refine bZ (m:=j' a-1) (by rw[j];exact uj x om) ?_;refine cp [.str (a[j' a-1])] (o _ om) ?_;refine Nc _ (i _ om) (λe=>?_);rw[<-p];apply aZ<;>intro E
 ·have n:=uA E;refine cN ?_;refine a8 0 ⟨Z,Z,by rw[m,n];rfl⟩
 have n:=Fh E;refine cN ?_;apply aZ<;>intro A
 ·have u:64<j' s:=eK (a:=64) A;refine cN ?_;refine a8 0 ⟨Z,Z,by rw[m,Z' (p:=j' s<=64) om,Bool.false_and,Bool.and_false];rfl⟩
 have u:j' s<=64:=dK (a:=64) A;refine cN ?_;apply aZ<;>intro H
 ·have v:j' a<2:=by have:=eK (b:=2) H;omega
  refine a8 0 ⟨Z,Z,by rw[m,Z' (p:=2<=j' a) om];simp;rfl⟩
 have v:2<=j' a:=by have:=dK (b:=2) H;omega
 have q:fQ s=a.all λe=>c8 e&&e.all qn:=by rw[m,n,a_ u,a_ v];rfl
 refine ck.less (fx:=[(5,.d (.int .i64 e)),(33,.d (.ps L 0 1 t (gv a))),(34,cl (j' a)),(35,cl 0)]) ⟨Z,Z,int_eq (by rw[j]),Z,tv⟩ ?_;refine ck.iter (λd:Nat=>[(5,.d (.int .i64 e)),(33,.d (.ps L 0 1 t (gv a))),(34,cl (j' a)),(35,cl d)]) (λ_=>[]) (λd=>j' a-d) (λd=>d<=j' a/\(a.take d).all (λe=>c8 e&&e.all qn)=A') ?_ 0 ⟨aiy _,Z⟩;rintro d ⟨P,y⟩;apply aZ<;>intro B
 ·have b:d<j' a:=eK B;have G:c8 a[d]=B'∨a[d].all qn=B'->fQ s=B':=λh=>by
   rw[q,List.all_eq_false];exact⟨a[d],aiB b,by rcases h with h|h<;>simp[h]⟩
  refine bZ Z ?_;refine cp [.str a[d]] (o d b) ?_;refine jo _ (i d b) ?_;apply aZ<;>intro F
  ·have g:=uA F;refine cN ?_;refine a8 0 ⟨Z,Z,by rw[G (.inl g)];rfl⟩
  have g:=Fh F;refine cN ?_;refine Ai aeZ _ (i d b) ?_;refine cN ?_;apply aZ<;>intro K
  ·have l:=uA K;refine cN ?_;refine a8 0 ⟨Z,Z,by rw[G (.inr l)];rfl⟩
  have l:=Fh K;refine cN ?_;refine⟨d+1,⟨b,?_⟩,ik,.eS,Z,Z⟩;rw[aiJ,aiA b];simp only[List.all_append,y,Option.toList,List.all_cons,List.all_nil,g,l,aiV]
 have b:j' a<=d:=dK B;rw[aiD b]at y;refine a8 0 ⟨Z,Z,by rw[q,y];rfl⟩
def nc(a:cC)(c:j' a<4294967296){σ:VS}{d:dt->VS->Prop}(b:d (.ret (cj (fQ a))) σ):b7 C cm wR [cv a] σ d:=
 b7.closed (P:=λe=>e=.ret (cj (fQ a))) (Nf a c) rfl (λe f=>by rw[f];exact b)
structure StF (g:FuncId) (fn:Nat->PR cC) (R:Rd):Prop where
 lt:∀p s q,p<j' R.ts->fn p=.ok s q->p<q/\q<j' R.ts
 call:∀p,p<j' R.ts->∀(i:Nat) {σ:VS} {K:dt->VS->Prop},nth σ i=q' (ee R p)->(∀s q,fn p=.ok s q->K (.ret (cv s)) (σ.set i (ee R q)))->(∀off e q,fn p=.bad off e->K (.fJ (dX off e)) (σ.set i (ee R q)))->b7 C cm g [.bp i 0] σ K
def kK{b:Rd}(w:b.Wf){d p c:Nat}{s:cC}(e:d≠0)(h2:p<j' b.ts)(h:fH d b p=.ok s c):p<c/\c<j' b.ts:=by
 rw[fH]at h;split at h
 ·cases h
 rename_i a;have a:(b.tok p).kind=d:=by simpa using a
 exact Cs
def uo{a:Rd}(q:a.Wf){k:Nat}(p:k≠0){c:Nat}(i:c<j' a.ts)(e:Nat){σ:VS}{l:dt->VS->Prop}(d:nth σ e=q' (ee a c))(h:∀n f,fH k a c=.ok n f->l (.ret (cv n)) (σ.set e (ee a f)))(j:∀b g f,fH k a c=.bad b g->l (.fJ (dX b g)) (σ.set e (ee a f))):
  b7 C cm wQ [.bp e 0,cl k] σ l:=by
 have m:=q.len;refine u7 a c k _ (cn i) om e d (λo=>?_) (λo=>?_)
 ·have g:gZ (a.tok c) c=c+1:=by rw[gZ,W' om]
  rw[g];exact h _ _ (by rw[fH,W' om])
 exact j _ _ _ (by rw[fH,X' o])
def ra{b:Rd}(o:b.Wf){e:Nat}(h:e<j' b.ts)(d:Nat){σ:VS}{j:dt->VS->Prop}(c:nth σ d=q' (ee b e))(g:∀l f,dp b e=.ok l f->j (.ret (cv l)) (σ.set d (ee b f)))(i:∀a n f,dp b e=.bad a n->j (.fJ (dX a n)) (σ.set d (ee b f))):
  b7 C cm zd [.bp d 0] σ j:=by
 have k:=o.len;refine lZ b e _ (cn h) om d c (λm=>?_) (λm=>?_)
 ·exact g _ _ (by rw[dp,W' om])
 exact i _ _ _ (by rw[dp,X' m])
def xn{i:Rd}(m:i.Wf):StF Ep (gF i) i:=by
 have p:=m.len;refine⟨λn s e l f=>?_,λn g o σ q b j k=>?_⟩
 ·rw[gF]at f;split at f
  ·exact kK m dc l f
  exact gy m l f
 refine cA ?_;refine iL i n _ (cn g) o b ?_;apply aZ<;>intro f
 ·have a:(i.tok n).kind=2:=Dw f;refine uo m dc g o b (λs e d=>?_) (λc h e d=>?_)
  ·exact j s e (by rw[gF,X' a,d])
  exact k c h e (by rw[gF,X' a,d])
 have a:(i.tok n).kind≠2:=λd=>by rw[d]at f;cases f
 refine ra m g o b (λs e d=>?_) (λc h e d=>?_)
 ·exact j s e (by rw[gF,W' a,d])
 exact k c h e (by rw[gF,W' a,d])
theorem ZZ{f:Rd}(j:f.Wf):∀(e:Nat) (s:cC) (d:Nat) (g:cC) (b:Nat),d<j' f.ts->l9 f e s d=.ok g b->d<=b/\b<j' f.ts:=by
 intro e;induction e with
 |zero=>intro s d g b _ a;cases a
 |succ e k=>
  intro s d g b c a;rw[l9]at a;split at a
  ·rename_i h;split at a
   ·cases a
   rename_i l q1 i;have⟨n,m⟩:=gy j (j.step c h) i
   grind
  cases a;exact⟨ais _,c⟩
theorem PT{b:Rd}(h:b.Wf){g c:Nat}{s:cC}(e:g<j' b.ts)(a:gj b g=.ok s c):g<c/\c<j' b.ts:=by
 rw[gj]at a;split at a
 ·cases a
 rename_i k q1 f;have⟨m,i⟩:=gy h e f;split at a
 ·cases a
 rename_i n q2 d;have⟨l,j⟩:=ZZ h _ _ _ _ _ i d;all_goals grind
def stK(e:Rd)(f:PR cC)(d:dt)(b:n_ V):Prop:=match f with
 |.ok g c=>b=zl e c/\d=.ret (cv g)
 |.bad a h=>∃c,b=zl e c/\d=.fJ (dX a h)
def StF.of{m:FuncId}{fn:Nat->PR cC}{c:Rd}(d:∀b n q,b<j' c.ts->fn b=.ok n q->b<q/\q<j' c.ts)(h:∀b,b<j' c.ts->b7 C cm m [.bp 0 0] [ee c b] λk g=>∃a,g=[.box a]/\da k=A'/\hP 0 a=A'/\stK c (fn b) k a):StF m fn c:=by
 refine⟨d,λb l p σ r f j k2=>?_⟩;refine b7.one (fk:=[.bp 0 0]) (P:=stK c (fn b)) (h b l) p f Z Z Z (λk a h=>?_);unfold stK at h;split at h
 ·rename_i o q e;obtain⟨rfl,rfl⟩:=h;exact j o q e
 exact Ca
def Rd.Nm.short{d:Rd}(h:d.Nm){b g:Nat}{s:cC}(f:b<j' d.ts)(e:dp d b=.ok s g):j' s<=32/\g=b+1:=by
 rw[dp]at e;split at e
 ·cases e
 rename_i a;have a:(d.tok b).kind=1:=by simpa using a
 have c:=(h b f).1 a;cases e;simp only[c8,aiO,j_]at c;exact⟨c.1.1.1.2,Z⟩
def zX{a:Rd}(p:a.Wf)(n:a.Nm)(I:j' a.ts<=65537):StF Ia (gj a) a:=by
 have E:=p.len;refine StF.of (λq e j D r=>PT p D r) (λq m=>?_);refine cA ?_;refine iL a q _ (cn m) 0 Z ?_;refine ra p m 0 Z (λg c o=>?_) (λx C j G=>?_)
 ·obtain⟨_,u⟩:=gy p m o;obtain⟨H,N⟩:=n.short m o;refine ck.iter (λd:Nat×cC=>[(0,.bp 0 0),(3,cl (a.tok q).off),(4,cv d.2)]) (λd=>[ee a d.1]) (λd=>j' a.ts-d.1)
   (λd=>d.1<j' a.ts/\j' d.2<=33*d.1/\∃l,j' a.ts-d.1<=l/\l9 a (j' a.ts) g c=l9 a l d.2 d.1) ?_ (c,g) ⟨u,by show (j' g)<=33*c;omega,_,by show (j' a.ts)-c<=j' a.ts;omega,rfl⟩
  rintro⟨j,e⟩ ⟨w,s,l,A,v⟩;have t:j<j' a.ts:=w;have M:j' e<=33*j:=s;have L:j' a.ts-j<=l:=A;have b:l9 a (j' a.ts) g c=l9 a l e j:=v;clear w s A v;obtain⟨l,rfl⟩:∃F,l=F+1:=⟨l-1,om⟩;rw[l9]at b;have k:gj a q=match l9 a (j' a.ts) g c with
    |.bad K G=>.bad K G
    |.ok e j=>if fQ e then .ok e j else .bad (a.tok q).off 4:=by rw[gj,o];try rfl
  refine dj a j (a.tok j) [47] (cn t) om 0 Z (λr=>?_) (λr=>?_)
  ·have f:=p.step t r;rw[X' r]at b;refine ra p f 0 Z (λB q2 h=>?_) (λx C q2 h=>?_)
   ·obtain⟨_,z⟩:=gy p f h;obtain⟨J,O⟩:=n.short f h;rw[h]at b;refine a6 ?_ ?_
    ·show 1+j' B<=_;omega
    refine a6 ?_ ?_
    ·show (j' e)+j' (47::B)<=_;simp only[ait];omega
    refine⟨(q2,e++47::B),⟨z,by show(e++47::B).length<=33*q2;simp only[aiw,ait];omega,l,by show (j' a.ts)-q2<=l;omega,b⟩,by show (j' a.ts)-q2<j' a.ts-j;omega,.eS,Z,Z⟩
   rw[h]at b;rw[b]at k;exact⟨_,Z,Z,Z,by rw[k];exact⟨_,rfl,rfl⟩⟩
  rw[W' (by rw[r];decide)]at b;rw[b]at k;refine nc e om ?_;apply aZ<;>intro y
  ·have i:fQ e=B':=by simpa using y
   refine jl _ (a.tok q).off 4 ?_;exact⟨_,Z,Z,Z,by rw[k];dsimp only;rw[W' (by rw[i];decide)];exact⟨_,rfl,rfl⟩⟩
  have i:fQ e=A':=by simpa using y
  exact⟨_,Z,Z,Z,by rw[k];dsimp only;rw[X' i];exact⟨rfl,rfl⟩⟩
 exact⟨_,Z,Z,Z,by rw[gj,G];exact⟨_,rfl,rfl⟩⟩
def s9.agu{e:Nat}{σ gA:VS}(q:s9 e σ gA){a:n_ Nat}(hcs:∀i∈a,i<e)(h0:0<e){g:x9}{p:Code}{f:Tm}{b:FuncId}{o:Hy->Tm->n_ gR->o9->VS->Prop}(h:g.fl=e) 
  (k:np [(0,.bp 0 0),(1,.fn b [] (pv a))] f) (l:ck C cm g p [(0,.bp 0 0),(1,.fn b [] (pv a))] [] .none gA o):ck C cm g p f [] .none σ o:=by
 have⟨c,j,m,h3,n⟩:=q;have d:∀i,i<e->kU c (j' σ) i=i:=λi hi=>by
  have:=tW j hi;rw[me this];omega
 refine ck.pick e c (fx:=[(0,.bp 0 0),(1,.fn b [] (pv a))]) ?_ ?_ (by rw[h,ai2];exact ais e) j Z Z m n l
 ·show np [(0,V.bp (kU c (j' σ) 0) 0),(1,V.fn b [] (jh (kU c (j' σ)) (pv a)))] f;rw[d 0 h0,PG hcs d];exact k
 show(Nat.blt 0 (j' gA)&&(((A'&&hP (j' gA) (pv a))&&A')))=A';exact J2
def ahS:Nat->Bool:=λa=>aiE a 5||aiE a 13||aiE a 1000002
def Lp{n r:Type}{b:Rd}(T:b.Wf)(step:n->Nat->PR n)(I:n->r->Nat->Prop)(w:r->VS)(j:VS)(A:Nat)(o:FuncId)(R:(C.ff.get o).isSome=A')(l:n_ Nat){g0:n}{a0:r}{i:Nat}(aa:i<j' b.ts)(E:cG (b.tok i) [91]=A')(L:I g0 a0 (i+1))(Q:∀k c d,I k c d->I k c (d+1))(W:j++[.gone]=w a0)(ad:j' j+1=A)(x:∀c,A<=j' (w c)+1)(O:∀am∈l,am<A) 
  (ac:∀k c d,I k c d->i<=d->d<j' b.ts->∀z:dt->VS->Prop,
   (∀m g a e,step k d=.ok m a->I m g a->d<a->a<j' b.ts->s9 A (ee b a::e) (ee b a::w g)->z (.ret (.dP [])) (ee b a::e))->
   (∀h t a e,step k d=.bad h t->A<=j' e+1->z (.fJ (dX h t)) (ee b a::e))->b7 C cm o (pv l) (ee b d::w c) z)
  {U:dt->VS->Prop} (D:∀k c d,gi step b g0 i=.ok k d->I k c d->i<d->d<j' b.ts->U (.ret (.dP [])) (ee b d::w c))
  (u:∀h t d e,gi step b g0 i=.bad h t->A<=j' e+1->U (.fJ (dX h t)) (ee b d::e)):
  b7 C cm Ih [.bp 0 0,.fn o [] (pv l)] (ee b i::j) U:=by
 have Y:=T.len;refine cB ahS (λ_=>Z) ?_;intro ak;refine iZ T [91] aa ak _ 0 Z (λ_ B=>?_) (λal=>Y' al (by rw[E];decide));refine iV (fx:=[(0,.bp 0 0),(1,.fn o [] (pv l))]) ?_;refine ck.gone ?_;show ck _ _ _ _ _ _ _ (ee b (i+1)::(j++[.gone])) _;rw[W];refine ck.iter (λ_:Nat×n×r=>[(0,.bp 0 0),(1,.fn o [] (pv l))]) (λc=>ee b c.1::w c.2.2) (λc=>j' b.ts-c.1)
  (λc=>i<c.1/\c.1<j' b.ts/\I c.2.1 c.2.2 c.1/\∃q,j' b.ts-c.1<=q/\gi step b g0 i=nA step b q c.2.1 c.1) ?_ (i+1,g0,a0) ⟨Nat.lt_succ_self i,B,L,_,by show (j' b.ts)-(i+1)<=j' b.ts;omega,by rw[gi,X' E]⟩
 rintro⟨d,k,c⟩ ⟨M,H,F,q,J,K⟩;have af:i<d:=M;have X:d<j' b.ts:=H;have P:I k c d:=F;have aj:j' b.ts-d<=q:=J;have f:gi step b g0 i=nA step b q k d:=K;clear M H F J K L;obtain⟨q,rfl⟩:∃ab,q=ab+1:=⟨q-1,om⟩;rw[nA]at f;conv=>whnf
 rw[R];refine ac k c d P om X _ (λm g a e t v ae p N=>?_) (λh ai a e t G=>?_)
 ·rw[t]at f;dsimp only at f;refine N.agu O om ad ⟨Z,Z,tv⟩ ?_;refine gU ?_;refine dj b a (b.tok a) [44] (cn p) om 0 Z (λs=>?_) (λs=>?_)
  ·rw[X' s]at f;refine⟨(a+1,m,g),⟨by show i<a+1;omega,T.step p s,Q _ _ _ v,q,by show (j' b.ts)-(a+1)<=q;omega,f⟩,by show (j' b.ts)-(a+1)<j' b.ts-d;omega,.eS,Z,Z⟩
  rw[W' (by rw[s];decide)]at f;intro V;refine iZ T [93] p V _ 0 Z (λy S=>?_) (λy ag=>?_)
  ·rw[yq y]at f;refine cV.now (by rw[ai2];show (j' j)+1<=j' (w g)+1;have:=x g;omega) ?_;exact D m g (a+1) f (Q _ _ _ v) om S
  refine cV.now (by rw[ai2];show (j' j)+1<=j' (w g)+1;have:=x g;omega) ?_;exact u _ _ _ _ (by rw[f];simp only[cw,y,b_,aix,PR.map]) (x g)
 rw[t]at f;refine cV.now (by rw[ai2];show (j' j)+1<=j' e+1;omega) ?_;exact u _ _ _ _ f G
def rS.len{l:n_ ny}{els:n_ cP}(h:rS l els):j' els=j' l:=by
 exact xL
def rS.snoc{l:n_ ny}{els:n_ cP}{p:ny}{b:cP}(h:rS l els)(hp:M9 p b):rS (l++[p]) (els++[b]):=by
 exact J7
abbrev dcH(g:Nat)(f:cC)(h d:Bool)(a:cC)(c e:V)(b:List V):List V:=cl g::cv f::cj h::cj d::cv a::c::e::b
def tdT(g:Nat)(f:cC)(h d:Bool)(b:cC)(e:V)(c:n_ V)(a:n_ cP):VS:=[.box (dcH g f h d b (kV 4 7 a) e c),.box [.bp 0 0],.box [.bp 1 0],kO 7 a]
def tdI(c:n_ ny)(a:n_ cP)(b:Nat):Prop:=rS c a/\j' a<=b
def agv:Nat->Bool:=λa=>aiE a 4||aiE a 23||aiE a 28
def uq:fF cY [.int .i64 0,.str [],.str [],.cu,.cu]:=.mk .nil .nil
def Z0{c:Nat->Nat}{g:Nat}{f:cC}{j e:Bool}{b:cC}{d:V}{a:n_ V}{k h:V}(i:hP 0 (d::a)=A')(l:k=iN c h):q' (cX.box (dcH g f j e b k d a))=q' (eb c (.box (dcH g f j e b h d a))):=by
 subst l;show _=q' (cX.box (cl g::cv f::cj j::cj e::cv b::iN c h::jh c (d::a)));rw[gu _ _ i]
def SO{d:Nat->Nat}{i j:Nat}{h:Nat}{g:cC}{k e:Bool}{b:cC}{c:V}{a:n_ V}{l:cP}(f:hP 0 (c::a)=A')(m:d i=j):q' (cX.box (dcH h g k e b (.ms j 7 0 1 1) c a))=q' (eb d (.box (dcH h g k e b (kV i 7 ([]++[l])) c a))):=Z0 f (by subst m;rfl)
def Nh{e:Nat->Nat}{l m:Nat}{k:Nat}{j:cC}{n g:Bool}{b:cC}{d:V}{a:n_ V}{f i:cP}{c:n_ cP}(h:hP 0 (d::a)=A')(o:e l=m):q' (cX.box (dcH k j n g b (.ms m 7 0 (j' c+1+1) (j' c+1+1)) d a))=q' (eb e (.box (dcH k j n g b (kV l 7 ((f::c)++[i])) d a))):=Z0 h (by subst o;rw[pt];exact mI _ 7 f c i)
def Lq{d j:Nat}{h:cC}{k e:Bool}{b:cC}{c:V}{a:n_ V}{g:V}(f:hP 0 (c::a)=A')(i:bd d g=A'):gP d (.box (dcH j h k e b g c a))=A':=by
 show(A'&&(A'&&(A'&&(A'&&(A'&&(bd d g&&hP d (c::a)))))))=A';rw[i,ig d _ f];rfl
def Z1{a:Rd}(E:a.Wf)(k:Nat)(M:cC)(P y:Bool)(i:cC){t:V}{e:n_ V}(o:hP 0 (t::e)=A')(p:n_ ny)(l:n_ cP)(b:Nat)(J:tdI p l b)(g:b<j' a.ts)(u:dt->VS->Prop) 
  (v:∀z x d f,fM a p b=.ok z d->tdI z x d->b<d->d<j' a.ts->s9 4 (ee a d::f) (ee a d::tdT k M P y i t e x)->u (.ret (.dP [])) (ee a d::f))
  (D:∀j s d f,fM a p b=.bad j s->4<=j' f+1->u (.fJ (dX j s)) (ee a d::f)):b7 C cm qv (pv [2,3]) (ee a b::tdT k M P y i t e l) u:=by
 have I:=E.len;have⟨A,h⟩:=J;refine b7.body agv (λ_=>Z) ?_;intro Q;refine cA ?_;refine ck.loop ?_;refine bZ Z (cp [.str [43]] Z ?_);refine dj a b (a.tok b) [43] (cn g) om 0 Z (λH=>?_) (λH=>?_);rotate_left;refine ck.loop ?_;refine bZ Z (cp [.str [45]] Z ?_);refine dj a b (a.tok b) [45] (cn g) om 0 Z (λG=>?_) (λG=>?_);rotate_left;refine ck.loop ?_;refine bZ Z (cp [.str [61]] Z ?_);refine dj a b (a.tok b) [61] (cn g) om 0 Z (λK=>?_) (λK=>?_);rotate_left
 ·refine ck.loop ?_;refine cy ?_;refine iL a b (a.tok b) (cn g) 0 Z ?_;refine cy ?_;exact jl _ (a.tok b).off 3 (D _ _ _ _ (by simp[fM,oq, *]) (by show 4<=5;omega))
 all_goals
  have q:=E.step g ‹cG (a.tok b) _=A'›;first
   |have c:fM a p b=(fH 2 a (b+1)).map λr=>p++[⟨r,0,cY⟩]:=by simp[fM,oq, *]
   |have c:fM a p b=(fH 2 a (b+1)).map λr=>p++[⟨r,1,cY⟩]:=by simp[fM,oq, *]
   |have c:fM a p b=(fH 2 a (b+1)).map λr=>p++[⟨r,2,cY⟩]:=by simp[fM,oq, *]
  intro L;refine bZ Z (cp _ Z ?_);refine db ?_;refine uo (k:=2) E dc q 0 Z (λr q2 n=>?_) (λj s q2 n=>D _ _ _ _ (by rw[c,n];rfl) (by show 4<=5;omega));have⟨N,m⟩:=kK E dc q n;rw[n]at c;refine db ?_;intro O;rcases l with _|⟨F,B⟩
  ·refine cO ?_;refine a6 Z (a6 ⟨aiv Z,aiv Z⟩ (a7 Z ?_));refine db ?_;exact v _ _ _ _ c ⟨A.snoc ⟨_,uq,Z⟩,by simp only[aiw,ait,aiz]at h⊢;omega⟩ om m ⟨[0,1,2,3,5],Z,dc,by show 4<=5;omega,Z,Z,SO o Z,Lq o (p1 7 _ Z),Z,Z,Z,Z,mZ _ 7 [.str r,.int .i64 (aiu _),.int .i64 0,.str [],.str [],.cu,.cu],iE _ _ _,tv⟩
  have w:j' B+1<=4294967296:=by simp only[ait]at h;omega
  refine cO ?_;refine a6 Z (a6 ⟨Z,Z,by simp,ais _,ug w (ais _) (aiv Z)⟩ (a7 Z (a7 (mY _) ?_)));refine db ?_;exact v _ _ _ _ c ⟨A.snoc ⟨_,uq,Z⟩,by simp only[aiw,ait,aiz]at h⊢;omega⟩ om m ⟨[0,1,2,3,5],Z,dc,by show 4<=5;omega,Z,Z,Nh o Z,Lq o (p1 7 _ Z),Z,Z,Z,Z,l2 _ 7 F B [.str r,.int .i64 (aiu _),.int .i64 0,.str [],.str [],.cu,.cu],iE _ _ _,tv⟩
def agw:Nat->Bool:=λa=>aiE a 17
def Z2{f:Rd}(Q:f.Wf){p:Nat->PR Ty}{P:Nat}(F:iW p f P)(k:Nat)(U:cC)(Y J:Bool)(n:cC){A:V}{g:n_ V}(e:hP 0 (A::g)=A')(B:n_ ny)(i:n_ cP)(v:Nat)(S:tdI B i v)(W:P<=v)(H:v<j' f.ts)(D:dt->VS->Prop) 
  (s:∀L I c l,eX p f B v=.ok L c->tdI L I c->v<c->c<j' f.ts->s9 4 (ee f c::l) (ee f c::tdT k U Y J n A g I)->D (.ret (.dP [])) (ee f c::l))
  (N:∀h t c l,eX p f B v=.bad h t->4<=j' l+1->D (.fJ (dX h t)) (ee f c::l)):b7 C cm rH (pv [2,3]) (ee f v::tdT k U Y J n A g i) D:=by
 have R:=Q.len;have⟨u,a⟩:=S;refine b7.body agw (λ_=>Z) ?_;refine uo (k:=2) Q dc H 0 Z (λE q1 j=>?_) (λh t q1 j=>?_)
 ·have⟨T,b⟩:=kK Q dc H j;refine dj f q1 (f.tok q1) [60,58] (cn b) om 0 Z (λo=>?_) (λo=>?_)
  ·have x:=Q.step b o;refine F.call (q1+1) om x 0 _ _ Z (λab ac q3 w y=>?_) (λh t q3 w=>?_)
   ·obtain⟨G,O,tn,K,M,rfl⟩:=y.dL;have⟨X,q⟩:=F.lt _ _ _ om x w;have d:eX p f B v=.ok (B++[⟨E,0,ab⟩]) q3:=by simp only[eX,j,o,c_,w,PR.map]
    intro aa;rcases i with _|⟨z,r⟩
    ·refine cO ?_;refine a6 Z (a6 ⟨aiv Z,aiv Z⟩ (a7 Z ?_));refine cy ?_;refine s _ _ _ _ d ⟨u.snoc ⟨_,y,Z⟩,by simp only[aiw,ait,aiz]at a⊢;omega⟩ om q ⟨[0,1,2,3,6],Z,dc,by show 4<=5;omega,Z,Z,SO e Z,Lq e (p1 7 _ Z),Z,Z,Z,Z,mZ _ 7 [.str E,.int .i64 0,.int .i64 (aiu G),.str O,.str tn,K,M],iE _ _ _,tv⟩
    have m:j' r+1<=4294967296:=by simp only[ait]at a;omega
    refine cO ?_;refine a6 Z (a6 ⟨Z,Z,by simp,ais _,ug m (ais _) (aiv Z)⟩ (a7 Z (a7 (mY _) ?_)));refine cy ?_;refine s _ _ _ _ d ⟨u.snoc ⟨_,y,Z⟩,by simp only[aiw,ait,aiz]at a⊢;omega⟩ om q ⟨[0,1,2,3,6],Z,dc,by show 4<=5;omega,Z,Z,Nh e Z,Lq e (p1 7 _ Z),Z,Z,Z,Z,l2 _ 7 z r [.str E,.int .i64 0,.int .i64 (aiu G),.str O,.str tn,K,M],iE _ _ _,tv⟩
   exact N _ _ _ _ (by simp only[eX,j,o,c_,w,PR.map]) (by show 4<=6;omega)
  have d:eX p f B v=.ok (B++[⟨E,0,cY⟩]) q1:=by simp only[eX,j,o,aix,b_]
  intro aa;rcases i with _|⟨z,r⟩
  ·refine cO ?_;refine a6 Z (a6 ⟨aiv Z,aiv Z⟩ (a7 Z ?_));refine cy ?_;refine s _ _ _ _ d ⟨u.snoc ⟨_,uq,Z⟩,by simp only[aiw,ait,aiz]at a⊢;omega⟩ om b ⟨[0,1,2,3,6],Z,dc,by show 4<=5;omega,Z,Z,SO e Z,Lq e (p1 7 _ Z),Z,Z,Z,Z,mZ _ 7 [.str E,.int .i64 0,.int .i64 0,.str [],.str [],.cu,.cu],iE _ _ _,tv⟩
  have m:j' r+1<=4294967296:=by simp only[ait]at a;omega
  refine cO ?_;refine a6 Z (a6 ⟨Z,Z,by simp,ais _,ug m (ais _) (aiv Z)⟩ (a7 Z (a7 (mY _) ?_)));refine cy ?_;refine s _ _ _ _ d ⟨u.snoc ⟨_,uq,Z⟩,by simp only[aiw,ait,aiz]at a⊢;omega⟩ om b ⟨[0,1,2,3,6],Z,dc,by show 4<=5;omega,Z,Z,Nh e Z,Lq e (p1 7 _ Z),Z,Z,Z,Z,l2 _ 7 z r [.str E,.int .i64 0,.int .i64 0,.str [],.str [],.cu,.cu],iE _ _ _,tv⟩
 exact N _ _ _ _ (by simp only[eX,j]) (by show 4<=5;omega)
end Go.Proofs.YtdocmpeionacbaaGreatDoor
namespace Go.VM
open Go.AM
section
variable{Φ:Fz} {ρ:Nat->Nat} {σ:VS} {st:St}
theorem Real.forget(f:Real Φ ρ σ st)(w:Nat):Real Φ ρ (σ.set w .gone) st:=by
 have c:∀(d:Nat) (b:cX),(σ.set w .gone:VS)[d]?=q' b->live b=A'->σ[d]?=q' b:=by
  intro d b a g;rw[List.getElem?_set]at a;split at a
  ·split at a
   ·cases a;cases g
   cases a
  exact a
 refine⟨f.wf,f.wm,f.fz,f.VV,f.uL,f.VW,λd k e u l n p a j=>f.Q9 d k e u l n p (c d _ a Z) j,λd b a g=>?_,λd v b q a o i h l=>f.inj d v b q (c d _ a i) (c v _ o h) i h l,λd k e u l n p m x a j t r s=>?_⟩
 ·rw[aiF];exact f.obj d b (c d b a g) g
 have⟨y,z⟩:=f.et d k e u l n p m x (c d _ a rfl) j t r s
 grind
def cV.forget(c:Nat){g:Nat}{b:dt}{f:dt->VS->Prop}(h:cV g b (σ.set c .gone) f):cV g b σ f:=by
 refine⟨λΦ ρ st d e=>?_⟩;have a:F7 Φ (j' (σ.set c cX.gone)) b:=by rw[aiF];exact e
 exact h.go Φ ρ st (d.forget c) a
end
end Go.VM
namespace Go.Proofs.YtdocmpeionacbaaGreatDoor
open Go.AM Go.VM
def sQ:cP:=[.int .i64 0,.str [],.str [],.cu,.cu]
def PU:cP:=[.int .i64 0,.str [],.str [],.str [],.int .i64 0,.cu,.cu,.cu]
def PV:fF cY sQ:=.mk .nil .nil
def ad5:iz mw PU:=.mk .nil .nil .nil
def dcV(j:Nat)(i:cC)(l e:Bool)(a:cC)(c:D)(g h f b:cP)(k d:cC):n_ V:=(qT j i l e a c g h f b k d).map V.d
abbrev dc0(c b:Bool)(a:cC):List V:=dcV 0 [] c b a .cu sQ sQ sQ PU [] []
def dcK(g:Rd)(i:PR jj)(e:dt)(b d:cX):Prop:=match i with
 |.ok h c=>e=.ret (.dP [])/\b=ee g c/\∃f,ot h f/\d=.box (f.map V.d)
 |.bad a j=>e=.fJ (dX a j)/\∃c,b=ee g c
def DcS(f:Rd)(e:PR jj)(d:dt)(c:VS):Prop:=∃b a,c=[b,a]/\da d=A'/\gP 0 b=A'/\gP 0 a=A'/\dcK f e d b a
def PW{g:Rd}{f:Nat}{e:PR jj}{d:jj}{c:cP}{b:VS}(h:e=.ok d f)(a:ot d c):cV 2 (.ret (.dP [])) (ee g f:: .box (c.map V.d)::b) (DcS g e):=by
 subst h;exact cV.drop 2 Z (Bt Z (sK 2 c)) Z (cV.now Z ⟨_,_,Z,Z,Z,sK 0 c,Z,Z,c,a,Z⟩)
def lG{h:Rd}{g b i:Nat}{f:PR jj}{a:VS}(j:f=.bad b i)(d:1<=j' a):cV 2 (.fJ (dX b i)) (ee h g::a) (DcS h f):=by
 subst j;obtain⟨c,a,rfl⟩:∃c e,a=c::e:=by cases a with
  |nil=>simp at d
  |cons c e=>exact⟨c,e,rfl⟩
 refine cV.forget 1 ?_;exact cV.drop 2 Z (Bt Z Z) Z (cV.now Z ⟨_,_,Z,Z,Z,Z,Z,g,Z⟩)
def ahT:Nat->Bool:=λa=>aiE a 13||aiE a 21
def PX{m:Rd}(i:m.Wf)(r e:Bool)(a:cC){u:Nat}(n:u<j' m.ts):b7 C cm C5 [.bp 0 0,.bp 1 0] [ee m u,.box (dc0 r e a)] (DcS m (kA m r e a u)):=by
 have v:=i.len;refine cB ahT (λ_=>Z) ?_;refine ra i n 0 Z (λz y b=>?_) (λh l y b=>?_)
 ·have⟨_,t⟩:=gy i n b;intro s;refine iZ i [58,58] t s _ 0 ?_ (λc g=>?_) (λc x=>?_)
  ·exact Z
  ·refine(xn i).call (y+1) g 0 ?_ (λo q2 d=>?_) (λh l q2 d=>?_)
   ·exact Z
   ·have⟨_,p⟩:=(xn i).lt _ _ _ g d;intro w;refine iZ i [97,115] p w _ 0 ?_ (λf q=>?_) (λf x=>?_)
    ·exact Z
    ·refine(xn i).call (q2+1) q 0 ?_ (λk q4 j=>?_) (λh l q4 j=>?_)
     ·exact Z
     ·exact PW (c:=qT 2 k r e a .cu sQ sQ sQ PU z o) (d:=⟨2,k,r,e,a,[],cY,cY,cY,mw,z,o⟩) (by simp only[kA,b,dC,cw,c,c_,d,f,j,PR.map]) ⟨_,_,_,_,_,.nil,PV,PV,PV,ad5,Z⟩
     exact lG (by simp only[kA,b,dC,cw,c,c_,d,f,j,PR.map]) sm
    exact lG (by simp only[kA,b,dC,cw,c,c_,d,f,b_,aix,PR.map]) sm
   exact lG (by simp only[kA,b,dC,cw,c,c_,d]) sm
  exact lG (by simp only[kA,b,dC,cw,c,b_,aix]) sm
 exact lG (by simp only[kA,b]) sm
def Z3:n_ V:=[cv [],cv [],.d .cu,.d .cu]++((sQ++(sQ++(PU++[D.str [],D.str []]))).map V.d)
def dcT:Tm:=[(2,.bp 2 0),(3,.bp 3 0)]
def PY(l:Rd)(j:Nat)(i:cC)(m d:Bool)(a:cC)(f g e b:cP)(k c:cC)(h:Nat×n_ ny×D):VS:=[ee l h.1,.box (dcV j i m d a h.2.2 f g e b k c),.box [.bp 0 0],.box [.bp 1 0]]
def ahU:Nat->Bool:=λa=>aiE a 18||aiE a 26||aiE a 1000004
theorem Z4{c:Type}{g:Rd}(s:g.Wf){step:c->Nat->PR c}{h:Nat}(n:∀f a b d,h<=a->a<j' g.ts->step f a=.ok b d->a<d/\d<j' g.ts):∀(i:Nat) (f:c) (a:Nat) (b:c) (d:Nat),h<=a->a<j' g.ts->nA step g i f a=.ok b d->a<d/\d<j' g.ts:=by
 intro i;induction i with
 |zero=>intro f a b d _ _ e;cases e
 |succ i r=>
  intro f a b d l j e;rw[nA]at e;split at e
  ·cases e
  rename_i p q1 k;have⟨u,o⟩:=n f a p q1 l j k;split at e
  ·rename_i m;have:=s.step o m
   grind
  have⟨t,q,_⟩:=dY e
  grind [ait,aiz,dI,eo]
def PZ{c:Rd}(F:c.Wf){g:Nat->PR Ty}{t:Nat->PR Ex}{I:Nat}(A:iW g c I)(V:oo dz t c I)(f b:Bool)(a:cC)(S:I<j' c.ts):b7 C cm C4 [.bp 0 0,.bp 1 0] [ee c I,.box (dc0 f b a)] (DcS c (lF g t c f b a I)):=by
 have ac:=F.len;refine cB ahU (λ_=>Z) ?_;refine cy ?_;refine ra F S 0 ?_ (λn m j=>?_) (λl z m j=>?_)
 ·exact Z
 ·obtain⟨aA,H⟩:=gy F S j;refine cy ?_;apply de (T:=λ_=>dcT) (S:=PY c 1 n f b a sQ sQ sQ PU [] []) (I:=λo:Nat×n_ ny×D=>m<=o.1/\o.1<j' c.ts/\nB o.2.1 o.2.2/\gi (eX g c) c [] m=.ok o.2.1 o.1)
  ·intro G;refine sJ c m (c.tok m) [91] (cn H) 0 ?_ ?_
   ·exact Z
   apply aZ<;>intro K
   ·refine Lp F (eX g c) tdI (tdT 1 n f b a (cl 0) Z3) [.box (dcV 1 n f b a .cu sQ sQ sQ PU [] []),.box [.bp 0 0],.box [.bp 1 0]] 4 rH Z [2,3] (g0:=[]) (a0:=[]) H K ⟨.nil,aiy _⟩ (λax aa m ay=>⟨ay.1,aiW ay.2⟩) Z Z (λaa=>by show 4<=5;omega) dc (λax aa q2 e aF ad aj ap ae=>Z2 F A 1 n f b a Z ax aa q2 e om ad aj ap ae) (λY W q2 s T aw h=>?_) (λl z q2 aK s aH=>?_)
    ·have u:m<=q2:=om;rcases W with _|⟨N,q⟩
     ·have J:Y=[]:=aiH T.1.len.symm;subst J;exact ck.arr (fx:=dcT) (gA:=PY c 1 n f b a sQ sQ sQ PU [] [] (q2,[],.cu)) (.eP 2 [0,1,2,3]) (G (q2,[],.cu) ⟨u,h,.nil,s⟩)
     refine kN 4 1 dcT (es:=7) (l:=N::q) Z Z (dF _) ⟨Z,Z,tv⟩ ⟨tv,tv,tv⟩ (by repeat' (first|exact tv|exact λ_=>⟨rfl,by simp⟩|refine aiQ ?_ ?_)) (λaC=>?_);exact ck.arr (fx:=dcT) (gA:=PY c 1 n f b a sQ sQ sQ PU [] [] (q2,Y,.ps aC (0*7) 7 (j' q+1) (aiN (j' q+1) (aiK 0 (N::q))))) (.eP 2 [0,1,2,3]) (G (q2,Y,_) ⟨u,h,by rw[eG _ _ sm];exact .ps T.1,s⟩)
    exact lG (by simp only[lF,j,s]) om
   refine ck.arr (fx:=dcT) (gA:=PY c 1 n f b a sQ sQ sQ PU [] [] (m,[],.cu)) .eS (G (m,[],.cu) ⟨ais _,H,.nil,by rw[gi,W' (by rw[K];decide)]⟩)
  rintro⟨q1,p,v⟩ ⟨U,R,X,P⟩;have az:m<=q1:=U;have h:q1<j' c.ts:=R;have O:nB p v:=X;have u:gi (eX g c) c [] m=.ok p q1:=P;clear U R X P;have d:lF g t c f b a I=match dC g c [58] q1 with
    |.bad aB f=>.bad aB f
    |.ok au q2=>(dC t c [61] q2).map λo=>⟨1,n,f,b,a,p,cY,cY,au,o,[],[]⟩:=by
   simp only[lF,j,u];try rfl
  intro ah;refine iZ F [58] h ah _ 0 Z (λe w=>?_) (λe ag=>?_)
  ·refine cy ?_;refine A.call (q1+1) om w 0 _ _ ?_ (λau aG q3 i x=>?_) (λl z q3 i=>?_)
   ·exact Z
   ·obtain⟨ab,af,tn,ai,an,rfl⟩:=x.dL;obtain⟨av,B⟩:=A.lt _ _ _ om w i;refine cy ?_;intro ar;refine iZ F [61] B ar _ 0 ?_ (λr M=>?_) (λr ag=>?_)
    ·exact Z
    ·refine cy ?_;refine V.call (q3+1) om M 0 _ _ ?_ (λo aE al E y=>?_) (λl z al E=>?_)
     ·exact Z
     ·obtain⟨ak,aI,aM,am,L,Q,ao,aq,rfl⟩:=y.eight;refine cy ?_;exact PW (c:=qT 1 n f b a v sQ sQ [.int .i64 (aiu ab),.str af,.str tn,ai,an] [.int .i64 (aiu ak),.str aI,.str aM,.str am,.int .i64 L,Q,ao,aq] [] []) (d:=⟨1,n,f,b,a,p,cY,cY,au,o,[],[]⟩) (by rw[d];simp only[dC,cw,e,c_,i,r,E,PR.map]) ⟨_,_,_,_,_,O,PV,PV,x,y,Z⟩
     exact lG (by rw[d];simp only[dC,cw,e,c_,i,r,E,PR.map]) sm
    exact lG (by rw[d];simp only[dC,cw,e,c_,i,r,b_,aix,PR.map]) sm
   exact lG (by rw[d];simp only[dC,cw,e,c_,i]) sm
  exact lG (by rw[d];simp only[dC,cw,e,b_,aix]) sm
 exact lG (by simp only[lF,j]) sm
def ahV:Nat->Bool:=λa=>aiE a 1000005||aiE a 1000010
def sbT:Tm:=[(1,.d .cu),(2,.d .cu),(3,.bp 0 0),(6,.bp 1 0)]
def oV(c a:Nat):Option (n_ cP)->V
 |none=>.d .cu
 |some b=>.ms c a 0 (j' b) (j' b)
def oO(a:Nat):Option (n_ cP)->cX
 |none=>.gone
 |some c=>.row a (c.map λb=>b.map V.d)
def Yh(d:Nat)(c b:cC)(a:Option (n_ cP)×Option (n_ cP)):VS:=[.box [cl d,cv c,cv b,oV 2 5 a.1,oV 3 7 a.2],.box zo,oO 5 a.1,oO 7 a.2]
def UE(a:n_ Ty):Option (n_ cP)->Prop
 |none=>a=[]
 |some b=>dZ a b/\b≠[]
def Z5(a:n_ oK):Option (n_ cP)->Prop
 |none=>a=[]
 |some b=>xf a b
def ae0(a:cP)(b:n_ cP){c:Nat}(f:j' b+1<=4294967296)(d:c<=200):(0+j' (aiC (λe=>aiC V.d e) (a::b)))*c<=en/\0+j' (aiC (λe=>aiC V.d e) (a::b))<=en:=by
 simp only[aiM,aiG,ait];unfold en;constructor
 ·calc (j' b+1)*c<=4294967296*200:=Nat.mul_le_mul om d
   _<=_:=dc
 omega
def dZ.set{b:n_ Ty}{a:n_ cP}(h:dZ b a){i:Nat}(hi:i<j' b){c:cP}(hd:fF b[i] c):dZ b (a.set i c):=by
 induction b generalizing a i with
 |nil=>simp at hi
 |cons d b ih=>
  exact J5
def xf.set{b:n_ oK}{a:n_ cP}(h:xf b a){i:Nat}(hi:i<j' b){c:cP}(hd:fF b[i].2.1 c):xf b (a.set i (.str b[i].1::c++[.bool b[i].2.2])):=by
 induction b generalizing a i with
 |nil=>simp at hi
 |cons d b ih=>
  have⟨e,f,g⟩:=d;exact J5
def zY{a:Nat->Nat}{g:Nat}{i c:cC}{d b j h:V}(f:d=iN a j)(e:b=iN a h):q' (cX.box [cl g,cv i,cv c,d,b])=q' (eb a (.box [cl g,cv i,cv c,j,h])):=by
 subst f e;rfl
def rU{a:Nat->Nat}{e f b c:Nat}{l:n_ cP}(g:a e=f)(d:c=j' l):V.ms f b 0 c c=iN a (oV e b (q' l)):=by
 subst g d;rfl
def acB{a:Nat->Nat}{c b:Nat}(d:Option (n_ cP))(e:a c=c):oV c b d=iN a (oV c b d):=by
 cases d with
 |none=>rfl
 |some f=>show V.ms _ _ _ _ _=V.ms _ _ _ _ _;rw[e]
def UF{b:Nat->Nat}{a:Nat}(c:Option (n_ cP)):q' (oO a c)=q' (eb b (oO a c)):=by
 cases c with
 |none=>rfl
 |some d=>exact d_ q' (k9 b a d).symm
def UG{b:Nat->Nat}{a:Nat}(e:n_ cP)(d:Nat)(c:cP):q' (cX.row a ((e.map λc=>c.map V.d).set (0+d) (c.map V.d)))=q' (eb b (oO a (q' (e.set d c)))):=by
 show _=q' (eb b (.row a _));rw[k9,aiM,List.map_set]
def Z6{a h:Nat}{g f:cC}{d c:V}(b:bd a d=A')(e:bd a c=A'):gP a (.box [cl h,cv g,cv f,d,c])=A':=by
 show(A'&&(A'&&(A'&&(bd a d&&(bd a c&&A')))))=A';rw[b,e];rfl
def UH{c b a:Nat}(d:Option (n_ cP))(e:Nat.blt b c=A'):bd c (oV b a d)=A':=by
 cases d with
 |none=>rfl
 |some f=>exact e
def xo{b:Nat->Nat}{a:Nat}(c:n_ cP):q' (cX.row a (aiN 0 (aiK 0 [])++aiC (λd=>aiC V.d d) c))=q' (eb b (oO a (q' c))):=by
 show _=q' (eb b (.row a _));rw[k9];rfl
def sR(b a:Nat)(c:Option (n_ cP)):gP b (oO a c)=A':=by
 cases c with
 |none=>rfl
 |some d=>exact fU b a d
def P0(au:Nat)(af:∀(W:Ty) (H:cP),cM W<=au->fF W H->hO W->∀{σ:VS} {aG:dt->VS->Prop},(∀v,fF W v->aG (.ret (.agg (v.map V.d))) σ)->b7 C cm mh [.agg (H.map V.d),.d .cu,.d .cu] σ aG) 
  (W:Ty) (H:cP) (aI:cM W<=au+1) (aN:au<4294967295) (aA:fF W H) (T:hO W):b7 C cm mh [.agg (H.map V.d),.d .cu,.d .cu] [] λal S=>S=[]/\da al=A'/\∃v,fF W v/\al=.ret (.agg (v.map V.d)):=by
 cases aA with
 |mk an ag=>
 rename_i k n g b a aC aD;have aH:decide (aiu k=9)=B':=by
  refine Z' λz=>?_;have z:k=9:=by simp only[aiP]at z;omega
  subst z;cases T with
  |mk T _=>
   cases T with
   |base z=>omega
 have Y:=gz (.mk k n g b a);have aB:=ey (eJ (.mk k n g b a));have aF:j' (eJ (.mk k n g b a))=j' b+j' a:=by simp[eJ,fa]
 have av:(aC=.cu/\b=[])∨∃G aw ax l j,aC=.ps G aw 5 ax (l::j)/\dZ b (l::j)/\j' j+1=j' b:=by
  cases an with
  |nil=>exact .inl ⟨rfl,rfl⟩
  |ps z o=>
   rename_i c;have:=z.len;cases c with
   |nil=>exact Y' rfl o
   |cons l j=>exact .inr ⟨_,_,_,l,j,rfl,z,this⟩
 have X:(aD=.cu/\a=[])∨∃G aw ax c,aD=.ps G aw 7 ax c/\xf a c/\j' c=j' a:=by
  cases ag with
  |nil=>exact .inl ⟨rfl,rfl⟩
  |ps z=>exact .inr ⟨_,_,_,_,rfl,z,z.len⟩
 clear an ag;refine cB ahV (λ_=>Z) ?_;refine cA ?_;refine ck.loop ?_;refine cN ?_;apply de (T:=λ_=>sbT) (S:=Yh k n g) (I:=λh:Option (n_ cP)×Option (n_ cP)=>UE b h.1/\Z5 a h.2)
 ·intro L;refine cy ?_;rcases av with⟨rfl,f⟩|⟨G,aw,ax,l,j,rfl,f,aE⟩
  ·refine cA ?_;refine cy ?_;rcases X with⟨rfl,i⟩|⟨U,az,ay,c,rfl,i,M⟩
   ·refine cA ?_;refine cy ?_;exact ck.gone (ck.gone (ck.arr (fx:=sbT) (gA:=Yh k n g (u',u')) .eS (L _ ⟨f,i⟩)))
   rcases c with _|⟨f0,A⟩
   ·refine cA ?_;refine a6 Z (a6 ⟨Z,Z,ais _,ais _,⟨aiy _,aiy _⟩⟩ ?_);refine cy ?_;exact ck.gone (ck.arr (fx:=sbT) (gA:=Yh k n g (u',(q' []))) (.pick 0 [0,1,3,2] ⟨Z,Z,Z,Z,tv⟩ Z Z Z Z Z dc ⟨zY Z (rU Z Z),Z,Z,Z,Z,sR _ _ _,Z,sR _ _ _,tv⟩) (L (u',(q' [])) ⟨f,i⟩))
   simp only[ait]at M;refine cA ?_;refine a6 Z (a6 ⟨Z,Z,ais _,ais _,ae0 f0 A om (aiv Z)⟩ ?_);refine a7 Z (a7 Z ?_);refine cy ?_;exact ck.gone (ck.arr (fx:=sbT) (gA:=Yh k n g (u',(q' (f0::A)))) (.pick 0 [0,1,4,3] ⟨Z,Z,Z,Z,tv⟩ Z Z Z Z Z dc ⟨zY Z (rU Z sm),Z,Z,Z,Z,sR _ _ _,(xo (f0::A)),sR _ _ _,tv⟩) (L (u',(q' (f0::A))) ⟨f,i⟩))
  refine cA ?_;refine a6 Z (a6 ⟨Z,Z,ais _,ais _,ae0 l j om (aiv Z)⟩ ?_);refine a7 Z (a7 Z ?_);refine cy ?_;rcases X with⟨rfl,i⟩|⟨U,az,ay,c,rfl,i,M⟩
  ·refine cA ?_;refine cy ?_;exact ck.gone (ck.arr (fx:=sbT) (gA:=Yh k n g ((q' (l::j)),u')) (.pick 0 [0,1,3,4] ⟨Z,Z,Z,Z,tv⟩ Z Z Z Z Z dc ⟨zY (rU Z sm) Z,Z,Z,Z,(xo (l::j)),sR _ _ _,Z,sR _ _ _,tv⟩) (L ((q' (l::j)),u') ⟨⟨f,by simp⟩,i⟩))
  rcases c with _|⟨f0,A⟩
  ·refine cA ?_;refine a6 Z (a6 ⟨Z,Z,ais _,ais _,⟨aiy _,aiy _⟩⟩ ?_);refine cy ?_;exact id (ck.arr (fx:=sbT) (gA:=Yh k n g ((q' (l::j)),(q' []))) (.pick 0 [0,1,3,4] ⟨Z,Z,Z,Z,tv⟩ Z Z Z Z Z dc ⟨zY (rU Z sm) (rU Z Z),Z,Z,Z,(xo (l::j)),sR _ _ _,Z,sR _ _ _,tv⟩) (L ((q' (l::j)),(q' [])) ⟨⟨f,by simp⟩,i⟩))
  simp only[ait]at M;refine cA ?_;refine a6 Z (a6 ⟨Z,Z,ais _,ais _,ae0 f0 A om (aiv Z)⟩ ?_);refine a7 Z (a7 Z ?_);refine cy ?_;exact id (ck.arr (fx:=sbT) (gA:=Yh k n g ((q' (l::j)),(q' (f0::A)))) (.pick 0 [0,1,3,5] ⟨Z,Z,Z,Z,tv⟩ Z Z Z Z Z dc ⟨zY (rU Z sm) (rU Z sm),Z,Z,Z,(xo (l::j)),sR _ _ _,(xo (f0::A)),sR _ _ _,tv⟩) (L ((q' (l::j)),(q' (f0::A))) ⟨⟨f,by simp⟩,i⟩))
 rintro⟨y,q⟩ ⟨f,i⟩;have f:UE b y:=f;have i:Z5 a q:=i;have ab:∀aJ∈eJ (.mk k n g b a),hO aJ:=by cases T with|mk _ z=>exact z
 have I:eJ (.mk k n g b a)=b++fa a:=rfl;apply de (T:=λ_=>sbT) (S:=Yh k n g) (I:=λh:Option (n_ cP)×Option (n_ cP)=>UE b h.1/\Z5 a h.2)
 ·intro aa;rcases y with _|d
  ·refine ck.loop ?_;exact ck.arr (fx:=sbT) (gA:=Yh k n g (u',q)) .eS (aa (u',q) ⟨f,i⟩)
  obtain⟨f,o⟩:=f;refine ck.iter (λh:Nat×n_ cP=>[(1,.d .cu),(2,.d .cu),(3,.bp 0 0),(6,.bp 1 0),(43,.ms 2 5 0 (j' h.2) (j' h.2)),(44,cl (j' h.2)),(45,cl h.1)]) (λh=>Yh k n g (q' h.2,q)) (λh=>j' b-h.1) (λh=>h.1<=j' b/\dZ b h.2/\h.2≠[]) ?_ (0,d) ⟨aiy _,f,o⟩;rintro⟨m,c⟩ ⟨R,f,o⟩;have R:m<=j' b:=R;have f:dZ b c:=f;have o:c≠[]:=o;have P:=f.len;apply aZ<;>intro z
  ·have B:m<j' b:=P▸eK z;have⟨H,ad,J⟩:=f.get B;have r:b[m]∈b:=aiB B;have N:cM b[m]<=au:=by have:=eU r;rw[I,gY]at Y;omega
   have O:hO b[m]:=ab _ (by rw[I];exact List.mem_append_left _ r);obtain⟨ap,am,ak,aj,f1,rfl⟩:=J.dL;have F:nth (c.map λH=>H.map V.d) (0+m)=q' (zT ap am ak aj f1):=by rw[aiM,cx,aiX,ad];rfl
   have E:m<j' c:=om;refine bZ Z ?_;refine a6 E ?_;refine cp _ F ?_;refine cy ?_;refine af b[m] [.int .i64 (aiu ap),.str am,.str ak,aj,f1] N J O (λv D=>?_);obtain⟨t,x,u,w,f2,rfl⟩:=D.dL;refine cy ?_;refine bZ Z ?_;refine a6 E ?_;refine db ?_;refine cp _ F ?_;have ac:nth ((c.map λH=>H.map V.d).set (0+m) (zT t x u w f2)) (0+m)=q' (zT t x u w f2):=by rw[cx,ai4 (by simp;omega)]
   refine db ?_;refine⟨(m+1,c.set m [.int .i64 (aiu t),.str x,.str u,w,f2]),⟨B,f.set B D,by simp[o]⟩,ik,.pick 0 [0,1,2,3] ⟨Z,Z,Z,Z,d_ q' (rU (l:=c.set m _) Z aiF.symm),int_eq (by rw[aiF]),int_eq (cF om),tv⟩ Z Z Z Z Z dc ⟨zY (rU Z aiF.symm) (acB q Z),Z6 (UH _ Z) (UH _ Z),Z,Z,UG c m [.int .i64 (aiu t),.str x,.str u,w,f2],sR _ _ _,UF q,sR _ _ _,tv⟩,Z,Z⟩
  exact ck.arr (fx:=sbT) (gA:=Yh k n g (q' c,q)) .eS (aa (q' c,q) ⟨⟨f,o⟩,i⟩)
 rintro⟨y,q⟩ ⟨f,i⟩;have f:UE b y:=f;have i:Z5 a q:=i;have Q:∀s,Z5 a s->cV 0 (.ret (.agg [cl k,cv n,cv g,oV 2 5 y,oV 3 7 s])) [.box [cl k,cv n,cv g,oV 2 5 y,oV 3 7 s],.box [cl k,cv n,cv g,oV 2 5 y,oV 3 7 s],oO 5 y,oO 7 s] λal S=>S=[]/\da al=A'/\∃v,fF (.mk k n g b a) v/\al=.ret (.agg (v.map V.d)):=by
  intro s p;rcases y with _|d<;>rcases s with _|e
  ·have f:b=[]:=f;have p:a=[]:=p;subst f p;exact a8 0 ⟨Z,Z,[.int .i64 (aiu k),.str n,.str g,.cu,.cu],.mk .nil .nil,Z⟩
  ·have f:b=[]:=f;subst f;refine cV.freeze 3 (es:=7) (l:=e) Z (dF e) (by repeat' (first|exact tv|exact λ_=>⟨rfl,by simp⟩|refine aiQ ?_ ?_)) (λG=>?_);rw[show qL 3 G e (.ret (.agg [cl k,cv n,cv g,oV 2 5 u',oV 3 7 (q' e)]))=.ret (.agg (([.int .i64 (aiu k),.str n,.str g,.cu,.ps G (0*7) 7 (j' e) ((e.drop 0).take (j' e))]:cP).map V.d))from rfl,eG _ _ rfl];exact a8 0 ⟨Z,Z,_,.mk .nil (.ps p),Z⟩
  ·have p:a=[]:=p;subst p;refine cV.freeze 2 (es:=5) (l:=d) Z (dF d) (by repeat' (first|exact tv|exact λ_=>⟨rfl,by simp⟩|refine aiQ ?_ ?_)) (λG=>?_);rw[show qL 2 G d (.ret (.agg [cl k,cv n,cv g,oV 2 5 (q' d),oV 3 7 u']))=.ret (.agg (([.int .i64 (aiu k),.str n,.str g,.ps G (0*5) 5 (j' d) ((d.drop 0).take (j' d)),.cu]:cP).map V.d))from rfl,eG _ _ rfl];exact a8 0 ⟨Z,Z,_,.mk (.ps f.1 f.2) .nil,Z⟩
  refine cV.freeze 2 (es:=5) (l:=d) Z (dF d) (by repeat' (first|exact tv|exact λ_=>⟨rfl,by simp⟩|exact λz=>Y' (show(3:Nat)=2 from z) dc|exact λz=>Y' (show(2:Nat)=3 from z) dc|refine aiQ ?_ ?_)) (λG=>?_);rw[show qL 2 G d (.ret (.agg [cl k,cv n,cv g,oV 2 5 (q' d),oV 3 7 (q' e)]))=.ret (.agg [cl k,cv n,cv g,.d (.ps G (0*5) 5 (j' d) ((d.drop 0).take (j' d))),.ms 3 7 0 (j' e) (j' e)])from rfl,eG _ _ rfl];refine cV.freeze 3 (es:=7) (l:=e) Z (dF e) (by repeat' (first|exact tv|exact λ_=>⟨rfl,by simp⟩|refine aiQ ?_ ?_)) (λU=>?_);rw[show qL 3 U e (.ret (.agg [cl k,cv n,cv g,.d (.ps G (0*5) 5 (j' d) d),.ms 3 7 0 (j' e) (j' e)]))=.ret (.agg (([.int .i64 (aiu k),.str n,.str g,.ps G (0*5) 5 (j' d) d,.ps U (0*7) 7 (j' e) ((e.drop 0).take (j' e))]:cP).map V.d))from rfl,eG _ _ rfl];exact a8 0 ⟨Z,Z,_,.mk (.ps f.1 f.2) (.ps p),Z⟩
 rcases y with _|d;all_goals
  rcases q with _|e
  ·refine ck.loop ?_;exact Q u' i
  refine ck.iter (λh:Nat×n_ cP=>[(1,.d .cu),(2,.d .cu),(3,.bp 0 0),(6,.bp 1 0),(60,.ms 3 7 0 (j' h.2) (j' h.2)),(61,cl (j' h.2)),(62,cl h.1)]) (λh=>Yh k n g (_,q' h.2)) (λh=>j' a-h.1) (λh=>h.1<=j' a/\xf a h.2) ?_ (0,e) ⟨aiy _,i⟩;rintro⟨m,c⟩ ⟨R,K⟩;have R:m<=j' a:=R;have K:xf a c:=K;have P:=K.len;apply aZ<;>intro z
  ·have B:m<j' a:=P▸eK z;have⟨h,ad,ah,ai,J⟩:=K.get B;have r:a[m].2.1∈fa a:=List.mem_map.2 ⟨_,aiB B,rfl⟩;have N:cM a[m].2.1<=au:=by have:=eU r;rw[I,gY]at Y;omega
   have O:hO a[m].2.1:=ab _ (by rw[I];exact List.mem_append_right _ r);have F:nth (c.map λH=>H.map V.d) (0+m)=q' [cv h.n,cl h.k,cv h.m,cv h.nm,.d h.a,.d h.f,cj h.o]:=by rw[aiM,cx,aiX,ad];rfl
   have E:m<j' c:=om;refine bZ Z ?_;refine a6 E ?_;refine cp _ F ?_;refine cy ?_;refine af a[m].2.1 h.ty N J O (λv D=>?_);obtain⟨t,x,u,w,f2,rfl⟩:=D.dL;refine db ?_;refine bZ Z ?_;refine a6 E ?_;refine db ?_;refine cp _ F ?_;have ac:nth ((c.map λH=>H.map V.d).set (0+m) [cv h.n,cl t,cv x,cv u,.d w,.d f2,cj h.o]) (0+m)=q' [cv h.n,cl t,cv x,cv u,.d w,.d f2,cj h.o]:=by rw[cx,ai4 (by simp;omega)]
   refine db ?_;have aq:xf a (c.set m [.str h.n,.int .i64 (aiu t),.str x,.str u,w,f2,.bool h.o]):=by
    have:=K.set B D;rw[ah,ai]at this;exact this
   refine⟨(m+1,c.set m [.str h.n,.int .i64 (aiu t),.str x,.str u,w,f2,.bool h.o]),⟨B,aq⟩,ik,.pick 0 [0,1,2,3] ⟨Z,Z,Z,Z,d_ q' (rU (l:=c.set m _) Z aiF.symm),int_eq (by rw[aiF]),int_eq (cF om),tv⟩ Z Z Z Z Z dc ⟨zY Z (rU Z aiF.symm),Z6 (UH _ Z) (UH _ Z),Z,Z,UF _,sR _ _ _,UG c m [.str h.n,.int .i64 (aiu t),.str x,.str u,w,f2,.bool h.o],sR _ _ _,tv⟩,Z,Z⟩
  exact Q (q' c) K
def Lr:∀(f:Nat),f<4294967296->∀(b:Ty) (d:cP),cM b<=f->fF b d->hO b->∀{σ:VS} {h:dt->VS->Prop},(∀a,fF b a->h (.ret (.agg (a.map V.d))) σ)->b7 C cm mh [.agg (d.map V.d),.d .cu,.d .cu] σ h:=by
 intro f;induction f with
 |zero=>intro _ b d g;have:=jm b;omega
 |succ f l=>
  intro o b d i c e σ h k;have j:=P0 f (λb d g c e=>l om b d g c e) b d i om c e;obtain⟨s,t,n,q,r,rfl⟩:=c.dL;exact b7.closed (P:=λm=>∃a,fF b a/\m=.ret (.agg (a.map V.d))) j Z λm ⟨a,g,p⟩=>by rw[p];exact k a g
def fY(c:Nat)(d b:cC)(e a:D):cP:=[.int .i64 (aiu c),.str d,.str b,e,a]
abbrev P1:=Nat×Bool×Ty×Nat×cC×cC×D×D
def P1.c(a:P1):cP:=fY a.2.2.2.1 a.2.2.2.2.1 a.2.2.2.2.2.1 a.2.2.2.2.2.2.1 a.2.2.2.2.2.2.2
def ahW:Nat->Bool:=λa=>aiE a 40||aiE a 1000004||aiE a 1000008||aiE a 1000011
def ae1(a:Bool):Tm:=[(2,.bp 2 0),(3,.bp 3 0),(4,cj a)]
def ae2(b a:Bool):Tm:=[(2,.bp 2 0),(3,.bp 3 0),(4,cj b),(5,cj a)]
def ae3(f:Rd)(e:cC)(g c:Bool)(a:cC)(b:D)(d:P1):VS:=[ee f d.1,.box (dcV 0 e g c a b d.c sQ sQ PU [] []),.box [.bp 0 0],.box [.bp 1 0]]
def ae4(g:Rd)(f:cC)(h c:Bool)(a:cC)(b:D)(d:cP)(e:P1):VS:=[ee g e.1,.box (dcV 0 f h c a b d e.c sQ PU [] []),.box [.bp 0 0],.box [.bp 1 0]]
theorem WS{b:Rd}(i:b.Wf){a l:n_ ny}{c f:Nat}(e:c<j' b.ts)(d:fM b a c=.ok l f):c<f/\f<j' b.ts:=by
 rw[fM]at d;split at d
 ·cases d
 rename_i n j;have g:(b.tok c).kind≠0:=by
  grind [oq,u6]
 have⟨s,h,_⟩:=dY d;have⟨m,k⟩:=kK i dc (i.go c _ (cn e) g) h;exact⟨om,k⟩
def P2{c:Rd}(af:c.Wf){i:Nat->PR Ty}{ah:Nat}(I:iW i c ah)(aI:Good i c ah)(m b:Bool)(a:cC)(az:ah<j' c.ts):b7 C cm Bd [.bp 0 0,.bp 1 0] [ee c ah,.box (dc0 m b a)] (DcS c (jk i c m b a ah)):=by
 have aF:=af.len;refine cB ahW (λ_=>Z) ?_;refine cy ?_;refine uo (k:=2) af dc az 0 ?_ (λu P y=>?_) (λo A P y=>?_)
 ·exact Z
 ·have⟨aY,ao⟩:=kK af dc az y;refine cy ?_;apply de (T:=λ_=>dcT) (S:=PY c 0 u m b a sQ sQ sQ PU [] []) (I:=λe:Nat×n_ ny×D=>P<=e.1/\e.1<j' c.ts/\nB e.2.1 e.2.2/\gi (fM c) c [] P=.ok e.2.1 e.1)
  ·intro q;refine sJ c P (c.tok P) [91] (cn ao) 0 ?_ ?_
   ·exact Z
   apply aZ<;>intro f
   ·refine Lp af (fM c) tdI (tdT 0 u m b a (cl 0) Z3) [.box (dcV 0 u m b a .cu sQ sQ sQ PU [] []),.box [.bp 0 0],.box [.bp 1 0]] 4 qv Z [2,3] (g0:=[]) (a0:=[]) ao f ⟨.nil,aiy _⟩ (λaU aE P aV=>⟨aV.1,aiW aV.2⟩) Z Z (λaE=>by show 4<=5;omega) dc (λaU aE q2 G bi aG aL F aj=>Z1 af 0 u m b a Z aU aE q2 G aG aL F aj) (λaC aB q2 U aA aT p=>?_) (λo A q2 bp U V=>?_)
    ·have H:P<=q2:=om;rcases aB with _|⟨au,Q⟩
     ·have aq:aC=[]:=aiH aA.1.len.symm;subst aq;exact ck.arr (fx:=dcT) (gA:=PY c 0 u m b a sQ sQ sQ PU [] [] (q2,[],.cu)) (.eP 2 [0,1,2,3]) (q (q2,[],.cu) ⟨H,p,.nil,U⟩)
     refine kN 4 1 dcT (es:=7) (l:=au::Q) Z Z (dF _) ⟨Z,Z,tv⟩ ⟨tv,tv,tv⟩ (by repeat' (first|exact tv|exact λ_=>⟨rfl,by simp⟩|refine aiQ ?_ ?_)) (λbg=>?_);exact ck.arr (fx:=dcT) (gA:=PY c 0 u m b a sQ sQ sQ PU [] [] (q2,aC,.ps bg (0*7) 7 (j' Q+1) (aiN (j' Q+1) (aiK 0 (au::Q))))) (.eP 2 [0,1,2,3]) (q (q2,aC,_) ⟨H,p,by rw[eG _ _ sm];exact .ps aA.1,U⟩)
    exact lG (by simp only[jk,y,U]) om
   refine ck.arr (fx:=dcT) (gA:=PY c 0 u m b a sQ sQ sQ PU [] [] (P,[],.cu)) .eS (q (P,[],.cu) ⟨ais _,ao,.nil,by rw[gi,W' (by rw[f];decide)]⟩)
  rintro⟨q1,J,h⟩ ⟨v,t,x,s⟩;have aX:P<=q1:=v;have p:q1<j' c.ts:=t;have av:nB J h:=x;have H:gi (fM c) c [] P=.ok J q1:=s;clear v t x s;apply de (T:=λe:P1=>ae1 e.2.1) (S:=ae3 c u m b a h) (I:=λe:P1=>q1<=e.1/\e.1<j' c.ts/\fF e.2.2.1 e.c/\ka i c [62,58] uk q1=.ok (e.2.1,e.2.2.1) e.1)
  ·intro q;refine dj c q1 (c.tok q1) [62,58] (cn p) om 0 ?_ (λf=>?_) (λf=>?_)
   ·exact Z
   ·have w:=af.step p f;refine cN ?_;refine cy ?_;refine I.call (q1+1) om w 0 _ _ ?_ (λl ax q3 r d=>?_) (λo A q3 r=>?_)
    ·exact Z
    ·obtain⟨K,M,tn,N,O,rfl⟩:=d.dL;have⟨aa,j⟩:=I.lt _ _ _ om w r;refine cy ?_;exact ck.arr (fx:=ae1 A') (gA:=(ae3 c u m b a h) (q3,A',l,K,M,tn,N,O)) .eS (q (q3,A',l,K,M,tn,N,O) ⟨by show q1<=q3;omega,j,d,by simp only[ka,f,c_,r,PR.map]⟩)
    have ai:∀t0,ka i c [62,58] t0 q1=.bad o A:=λt0=>by simp only[ka,f,c_,r,PR.map]
    exact lG (by simp only[jk,y,H,ai]) sm
   refine cN ?_;exact ck.arr (fx:=ae1 B') (gA:=(ae3 c u m b a h) (q1,B',uk,1,[],[],.cu,.cu)) .eS (q (q1,B',uk,1,[],[],.cu,.cu) ⟨ais _,p,(fF.mk .nil .nil),by simp only[ka,f,b_,aix]⟩)
  rintro⟨q2,g,E,F,W,S,R,f1⟩ ⟨v,t,x,s⟩;have aW:q1<=q2:=v;have z:q2<j' c.ts:=t;have Y:fF E (fY F W S R f1):=x;have ad:ka i c [62,58] uk q1=.ok (g,E) q2:=s;clear v t x s;apply de (T:=λe:P1=>ae2 g e.2.1) (S:=ae4 c u m b a h (fY F W S R f1)) (I:=λe:P1=>q2<=e.1/\e.1<j' c.ts/\fF e.2.2.1 e.c/\ka i c [60,58] cY q2=.ok (e.2.1,e.2.2.1) e.1)
  ·intro q;refine dj c q2 (c.tok q2) [60,58] (cn z) om 0 ?_ (λf=>?_) (λf=>?_)
   ·exact Z
   ·have w:=af.step z f;refine cN ?_;refine cy ?_;refine I.call (q2+1) om w 0 _ _ ?_ (λl ax q3 r d=>?_) (λo A q3 r=>?_)
    ·exact Z
    ·obtain⟨K,M,tn,N,O,rfl⟩:=d.dL;have⟨aa,j⟩:=I.lt _ _ _ om w r;refine cy ?_;exact ck.arr (fx:=(ae2 g) A') (gA:=(ae4 c u m b a h (fY F W S R f1)) (q3,A',l,K,M,tn,N,O)) .eS (q (q3,A',l,K,M,tn,N,O) ⟨by show q2<=q3;omega,j,d,by simp only[ka,f,c_,r,PR.map]⟩)
    have ai:∀t0,ka i c [60,58] t0 q2=.bad o A:=λt0=>by simp only[ka,f,c_,r,PR.map]
    exact lG (by simp only[jk,y,H,ad,ai]) sm
   refine cN ?_;exact ck.arr (fx:=(ae2 g) B') (gA:=(ae4 c u m b a h (fY F W S R f1)) (q2,B',cY,0,[],[],.cu,.cu)) .eS (q (q2,B',cY,0,[],[],.cu,.cu) ⟨ais _,z,(fF.mk .nil .nil),by simp only[ka,f,b_,aix]⟩)
  rintro⟨q3,n,B,aj,aP,aK,aO,f2⟩ ⟨v,t,x,s⟩;have aa:q2<=q3:=v;have j:q3<j' c.ts:=t;have ag:fF B (fY aj aP aK aO f2):=x;have ar:ka i c [60,58] cY q2=.ok (n,B) q3:=s;clear v t x s;have ak:jk i c m b a ah=(dC i c [61] q3).map λl=>⟨0,u,m,b,a,J,if g||n then E else l,if g||n then B else l,l,mw,[],[]⟩:=by simp only[jk,y,H,ad,ar]
  intro aM;refine iZ af [61] j aM _ 0 Z (λG ab=>?_) (λG be=>?_)
  ·refine cy ?_;refine I.call (q3+1) om ab 0 _ _ ?_ (λl ax aw T d=>?_) (λo A aw T=>?_)
   ·exact Z
   ·obtain⟨an,al,am,ap,f3,rfl⟩:=d.dL;have⟨ay,aQ,_,aD⟩:=aI _ _ _ om ab T;refine cy ?_;have V:∀(e aN:cP),fF (if g||n then E else l) e->fF (if g||n then B else l) aN->ot ⟨0,u,m,b,a,J,if g||n then E else l,if g||n then B else l,l,mw,[],[]⟩ (qT 0 u m b a h e aN (fY an al am ap f3) PU [] []):=λe aN aH aJ=>⟨_,_,_,_,_,av,aH,aJ,d,ad5,rfl⟩;have L:jk i c m b a ah=.ok ⟨0,u,m,b,a,J,if g||n then E else l,if g||n then B else l,l,mw,[],[]⟩ aw:=by rw[ak];simp only[dC,cw,G,c_,T,PR.map]
    cases g with
    |true=>exact PW L (V _ _ Y ag)
    |false=>
     cases n with
     |true=>exact PW L (V _ _ Y ag)
     |false=>
      have X:cM l<4294967296:=om;refine cy ?_;refine Lr (cM l) X l [.int .i64 (aiu an),.str al,.str am,ap,f3] (ais _) d ay (λd1 ae=>?_);obtain⟨bo,bc,bq,bl,f4,rfl⟩:=ae.dL;refine cy ?_;refine Lr (cM l) X l [.int .i64 (aiu an),.str al,.str am,ap,f3] (ais _) d ay (λd2 ac=>?_);obtain⟨bj,bb,bf,bk,f5,rfl⟩:=ac.dL;refine cy ?_;exact PW L (V _ _ ae ac)
   exact lG (by rw[ak];simp only[dC,cw,G,c_,T,PR.map]) sm
  exact lG (by rw[ak];simp only[dC,cw,G,b_,aix,PR.map]) sm
 exact lG (by simp only[jk,y]) sm
def GR{A:FuncId}{f:Rd}{B:Nat}{o:PR jj}{e:n_ V}(u:b7 C cm A [.bp 0 0,.bp 1 0] [ee f B,.box e] (DcS f o))(i g:Nat)(k:i≠g){σ:VS}{s:dt->VS->Prop}(m:nth σ i=q' (ee f B))(w:nth σ g=q' (.box e))(y:hP 0 e=A') 
  (q:∀l j h,o=.ok l h->ot l j->s (.ret (.dP [])) ((σ.set i (ee f h)).set g (.box (j.map V.d)))) (x:∀c p h z,o=.bad c p->gP 0 z=A'->s (.fJ (dX c p)) ((σ.set i (ee f h)).set g z)):b7 C cm A [.bp i 0,.bp g 0] σ s:=by
 refine b7.two (fk:=[.bp 0 0,.bp 1 0]) (P:=λt b a=>gP 0 a=A'/\dcK f o t b a) (u.mono λt D d=>?_) i g k m w Z y Z Z (λt b a d=>?_)
 ·have⟨b,a,E,F,j,l,p⟩:=d;exact⟨b,a,E,F,j,l,l,p⟩
 obtain⟨v,d⟩:=d;unfold dcK at d;split at d
 ·obtain⟨rfl,rfl,j,r,rfl⟩:=d;exact q _ j _ Z r
 obtain⟨rfl,h,rfl⟩:=d;exact x _ _ h a Z v
def dvK(f:Rd)(h:PR jj)(d:dt)(b:n_ V):Prop:=match h with
 |.ok g c=>b=zl f c/\∃e,ot g e/\d=.ret (.agg (e.map V.d))
 |.bad a i=>∃c,b=zl f c/\d=.fJ (dX a i)
def DvS(e:Rd)(d:PR jj)(c:dt)(b:VS):Prop:=∃a,b=[.box a]/\da c=A'/\hP 0 a=A'/\dvK e d c a
def agx{e:Rd}{c:Nat}{g:PR jj}{f:jj}{b:cP}{a:VS}(h:g=.ok f c)(d:ot f b):cV 1 (.ret (.agg (b.map V.d))) (ee e c::a) (DvS e g):=by
 subst h;exact cV.drop 1 Z (by show(gP 1 (ee e c)&&ml 1 a 0)=A';rw[ml];rfl) (sK 1 b) (cV.now Z ⟨_,Z,sK 0 b,Z,Z,b,d,Z⟩)
def GS{R:Rd}{q a c:Nat}{b:PR jj}{tl:VS}(h:b=.bad a c):cV 1 (.fJ (dX a c)) (ee R q::tl) (DvS R b):=by
 exact JZ
def agy:Nat->Bool:=λa=>aiE a 1000006||aiE a 1000012
def SP{a:Rd}(m:a.Wf){i:Nat->PR Ty}{n:Nat->PR Ex}{e:Nat}(R:iW i a e)(U:Good i a e)(N:oo dz n a e)(G:e<j' a.ts):b7 C cm ze [.bp 0 0] [ee a e] (DvS a (km i n a e)):=by
 have S:=m.len;refine cB agy (λ_=>Z) ?_;apply de (ι:=Nat×Bool×Bool×cC) (T:=λ_=>[(0,.bp 0 0),(2,.bp 1 0),(3,.bp 2 0)]) (S:=λf=>[ee a f.1,.box (dc0 B' B' []),.box (dc0 f.2.1 f.2.2.1 f.2.2.2)]) (I:=λf=>e<=f.1/\f.1<j' a.ts/\kl a e=.ok f.2 f.1)
 ·intro F;refine dj a e (a.tok e) [101,120,112,111,114,116] (cn G) om 0 Z (λj=>?_) (λj=>?_)
  ·have o:=m.step G j;refine dj a (e+1) (a.tok (e+1)) [100,101,112,114,101,99,97,116,101,100] (cn o) om 0 Z (λk=>?_) (λk=>?_)
   ·have u:=m.step o k;refine uo (k:=4) m dc u 0 Z (λQ h s=>?_) (λq A h s=>GS (by simp only[km,kl,j,k,c_,s,PR.map]));have⟨y,d⟩:=kK m dc u s;exact ck.arr .eS (F (h,A',A',Q) ⟨by show e<=h;omega,d,by simp only[kl,j,k,c_,s,PR.map]⟩)
   exact ck.arr .eS (F (e+1,A',B',[]) ⟨Nat.le_succ _,o,by simp only[kl,j,k,c_,b_,aix]⟩)
  exact ck.arr .eS (F (e,B',B',[]) ⟨ais _,G,by simp only[kl,j,b_,aix]⟩)
 rintro⟨h,T,E,Q⟩ ⟨y,d,M⟩;dsimp only at y d M;have b:km i n a e=km i n a e:=rfl;conv at b=>rhs;rw[km,M]
 dsimp only at b;have v:iW i a (h+1):=R.up om;have B:=N.up (show e<=h+1 by omega);apply de (ι:=Nat×jj×cP) (T:=λ_=>[(2,.bp 1 0),(3,.bp 2 0)]) (S:=λf=>[ee a f.1,.box (dc0 B' B' []),.box (f.2.2.map V.d)]) (I:=λf=>km i n a e=.ok f.2.1 f.1/\ot f.2.1 f.2.2)
 ·intro D;refine dj a h (a.tok h) [116,121,112,101] (cn d) om 0 Z (λp=>?_) (λp=>?_)
  ·exact GR (P2 m v (λX ay h aC=>U X ay h om) T E Q (m.step d p)) 0 2 dc Z Z Z (λI H q4 c g=>ck.arr .eS (D (q4,I,H) ⟨by rw[b,X' p];exact c,g⟩)) λq A q4 O c K=>GS (by rw[b,X' p];exact c)
  rw[W' (by rw[p];decide)]at b;refine dj a h (a.tok h) [108,101,116] (cn d) om 0 Z (λl=>?_) (λl=>?_)
  ·exact GR (PZ m v B T E Q (m.step d l)) 0 2 dc Z Z Z (λI H q4 c g=>ck.arr .eS (D (q4,I,H) ⟨by rw[b,X' l];exact c,g⟩)) λq A q4 O c K=>GS (by rw[b,X' l];exact c)
  rw[W' (by rw[l];decide)]at b;refine dj a h (a.tok h) [117,115,101] (cn d) om 0 Z (λr=>?_) (λr=>?_)
  ·exact GR (PX m T E Q (m.step d r)) 0 2 dc Z Z Z (λI H q4 c g=>ck.arr .eS (D (q4,I,H) ⟨by rw[b,X' r];exact c,g⟩)) λq A q4 O c K=>GS (by rw[b,X' r];exact c)
  rw[W' (by rw[r];decide)]at b;refine iL a h _ (cn d) 0 Z ?_;exact jl _ (a.tok h).off 3 (GS b)
 rintro⟨q4,I,H⟩ ⟨L,g⟩;dsimp only at L g;obtain⟨J,am,ah,aa,Y,P,x,z,w,t,rfl⟩:=g;obtain⟨an,af,az,ax,f1,rfl⟩:=x.dL;obtain⟨ai,ap,aA,aj,f2,rfl⟩:=z.dL;obtain⟨ad,ab,ac,au,f3,rfl⟩:=w.dL;obtain⟨al,ak,ar,aq,av,t4,ae,d4,rfl⟩:=t.eight;exact agx L ⟨J,_,_,_,_,P,x,z,w,t,Z⟩
def mdK(h:Rd)(i:PR (Da×n_ Nat))(e:dt)(c:n_ V):Prop:=match i with
 |.ok g d=>c=zl h d/\∃f a,xj g.1 f/\Lo g.2 a/\e=.ret (.dP [.agg (f.map V.d),.d a])
 |.bad b j=>∃d,c=zl h d/\e=.fJ (dX b j)
def MdS(e:Rd)(d:PR (Da×n_ Nat))(c:dt)(b:VS):Prop:=∃a,b=[.box a]/\da c=A'/\hP 0 a=A'/\mdK e d c a
def Db{R:Rd}{q a c:Nat}{b:PR (Da×n_ Nat)}{tl:VS}(h:b=.bad a c):cV 1 (.fJ (dX a c)) (ee R q::tl) (MdS R b):=by
 exact JZ
def WT{a:Rd}(u:a.Wf){b:Nat->PR Ty}{c:Nat->PR Ex}{p:Nat}(o:iW b a p)(r:Good b a p)(d:oo dz c a p)(s:p<j' a.ts)(g:Nat){σ:VS}{n:dt->VS->Prop}(f:nth σ g=q' (ee a p)) 
  (l:∀j k q,km b c a p=.ok j q->ot j k->n (.ret (.agg (k.map V.d))) (σ.set g (ee a q))) (k2:∀off e q,km b c a p=.bad off e->n (.fJ (dX off e)) (σ.set g (ee a q))):b7 C cm ze [.bp g 0] σ n:=by
 refine b7.one (fk:=[.bp 0 0]) (P:=dvK a (km b c a p)) (SP u o r d s) g f Z Z Z (λv t h=>?_);unfold dvK at h;split at h
 ·rename_i j q e;obtain⟨rfl,k,m,rfl⟩:=h;exact l j k q e m
 exact Ca
def ahX:Nat->Bool:=λa=>aiE a 8||aiE a 19||aiE a 27||aiE a 38||aiE a 44
def ahY(c:Rd)(b:cC)(a:Nat×n_ ux):VS:=[ee c a.1,.box [cv [],.d .cu,.d .cu],.box [cv b,kV 3 2 (a.2.map fT),.d .cu],kO 2 (a.2.map fT)]
def dlT(a:n_ Nat):Tm:=[(0,.bp 0 0),(2,.bp 1 0),(4,.bp 2 0),(5,kV 4 1 (a.map λb=>[.int .i64 (aiu b)]))]
def dlS(e:Rd)(d:cC)(a:D)(b:Nat×n_ cP×n_ Nat):VS:=[ee e b.1,.box [cv [],.d .cu,.d .cu],.box [cv d,.d a,kV 3 31 b.2.1],kO 31 b.2.1,kO 1 (b.2.2.map λc=>[.int .i64 (aiu c)])]
def oD.len{l:n_ jj}{els:n_ cP}(h:oD l els):j' els=j' l:=by
 exact xL
def oD.snoc{l:n_ jj}{els:n_ cP}{p:jj}{b:cP}(h:oD l els)(hp:ot p b):oD (l++[p]) (els++[b]):=by
 exact J7
def ofD(a:Nat):cP:=[.int .i64 (aiu a)]
theorem agz{a:Nat->Nat}{d e:Nat}(c:Nat)(or:n_ Nat)(f:Nat)(g:a d=e):q' (V.ms e 1 0 (j' (or.map λb=>([.int .i64 (aiu b)]:cP))+1+1) (j' (or.map λb=>([.int .i64 (aiu b)]:cP))+1+1))=q' (iN a (kV d 1 (((c::or)++[f]).map λb=>[.int .i64 (aiu b)]))):=by
 grind [pt,mI]
def ae5{b:Nat->Nat}(a:Nat)(or:n_ Nat)(d:Nat):q' (cX.row 1 (aiN (j' (or.map λc=>([.int .i64 (aiu c)]:cP))+1) (aiK 0 (aiC (λe=>aiC V.d e) (ofD a::or.map λc=>([.int .i64 (aiu c)]:cP))))++[(ofD d).map V.d]))=q' (eb b (kO 1 (((a::or)++[d]).map λc=>[.int .i64 (aiu c)]))):=by
 rw[aiR];exact l2 b 1 (ofD a) (or.map ofD) (ofD d)
def Z7{c:Nat->Nat}{e g:Nat}(d:cC)(a:D)(d0:cP)(b:n_ cP)(f:cP)(h:c e=g):q' (cX.box [cv d,.d a,.ms g 31 0 (j' b+1+1) (j' b+1+1)])=q' (eb c (.box [cv d,.d a,kV e 31 ((d0::b)++[f])])):=by
 subst h;show _=q' (cX.box [cv d,.d a,iN c (kV e 31 ((d0::b)++[f]))]);rw[pt,<-mI _ 31 d0 b f]
def ad6{c b:Nat}(e:cC)(a:D)(d:n_ cP)(f:Nat.blt b c=A'):gP c (.box [cv e,.d a,kV b 31 d])=A':=by
 show(A'&&(A'&&(bd c (kV b 31 d)&&A')))=A';rw[p1 31 _ f];rfl
theorem GU{c:Rd}(e:c.Wf){B:Nat->PR Ty}{K:Nat->PR Ex}{n:Nat}(E:∀a o b,n<=a->a<j' c.ts->B a=.ok o b->a<b/\b<j' c.ts)(ab:∀a o b,n<=a->a<j' c.ts->K a=.ok o b->a<b/\b<j' c.ts){a b:Nat}{J:jj}(ai:n<=a)(N:a<j' c.ts)(h:km B K c a=.ok J b):a<b/\b<j' c.ts:=by
 have ao:∀{s:cC} {ap a b},a<j' c.ts->cw c [s] a=.ok ap b->a<b/\b<j' c.ts:=λhp h=>by
  have r:=dI _ _ _ h;have p:=eo e _ _ _ hp h
  grind [ait,aiz]
 have A:∀{i:Type} {G:Nat->PR i} {s:cC} {a b:Nat} {o:i},(∀j m,a<j->j<j' c.ts->G j=.ok o m->j<m/\m<j' c.ts)->a<j' c.ts->dC G c s a=.ok o b->a<b/\b<j' c.ts:=by
  intro i G s a b o am hp h;rw[dC]at h;all_goals grind
 have P:∀{s:cC} {t0:Ty} {a b:Nat} {o:Bool×Ty},n<=a->a<j' c.ts->ka B c s t0 a=.ok o b->a<=b/\b<j' c.ts:=by
  intro s t0 a b o g hp h;rw[ka]at h;split at h
  ·rename_i l;have⟨ac,v,_⟩:=dY h;have⟨y,aa⟩:=E _ _ _ om (e.step hp l) v;exact⟨om,aa⟩
  exact q0
 have V:∀{i:Type} {step:i->Nat->PR i} {y f:i} {a b:Nat},(∀y a f b,n<=a->a<j' c.ts->step y a=.ok f b->a<b/\b<j' c.ts)->n<=a->a<j' c.ts->gi step c y a=.ok f b->a<=b/\b<j' c.ts:=by
  intro i step y f a b l g hp h;rw[gi]at h;split at h
  ·rename_i F;have⟨ag,J⟩:=Z4 e l _ _ _ _ _ om (e.step hp F) h;exact⟨om,J⟩
  exact q0
 have ae:∀y a f b,n<=a->a<j' c.ts->eX B c y a=.ok f b->a<b/\b<j' c.ts:=by
  intro y a f b g hp h;rw[eX]at h;split at h
  ·cases h
  rename_i s q1 l;have⟨ag,J⟩:=kK e dc hp l;split at h
  ·rename_i F;have⟨ac,v,_⟩:=dY h;have⟨o,af⟩:=E _ _ _ om (e.step J F) v;exact⟨om,af⟩
  cases h;exact⟨ag,J⟩
 rw[km]at h;split at h
 ·cases h
 rename_i ah L q;have O:a<=L/\L<j' c.ts:=by
  rw[kl]at q;split at q
  ·rename_i Q;have C:=e.step N Q;split at q
   ·rename_i M;have R:=e.step C M;have⟨s,l,_⟩:=dY q;have⟨y,aa⟩:=kK e dc R l;exact⟨om,aa⟩
   cases q;exact⟨om,C⟩
  cases q;exact⟨ais _,N⟩
 obtain⟨O,x⟩:=O;split at h
 ·rename_i u;have g:=e.step x u;rw[jk]at h;split at h
  ·cases h
  rename_i ak q1 r;have⟨T,t⟩:=kK e dc g r;split at h
  ·cases h
  rename_i W q2 p;have⟨U,w⟩:=V (λy a f b _ hp h=>WS e hp h) om t p;split at h
  ·cases h
  rename_i o q3 I;have⟨X,H⟩:=P om w I;split at h
  ·cases h
  rename_i af q4 ad;have⟨aj,an⟩:=P om H ad;have⟨ac,z,_⟩:=dY h
  grind
 split at h
 ·rename_i u;have g:=e.step x u;rw[lF]at h;split at h
  ·cases h
  rename_i ak q1 r;have⟨T,t⟩:=gy e g r;split at h
  ·cases h
  rename_i W q2 p;have⟨U,w⟩:=V ae om t p;split at h
  ·cases h
  rename_i ac q3 I;have⟨X,H⟩:=A (λj m S d k=>E _ _ _ om d k) w I;have⟨o,z,_⟩:=dY h;have⟨Y,D⟩:=A (λj m S d k=>ab _ _ _ om d k) H z;exact⟨om,D⟩
 split at h
 ·rename_i u;have g:=e.step x u;rw[kA]at h;split at h
  ·cases h
  rename_i aq q1 r;have⟨T,t⟩:=gy e g r;split at h
  ·cases h
  rename_i al q2 p;have⟨U,w⟩:=A (λj m _ d k=>(xn e).lt _ _ _ d k) t p;have⟨o,z,_⟩:=dY h;have⟨Y,D⟩:=A (λj m _ d k=>(xn e).lt _ _ _ d k) w z;exact⟨om,D⟩
 cases h
def acC{h:Rd}{g:Nat}{s:cC}{e:n_ ux}{a:D}{b:n_ jj}{f:PR (Da×n_ Nat)}(i:f=.ok (⟨s,e,b⟩,[]) g)(d:sN e a)(c:oD b []):cV 1 (.ret (.dP [.agg [cv s,.d a,.d .cu],.d .cu])) [ee h g,.box [cv s,.d a,.d .cu],.box [cv s,.d a,.d .cu],.gone,.gone] (MdS h f):=by
 cases c;subst i;exact cV.drop 1 Z Z Z (cV.now Z ⟨_,Z,Z,Z,Z,[.str s,a,.cu],.cu,⟨a,.cu,d,.nil,Z⟩,.nil,Z⟩)
def acD{o:Rd}{n:Nat}{e:cC}{i:n_ ux}{a:D}{f:n_ jj}{d0:cP}{b:n_ cP}{c:Nat}{or:n_ Nat}{m:PR (Da×n_ Nat)}(j:m=.ok (⟨e,i,f⟩,c::or) n)(h:sN i a)(g:oD f (d0::b)):cV 1 (.ret (.dP [.agg [cv e,.d a,kV 3 31 (d0::b)],kV 4 1 ((c::or).map λd=>[.int .i64 (aiu d)])])) [ee o n,.box [cv e,.d a,kV 3 31 (d0::b)],.box [cv e,.d a,kV 3 31 (d0::b)],kO 31 (d0::b),kO 1 ((c::or).map λd=>[.int .i64 (aiu d)])] (MdS o m):=by
 subst j;refine cV.freeze 3 (es:=31) (l:=d0::b) Z (dF _) (by repeat' (first|exact tv|exact λ_=>⟨rfl,by simp⟩|exact λj=>Y' (show(4:Nat)=3 from j) dc|refine aiQ ?_ ?_)) (λp=>?_);refine cV.freeze 4 (es:=1) (l:=(c::or).map λd=>[.int .i64 (aiu d)]) Z (dF _) (by repeat' (first|exact tv|exact λ_=>⟨rfl,by simp⟩|refine aiQ ?_ ?_)) (λl=>?_);refine cV.forget 1 (cV.forget 2 ?_);refine cV.drop 1 Z Z Z (cV.now Z ⟨_,Z,Z,Z,Z,[.str e,a,.ps p (0*31) 31 (j' b+1) (aiN (j' b+1) (aiK 0 (d0::b)))],.ps l (0*1) 1 (j' (or.map λd=>([.int .i64 (aiu d)]:cP))+1) (aiN (j' (or.map λd=>([.int .i64 (aiu d)]:cP))+1) (aiK 0 ((c::or).map λd=>[.int .i64 (aiu d)]))),⟨a,_,h,?_,Z⟩,?_,Z⟩)
 ·rw[eG _ _ sm];exact .ps g (ais _)
 rw[eG _ _ sm];exact .ps
def agA{b a c:Nat}(f:b<=65537)(e:a<=1)(d:c<=2000):(b+a)*c<=en/\b+a<=en:=by
 unfold en;constructor
 ·calc (b+a)*c<=65538*2000:=Nat.mul_le_mul om d
   _<=_:=dc
 omega
def Z8{c:Nat->Nat}{f g:Nat}(e:cC)(b:ux)(a:n_ ux)(d:ux)(h:c f=g):q' (cX.box [cv e,.ms g 2 0 (j' (a.map fT)+1+1) (j' (a.map fT)+1+1),.d .cu])=q' (eb c (.box [cv e,kV f 2 (((b::a)++[d]).map fT),.d .cu])):=by
 subst h;rw[aiR];show _=q' (cX.box [cv e,iN c (kV f 2 ((fT b::a.map fT)++[fT d])),.d .cu]);rw[pt,<-mI _ 2 (fT b) (a.map fT) (fT d)]
def ad7{b a:Nat}(d:cC)(c:n_ ux)(e:Nat.blt a b=A'):gP b (.box [cv d,kV a 2 (c.map fT),.d .cu])=A':=by
 show(A'&&(bd b (kV a 2 (c.map fT))&&A'))=A';rw[p1 2 _ e];rfl
theorem Z9{c:Nat->Nat}(b:ux)(a:n_ ux)(d:ux):q' (cX.row 2 (aiN (j' (a.map fT)+1) (aiK 0 (aiC (λe=>aiC V.d e) (fT b::a.map fT)))++[(fT d).map V.d]))=q' (eb c (kO 2 (((b::a)++[d]).map fT))):=by
 grind [l2]
def WU{a:Rd}(F:a.Wf)(w:a.Nm)(v:j' a.ts<=65537){r:Nat->PR Ty}{B:Nat->PR Ex}{P:Nat}(an:iW r a P)(aV:Good r a P)(ai:oo dz B a P)(bn:P<j' a.ts):b7 C cm vy [.bp 0 0] [ee a P] (MdS a (rR r B a P)):=by
 have aQ:=F.len;refine cB ahX (λ_=>Z) ?_;intro aU;refine iZ F [109,111,100,117,108,101] bn aU _ 0 Z (λV ag=>?_) (λV aS=>?_)
 ·refine(zX F w v).call (P+1) ag 0 ?_ (λs A Q=>?_) (λm I A Q=>?_)
  ·exact Z
  ·obtain⟨bC,bi⟩:=(zX F w v).lt _ _ _ ag Q;have i:rR r B a P=match eI a (j' a.ts) [] A with
     |.bad bG aT=>.bad bG aT
     |.ok t q1=>(ja r B a (j' a.ts) [] [] q1).map λb=>(⟨s,t,b.1⟩,b.2):=by
    simp only[rR,dC,cw,V,c_,Q];try rfl
   refine iV (fx:=[(0,.bp 0 0),(2,.bp 1 0),(4,.bp 2 0),(5,.d .cu)]) ?_;refine ck.gone ?_;refine ck.iter (λ_:Nat×n_ ux=>[(0,.bp 0 0),(2,.bp 1 0),(4,.bp 2 0),(5,.d .cu)]) (ahY a s) (λb=>j' a.ts-b.1)
    (λb=>A<=b.1/\b.1<j' a.ts/\j' b.2<=b.1/\∃n,j' a.ts-b.1<=n/\eI a (j' a.ts) [] A=eI a n b.2 b.1) ?_ (A,[]) ⟨ais _,bi,aiy _,_,by show (j' a.ts)-A<=j' a.ts;omega,rfl⟩
   rintro⟨q1,t⟩ ⟨aJ,aH,aL,n,aE,aB⟩;have bB:A<=q1:=aJ;have p:q1<j' a.ts:=aH;have aj:j' t<=q1:=aL;have bM:j' a.ts-q1<=n:=aE;have h:eI a (j' a.ts) [] A=eI a n t q1:=aB;clear aJ aH aL aE aB;obtain⟨n,rfl⟩:∃ar,n=ar+1:=⟨n-1,om⟩;rw[eI]at h;refine dj a q1 (a.tok q1) [105,109,112,111,114,116] (cn p) om 0 Z (λT=>?_) (λT=>?_)
   ·have x:=F.step p T;rw[X' T]at h;refine(zX F w v).call (q1+1) x 0 ?_ (λu q3 E=>?_) (λm I q3 E=>?_)
    ·exact Z
    ·obtain⟨bv,aq⟩:=(zX F w v).lt _ _ _ x E;intro bp;refine iZ F [97,115] aq bp _ 0 ?_ (λU ad=>?_) (λU aS=>?_)
     ·exact Z
     ·refine ra F ad 0 ?_ (λam c S=>?_) (λm I c S=>?_)
      ·exact Z
      ·obtain⟨bD,H⟩:=gy F ad S;have d:gG a (q1+1)=.ok ⟨u,am⟩ c:=by simp only[gG,E,dC,cw,U,c_,S,PR.map]
       rw[d]at h;intro bH;rcases t with _|⟨o,g⟩
       ·refine a6 Z (a6 ⟨aiv Z,aiv Z⟩ (a7 Z ?_));exact⟨(c,[⟨u,am⟩]),⟨by show A<=c;omega,H,by show 1<=c;omega,n,by show (j' a.ts)-c<=n;omega,h⟩,by show (j' a.ts)-c<j' a.ts-q1;omega,.pick 1 [0,1,2,5] ⟨Z,Z,Z,Z,tv⟩ Z Z Z Z Z dc ⟨Z,Z,Z,Z,Z,Z,mZ _ 2 [.str u,.str am],iE _ _ _,tv⟩,Z,Z⟩
       have aG:j' (g.map fT)+1<=4294967296:=by simp only[ait,aiG]at aj⊢;omega
       refine a6 Z (a6 ⟨Z,Z,by simp,ais _,ug aG (ais _) (aiv Z)⟩ (a7 Z (a7 (mY _) ?_)));exact⟨(c,(o::g)++[(⟨u,am⟩:ux)]),⟨by show A<=c;omega,H,by show((o::g)++[(⟨u,am⟩:ux)]).length<=c;simp only[aiw,ait,aiz]at aj⊢;omega,n,by show (j' a.ts)-c<=n;omega,h⟩,by show (j' a.ts)-c<j' a.ts-q1;omega,.pick 1 [0,1,2,5] ⟨Z,Z,Z,Z,tv⟩ Z Z Z Z Z dc ⟨Z,Z,Z,Z,Z8 s o g ⟨u,am⟩ Z,ad7 _ _ Z,Z9 o g ⟨u,am⟩,iE _ _ _,tv⟩,Z,Z⟩
      have d:gG a (q1+1)=.bad m I:=by simp only[gG,E,dC,cw,U,c_,S,PR.map]
      exact Db (by rw[i,h,d])
     have d:gG a (q1+1)=.bad (a.tok q3).off 3:=by simp only[gG,E,dC,cw,U,b_,aix,PR.map]
     exact Db (by rw[i,h,d])
    have d:gG a (q1+1)=.bad m I:=by simp only[gG,E]
    exact Db (by rw[i,h,d])
   rw[W' (by rw[T];decide)]at h;rw[h]at i;dsimp only at i;obtain⟨ao,ah⟩:∃ao,ao=t:=⟨_,rfl⟩;rw[<-ah]at i;apply de (ι:=D) (T:=λ_=>dlT []) (S:=λL=>dlS a s L (q1,[],[])) (I:=sN ao)
   ·intro aF;rcases t with _|⟨o,g⟩<;>subst ah
    ·exact ck.gone (ck.arr .eS (aF .cu .nil))
    refine kN 3 2 [(0,.bp 0 0),(2,.bp 1 0),(4,.bp 2 0),(5,.d .cu)] (es:=2) (l:=(o::g).map fT) Z Z (dF _) ⟨Z,Z,Z,Z,tv⟩ ⟨tv,tv,tv,tv,tv⟩ ⟨tv,λ_=>⟨Z,by simp⟩,tv,tv⟩ (λbN=>?_);refine ck.gone (ck.arr .eS (aF (.ps bN (0*2) 2 (j' (g.map fT)+1) (aiN (j' (g.map fT)+1) (aiK 0 ((o::g).map fT)))) ?_));rw[eG _ _ sm];exact .ps sm
   intro L Y;refine ck.iter (λb:Nat×n_ cP×n_ Nat=>dlT b.2.2) (dlS a s L) (λb=>j' a.ts-b.1)
    (λb=>q1<=b.1/\b.1<j' a.ts/\j' b.2.1<=b.1/\j' b.2.2=j' b.2.1/\∃n M,j' a.ts-b.1<=n/\oD M b.2.1/\ja r B a (j' a.ts) [] [] q1=ja r B a n M b.2.2 b.1) ?_ (q1,[],[]) ⟨ais _,p,aiy _,rfl,_,[],Nat.sub_le _ _,.nil,rfl⟩
   rintro⟨q2,ak,az⟩ ⟨x,e,z,l,f2,M,aC,y,f⟩;dsimp only at x e z l aC y f;obtain⟨f2,rfl⟩:∃ar,f2=ar+1:=⟨f2-1,om⟩;rw[ja]at f;refine iL a q2 _ (cn e) 0 Z ?_;apply aZ<;>intro av
   ·have N:(a.tok q2).kind≠0:=λaT=>by rw[aT]at av;cases av
    rw[X' N]at f;rcases ak with _|⟨d0,q⟩<;>rcases az with _|⟨O,or⟩<;>first|(simp at l;done)|skip
    all_goals
     refine iL a q2 _ (cn e) 0 Z ?_;intro bP;first
      |refine a6 rfl (a6 ⟨aiv rfl,aiv rfl⟩ (a7 rfl ?_))
      |have aK:j' q+1<=65537:=by simp only[ait]at z;omega
       have aA:j' (or.map λbQ=>([.int .i64 (aiu bQ)]:cP))+1<=4294967296:=by simp only[ait,aiG]at l z⊢;omega
       refine a6 Z (a6 ⟨Z,Z,by simp,ais _,ug aA (ais _) (aiv Z)⟩ (a7 Z (a7 (mY _) ?_)))
     refine cy ?_;refine WT F (p:=q2) ⟨λK bu A bz=>an.lt K bu A om,λK bz=>an.call K om⟩ (λK bu A bz=>aV K bu A om) (ai.up om) e 0 Z (λR bS j W X=>?_) (λm I j W=>Db (by simp only[i,f,W,PR.map]));have au:=X;obtain⟨aw,bK,bJ,bE,bA,bx,ay,aI,ax,aD,rfl⟩:=X;obtain⟨aM,bl,bm,bq,bh,rfl⟩:=ay.dL;obtain⟨bf,bc,aO,aR,be,rfl⟩:=aI.dL;obtain⟨bs,bj,aX,bk,aP,rfl⟩:=ax.dL;obtain⟨bg,bb,ba,aY,aN,bo,aW,br,rfl⟩:=aD.eight;obtain⟨bt,J⟩:=GU F an.lt ai.lt om e W;rw[W]at f;dsimp only at f;refine cy ?_;intro bI;refine cO ?_;have G:=y.snoc au
     let ap:=qT R.k R.n R.exp R.B3 R.note aw [.int .i64 (aiu aM),.str bl,.str bm,bq,bh] [.int .i64 (aiu bf),.str bc,.str aO,aR,be] [.int .i64 (aiu bs),.str bj,.str aX,bk,aP] [.int .i64 (aiu bg),.str bb,.str ba,.str aY,.int .i64 aN,bo,aW,br] R.m R.tg
     have ae:j' a.ts-j<=f2:=om;have al:j' a.ts-j<j' a.ts-q2:=om;have af:q1<=j:=om;first
      |refine a6 rfl (a6 ⟨aiv rfl,aiv rfl⟩ (a7 rfl ?_))
       refine cy ?_;exact⟨(j,[ap],[(a.tok q2).off]),⟨af,J,by show 1<=j;omega,Z,f2,M++[R],ae,G,f⟩,al,.pick 1 [0,1,2,6,5] ⟨Z,Z,Z,Z,tv⟩ Z Z Z Z Z dc ⟨Z,Z,Z,Z,Z,Z,mZ _ 31 ap,iE _ _ _,mZ _ 1 [.int .i64 (aiu (a.tok q2).off)],iE _ _ _,tv⟩,Z,Z⟩
      |refine a6 rfl (a6 ⟨rfl,rfl,by simp,ais _,agA aK (ais _) (aiv rfl)⟩ (a7 rfl (a7 (mY _) ?_)))
       refine cy ?_;exact⟨(j,(d0::q)++[ap],(O::or)++[(a.tok q2).off]),⟨af,J,by show((d0::q)++[ap]).length<=j;simp only[aiw,ait,aiz]at z⊢;omega,by show((O::or)++[_]).length=j' ((d0::q)++[ap]);simp only[aiw,ait,aiz]at l⊢;omega,f2,M++[R],ae,G,f⟩,al,.pick 1 [0,1,2,6,5] ⟨Z,Z,Z,agz O or (a.tok q2).off Z,tv⟩ Z Z Z Z Z dc ⟨Z,Z,Z,Z,Z7 s _ d0 q ap Z,ad6 s _ _ Z,l2 _ 31 d0 q ap,iE _ _ _,ae5 O or (a.tok q2).off,iE _ _ _,tv⟩,Z,Z⟩
   have N:(a.tok q2).kind=0:=jq av;rw[W' (by rw[N];decide)]at f;rcases ak with _|⟨d0,q⟩<;>rcases az with _|⟨O,or⟩<;>first|(simp at l;done)|skip
   ·exact acC (by simp only[i,f,PR.map]) Y y
   exact acD (by simp only[i,f,PR.map]) Y y
  exact Db (by simp only[rR,dC,cw,V,c_,Q])
 exact Db (by simp only[rR,dC,cw,V,b_,aix])
def Ex.k:Ex->Nat|.mk a _ _ _ _ _ _ _=>a
def Ex.kids:Ex->n_ Ex|.mk _ _ _ _ _ _ _ a=>a
def ov:Ex->n_ Ty
 |.mk b _ _ _ _ types a _=>types++(if b=8 then a.map ij.ty else [])
mutual
def dm:Ex->Nat
 |.mk k _ _ _ _ types labels kids=>1+cQ (types++(if k=8 then labels.map ij.ty else []))+dn kids
def dn:n_ Ex->Nat
 |[]=>0
 |e::l=>dm e+dn l
end
mutual
def ow:Ex->Nat
 |.mk _ _ _ _ _ _ _ kids=>ib kids+1
def ib:n_ Ex->Nat
 |[]=>0
 |e::l=>max (ow e) (ib l)
end
def gT(a:Ex):dm a=1+cQ (ov a)+dn a.kids:=by cases a;rw[dm,ov,Ex.kids]
def Dc(a:Ex):ow a=ib a.kids+1:=by cases a;rw[ow,Ex.kids]
def jn(a:Ex):0<dm a:=by rw[gT];omega
theorem pA(a c:n_ Ex):dn (a++c)=dn a+dn c:=by
 induction a with
 |nil=>simp[dn]
 |cons d a b=>simp only[aiI,dn,b];omega
def P3(a c:n_ Ex):ib (a++c)=max (ib a) (ib c):=by
 induction a with
 |nil=>simp[ib]
 |cons d a b=>simp only[aiI,ib,b];omega
def lH(a:n_ Ex):j' a<=dn a:=by
 induction a with
 |nil=>simp
 |cons c a b=>have:=jn c;simp only[ait,dn];omega
theorem mJ{a:n_ Ex}{b:Ex}(d:b∈a):dm b<=dn a:=by
 induction a with
 |nil=>simp at d
 |cons e a c=>
  all_goals grind [dn,aiT.1]
theorem WV(c:Nat):∀a:Ex,dm a<=c->ow a<=dm a:=by
 induction c with
 |zero=>intro a d;have:=jn a;omega
 |succ c f=>
  intro a d;rw[gT]at d⊢;rw[Dc];have:∀b:n_ Ex,dn b<=c->ib b<=dn b:=by
   intro b;induction b with
   |nil=>intro _;simp[ib]
   |cons g b e=>
    grind [dn,ib]
  grind
def GV(a:n_ Ex):ib a<=dn a:=by
 induction a with
 |nil=>simp[ib]
 |cons c a b=>have:=WV _ c (ais _);simp only[ib,dn];omega
def BK{a:n_ Ex}{b:Nat}(c:b<j' a):ib (a.take (b+1))=max (ib (a.take b)) (ow a[b]):=by
 rw[aiJ,aiA c,P3];simp[ib]
def vX{a:n_ Ex}{b:Nat}(c:b<j' a):dn (a.take (b+1))=dn (a.take b)+dm a[b]:=by
 rw[aiJ,aiA c,pA];simp[dn]
theorem rf(a:n_ Ex)(b:Nat):dn (a.take b)<=dn a:=by
 grind [ai5,pA]
theorem ir.get{l:n_ Ex}{els:n_ cP}(h:ir l els){i:Nat}(hi:i<j' l):∃d,els[i]?=q' d/\iz l[i] d:=by
 exact tp
def iz.ae6{f:Ex}{g:Nat}{j i h:cC}{a:Int}{d e b:D}(c:iz f [.int .i64 (aiu g),.str j,.str i,.str h,.int .i64 a,d,e,b]):gn f.kids b/\f.k=g:=by
 cases c with|mk _ _ c=>exact⟨c,rfl⟩
def Ni(p:Nat)(y:∀(f:Ex) (h:cP),dm f<=p->iz f h->∀{σ:VS} {z:dt->VS->Prop},z (.ret (cl (ow f))) σ->b7 C cm mT [.agg (h.map V.d)] σ z) 
  (f:Ex) (h:cP) (O:dm f<=p+1) (T:p<4294967295) (i:iz f h):b7 C cm mT [.agg (h.map V.d)] [] λM n=>n=[]/\M=.ret (cl (ow f)):=by
 obtain⟨Q,R,q,t,k,v,w,P,rfl⟩:=i.eight;have G:=gT f;refine cD ?_;rw[Dc];have m:=i.ae6.1;have j:dn f.kids<=p:=om;generalize f.kids=a at m j;have A:=lH a;cases m with
 |nil=>
  exact CA
 |ps J=>
  rename_i s r c d;have l:=J.len;refine ck.less (fx:=[(3,cl 0),(7,.d (.ps s r 8 c d)),(8,cl (j' a)),(9,cl 0)]) ⟨Z,Z,int_eq (by rw[l]),Z,tv⟩ ?_;refine ck.iter (λe:Nat=>[(3,cl (ib (a.take e))),(7,.d (.ps s r 8 c d)),(8,cl (j' a)),(9,cl e)]) (λ_=>[.box [cl Q,cv R,cv q,cv t,.d (.int .i64 k),.d v,.d w,.d (.ps s r 8 c d)]]) (λe=>j' a-e) (λe=>e<=j' a) ?_ 0 (aiy _);intro e S;apply aZ<;>intro o
  ·have b:e<j' a:=eK o;have⟨h,x,g⟩:=J.get b;refine bZ Z ?_;obtain⟨U,N,E,F,u,K,I,B,rfl⟩:=g.eight;refine cp _ (by rw[cx];exact x) ?_;have L:=mJ (aiB b);refine y a[e] _ om g ?_;refine⟨e+1,b,ik,.drop 1 ⟨int_eq ?_,Z,Z,int_eq (cF om),tv⟩ Z Z Z Z Z Z Z,Z,Z⟩;rw[BK b];exact nj
  have b:j' a<=e:=dK o;rw[aiD b];have H:=GV a;refine a8 0 ⟨Z,d_ dt.ret (d_ V.d (d_ (D.int .i64) (cF om)))⟩
def P4:∀(c:Nat) (a:Ex) (b:cP),c<4294967295->dm a<=c->iz a b->∀{σ:VS} {e:dt->VS->Prop},e (.ret (cl (ow a))) σ->b7 C cm mT [.agg (b.map V.d)] σ e:=by
 intro c;induction c with
 |zero=>intro a b _ k;have:=jn a;omega
 |succ c i=>
  intro a b q k d σ e g;obtain⟨r,s,l,n,j,o,p,m,rfl⟩:=d.eight;exact cI (Ni c (λa b h f=>i a b om h f) a _ k om d) Z Z g
end Go.Proofs.YtdocmpeionacbaaGreatDoor
