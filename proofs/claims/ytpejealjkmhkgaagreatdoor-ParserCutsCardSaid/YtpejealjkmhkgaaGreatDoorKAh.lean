/- Part of the proof. -/
import Derived.Test.YtpejealjkmhkgaaGreatDoorKAg
set_option linter.all false
set_option maxHeartbeats 16000000
set_option maxRecDepth 100000
open Bool renaming or_eq_false_iff->YL,and_eq_true->YN,or_eq_true->YQ
open Array renaming getElem?_toList->YM
open List renaming mem_cons->YO,mem_append->YP
namespace Go.AM
open Go.RowKit (Below)
variable{f:Fr}
theorem DG{C:dU}{ops:List Oper}{st:St}{b:Nat}:∀{e:List rF},mW C ops f st b e=true->∀m∈e,Nat.testBit b m.idx=true∨nG C ops f st m=true:=by
 intro e;induction e with
 |nil=>intro _ m h;simp at h
 |cons p e n=>
  intro o m h;simp only[mW,YN,YQ]at o;rcases YO.1 h with rfl|h
  ·exact o.1
  ·exact n o.2 m h
def OE(q:List Nat):yb->yb->Prop
 |.next n b h,.next o e m=>e=b/\m=h/\o.df=n.df/\∀p,p ∉ q->o.tm.get p=n.tm.get p
 |.eE s _ b h,.eE r _ e m=>r=s/\e=b/\m=h
 |_,_=>False
variable{g:Nat} {a:List Nat} {k:yb} {i:ec} {j:Value}
theorem qp{fr Vx:Fr}{b:Option Tmp}{st:St}(e:Vx.df=fr.df)(o:∀m,m ∉ a->Vx.tm.get m=fr.tm.get m)(h:yb.go g fr b j i st=some k):
  ∃n,yb.go g Vx b j i st=some n/\OE a k n:=by
 unfold yb.go gI at h⊢;cases b with
 |none=>cases h;exact⟨_,rfl,rfl,rfl,e,o⟩
 |some r=>
  simp only at h⊢;cases p:Nat.blt r g with
  |false=>rw[p]at h;cases h
  |true=>
   rw[p]at h;cases h;refine⟨_,Z,Z,Z,e,fun m q=>?_⟩;show(Vx.tm.set r j).get m=(fr.tm.set r j).get m;rw[cw,cw,o m q]
theorem yi{C:dU}{rc:Rec}{fc:FC}{ops:List Oper}{o:Oper}{st:St}(n:∀m∈oC ops o,m ∉ a)(b:ji C rc fc ops o f i st=some k):
  ∃p,ji C rc fc ops o (mK f a) i st=some p/\OE a k p:=by
 have h:(mK f a).df=f.df:=rfl;have e:∀m,m ∉ a->(mK f a).tm.get m=f.tm.get m:=fun m q=>by
  show(nN f.tm a).get m=_;rw[iP,if_neg q]
 unfold ji at b⊢;rw[<-na n];split at b
 ·cases b
 ·exact qp h e b
 ·unfold kS at b⊢;rw[<-xm o (xp n)];split at b
  ·cases b
  ·exact qp h e b
  ·cases b;exact⟨_,rfl,rfl,rfl,rfl⟩
  ·split at b
   ·exact qp h e b
   ·cases b;exact⟨_,rfl,rfl,rfl,rfl⟩
   ·cases b
  ·split at b
   ·exact qp h e b
   ·cases b;exact⟨_,rfl,rfl,rfl,rfl⟩
   ·cases b
  ·split at b
   ·cases b
   ·split at b
    ·exact qp h e b
    ·exact qp h e b
  ·rename_i r s;split at b
   ·cases b
   ·exact qp (fr:={f with df:=r::f.df}) (Vx:={mK f a with df:=r::f.df}) Z e b
variable{d:Array Value} {c:List Deferred} {l:Ren}
section
variable{C:dU} {w0:World} {N0:Nat} {G:Nat->Prop} {fc:FC} {b:FB} {rc:Rec} {ops:Array Oper} {bs:List Nat} {m:Nat} {order:List Nat}
def zj(C:dU)(w0:World)(N0:Nat)(G:Nat->Prop)(ops:Array Oper)(m:Nat)(v:Ren)(fc:FC)(u:Machine)(b:FB)(B:List Item)(y:ec)(z:List Frame)(x:Ex×Fr×ec×St):Prop:=
 match x with
 |(.norm,o,n,h)=>∃p w e t r s q,Iu ops p w/\Down ops p/\(∀A,A<m->p A=true)/\v.le e/\dj w0 N0 G e h t/\ks e fc o b r s/\nK y n z q/\
   Steps C.P u (lone (ek b r s (.inRegion ops w::B)) q t)/\(∀A,m<=A->p A=false)
 |(D,o,n,h)=>hh C w0 N0 G v fc u b B y z D o n h
theorem zj.of_steps{H r:Ren}{F I:Machine}{P:List Item}{D u:ec}{E s:List Frame}{o:Ex×Fr×ec×St}(v:H.le r)(t:nK D u E s)(q:Steps C.P F I)(T:zj C w0 N0 G ops m r fc I b P u s o):zj C w0 N0 G ops m H fc F b P D E o:=by
 obtain⟨U,S,R,Q⟩:=o;cases U with
 |norm=>
  obtain⟨N,K,e,w,h,p,n,L,J,M,x,y,B,z,A,O⟩:=T;exact⟨N,K,e,w,h,p,n,L,J,M,v.trans x,y,B,t.trans z,q.trans A,O⟩
 |_=>
  obtain⟨e,w,h,p,n,x,y,B,z,A⟩:=T;exact⟨e,w,h,p,n,v.trans x,y,B,t.trans z,.of_steps q A⟩
theorem L4{h:Tmp}(b:yc f (some h) j=true):f.tm.get h=some j:=by
 unfold yc at b;simp only at b;split at b
 ·rename_i m e;rw[e,qo _ _ b]
 ·cases b
theorem xq{h:Option Bool}{e:Bool}(b:isSome h e=true):h=some e:=by
 unfold isSome at b;split at b
 ·rfl
 ·rfl
 ·cases b
theorem uN{q:Ren}{D:Nat->Bool}{o:Oper}{N v':Value}(F:ops[g]?=some o)(K:ks l fc (mK f (fu ops D a)) b d c)(H:l.le q)(B:yc f o.dst N=true)(M:cY q N v') 
  (E:∀I,o.dst=some I->I<fc.nt):ks q fc (mK f (fu ops (fun x=>D x||x==g) a)) b (lG d o.dst v') c:=by
 have e:=K.mono H;refine⟨e.fn,e.round,e.kind,⟨?_,fun u G L=>?_⟩,e.df⟩
 ·have:=e.tm.1;unfold lG;split<;>simp[this]
 ·have h:(nN f.tm (fu ops (fun x=>D x||x==g) a)).get u=some G:=L;rw[iP]at h;split at h
  ·cases h
  ·rename_i w;cases n:o.dst with
   |none=>
    have p:u ∉ fu ops D a:=fun t=>w (by
     rw[kX]at t⊢;obtain⟨C,A,y,m⟩:=t;refine⟨C,A,?_,m⟩;have r:C≠g:=fun v=>by subst v;unfold ui at m;rw[F]at m;simp[n]at m
     simp[y,r])
    obtain⟨z,v,J⟩:=e.tm.2 u G (by show(nN f.tm (fu ops D a)).get u=some G;rw[iP,if_neg p];exact h);exact⟨z,by simpa [lG]using v,J⟩
   |some I=>
    rw[n]at B;by_cases s:u=I
    ·subst s;rw[L4 B]at h;cases h;refine⟨v',?_,M⟩;simp only[lG];rw[Array.getElem?_setIfInBounds_self_of_lt (by rw[e.tm.1];exact E u n)]
    ·have p:u ∉ fu ops D a:=fun t=>w (by
      rw[kX]at t⊢;obtain⟨C,A,y,m⟩:=t;refine⟨C,A,?_,m⟩;have r:C≠g:=fun v=>by subst v;unfold ui at m;rw[F]at m;simp[n]at m;exact s m.symm
      simp[y,r])
     obtain⟨z,v,J⟩:=e.tm.2 u G (by show(nN f.tm (fu ops D a)).get u=some G;rw[iP,if_neg p];exact h);refine⟨z,?_,J⟩;simp only[lG];rw[Array.getElem?_setIfInBounds_ne (fun v=>s v.symm)];exact v
theorem Inv.reads{hp:h7 ops bs m order}{D:Nat->Bool}{q:List Nat}{z:Nat}{r:List rF}{F:Fr}{B:ec}{st:St}{H:Ren}{N:World}{I:Array Value}{y:List Deferred}{E:List Frame}(v:Inv w0 N0 G ops bs m fc b D q z r F B st H N I y E) 
  {M:Nat} {o:Oper} (u:ops[M]?=some o) (J:∀e∈o.after.toList,Region.binds .any e=true->D e.on=true):∀L∈oC ops.toList o,L ∉ fu ops D q:=by
 intro L A w;rw[kX]at w;obtain⟨x,K,p,h⟩:=w;unfold ui at h;cases n:ops[x]? with
 |none=>rw[n]at h;simp at h
 |some s=>
  rw[n]at h;simp at h;have t:fM s.op=false:=by
   cases C:fM s.op with
   |false=>rfl
   |true=>
    have:hW ops.toList x=true:=by unfold hW;rw[cv,YM,n];exact C
    rw[v.L2 x K this]at p;cases p
  have:=hp.reads x s L n t h M o u A;rw[v.down.ready hp u J this]at p;cases p
theorem DH{o:Oper}(b:ops[g]?=some o):hW ops.toList g=fM o.op:=by
 unfold hW;rw[cv,YM,b]
theorem Iy(al:l6 C)(aC:Cy C)(aD:mb C)(hp:h7 ops bs m order){D:Nat->Bool}{t:List rF}{st:St}{ae:World}{Y:List Frame}(n:Inv w0 N0 G ops bs m fc b D a g t f i st l ae d c Y) 
  (aK:mW C ops.toList f st g t=true) {L:Nat} {o:Oper} (y:ops[L]?=some o) (M:D L=false) (aq:∀e∈o.after.toList,Region.binds .any e=true->D e.on=true) (P:L∈a) (aN:List Nat) (aL:List Item):
  ∃r J E,l.le r/\Steps C.P (lone (ek b d c (.inRegion ops (L::aN)::aL)) Y ae) (lone (ek b E c (.inRegion ops aN::aL)) Y J)/\Inv w0 N0 G ops bs m fc b (fun x=>D x||x==L) a g t f i st r J E c Y:=by
 have ad:hW ops.toList L=false:=by
  cases aJ:hW ops.toList L with
  |false=>rfl
  |true=>rw[n.L2 L P aJ]at M;cases M
 have ar:fM o.op=false:=by rw[<-DH y];exact ad
 have ac:=n.down.add y aq;obtain⟨aw,R,v⟩:=n.cover L P ad;have q:=Inv.reads (hp:=hp) n y aq;have z:nG C ops.toList f st aw=true:=by
  rcases DG aK aw R with h|h
  ·exfalso;rw[v]at h;obtain⟨e,k,W⟩:=n.OD L h;rw[n.down.bits hp e L k W]at M;cases M
  ·exact h
 have N:nth ops.toList L=some o:=by rw[cv,YM];exact y
 have Q:∀ai,o.dst=some ai->ai<fc.nt:=by
  intro ai B;exact n.fF aw R ai (by rw[v];unfold ui;rw[y];exact B)
 have F:∀(r:Ren) (J:World) (E:Array Value),dj w0 N0 (zW G (fun x=>D x||x==L) t) r st J->ks r fc (mK f (fu ops (fun x=>D x||x==L) a)) b E c->l.le r->
   Inv w0 N0 G ops bs m fc b (fun x=>D x||x==L) a g t f i st r J E c Y:=by
  intro r J E k W ao;refine⟨ac,fun X K ak=>?_,fun X K ap=>?_,n.cover,fun X K=>?_,fun aT j ag af V B=>n.Iw _ _ _ _ V (by simp only[YL]at B;exact B.1),fun aS aO ag aM aR aH aj k W d1 d2=>n.FR _ _ _ _ _ _ _ k W (by simp only[YL]at d1;exact d1.1) (by simp only[YL]at d2;exact d2.1),n.T5,n.fF,n.L3,k,W,n.eE.mono ao⟩
  ·simp only[YQ,beq_iff_eq]at K;rcases K with K|rfl
   ·exact n.sub X K ak
   ·exact P
  ·simp[n.L2 X K ap]
  ·obtain⟨e,az,aF⟩:=n.OD X K;exact⟨e,by simp[az],aF⟩
 have w:∀x,zW G (fun x=>D x||x==L) t x->zW G D t x:=by
  rintro x (hx|⟨X,aI,af,V,B⟩)
  ·exact .inl hx
  ·simp only[YL]at B;exact .inr ⟨X,aI,af,V,B.1⟩
 cases aw with
 |val X aI=>
  simp only[rF.idx]at v;subst v;simp only[nG,N,YN]at z;obtain⟨⟨⟨u,U⟩,aa⟩,p⟩:=z;have u:=xq u;split at p
  ·rename_i ax s S;simp only[YN]at p;have:=qo _ _ p.1;subst this;have aE:=pN ar (by simpa using U) S (Nat.eq_of_beq_eq_true p.2);subst aE;have ab:h0 C (iF (mK f (fu ops D a))) o s=some (.val ax s):=by rw[<-xm o (xp q)];exact S
   obtain⟨r,j,J,O,A⟩:=oH al aC aD n.world (nL n.frame.tm) ab;refine⟨r,J,lG d o.dst j,A.le,.one (vH y ?_ (.inr (hq S (by intro ai e;cases e))) O),?_⟩
   ·exact nM n.frame.tm (by rw[<-na q];exact u)
   ·exact F r J _ (A.world.uh w) (uN y n.frame A.le aa A.value Q) A.le
  ·cases p
 |skip X=>
  simp only[rF.idx]at v;subst v;simp only[nG,N,YN]at z;have u:=xq z.1;refine⟨l,ae,lG d o.dst undef,Ren.le_refl _,.one (yh y ?_),?_⟩
  ·exact nM n.frame.tm (by rw[<-na q];exact u)
  ·exact F l ae _ (n.world.uh w) (uN (v':=undef) y n.frame (Ren.le_refl _) z.2 (.tuple .nil) Q) (Ren.le_refl _)
 |obj X aI ag af=>
  simp only[rF.idx]at v;subst v;simp only[nG,N,YN]at z;obtain⟨⟨⟨⟨u,U⟩,aa⟩,T⟩,p⟩:=z;have u:=xq u;split at T
  ·rename_i aP aA;have:=FO T;subst this;split at p
   ·rename_i ax s S;simp only[YN]at p;have:=qo _ _ p.1;subst this;have H:=p.2;split at H
    ·rename_i aB au;have:=FO H;subst this;have ab:h0 C (iF (mK f (fu ops D a))) o ⟨.nil,ag,.nil⟩=some (.val ax s):=by rw[<-xm o (xp q)];exact S
     obtain⟨j,co,ay,O,aG,ah⟩:=L0 (w:=ae) al (nL n.frame.tm) U ab au;have av:l ag=none:=(n.world.HZ ag (.inr ⟨X,ax,aB,R,M⟩)).1;have I:=er (l:=ay) av;obtain⟨an,am⟩:=ah (l.add ag ay) I (c6 _ _ _);refine⟨l.add ag ay,{ae with heap:=ae.heap.push co},lG d o.dst j,I,.one (vH y ?_ (.inr (hq S (by intro ai e;cases e))) (.inl O)),?_⟩
     ·exact nM n.frame.tm (by rw[<-na q];exact u)
     ·refine F _ _ _ (n.world.RB av (n.Iw _ _ _ _ R M) aA aG an fun x hx=>⟨w x hx,?_⟩) (uN y n.frame I aa am Q) I;rintro rfl;rcases hx with hx|⟨aQ,aH,aj,V,B⟩
      ·exact n.L3 _ _ _ _ R hx
      ·simp only[YL]at B;have:=n.FR _ _ _ _ _ _ _ R V M B.1;subst this;simp at B
    ·cases H
   ·cases p
  ·cases T
theorem BJ:∀(s:List Oper) (h:Tr Value) (q:Nat) (r:Value),(s.foldl (fun h n=>match n.dst with|some y=>(match fM n.op with|true=>h|false=>h.put y none)|none=>h) h).get q=some r->
  h.get q=some r/\∀n∈s,fM n.op=false->n.dst≠some q:=by
 intro s;induction s with
 |nil=>intro h q r u;exact⟨u,fun n b=>by simp at b⟩
 |cons z s v=>
  intro h q r u;simp only[List.foldl_cons]at u;obtain⟨m,p⟩:=v _ q r u;split at m
  ·rename_i y o;split at m
   ·rename_i w;refine⟨m,fun n b e=>?_⟩;rcases YO.1 b with rfl|b
    ·rw[w]at e;cases e
    ·exact p n b e
   ·rw[cT]at m;split at m
    ·cases m
    ·rename_i t;refine⟨m,fun n b e=>?_⟩;rcases YO.1 b with rfl|b
     ·rw[o];intro x;cases x;exact t rfl
     ·exact p n b e
  ·rename_i o;refine⟨m,fun n b e=>?_⟩;rcases YO.1 b with rfl|b
   ·rw[o];intro x;cases x
   ·exact p n b e
theorem Iz(aE:l6 C)(aG:Cy C)(aH:mb C)(bv:∀G,uf C w0 N0 G rc)(hp:h7 ops bs m order)(bc:List Item){D:Nat->Bool}(Y:Iu ops D a):
  ∀(N t:List Nat) (ae:Nat) (A:List rF) (ac:Fr) (ab:ec) (ad:St) (af:Ren) (aR:World) (tm:Array Value) (W:List Deferred) (R:List Frame) (O:Ex×Fr×ec×St),
  order=N++t->eM C rc fc ops.toList bs t ae A ac ab ad=some O->(∀w,m<=w->D w=false)->Inv w0 N0 G ops bs m fc b D N ae A ac ab ad af aR tm W R->
  zj C w0 N0 G ops m af fc (lone (ek b tm W (.inRegion ops a::bc)) R aR) b bc ab R O:=by
 induction Y with
 |@nil D ak=>
  intro N t ae A ac ab ad af aR tm W R O c aI k aL;obtain⟨n,s,H,aj,al,r,q,h,M⟩:=advance hp t N A ac ad c aI aL;have u:∀w,w<m->D w=true:=fun w aU=>ak w (Nat.lt_of_lt_of_le aU hp.Yf);have X:s=[]:=by
   rcases M with aI|⟨e,ao,rfl,d⟩
   ·exact aI
   ·exfalso;have S:e<m:=hp.lt e (by rw[r];simp);have bp:=h.sub e (u e S) S;have:=hp.nodup;rw[r,List.nodup_append]at this;exact this.2.2 e bp e sm Z
  subst X;simp only[eM]at q;split at q
  ·cases q;have Q:fu ops D n=[]:=by
    cases am:fu ops D n with
    |nil=>rfl
    |cons ar bR=>
     have:ar∈fu ops D n:=by rw[am];simp
     rw[kX]at this;obtain⟨v,p,z,_⟩:=this;rw[u v (hp.lt v (by rw[r];simp[p]))]at z;cases z
   have L:=h.frame;rw[Q]at L;exact⟨D,[],af,aR,tm,W,R,.nil ak,h.down,u,Ren.le_refl _,h.world.uh (fun x hx=>.inl hx),L,.refl _ _,.refl _ _,k⟩
  ·cases q
 |@cons D w a o I aw d Y aW=>
  intro N t ae A ac ab ad af aR tm W R O c aI k aL;obtain⟨n,s,H,aj,al,r,q,h,M⟩:=advance hp t N A ac ad c aI aL;have an:∀x,x∈n->x∈s->False:=by
   intro x f q;have:=hp.nodup;rw[r,List.nodup_append]at this;exact this.2.2 x f x q Z
  by_cases bk:w<m
  ·have aJ:w∈n++s:=by rw[<-r];exact hp.all w bk
   have ah:∀v,m<=v->(D v||v==w)=false:=by
    intro v p;have:v≠w:=om;simp[k v p,this]
   rcases YP.1 aJ with aO|aa
   ·
    have P:mW C ops.toList aj al ae H=true:=by
     rcases M with rfl|⟨e,ao,rfl,F⟩
     ·simp only[eM]at q;split at q
      ·rename_i P;exact P
      ·cases q
     ·rw[eM]at q;split at q
      ·rename_i bE bm l bL;rw[cv,YM]at l;have:fM bE.op=true:=by rw[<-DH l];exact F
       simp only[this]at q;split at q
       ·cases q
       ·rename_i P;exact P
      ·cases q
    obtain⟨aY,bD,br,K,U,bu⟩:=Iy aE aG aH hp h P I aw d aO a bc;exact .of_steps K (.refl _ _) U (aW n s ae H aj ab al aY bD br W R O r q ah bu)
   ·
    have aX:∃ao,s=w::ao/\hW ops.toList w=true:=by
     rcases M with rfl|⟨e,ao,rfl,F⟩
     ·simp at aa
     ·rcases YO.1 aa with rfl|be
      ·exact⟨ao,Z,F⟩
      ·exfalso;have bz:=hp.later n e ao r F w be;have bf:=h.down.ready hp I d bz;exact an e (h.sub e bf (hp.lt e (by rw[r];simp))) sm
    obtain⟨ao,rfl,F⟩:=aX;rw[eM]at q;have aD:nth ops.toList w=some o:=by rw[cv,YM];exact I
    have l:fM o.op=true:=by rw[<-DH I];exact F
    split at q
    ·rename_i bO bm av bh;rw[aD]at av;cases av;simp only[l]at q;split at q
     ·cases q
     ·rename_i P;have T:=Inv.reads (hp:=hp) h I d;split at q
      ·cases q
      ·rename_i bK B aT ba aq;cases q;have L:=zU aq;subst L;obtain⟨aP,ai,y⟩:=yi T aq;cases aP with
       |next _ _ _=>exact y.elim
       |eE bB bt az au=>
        obtain⟨rfl,rfl,rfl⟩:=y;obtain⟨rfl,ag,aM,aN,K,g,bC,U⟩:=mY aE aG aH (bv _) ai h.world h.frame h.eE a bc I;refine⟨ag,aM,tm,W,R,K,g.uh (fun x hx=>.inl hx),?_,.refl _ _,_,aN,bC,U⟩;refine(h.frame.mono K).sub (fr':={B with tm:=nu ops.toList B.tm}) Z fun ar bx aK=>?_;obtain⟨f,aC⟩:=BJ ops.toList B.tm ar bx aK;show(nN B.tm (fu ops D n)).get ar=some bx;rw[iP,if_neg ?_]
        ·exact f
        ·intro J;rw[kX]at J;obtain⟨v,p,ay,E⟩:=J;unfold ui at E;cases i:ops[v]? with
         |none=>rw[i]at E;simp at E
         |some aQ=>
          rw[i]at E;simp at E;have aS:fM aQ.op=false:=by
           cases am:fM aQ.op with
           |false=>rfl
           |true=>rw[h.L2 v p (by rw[DH i];exact am)]at ay;cases ay
          exact aC aQ (by have:=Array.mem_of_getElem? i;simpa using this) aS E
      ·rename_i B aT ba aq;obtain⟨aP,ai,y⟩:=yi T aq;cases aP with
       |eE _ _ _ _=>exact y.elim
       |next bt az au=>
        obtain⟨rfl,rfl,aB,aF⟩:=y;obtain⟨ag,aM,bn,bq,bg,K,g,bw,ax,U⟩:=mY aE aG aH (bv _) ai h.world h.frame h.eE a bc I;have ap:order=(n++[w])++ao:=by rw[r];simp
        have bo:w ∉ n:=fun J=>an w J sm;refine .of_steps K ax U (aW (n++[w]) ao bm H B az au ag aM bn bq bg O ap q ah ?_);refine⟨h.down.add I d,fun v p aV=>?_,fun v p V=>?_,fun v p V=>?_,fun v p=>?_,fun bG aN bJ aA J z=>?_,fun bQ bM bJ bI bP bB bH f q d1 d2=>h.FR _ _ _ _ _ _ _ f q (by simp only[YL]at d1;exact d1.1) (by simp only[YL]at d2;exact d2.1),fun bN bA=>?_,h.fF,h.L3,?_,?_,(h.eE.mono K).step ax⟩
        ·simp only[YQ,beq_iff_eq]at p;rcases p with p|rfl
         ·simp[h.sub v p aV]
         ·simp
        ·rcases YP.1 p with p|p
         ·simp[h.L2 v p V]
         ·simp at p;simp[p]
        ·rcases YP.1 p with p|p
         ·exact h.cover v p V
         ·simp at p;subst p;rw[F]at V;cases V
        ·refine⟨w,by simp,?_⟩;unfold iG;rw[bh];exact p
        ·simp only[YL]at z;exact(g.HZ bJ (.inr ⟨bG,aN,aA,J,z.1⟩)).2
        ·obtain⟨f,aC⟩:=h.T5 bN bA;exact⟨f,by simp[aC]⟩
        ·refine g.uh ?_;rintro x (hx|⟨v,bK,aA,J,z⟩)
         ·exact .inl hx
         ·simp only[YL]at z;exact .inr ⟨v,bK,aA,J,z.1⟩
        ·refine bw.sub (fr':=mK B (fu ops (fun x=>D x||x==w) (n++[w]))) aB.symm fun ar bx aK=>?_;have j:(nN B.tm (fu ops (fun x=>D x||x==w) (n++[w]))).get ar=some bx:=aK;rw[iP]at j;split at j
         ·cases j
         ·rename_i bj;rw[aF ar ?_]
          ·exact j
          ·intro J;refine bj ?_;rw[kX]at J⊢;obtain⟨v,p,z,E⟩:=J;have bl:v≠w:=fun e=>bo (e▸p);exact⟨v,by simp[p],by simp[z,bl],E⟩
    ·cases q
  ·
   have u:∀v,v<m->D v=true:=by
    intro v p;exact h.down.ready hp I d ((hp.tail w o om I).2.2 v p)
   have X:s=[]:=by
    rcases M with aI|⟨e,ao,rfl,F⟩
    ·exact aI
    ·exfalso;have S:e<m:=hp.lt e (by rw[r];simp);exact an e (h.sub e (u e S) S) sm
   subst X;simp only[eM]at q;split at q
   ·cases q;have Q:fu ops D n=[]:=by
     cases am:fu ops D n with
     |nil=>rfl
     |cons ar bR=>
      have:ar∈fu ops D n:=by rw[am];simp
      rw[kX]at this;obtain⟨v,p,z,_⟩:=this;rw[u v (hp.lt v (by rw[r];simp[p]))]at z;cases z
    have L:=h.frame;rw[Q]at L;exact⟨D,w::a,af,aR,tm,W,R,.cons I aw d Y,h.down,u,Ren.le_refl _,h.world.uh (fun x hx=>.inl hx),L,.refl _ _,.refl _ _,k⟩
   ·cases q
end
end Go.AM
