/- Part of the proof. -/
import Derived.Test.YtpejealjkmhkgaaGreatDoorKAg
set_option linter.all false
set_option maxHeartbeats 16000000
set_option maxRecDepth 100000
open Bool renaming or_eq_false_iff->abK,and_eq_true->aet,or_eq_true->aeM
open Array renaming getElem?_toList->abL
open List renaming mem_cons->aeu,mem_append->aev
namespace Go.AM
open Go.RowKit (Below)
variable{g:Fr}
theorem GF{C:dR}{ops:List Oper}{st:St}{b:Nat}:∀{h:List tJ},o7 C ops g st b h=true->∀m∈h,Nat.testBit b m.idx=true∨pD C ops g st m=true:=by
 intro h;induction h with
 |nil=>intro _ m j;simp at j
 |cons r h o=>
  intro q m j;simp only[o7,aet,aeM]at q;rcases aeu.1 j with rfl|j
  ·exact q.1
  ·exact o q.2 m j
def SK(s:List Nat):AK->AK->Prop
 |.next o b j,.next q h m=>h=b/\m=j/\q.df=o.df/\∀r,r ∉ s->q.tm.get r=o.tm.get r
 |.eH u _ b j,.eH t _ h m=>t=u/\h=b/\m=j
 |_,_=>False
variable{i:Nat} {a:List Nat} {n:AK} {e:dW} {l:Value}
theorem vC{fr fr2:Fr}{b:Option Tmp}{st:St}(h:fr2.df=fr.df)(q:∀m,m ∉ a->fr2.tm.get m=fr.tm.get m)(j:AK.go i fr b l e st=some n):
  ∃o,AK.go i fr2 b l e st=some o/\SK a n o:=by
 unfold AK.go gV at j⊢;cases b with
 |none=>cases j;exact⟨_,rfl,rfl,rfl,h,q⟩
 |some t=>
  simp only at j⊢;cases r:Nat.blt t i with
  |false=>rw[r]at j;cases j
  |true=>
   rw[r]at j;cases j;refine⟨_,Z,Z,Z,h,fun m s=>?_⟩;show(fr2.tm.set t l).get m=(fr.tm.set t l).get m;rw[cB,cB,q m s]
theorem AT{C:dR}{rc:Rec}{fc:FC}{ops:List Oper}{o:Oper}{st:St}(j:∀b∈qu ops o,b ∉ a)(h:kg C rc fc ops o g e st=some n):
  ∃m,kg C rc fc ops o (oM g a) e st=some m/\SK a n m:=by
 have hdf:(oM g a).df=g.df:=rfl;have htm:∀b,b ∉ a->(oM g a).tm.get b=g.tm.get b:=fun b q=>by
  show(pJ g.tm a).get b=_;rw[jJ,if_neg q]
 unfold kg at h⊢;rw[<-yb j];split at h
 ·cases h
 ·exact vC hdf htm h
 ·unfold nT at h⊢;rw[<-zT o (zW j)];split at h
  ·cases h
  ·exact vC hdf htm h
  ·cases h;exact⟨_,rfl,rfl,rfl,rfl⟩
  ·exact aeI
  ·exact aeI
  ·split at h
   ·cases h
   ·split at h
    ·exact vC hdf htm h
    ·exact vC hdf htm h
  ·rename_i r s;split at h
   ·cases h
   ·exact vC (fr:={g with df:=r::g.df}) (fr2:={oM g a with df:=r::g.df}) Z htm h
variable{k p:Ren} {f:List Frame} {d:Array Value} {c:List Deferred}
section
variable{C:dR} {w0:World} {N0:Nat} {G:Nat->Prop} {fc:FC} {b:FB} {rc:Rec} {ops:Array Oper} {bs:List Nat} {m:Nat} {order:List Nat}
def BU(C:dR)(w0:World)(N0:Nat)(G:Nat->Prop)(ops:Array Oper)(m:Nat)(x:Ren)(fc:FC)(w:Machine)(b:FB)(E:List Item)(A:dW)(B:List Frame)(z:Ex×Fr×dW×St):Prop:=
 match z with
 |(.norm,q,o,j)=>∃r y h v t u s,LG ops r y/\Down ops r/\(∀D,D<m->r D=true)/\x.le h/\di w0 N0 G h j v/\lz h fc q b t u/\pH A o B s/\
   Steps C.P w (lone (eg b t u (.inRegion ops y::E)) s v)/\(∀D,m<=D->r D=false)
 |(F,q,o,j)=>il C w0 N0 G x fc w b E A B F q o j
theorem BU.of_steps{r s:Machine}{z:List Item}{q:dW}{o:List Frame}{j:Ex×Fr×dW×St}(hle:k.le p)(DY:pH e q f o)(xS:Steps C.P r s)(h:BU C w0 N0 G ops m p fc s b z q o j):BU C w0 N0 G ops m k fc r b z e f j:=by
 obtain⟨E,D,B,A⟩:=j;cases E with
 |norm=>
  obtain⟨x,u,dk,w',VC,Rw,cs',v,t,w,h4,h5,h6,h7,h8,y⟩:=h;exact⟨x,u,dk,w',VC,Rw,cs',v,t,w,hle.trans h4,h5,h6,DY.trans h7,xS.trans h8,y⟩
 |_=>
  exact Zu
theorem PD{j:Tmp}(b:AL g (some j) l=true):g.tm.get j=some l:=by
 unfold AL at b;simp only at b;split at b
 ·rename_i m h;rw[h,so _ _ b]
 ·cases b
theorem zX{j:Option Bool}{h:Bool}(b:isSome j h=true):j=some h:=by
 unfold isSome at b;split at b
 ·rfl
 ·rfl
 ·cases b
theorem xn{D:Nat->Bool}{o:Oper}{O v':Value}(G:ops[i]?=some o)(L:lz k fc (oM g (gg ops D a)) b d c)(I:k.le p)(C:AL g o.dst O=true)(N:cX p O v') 
  (F:∀J,o.dst=some J->J<fc.nt):lz p fc (oM g (gg ops (fun x=>D x||x==i) a)) b (ni d o.dst v') c:=by
 have h:=L.mono I;refine⟨h.fn,h.round,h.kind,⟨?_,fun v H M=>?_⟩,h.df⟩
 ·have:=h.tm.1;unfold ni;split<;>simp[this]
 ·have j:(pJ g.tm (gg ops (fun x=>D x||x==i) a)).get v=some H:=M;rw[jJ]at j;split at j
  ·cases j
  ·rename_i y;cases q:o.dst with
   |none=>
    have r:v ∉ gg ops D a:=fun u=>y (by
     rw[nU]at u⊢;obtain⟨E,B,z,m⟩:=u;refine⟨E,B,?_,m⟩;have s:E≠i:=fun w=>by subst w;unfold wK at m;rw[G]at m;simp[q]at m
     simp[z,s])
    obtain⟨A,w,K⟩:=h.tm.2 v H (by show(pJ g.tm (gg ops D a)).get v=some H;rw[jJ,if_neg r];exact j);exact⟨A,by simpa [ni]using w,K⟩
   |some J=>
    rw[q]at C;by_cases t:v=J
    ·subst t;rw[PD C]at j;cases j;refine⟨v',?_,N⟩;simp only[ni];rw[Array.getElem?_setIfInBounds_self_of_lt (by rw[h.tm.1];exact F v q)]
    ·have r:v ∉ gg ops D a:=fun u=>y (by
      rw[nU]at u⊢;obtain⟨E,B,z,m⟩:=u;refine⟨E,B,?_,m⟩;have s:E≠i:=fun w=>by subst w;unfold wK at m;rw[G]at m;simp[q]at m;exact t m.symm
      simp[z,s])
     obtain⟨A,w,K⟩:=h.tm.2 v H (by show(pJ g.tm (gg ops D a)).get v=some H;rw[jJ,if_neg r];exact j);refine⟨A,?_,K⟩;simp only[ni];rw[Array.getElem?_setIfInBounds_ne (fun w=>t w.symm)];exact w
theorem Inv.reads{hp:iV ops bs m order}{D:Nat->Bool}{r:List Nat}{A:Nat}{s:List tJ}{H:Fr}{C:dW}{st:St}{I:Ren}{P:World}{J:Array Value}{z:List Deferred}{F:List Frame}(w:Inv w0 N0 G ops bs m fc b D r A s H C st I P J z F) 
  {N:Nat} {o:Oper} (v:ops[N]?=some o) (K:∀O∈o.after.toList,Region.binds .any O=true->D O.on=true):∀M∈qu ops.toList o,M ∉ gg ops D r:=by
 intro M B x;rw[nU]at x;obtain⟨y,L,q,h⟩:=x;unfold wK at h;cases j:ops[y]? with
 |none=>rw[j]at h;simp at h
 |some t=>
  rw[j]at h;simp at h;have u:gb t.op=false:=by
   cases E:gb t.op with
   |false=>rfl
   |true=>
    have:iO ops.toList y=true:=by unfold iO;rw[ck,abL,j];exact E
    rw[w.PB y L this]at q;cases q
  have:=hp.reads y t M j u h N o v B;rw[w.down.ready hp v K this]at q;cases q
theorem GG{o:Oper}(b:ops[i]?=some o):iO ops.toList i=gb o.op:=by
 unfold iO;rw[ck,abL,b]
theorem LK(aj:nQ C)(aA:Fm C)(aB:nX C)(hp:iV ops bs m order){D:Nat->Bool}{r:List tJ}{st:St}{ac:World}(hi:Inv w0 N0 G ops bs m fc b D a i r g e st k ac d c f) 
  (aI:o7 C ops.toList g st i r=true) {J:Nat} {o:Oper} (v:ops[J]?=some o) (K:D J=false) (ao:∀p∈o.after.toList,Region.binds .any p=true->D p.on=true) (N:J∈a) (aL:List Nat) (aJ:List Item):
  ∃q H A,k.le q/\Steps C.P (lone (eg b d c (.inRegion ops (J::aL)::aJ)) f ac) (lone (eg b A c (.inRegion ops aL::aJ)) f H)/\Inv w0 N0 G ops bs m fc b (fun x=>D x||x==J) a i r g e st q H A c f:=by
 have ab:iO ops.toList J=false:=by
  cases aH:iO ops.toList J with
  |false=>rfl
  |true=>rw[hi.PB J N aH]at K;cases K
 have ap:gb o.op=false:=by rw[<-GG v];exact ab
 have aa:=hi.down.add v ao;obtain⟨au,Q,t⟩:=hi.cover J N ab;have Lc:=Inv.reads (hp:=hp) hi v ao;have w:pD C ops.toList g st au=true:=by
  rcases GF aI au Q with h|h
  ·exfalso;rw[t]at h;obtain⟨p,Y,V⟩:=hi.SJ J h;rw[hi.down.bits hp p J Y V]at K;cases K
  ·exact h
 have L:nth ops.toList J=some o:=by rw[ck,abL];exact v
 have O:∀ag,o.dst=some ag->ag<fc.nt:=by
  intro ag z;exact hi.ee au Q ag (by rw[t];unfold wK;rw[v];exact z)
 have B:∀(q:Ren) (H:World) (A:Array Value),di w0 N0 (CC G (fun x=>D x||x==J) r) q st H->lz q fc (oM g (gg ops (fun x=>D x||x==J) a)) b A c->k.le q->
   Inv w0 N0 G ops bs m fc b (fun x=>D x||x==J) a i r g e st q H A c f:=by
  intro q H A Y V am;refine⟨aa,fun W I ai=>?_,fun W I an=>?_,hi.cover,fun W I=>?_,fun aR X ae ad U z=>hi.LI _ _ _ _ U (by simp only[abK]at z;exact z.1),fun aQ aM ae aK aP aF ah Y V d1 d2=>hi.I2 _ _ _ _ _ _ _ Y V (by simp only[abK]at d1;exact d1.1) (by simp only[abK]at d2;exact d2.1),hi.aaC,hi.ee,hi.PC,Y,V,hi.eH.mono am⟩
  ·simp only[aeM,beq_iff_eq]at I;rcases I with I|rfl
   ·exact hi.sub W I ai
   ·exact N
  ·simp[hi.PB W I an]
  ·obtain⟨p,ax,aD⟩:=hi.SJ W I;exact⟨p,by simp[ax],aD⟩
 have u:∀x,CC G (fun x=>D x||x==J) r x->CC G D r x:=by
  rintro x (P|⟨W,aG,ad,U,z⟩)
  ·exact .inl P
  ·simp only[abK]at z;exact .inr ⟨W,aG,ad,U,z.1⟩
 cases au with
 |val W aG=>
  simp only[tJ.idx]at t;subst t;simp only[pD,L,aet]at w;obtain⟨⟨⟨hwa,T⟩,l⟩,j⟩:=w;have hwa:=zX hwa;split at j
  ·rename_i av s R;simp only[aet]at j;have:=so _ _ j.1;subst this;have aC:=rJ ap (by simpa using T) R (Nat.eq_of_beq_eq_true j.2);subst aC;have n:j8 C (jy (oM g (gg ops D a))) o s=some (.val av s):=by rw[<-zT o (zW Lc)];exact R
   obtain⟨q,X,H,M,y⟩:=qz aj aA aB hi.world (pI hi.frame.tm) n;refine⟨q,H,ni d o.dst X,y.le,.one (yq v ?_ (.inr (im R (by intro ag p;cases p))) M),?_⟩
   ·exact XT
   ·exact B q H _ (y.world.wJ u) (xn v hi.frame y.le l y.value O) y.le
  ·cases j
 |skip W=>
  simp only[tJ.idx]at t;subst t;simp only[pD,L,aet]at w;have hwa:=zX w.1;refine⟨k,ac,ni d o.dst undef,Ren.le_refl _,.one (AS v ?_),?_⟩
  ·exact XT
  ·exact B k ac _ (hi.world.wJ u) (xn (v':=undef) v hi.frame (Ren.le_refl _) w.2 (.tuple .nil) O) (Ren.le_refl _)
 |obj W aG ae ad=>
  simp only[tJ.idx]at t;subst t;simp only[pD,L,aet]at w;obtain⟨⟨⟨⟨hwa,T⟩,l⟩,S⟩,j⟩:=w;have hwa:=zX hwa;split at S
  ·rename_i aN ay;have:=IZ S;subst this;split at j
   ·rename_i av s R;simp only[aet]at j;have:=so _ _ j.1;subst this;have E:=j.2;split at E
    ·rename_i az aq;have:=IZ E;subst this;have n:j8 C (jy (oM g (gg ops D a))) o ⟨.nil,ae,.nil⟩=some (.val av s):=by rw[<-zT o (zW Lc)];exact R
     obtain⟨X,co,aw,M,aE,af⟩:=Pz (w:=ac) aj (pI hi.frame.tm) T n aq;have ar:k ae=none:=(hi.world.K1 ae (.inr ⟨W,av,az,Q,K⟩)).1;have F:=ei (l:=aw) ar;obtain⟨al,ak⟩:=af (k.add ae aw) F (c7 _ _ _);refine⟨k.add ae aw,{ac with heap:=ac.heap.push co},ni d o.dst X,F,.one (yq v ?_ (.inr (im R (by intro ag p;cases p))) (.inl M)),?_⟩
     ·exact XT
     ·refine B _ _ _ (hi.world.VW ar (hi.LI _ _ _ _ Q K) ay aE al fun x P=>⟨u x P,?_⟩) (xn v hi.frame F l ak O) F;rintro rfl;rcases P with P|⟨aO,aF,ah,U,z⟩
      ·exact hi.PC _ _ _ _ Q P
      ·simp only[abK]at z;have:=hi.I2 _ _ _ _ _ _ _ Q U K z.1;subst this;simp at z
    ·cases E
   ·cases j
  ·cases S
theorem Eg:∀(u:List Oper) (j:Tr Value) (s:Nat) (t:Value),(u.foldl (fun j o=>match o.dst with|some A=>(match gb o.op with|true=>j|false=>j.put A none)|none=>j) j).get s=some t->
  j.get s=some t/\∀o∈u,gb o.op=false->o.dst≠some s:=by
 intro u;induction u with
 |nil=>intro j s t w;exact⟨w,fun o b=>by simp at b⟩
 |cons B u x=>
  intro j s t w;simp only[List.foldl_cons]at w;obtain⟨m,r⟩:=x _ s t w;split at m
  ·rename_i A q;split at m
   ·rename_i y;refine⟨m,fun o b h=>?_⟩;rcases aeu.1 b with rfl|b
    ·rw[y]at h;cases h
    ·exact r o b h
   ·rw[cY]at m;split at m
    ·cases m
    ·rename_i v;refine⟨m,fun o b h=>?_⟩;rcases aeu.1 b with rfl|b
     ·rw[q];intro z;cases z;exact v rfl
     ·exact r o b h
  ·rename_i q;refine⟨m,fun o b h=>?_⟩;rcases aeu.1 b with rfl|b
   ·rw[q];intro z;cases z
   ·exact r o b h
theorem LL(ay:nQ C)(aA:Fm C)(aB:nX C)(bo:∀G,wH C w0 N0 G rc)(hp:iV ops bs m order)(aU:List Item){D:Nat->Bool}(W:LG ops D a):
  ∀(K r:List Nat) (aa:Nat) (v:List tJ) (n:Fr) (l:dW) (p:St) (ab:Ren) (aL:World) (tm:Array Value) (T:List Deferred) (O:List Frame) (L:Ex×Fr×dW×St),
  order=K++r->eM C rc fc ops.toList bs r aa v n l p=some L->(∀s,m<=s->D s=false)->Inv w0 N0 G ops bs m fc b D K aa v n l p ab aL tm T O->
  BU C w0 N0 G ops m ab fc (lone (eg b tm T (.inRegion ops a::aU)) O aL) b aU l O L:=by
 induction W with
 |@nil D ag=>
  intro K r aa v n l p ab aL tm T O L X aC g aF;obtain⟨xb,q,A,af,ah,tW,o,h,I⟩:=advance hp r K v n p X aC aF;have E9:∀s,s<m->D s=true:=fun s aO=>ag s (Nat.lt_of_lt_of_le aO hp.mle);have U:q=[]:=by
   rcases I with aC|⟨J,aj,rfl,Y⟩
   ·exact aC
   ·exfalso;have P:J<m:=hp.lt J (by rw[tW];simp);have bj:=h.sub J (E9 J P) P;have:=hp.nodup;rw[tW,List.nodup_append]at this;exact this.2.2 J bj J sm Z
  subst U;simp only[eM]at o;split at o
  ·cases o;have N:gg ops D xb=[]:=by
    exact YH
   have H:=h.frame;rw[N]at H;exact⟨D,[],ab,aL,tm,T,O,.nil ag,h.down,E9,Ren.le_refl _,h.world.wJ (fun x V=>.inl V),H,.refl _ _,.refl _ _,g⟩
  ·cases o
 |@cons D s a br B ao Y W aQ=>
  intro K r aa v n l p ab aL tm T O L X aC g aF;obtain⟨xb,q,A,af,ah,tW,o,h,I⟩:=advance hp r K v n p X aC aF;have ai:∀x,x∈xb->x∈q->False:=by
   intro x c o;have:=hp.nodup;rw[tW,List.nodup_append]at this;exact this.2.2 x c x o Z
  by_cases bc:s<m
  ·have aD:s∈xb++q:=by rw[<-tW];exact hp.all s bc
   have ad:∀j,m<=j->(D j||j==s)=false:=by
    intro j hj;have:j≠s:=om;simp[g j hj,this]
   rcases aev.1 aD with aI|k
   ·
    have M:o7 C ops.toList af ah aa A=true:=by
     rcases I with rfl|⟨J,aj,rfl,z⟩
     ·simp only[eM]at o;split at o
      ·rename_i M;exact M
      ·cases o
     ·rw[eM]at o;split at o
      ·rename_i bz bf i bF;rw[ck,abL]at i;have:gb bz.op=true:=by rw[<-GG i];exact z
       simp only[this]at o;split at o
       ·cases o
       ·rename_i M;exact M
      ·cases o
    obtain⟨aS,bx,bl,F,R,bn⟩:=LK ay aA aB hp h M B ao Y aI a aU;exact .of_steps F (.refl _ _) R (aQ xb q aa A af l ah aS bx bl T O L tW o ad bn)
   ·
    have aR:∃aj,q=s::aj/\iO ops.toList s=true:=by
     rcases I with rfl|⟨J,aj,rfl,z⟩
     ·simp at k
     ·rcases aeu.1 k with rfl|aV
      ·exact⟨aj,Z,z⟩
      ·exfalso;have bt:=hp.later xb J aj tW z s aV;have aW:=h.down.ready hp B Y bt;exact ai J (h.sub J aW (hp.lt J (by rw[tW];simp))) sm
    obtain⟨aj,rfl,z⟩:=aR;rw[eM]at o;have ax:nth ops.toList s=some br:=by rw[ck,abL];exact B
    have i:gb br.op=true:=by rw[<-GG B];exact z
    split at o
    ·rename_i bI bf an aY;rw[ax]at an;cases an;simp only[i]at o;split at o
     ·cases o
     ·rename_i M;have Q:=Inv.reads (hp:=hp) h B Y;split at o
      ·cases o
      ·rename_i bE w aN aT al;cases o;have H:=CA al;subst H;obtain⟨aJ,ae,u⟩:=AT Q al;cases aJ with
       |next _ _ _=>exact u.elim
       |eH bv bm ar am=>
        obtain⟨rfl,rfl,rfl⟩:=u;obtain⟨rfl,ac,aG,aH,F,d,bw,R⟩:=o9 ay aA aB (bo _) ae h.world h.frame h.eH a aU B;refine⟨ac,aG,tm,T,O,F,d.wJ (fun x V=>.inl V),?_,.refl _ _,_,aH,bw,R⟩;refine(h.frame.mono F).sub (fr':={w with tm:=pj ops.toList w.tm}) Z fun t bq aE=>?_;obtain⟨c,aw⟩:=Eg ops.toList w.tm t bq aE;show(pJ w.tm (gg ops D xb)).get t=some bq;rw[jJ,if_neg ?_]
        ·exact c
        ·intro E;rw[nU]at E;obtain⟨j,hj,aq,y⟩:=E;unfold wK at y;cases e:ops[j]? with
         |none=>rw[e]at y;simp at y
         |some aK=>
          rw[e]at y;simp at y;have aM:gb aK.op=false:=by
           cases hq:gb aK.op with
           |false=>rfl
           |true=>rw[h.PB j hj (by rw[GG e];exact hq)]at aq;cases aq
          exact aw aK (by have:=Array.mem_of_getElem? e;simpa using this) aM y
      ·rename_i w aN aT al;obtain⟨aJ,ae,u⟩:=AT Q al;cases aJ with
       |eH _ _ _ _=>exact u.elim
       |next bm ar am=>
        obtain⟨rfl,rfl,av,az⟩:=u;obtain⟨ac,aG,bg,bk,aX,F,d,bp,ap,R⟩:=o9 ay aA aB (bo _) ae h.world h.frame h.eH a aU B;have ak:order=(xb++[s])++aj:=by rw[tW];simp
        have bh:s ∉ xb:=fun E=>ai s E sm;refine .of_steps F ap R (aQ (xb++[s]) aj bf A w ar am ac aG bg bk aX L ak o ad ?_);refine⟨h.down.add B Y,fun j hj aP=>?_,fun j hj S=>?_,fun j hj S=>?_,fun j hj=>?_,fun bA aH bD au E hd=>?_,fun bK bG bD bC bJ bv bB c o d1 d2=>h.I2 _ _ _ _ _ _ _ c o (by simp only[abK]at d1;exact d1.1) (by simp only[abK]at d2;exact d2.1),fun bH bu=>?_,h.ee,h.PC,?_,?_,(h.eH.mono F).step ap⟩
        ·simp only[aeM,beq_iff_eq]at hj;rcases hj with hj|rfl
         ·simp[h.sub j hj aP]
         ·simp
        ·rcases aev.1 hj with hj|hj
         ·simp[h.PB j hj S]
         ·simp at hj;simp[hj]
        ·rcases aev.1 hj with hj|hj
         ·exact h.cover j hj S
         ·simp at hj;subst hj;rw[z]at S;cases S
        ·refine⟨s,by simp,?_⟩;unfold jA;rw[aY];exact hj
        ·simp only[abK]at hd;exact(d.K1 bD (.inr ⟨bA,aH,au,E,hd.1⟩)).2
        ·obtain⟨c,aw⟩:=h.aaC bH bu;exact⟨c,by simp[aw]⟩
        ·refine d.wJ ?_;rintro x (V|⟨j,bE,au,E,hd⟩)
         ·exact .inl V
         ·simp only[abK]at hd;exact .inr ⟨j,bE,au,E,hd.1⟩
        ·refine bp.sub (fr':=oM w (gg ops (fun x=>D x||x==s) (xb++[s]))) av.symm fun t bq aE=>?_;have f:(pJ w.tm (gg ops (fun x=>D x||x==s) (xb++[s]))).get t=some bq:=aE;rw[jJ]at f;split at f
         ·cases f
         ·rename_i ba;rw[az t ?_]
          ·exact f
          ·intro E;refine ba ?_;rw[nU]at E⊢;obtain⟨j,hj,hd,y⟩:=E;have be:j≠s:=fun J=>bh (J▸hj);exact⟨j,by simp[hj],by simp[hd,be],y⟩
    ·cases o
  ·
   have E9:∀j,j<m->D j=true:=by
    intro j hj;exact h.down.ready hp B Y ((hp.tail s br om B).2.2 j hj)
   have U:q=[]:=by
    rcases I with aC|⟨J,aj,rfl,z⟩
    ·exact aC
    ·exfalso;have P:J<m:=hp.lt J (by rw[tW];simp);exact ai J (h.sub J (E9 J P) P) sm
   subst U;simp only[eM]at o;split at o
   ·cases o;have N:gg ops D xb=[]:=by
     exact YH
    have H:=h.frame;rw[N]at H;exact⟨D,s::a,ab,aL,tm,T,O,.cons B ao Y W,h.down,E9,Ren.le_refl _,h.world.wJ (fun x V=>.inl V),H,.refl _ _,.refl _ _,g⟩
   ·cases o
end
end Go.AM
