/- Part of the proof. -/
import Derived.Test.YthlkhjchcjflkaaGreatDoorKAc
import Derived.RangeFuncNested
set_option linter.all false
set_option maxHeartbeats 16000000
set_option maxRecDepth 100000
open Bool renaming or_eq_false_iff->Yl,and_eq_true->Ym,or_eq_true->Yp,false_or->Yq
open Nat renaming eq_of_beq_eq_true->Yn,ne_of_beq_eq_false->Yr,le_refl->Ys,lt_or_ge->Yv,blt_eq->Yz
open Array renaming getElem?_toList->Yo,getElem?_eq_none->Yu,getElem?_setIfInBounds_self_of_lt->Yw,getElem?_setIfInBounds_ne->Yx,toList_append->YB
open List renaming mem_cons->Yt,mem_append->Yy,length->YA,getElem?_drop->YC
namespace Go.AM
open Go.RowKit (Below)
variable{g u:Fr}
theorem DO{C:eD}{ops:List Oper}{st:St}{b:Nat}:∀{c:List sf},nX C ops g st b c=true->∀h∈c,Nat.testBit b h.idx=true∨oD C ops g st h=true:=by
 intro c;induction c with
 |nil=>intro _ h f;simp at f
 |cons m c k=>
  intro l h f;simp only[nX,Ym,Yp]at l;rcases Yt.1 f with rfl|f
  ·exact l.1
  ·exact k l.2 h f
def N5(o:List Nat):yf->yf->Prop
 |.next k b f,.next l c h=>c=b/\h=f/\l.df=k.df/\∀m,m ∉ o->l.tm.get m=k.tm.get m
 |.fO t _ b f,.fO s _ c h=>s=t/\c=b/\h=f
 |_,_=>False
variable{d q:Nat} {a:List Nat} {y:yf} {i p:eT} {e z:Value}
theorem q5{fr UH:Fr}{b:Option Tmp}{st:St}(c:UH.df=fr.df)(l:∀h,h ∉ a->UH.tm.get h=fr.tm.get h)(f:yf.go d fr b e i st=some y):
  ∃k,yf.go d UH b e i st=some k/\N5 a y k:=by
 unfold yf.go hS at f⊢;cases b with
 |none=>cases f;exact⟨_,rfl,rfl,rfl,c,l⟩
 |some s=>
  simp only at f⊢;cases m:Nat.blt s d with
  |false=>rw[m]at f;cases f
  |true=>
   rw[m]at f;cases f;refine⟨_,Z,Z,Z,c,fun h o=>?_⟩;show(UH.tm.set s e).get h=(fr.tm.set s e).get h;rw[cF,cF,l h o]
theorem ym{C:eD}{rc:Rec}{fc:FC}{ops:List Oper}{o:Oper}{st:St}(k:∀h∈pt ops o,h ∉ a)(b:jQ C rc fc ops o g i st=some y):
  ∃l,jQ C rc fc ops o (nK g a) i st=some l/\N5 a y l:=by
 have f:(nK g a).df=g.df:=rfl;have c:∀h,h ∉ a->(nK g a).tm.get h=g.tm.get h:=fun h m=>by
  show(oK g.tm a).get h=_;rw[jB,if_neg m]
 unfold jQ at b⊢;rw[<-n1 k];split at b
 ·cases b
 ·exact q5 f c b
 ·unfold lF at b⊢;rw[<-xA o (xD k)];split at b
  ·cases b
  ·exact q5 f c b
  ·cases b;exact⟨_,rfl,rfl,rfl,rfl⟩
  ·split at b
   ·exact q5 f c b
   ·cases b;exact⟨_,rfl,rfl,rfl,rfl⟩
   ·cases b
  ·split at b
   ·exact q5 f c b
   ·cases b;exact⟨_,rfl,rfl,rfl,rfl⟩
   ·cases b
  ·split at b
   ·cases b
   ·split at b
    ·exact q5 f c b
    ·exact q5 f c b
  ·rename_i s t;split at b
   ·cases b
   ·exact q5 (fr:={g with df:=s::g.df}) (UH:={nK g a with df:=s::g.df}) Z c b
variable{r:Bool}
section
variable{C:eD} {w0:World} {N0:Nat} {G:Nat->Prop} {fc:FC} {b:FB} {rc:Rec} {ops:Array Oper} {bs:List Nat} {m:Nat} {order:List Nat}
def zk(C:eD)(w0:World)(N0:Nat)(G:Nat->Prop)(ops:Array Oper)(m:Nat)(ρ:Ren)(fc:FC)(B:Machine)(b:FB)(k:List Item)(x:eT)(cs:List Frame)(w:Ex×Fr×eT×St):Prop:=
 match w with
 |(.norm,l,h,f)=>∃o E c A v s t,IR ops o E/\Down ops o/\(∀D,D<m->o D=true)/\ρ.le c/\dD w0 N0 G c f A/\k4 c fc l b v s/\oH x h cs t/\
   Steps C.P B (lone (eW b v s (.inRegion ops E::k)) t A)/\(∀D,m<=D->o D=false)
 |(F,l,h,f)=>ii C w0 N0 G ρ fc B b k x cs F l h f
theorem zk.of_steps{ρ t:Ren}{K L:Machine}{k:List Item}{J x:eT}{cs v:List Frame}{l:Ex×Fr×eT×St}(A:ρ.le t)(w:oH J x cs v)(s:Steps C.P K L)(V:zk C w0 N0 G ops m t fc L b k x v l):zk C w0 N0 G ops m ρ fc K b k J cs l:=by
 obtain⟨W,U,T,S⟩:=l;cases W with
 |norm=>
  obtain⟨Q,N,c,B,f,o,h,O,M,P,D,F,I,E,H,R⟩:=V;exact⟨Q,N,c,B,f,o,h,O,M,P,A.trans D,F,I,w.trans E,s.trans H,R⟩
 |_=>
  obtain⟨c,B,f,o,h,D,F,I,E,H⟩:=V;exact⟨c,B,f,o,h,A.trans D,F,I,w.trans E,.of_steps s H⟩
theorem L1{f:Tmp}(b:yg g (some f) e=true):g.tm.get f=some e:=by
 unfold yg at b;simp only at b;split at b
 ·rename_i h c;rw[c,q4 _ _ b]
 ·cases b
theorem xE{c:Option Bool}(b:isSome c r=true):c=some r:=by
 unfold isSome at b;split at b
 ·rfl
 ·rfl
 ·cases b
theorem u6{ρ m:Ren}{D:Nat->Bool}{tm:Array Value}{df:List Deferred}{o:Oper}{R v':Value}(J:ops[d]?=some o)(O:k4 ρ fc (nK g (gu ops D a)) b tm df)(L:ρ.le m)(G:yg g o.dst R=true)(Q:dg m R v') 
  (I:∀M,o.dst=some M->M<fc.nt):k4 m fc (nK g (gu ops (fun x=>D x||x==d) a)) b (my tm o.dst v') df:=by
 have c:=O.mono L;refine⟨c.fn,c.round,c.kind,⟨?_,fun w K P=>?_⟩,c.df⟩
 ·have:=c.tm.1;unfold my;split<;>simp[this]
 ·have f:(oK g.tm (gu ops (fun x=>D x||x==d) a)).get w=some K:=P;rw[jB]at f;split at f
  ·cases f
  ·rename_i B;cases k:o.dst with
   |none=>
    have l:w ∉ gu ops D a:=fun v=>B (by
     rw[lJ]at v⊢;obtain⟨H,F,C,h⟩:=v;refine⟨H,F,?_,h⟩;have s:H≠d:=fun A=>by subst A;unfold uP at h;rw[J]at h;simp[k]at h
     simp[C,s])
    obtain⟨E,A,N⟩:=c.tm.2 w K (by show(oK g.tm (gu ops D a)).get w=some K;rw[jB,if_neg l];exact f);exact⟨E,by simpa [my]using A,N⟩
   |some M=>
    rw[k]at G;by_cases t:w=M
    ·subst t;rw[L1 G]at f;cases f;refine⟨v',?_,Q⟩;simp only[my];rw[Yw (by rw[c.tm.1];exact I w k)]
    ·have l:w ∉ gu ops D a:=fun v=>B (by
      rw[lJ]at v⊢;obtain⟨H,F,C,h⟩:=v;refine⟨H,F,?_,h⟩;have s:H≠d:=fun A=>by subst A;unfold uP at h;rw[J]at h;simp[k]at h;exact t h.symm
      simp[C,s])
     obtain⟨E,A,N⟩:=c.tm.2 w K (by show(oK g.tm (gu ops D a)).get w=some K;rw[jB,if_neg l];exact f);refine⟨E,?_,N⟩;simp only[my];rw[Yx (fun A=>t A.symm)];exact A
theorem Inv.reads{hp:iK ops bs m order}{D:Nat->Bool}{k:List Nat}{C:Nat}{l:List sf}{I:Fr}{F:eT}{st:St}{ρ:Ren}{w:World}{tm:Array Value}{df:List Deferred}{cs:List Frame}(x:Inv w0 N0 G ops bs m fc b D k C l I F st ρ w tm df cs) 
  {M:Nat} {o:Oper} (v:ops[M]?=some o) (J:∀N∈o.after.toList,Region.binds .any N=true->D N.on=true):∀L∈pt ops.toList o,L ∉ gu ops D k:=by
 intro L E A;rw[lJ]at A;obtain⟨B,K,h,c⟩:=A;unfold uP at c;cases f:ops[B]? with
 |none=>rw[f]at c;simp at c
 |some s=>
  rw[f]at c;simp at c;have t:gH s.op=false:=by
   cases H:gH s.op with
   |false=>rfl
   |true=>
    have:iF ops.toList B=true:=by unfold iF;rw[cz,Yo,f];exact H
    rw[x.LZ B K this]at h;cases h
  have:=hp.reads B s L f t c M o v E;rw[x.down.ready hp v J this]at h;cases h
theorem DP{o:Oper}(b:ops[d]?=some o):iF ops.toList d=gH o.op:=by
 unfold iF;rw[cz,Yo,b]
theorem IV(aj:mW C)(aA:CQ C)(aB:ng C)(hp:iK ops bs m order){D:Nat->Bool}{v:List sf}{st:St}{ρ:Ren}{w:World}{tm:Array Value}{df:List Deferred}{cs:List Frame}(c:Inv w0 N0 G ops bs m fc b D a d v g i st ρ w tm df cs) 
  (aI:nX C ops.toList g st d v=true) {o:Oper} (F:ops[q]?=some o) (Q:D q=false) (ao:∀aa∈o.after.toList,Region.binds .any aa=true->D aa.on=true) (T:q∈a) (aK:List Nat) (k:List Item):
  ∃t O K,ρ.le t/\Steps C.P (lone (eW b tm df (.inRegion ops (q::aK)::k)) cs w) (lone (eW b K df (.inRegion ops aK::k)) cs O)/\Inv w0 N0 G ops bs m fc b (fun x=>D x||x==q) a d v g i st t O K df cs:=by
 have ac:iF ops.toList q=false:=by
  cases aH:iF ops.toList q with
  |false=>rfl
  |true=>rw[c.LZ q T aH]at Q;cases Q
 have ap:gH o.op=false:=by rw[<-DP F];exact ac
 have ab:=c.down.add F ao;obtain⟨au,W,B⟩:=c.cover q T ac;have l:=Inv.reads (hp:=hp) c F ao;have H:oD C ops.toList g st au=true:=by
  rcases DO aI au W with h|h
  ·exfalso;rw[B]at h;obtain⟨aa,u,n⟩:=c.N4 q h;rw[c.down.bits hp aa q u n]at Q;cases Q
  ·exact h
 have R:nth ops.toList q=some o:=by rw[cz,Yo];exact F
 have U:∀ag,o.dst=some ag->ag<fc.nt:=by
  intro ag J;exact c.fq au W ag (by rw[B];unfold uP;rw[F];exact J)
 have L:∀(t:Ren) (O:World) (K:Array Value),dD w0 N0 (z1 G (fun x=>D x||x==q) v) t st O->k4 t fc (nK g (gu ops (fun x=>D x||x==q) a)) b K df->ρ.le t->
   Inv w0 N0 G ops bs m fc b (fun x=>D x||x==q) a d v g i st t O K df cs:=by
  intro t O K u n am;refine⟨ab,fun p P ai=>?_,fun p P an=>?_,c.cover,fun p P=>?_,fun aQ r ae ad j J=>c.IT _ _ _ _ j (by simp only[Yl]at J;exact J.1),fun aP aL ae aJ aO aF ah u n d1 d2=>c.Gc _ _ _ _ _ _ _ u n (by simp only[Yl]at d1;exact d1.1) (by simp only[Yl]at d2;exact d2.1),c.S3,c.fq,c.L0,u,n,c.fO.mono am⟩
  ·simp only[Yp,beq_iff_eq]at P;rcases P with P|rfl
   ·exact c.sub p P ai
   ·exact T
  ·simp[c.LZ p P an]
  ·obtain⟨aa,ax,aD⟩:=c.N4 p P;exact⟨aa,by simp[ax],aD⟩
 have E:∀x,z1 G (fun x=>D x||x==q) v x->z1 G D v x:=by
  rintro x (V|⟨p,aG,ad,j,J⟩)
  ·exact .inl V
  ·simp only[Yl]at J;exact .inr ⟨p,aG,ad,j,J.1⟩
 cases au with
 |val p aG=>
  simp only[sf.idx]at B;subst B;simp only[oD,R,Ym]at H;obtain⟨⟨⟨A,e⟩,y⟩,f⟩:=H;have A:=xE A;split at f
  ·rename_i av s X;simp only[Ym]at f;have:=q4 _ _ f.1;subst this;have aC:=qv ap (by simpa using e) X (Yn f.2);subst aC;have z:iX C (jq (nK g (gu ops D a))) o s=some (.val av s):=by rw[<-xA o (xD l)];exact X
   obtain⟨t,r,O,S,I⟩:=pz aj aA aB c.world (oI c.frame.tm) z;refine⟨t,O,my tm o.dst r,I.le,.one (vV F ?_ (.inr (ij X (by intro ag aa;cases aa))) S),?_⟩
   ·exact oJ c.frame.tm (by rw[<-n1 l];exact A)
   ·exact L t O _ (I.world.uO E) (u6 F c.frame I.le y I.value U) I.le
  ·cases f
 |skip p=>
  simp only[sf.idx]at B;subst B;simp only[oD,R,Ym]at H;have A:=xE H.1;refine⟨ρ,w,my tm o.dst undef,Ren.le_refl _,.one (yl F ?_),?_⟩
  ·exact oJ c.frame.tm (by rw[<-n1 l];exact A)
  ·exact L ρ w _ (c.world.uO E) (u6 (v':=undef) F c.frame (Ren.le_refl _) H.2 (.tuple .nil) U) (Ren.le_refl _)
 |obj p aG ae ad=>
  simp only[sf.idx]at B;subst B;simp only[oD,R,Ym]at H;obtain⟨⟨⟨⟨A,e⟩,y⟩,Y⟩,f⟩:=H;have A:=xE A;split at Y
  ·rename_i aM ay;have:=F9 Y;subst this;split at f
   ·rename_i av s X;simp only[Ym]at f;have:=q4 _ _ f.1;subst this;have M:=f.2;split at M
    ·rename_i az aq;have:=F9 M;subst this;have z:iX C (jq (nK g (gu ops D a))) o ⟨.nil,ae,.nil⟩=some (.val av s):=by rw[<-xA o (xD l)];exact X
     obtain⟨r,co,aw,S,aE,af⟩:=LX (w:=w) aj (oI c.frame.tm) e z aq;have ar:ρ ae=none:=(c.world.Io ae (.inr ⟨p,av,az,W,Q⟩)).1;have N:=e1 (l:=aw) ar;obtain⟨al,ak⟩:=af (ρ.add ae aw) N (dr _ _ _);refine⟨ρ.add ae aw,{w with heap:=w.heap.push co},my tm o.dst r,N,.one (vV F ?_ (.inr (ij X (by intro ag aa;cases aa))) (.inl S)),?_⟩
     ·exact oJ c.frame.tm (by rw[<-n1 l];exact A)
     ·refine L _ _ _ (c.world.QA ar (c.IT _ _ _ _ W Q) ay aE al fun x V=>⟨E x V,?_⟩) (u6 F c.frame N y ak U) N;rintro rfl;rcases V with V|⟨aN,aF,ah,j,J⟩
      ·exact c.L0 _ _ _ _ W V
      ·simp only[Yl]at J;have:=c.Gc _ _ _ _ _ _ _ W j Q J.1;subst this;simp at J
    ·cases M
   ·cases f
  ·cases Y
theorem BR:∀(s:List Oper) (tm:Tr Value) (m:Nat) (o:Value),(s.foldl (fun tm h=>match h.dst with|some B=>(match gH h.op with|true=>tm|false=>tm.put B none)|none=>tm) tm).get m=some o->
  tm.get m=some o/\∀h∈s,gH h.op=false->h.dst≠some m:=by
 intro s;induction s with
 |nil=>intro tm m o v;exact⟨v,fun h b=>by simp at b⟩
 |cons C s w=>
  intro tm m o v;simp only[List.foldl_cons]at v;obtain⟨f,l⟩:=w _ m o v;split at f
  ·rename_i B k;split at f
   ·rename_i x;refine⟨f,fun h b c=>?_⟩;rcases Yt.1 b with rfl|b
    ·rw[x]at c;cases c
    ·exact l h b c
   ·rw[da]at f;split at f
    ·cases f
    ·rename_i t;refine⟨f,fun h b c=>?_⟩;rcases Yt.1 b with rfl|b
     ·rw[k];intro A;cases A;exact t rfl
     ·exact l h b c
  ·rename_i k;refine⟨f,fun h b c=>?_⟩;rcases Yt.1 b with rfl|b
   ·rw[k];intro A;cases A
   ·exact l h b c
theorem IW(aC:mW C)(aE:CQ C)(aF:ng C)(bp:∀G,uM C w0 N0 G rc)(hp:iK ops bs m order)(k:List Item){D:Nat->Bool}(i:IR ops D a):
  ∀(S t:List Nat) (ad:Nat) (H:List sf) (ac:Fr) (ab:eT) (st:St) (ρ:Ren) (w:World) (tm:Array Value) (df:List Deferred) (cs:List Frame) (T:Ex×Fr×eT×St),
  order=S++t->fy C rc fc ops.toList bs t ad H ac ab st=some T->(∀B,m<=B->D B=false)->Inv w0 N0 G ops bs m fc b D S ad H ac ab st ρ w tm df cs->
  zk C w0 N0 G ops m ρ fc (lone (eW b tm df (.inRegion ops a::k)) cs w) b k ab cs T:=by
 induction i with
 |@nil D ai=>
  intro S t ad H ac ab st ρ w tm df cs T j aG y aJ;obtain⟨f,s,L,ah,aj,o,l,c,Q⟩:=advance hp t S H ac st j aG aJ;have v:∀B,B<m->D B=true:=fun B aQ=>ai B (Nat.lt_of_lt_of_le aQ hp.XL);have e:s=[]:=by
   rcases Q with aG|⟨R,am,rfl,n⟩
   ·exact aG
   ·exfalso;have W:R<m:=hp.lt R (by rw[o];simp);have bk:=c.sub R (v R W) W;have:=hp.nodup;rw[o,List.nodup_append]at this;exact this.2.2 R bk R sm Z
  subst e;simp only[fy]at l;split at l
  ·cases l;have V:gu ops D f=[]:=by
    cases ak:gu ops D f with
    |nil=>rfl
    |cons ap bN=>
     have:ap∈gu ops D f:=by rw[ak];simp
     rw[lJ]at this;obtain⟨A,h,F,_⟩:=this;rw[v A (hp.lt A (by rw[o];simp[h]))]at F;cases F
   have P:=c.frame;rw[V]at P;exact⟨D,[],ρ,w,tm,df,cs,.nil ai,c.down,v,Ren.le_refl _,c.world.uO (fun x g=>.inl g),P,.refl _ _,.refl _ _,y⟩
  ·cases l
 |@cons D B a bt M au n i aS=>
  intro S t ad H ac ab st ρ w tm df cs T j aG y aJ;obtain⟨f,s,L,ah,aj,o,l,c,Q⟩:=advance hp t S H ac st j aG aJ;have al:∀x,x∈f->x∈s->False:=by
   intro x p l;have:=hp.nodup;rw[o,List.nodup_append]at this;exact this.2.2 x p x l Z
  by_cases be:B<m
  ·have aH:B∈f++s:=by rw[<-o];exact hp.all B be
   have af:∀A,m<=A->(D A||A==B)=false:=by
    intro A h;have:A≠B:=om;simp[y A h,this]
   rcases Yy.1 aH with aL|aa
   ·
    have U:nX C ops.toList ah aj ad L=true:=by
     rcases Q with rfl|⟨R,am,rfl,K⟩
     ·simp only[fy]at l;split at l
      ·rename_i U;exact U
      ·cases l
     ·rw[fy]at l;split at l
      ·rename_i bA bg z bH;rw[cz,Yo]at z;have:gH bA.op=true:=by rw[<-DP z];exact K
       simp only[this]at l;split at l
       ·cases l
       ·rename_i U;exact U
      ·cases l
    obtain⟨aU,bz,bm,O,Y,bo⟩:=IV aC aE aF hp c U M au n aL a k;exact .of_steps O (.refl _ _) Y (aS f s ad L ah ab aj aU bz bm df cs T o l af bo)
   ·
    have aT:∃am,s=B::am/\iF ops.toList B=true:=by
     rcases Q with rfl|⟨R,am,rfl,K⟩
     ·simp at aa
     ·rcases Yt.1 aa with rfl|aW
      ·exact⟨am,Z,K⟩
      ·exfalso;have bu:=hp.later f R am o K B aW;have aX:=c.down.ready hp M n bu;exact al R (c.sub R aX (hp.lt R (by rw[o];simp))) sm
    obtain⟨am,rfl,K⟩:=aT;rw[fy]at l;have aB:nth ops.toList B=some bt:=by rw[cz,Yo];exact M
    have z:gH bt.op=true:=by rw[<-DP M];exact K
    split at l
    ·rename_i bK bg ar ba;rw[aB]at ar;cases ar;simp only[z]at l;split at l
     ·cases l
     ·rename_i U;have X:=Inv.reads (hp:=hp) c M n;split at l
      ·cases l
      ·rename_i bG I aP aV ao;cases l;have P:=zY ao;subst P;obtain⟨aM,ag,E⟩:=ym X ao;cases aM with
       |next _ _ _=>exact E.elim
       |fO bw bn ax aq=>
        obtain⟨rfl,rfl,rfl⟩:=E;obtain⟨rfl,ae,w1,aK,O,q,bx,Y⟩:=nZ aC aE aF (bp _) ag c.world c.frame c.fO a k M;refine⟨ae,w1,tm,df,cs,O,q.uO (fun x g=>.inl g),?_,.refl _ _,_,aK,bx,Y⟩;refine(c.frame.mono O).sub (fr':={I with tm:=oh ops.toList I.tm}) Z fun ap br aI=>?_;obtain⟨p,aA⟩:=BR ops.toList I.tm ap br aI;show(oK I.tm (gu ops D f)).get ap=some br;rw[jB,if_neg ?_]
        ·exact p
        ·intro N;rw[lJ]at N;obtain⟨A,h,aw,J⟩:=N;unfold uP at J;cases r:ops[A]? with
         |none=>rw[r]at J;simp at J
         |some aN=>
          rw[r]at J;simp at J;have aO:gH aN.op=false:=by
           cases ak:gH aN.op with
           |false=>rfl
           |true=>rw[c.LZ A h (by rw[DP r];exact ak)]at aw;cases aw
          exact aA aN (by have:=Array.mem_of_getElem? r;simpa using this) aO J
      ·rename_i I aP aV ao;obtain⟨aM,ag,E⟩:=ym X ao;cases aM with
       |fO _ _ _ _=>exact E.elim
       |next bn ax aq=>
        obtain⟨rfl,rfl,az,aD⟩:=E;obtain⟨ae,w1,bh,bl,aY,O,q,bq,av,Y⟩:=nZ aC aE aF (bp _) ag c.world c.frame c.fO a k M;have an:order=(f++[B])++am:=by rw[o];simp
        have bj:B ∉ f:=fun N=>al B N sm;refine .of_steps O av Y (aS (f++[B]) am bg L I ax aq ae w1 bh bl aY T an l af ?_);refine⟨c.down.add M n,fun A h aR=>?_,fun A h d=>?_,fun A h d=>?_,fun A h=>?_,fun bB aK bE ay N F=>?_,fun bM bI bE bD bL bw bC p l d1 d2=>c.Gc _ _ _ _ _ _ _ p l (by simp only[Yl]at d1;exact d1.1) (by simp only[Yl]at d2;exact d2.1),fun bJ bv=>?_,c.fq,c.L0,?_,?_,(c.fO.mono O).step av⟩
        ·simp only[Yp,beq_iff_eq]at h;rcases h with h|rfl
         ·simp[c.sub A h aR]
         ·simp
        ·rcases Yy.1 h with h|h
         ·simp[c.LZ A h d]
         ·simp at h;simp[h]
        ·rcases Yy.1 h with h|h
         ·exact c.cover A h d
         ·simp at h;subst h;rw[K]at d;cases d
        ·refine⟨B,by simp,?_⟩;unfold js;rw[ba];exact h
        ·simp only[Yl]at F;exact(q.Io bE (.inr ⟨bB,aK,ay,N,F.1⟩)).2
        ·obtain⟨p,aA⟩:=c.S3 bJ bv;exact⟨p,by simp[aA]⟩
        ·refine q.uO ?_;rintro x (g|⟨A,bG,ay,N,F⟩)
         ·exact .inl g
         ·simp only[Yl]at F;exact .inr ⟨A,bG,ay,N,F.1⟩
        ·refine bq.sub (fr':=nK I (gu ops (fun x=>D x||x==B) (f++[B]))) az.symm fun ap br aI=>?_;have u:(oK I.tm (gu ops (fun x=>D x||x==B) (f++[B]))).get ap=some br:=aI;rw[jB]at u;split at u
         ·cases u
         ·rename_i bc;rw[aD ap ?_]
          ·exact u
          ·intro N;refine bc ?_;rw[lJ]at N⊢;obtain⟨A,h,F,J⟩:=N;have bf:A≠B:=fun R=>bj (R▸h);exact⟨A,by simp[h],by simp[F,bf],J⟩
    ·cases l
  ·
   have v:∀A,A<m->D A=true:=by
    intro A h;exact c.down.ready hp M n ((hp.tail B bt om M).2.2 A h)
   have e:s=[]:=by
    rcases Q with aG|⟨R,am,rfl,K⟩
    ·exact aG
    ·exfalso;have W:R<m:=hp.lt R (by rw[o];simp);exact al R (c.sub R (v R W) W) sm
   subst e;simp only[fy]at l;split at l
   ·cases l;have V:gu ops D f=[]:=by
     cases ak:gu ops D f with
     |nil=>rfl
     |cons ap bN=>
      have:ap∈gu ops D f:=by rw[ak];simp
      rw[lJ]at this;obtain⟨A,h,F,_⟩:=this;rw[v A (hp.lt A (by rw[o];simp[h]))]at F;cases F
    have P:=c.frame;rw[V]at P;exact⟨D,B::a,ρ,w,tm,df,cs,.cons M au n i,c.down,v,Ren.le_refl _,c.world.uO (fun x g=>.inl g),P,.refl _ _,.refl _ _,y⟩
   ·cases l
end
structure St.Alike (s t:St):Prop where
 n:s.n=t.n
 get:∀b,s.get b=t.get b
 fm:∀f,s.fm.get f=t.fm.get f
theorem dD.alike{w0:World}{N0:Nat}{G:Nat->Prop}{ρ:Ren}{I t:St}{w:World}(l:dD w0 N0 G ρ I w)(f:St.Alike I t):dD w0 N0 G ρ t w:=by
 refine⟨⟨fun b o c=>?_,fun b L J A K c=>?_,fun A v c=>?_⟩,l.below,l.CM,fun b h=>?_,fun b s h=>?_,fun b s o h c=>?_,fun b x s H o E m k D B C F=>?_⟩
 ·rw[<-f.n];exact l.wf.lt b o (by rw[f.get];exact c)
 ·obtain⟨m,k⟩:=l.wf.en b L J A K (by rw[f.get];exact c);refine⟨by rw[<-f.n];exact m,?_⟩;unfold sB at k⊢;rw[<-f.fm];exact k
 ·rw[<-f.n];exact l.wf.Kz A v (by rw[f.fm];exact c)
 ·rw[<-f.n];exact l.Io b h
 ·rw[<-f.n];exact l.vH b s h
 ·exact l.obj b s o h (by rw[f.get];exact c)
 ·exact l.sep b x s H o E m k D (by rw[f.get];exact B) (by rw[f.get];exact C) F
theorem IX{b lo hi b2:Nat}{X:gz}:∀(f:List Nat) (h c:Tr gz),b2 ∉ f->(∀s,c.get s=if s=b2 then some X else h.get s)->
  (eZ b lo hi f c).2=(eZ b lo hi f h).2/\∀s,(eZ b lo hi f c).1.get s=if s=b2 then some X else(eZ b lo hi f h).1.get s:=by
 intro f;induction f with
 |nil=>intro h c _ w;exact⟨rfl,w⟩
 |cons m f t=>
  intro h c A w;have v:m≠b2:=fun C=>A (by simp[C]);have k:b2 ∉ f:=fun C=>A (by simp[C]);have B:c.get m=h.get m:=by rw[w,if_neg v]
  unfold eZ;cases D:Nat.beq m b with
  |true=>
   obtain⟨l,o⟩:=t h c k w;simp only;exact⟨by rw[l],o⟩
  |false=>
   simp only;rw[B];split
   ·split
    ·refine t _ _ k fun s=>?_;rw[cF,cF,w];by_cases x:s=m
     ·subst x;rw[if_pos rfl,if_pos rfl,if_neg v]
     ·rw[if_neg x,if_neg x]
    ·obtain⟨l,o⟩:=t h c k w;exact⟨by simp only;rw[l],o⟩
   ·obtain⟨l,o⟩:=t h c k w;exact⟨by simp only;rw[l],o⟩
theorem iu(st:St)(b:Nat)(o:gz)(c:Nat):(st.put b o).get c=if c=b then some o else st.get c:=cF _ _ _ _
theorem Gd{st:St}{f b lo hi b2:Nat}{X:gz}(o:∀h,st.fm.get f=some h->b2 ∉ h):
  St.Alike ((st.put b2 X).kill f b lo hi) ((st.kill f b lo hi).put b2 X):=by
 cases c:st.fm.get f with
 |none=>
  rw[hz c,hz (st:=st.put b2 X) c];exact⟨Z,fun _=>Z,fun _=>Z⟩
 |some h=>
  rw[ig c,ig (st:=st.put b2 X) c];obtain⟨m,l⟩:=IX (b:=b) (lo:=lo) (hi:=hi) (b2:=b2) (X:=X) h st.hp (st.put b2 X).hp (o h c) (fun k=>cF _ _ _ _);refine⟨Z,fun k=>?_,fun s=>?_⟩
  ·show(eZ b lo hi h (st.put b2 X).hp).1.get k=((eZ b lo hi h st.hp).1.set b2 X).get k;rw[cF,l]
  ·show(st.fm.set f _).get s=(st.fm.set f _).get s;rw[cF,cF,m]
theorem St.Alike.put{f t:St}(c:St.Alike f t)(b:Nat)(o:gz):St.Alike (f.put b o) (t.put b o):=
 ⟨c.n,fun h=>by rw[iu,iu,c.get],c.fm⟩
theorem St.Alike.trans{h t f:St}(c:St.Alike h t)(k:St.Alike t f):St.Alike h f:=⟨c.n.trans k.n,fun b=>(c.get b).trans (k.get b),fun b=>(c.fm b).trans (k.fm b)⟩
theorem DQ{b lo hi:Nat}:∀(h:List Nat) (f c:Tr gz),(∀t,c.get t=f.get t)->
  (eZ b lo hi h c).2=(eZ b lo hi h f).2/\∀t,(eZ b lo hi h c).1.get t=(eZ b lo hi h f).1.get t:=by
 intro h;induction h with
 |nil=>intro f c s;exact⟨rfl,s⟩
 |cons m h o=>
  intro f c s;unfold eZ;cases v:Nat.beq m b with
  |true=>
   obtain⟨k,l⟩:=o f c s;simp only;exact⟨by rw[k],l⟩
  |false=>
   simp only;rw[s m];split
   ·split
    ·refine o _ _ fun t=>?_;rw[cF,cF,s]
    ·obtain⟨k,l⟩:=o f c s;exact⟨by simp only;rw[k],l⟩
   ·obtain⟨k,l⟩:=o f c s;exact⟨by simp only;rw[k],l⟩
theorem St.Alike.kill{s t:St}(k:St.Alike s t)(f b lo h:Nat):St.Alike (s.kill f b lo h) (t.kill f b lo h):=by
 cases c:t.fm.get f with
 |none=>rw[hz c,hz (by rw[k.fm];exact c)];exact k
 |some l=>
  rw[ig c,ig (st:=s) (by rw[k.fm];exact c)];obtain⟨o,m⟩:=DQ (b:=b) (lo:=lo) (hi:=h) l t.hp s.hp k.get;refine⟨k.n,m,fun v=>?_⟩;show(s.fm.set f _).get v=(t.fm.set f _).get v;rw[cF,cF,o,k.fm]
theorem apart_spec{st:St}(w:apart st d q=true):∃s l f1 f c o f2 h,st.get d=some (.cells s l f1 f)/\st.get q=some (.cells c o f2 h)/\d≠q/\f1≠f2/\st.fm.get f2=none/\∀b,st.fm.get f1=some b->q ∉ b:=by
 unfold apart at w;split at w
 ·rename_i s l f1 f c o f2 h C A;simp only[Ym,Bool.not_eq_true']at w;obtain⟨⟨⟨B,x⟩,v⟩,k⟩:=w;refine⟨s,l,f1,f,c,o,f2,h,C,A,Yr B,Yr x,?_,fun b t m=>?_⟩
  ·split at v
   ·assumption
   ·cases v
  ·rw[t]at k;simp only[Bool.not_eq_true',List.any_eq_false]at k;exact k q m (Nat.beq_refl _)
 ·cases w
theorem r1{st T O H G:St}{c m:Nat}{h w:List Value}(j:apart st d q=true)(e:gA st d c h=some T)(a:gA st q m w=some O) 
  (P:gA T q m w=some H) (F:gA O d c h=some G):St.Alike G H:=by
 obtain⟨t,x,f1,f,v,s,f2,k,S,M,I,g,C,E⟩:=apart_spec j;obtain⟨L,X,U,V,l,_,_,rfl⟩:=kF e;rw[S]at l;cases l;obtain⟨Q,K,W,N,o,_,_,rfl⟩:=kF a;rw[M]at o;cases o;have i:(st.put q (.cells (dU v m w) s f2 k)).kill f2 q (k+m) (k+m+w.length)=st.put q (.cells (dU v m w) s f2 k):=hz C;rw[i]at F;obtain⟨L,X,U,V,l,_,_,rfl⟩:=kF F;rw[iu,if_neg I,S]at l;cases l;obtain⟨Q,K,W,N,o,_,_,rfl⟩:=kF P;have R:((st.put d (.cells (dU t c h) x f1 f)).kill f1 d (f+c) (f+c+h.length)).get q=some (.cells v s f2 k):=by
  have:=(Gd (st:=st.put d (.cells (dU t c h) x f1 f)) (f:=f1) (b:=d) (lo:=f+c) (hi:=f+c+h.length) (b2:=q) (X:=.cells v s f2 k) E).get q;rw[iu,if_pos rfl]at this;rw[<-this];have D:St.Alike (st.put d (.cells (dU t c h) x f1 f)) ((st.put d (.cells (dU t c h) x f1 f)).put q (.cells v s f2 k)):=by
   refine⟨Z,fun Y=>?_,fun _=>Z⟩;rw[iu _ q,iu];by_cases B:Y=q
   ·subst B;rw[if_pos rfl,if_neg (fun n=>I n.symm),M]
   ·rw[if_neg B]
  exact(D.kill _ _ _ _).get q
 rw[R]at o;cases o;have J:((st.put d (.cells (dU t c h) x f1 f)).kill f1 d (f+c) (f+c+h.length)).fm.get f2=none:=by
  unfold St.kill;split
  ·exact C
  ·show(st.fm.set f1 _).get f2=none;rw[cF,if_neg (fun n=>g n.symm)];exact C
 rw[hz (st:=St.put _ _ _) J];have D:St.Alike ((st.put q (.cells (dU v m w) s f2 k)).put d (.cells (dU t c h) x f1 f)) ((st.put d (.cells (dU t c h) x f1 f)).put q (.cells (dU v m w) s f2 k)):=by
  refine⟨Z,fun Y=>?_,fun _=>Z⟩;rw[iu,iu,iu,iu];by_cases B:Y=d
  ·subst B;rw[if_pos rfl,if_neg I,if_pos rfl]
  ·rw[if_neg B];by_cases A:Y=q
   ·rw[if_pos A,if_pos A]
   ·rw[if_neg A,if_neg A,if_neg B]
 exact(D.kill _ _ _ _).trans (Gd E)
variable{n:Ex}
section
variable{C:eD} {w0:World} {N0:Nat} {G:Nat->Prop} {fc:FC} {b:FB} {rc:Rec} {ops:Array Oper} {bs:List Nat} {m:Nat} {order:List Nat}
theorem eo(x:mW C)(A:CQ C)(B:ng C){ρ:Ren}{st m:St}{w:World}{tm:Array Value}{df:List Deferred}{cs:List Frame}{k:List Item}{rest:List Nat}{o:Oper}(E:ops[d]?=some o)(v:o.guard=none) 
  (F:iX C (jq g) o st=some (.val e m)) (D:dD w0 N0 G ρ st w) (t:gL ρ fc.nt g.tm tm):
  ∃c l h,ρ.le c/\dD w0 N0 G c m h/\dg c e l/\Steps C.P (lone (eW b tm df (.inRegion ops (d::rest)::k)) cs w) (lone (eW b (my tm o.dst l) df (.inRegion ops rest::k)) cs h):=by
 obtain⟨c,l,h,s,f⟩:=pz x A B D (oI t) F;refine⟨c,l,h,f.le,f.world,f.value,.one (vV E ?_ (.inr (ij F (by intro I H;cases H))) s)⟩;unfold Region.wanted;rw[v]
theorem Wk(S:iK ops bs m order)(g:ops.size=m+3){D:Nat->Bool}(B:IR ops D a)(t:Down ops D)(P:∀c,c<m->D c=true)(l:∀c,m<=c->D c=false)(N:js bs (m+1) m=true):
  a=[m,m+1,m+2]∨a=[m,m+2,m+1]∨a=[m+2,m,m+1]:=by
 have step:∀{D:Nat->Bool} {a:List Nat},IR ops D a->Down ops D->(a=[]/\∀c,c<ops.size->D c=true)∨
   ∃c v,a=c::v/\c<ops.size/\D c=false/\(c=m+1->D m=true)/\IR ops (fun x=>D x||x==c) v/\Down ops (fun x=>D x||x==c):=by
  intro D a I t;cases I with
  |nil h=>exact .inl ⟨rfl,h⟩
  |@cons _ c v ai w T J ad=>
   refine .inr ⟨c,v,Z,?_,T,?_,ad,t.add w J⟩
   ·rcases Yv c ops.size with h|h
    ·exact h
    ·rw[Yu h]at w;cases w
   ·rintro rfl;exact t.ready S w J N
 have k:∀{c:Nat},D c=false->m<=c:=fun{c} h=>by
  rcases Yv c m with C|C
  ·rw[P c C]at h;cases h
  ·exact C
 rcases step B t with⟨_,b⟩|⟨c,af,rfl,ab,H,G,V,d1⟩
 ·have:=b m om;rw[l m (Ys _)]at this;cases this
 rcases step V d1 with⟨_,b⟩|⟨L,ac,rfl,ae,s,A,W,d2⟩
 ·exfalso;have E:=b m om;have F:=b (m+1) om;simp only[l m (Ys _),l (m+1) om,Yq,beq_iff_eq]at E F;omega
 rcases step W d2 with⟨_,b⟩|⟨M,q,rfl,I,f,K,R,d3⟩
 ·exfalso;have E:=b m om;have F:=b (m+1) om;have X:=b (m+2) om;simp only[l m (Ys _),l (m+1) om,l (m+2) om,Yq,Yp,beq_iff_eq]at E F X;omega
 have z:=k H;simp only[Yl,beq_eq_false_iff_ne]at s f;have ag:=k s.1;have j:=k f.1.1;simp only[l m (Ys _),Yq,Yp,beq_iff_eq]at A K;have Y:c≠m+1:=fun ah=>by have:=G ah;rw[l m (Ys _)]at this;cases this
 rcases step R d3 with⟨rfl,_⟩|⟨aj,r,rfl,u,o,_,_,_⟩
 ·have e:(c=m/\L=m+1/\M=m+2)∨(c=m/\L=m+2/\M=m+1)∨(c=m+2/\L=m/\M=m+1):=by
   have Q:=s.2;have d:=f.2;have O:=f.1.2;by_cases U:L=m+1
   ·have:=A U;omega
   ·by_cases y:M=m+1
    ·omega
    ·omega
  rcases e with⟨rfl,rfl,rfl⟩|⟨rfl,rfl,rfl⟩|⟨rfl,rfl,rfl⟩
  ·exact .inl Z
  ·exact .inr (.inl Z)
  ·exact .inr (.inr Z)
 ·exfalso;simp only[Yl,beq_eq_false_iff_ne]at o;have p:=k o.1.1.1;have Q:=s.2;have d:=f.2;have O:=f.1.2;have n:=o.2;have i:=o.1.2;have aa:=o.1.1.2;omega
theorem gL.less{ρ:Ren}{t c:Tr Value}{tm:Array Value}(l:gL ρ d t tm)(h:∀b f,c.get b=some f->t.get b=some f):gL ρ d c tm:=⟨l.1,fun b f k=>l.2 b f (h b f k)⟩
theorem lh{t:TypeId}{f o:Nat}{st c:St}(b:ir C t (.pointer (some ⟨f,o,none⟩)) e st=some (.val z c)):gA st f o (cellsOf e)=some c:=by
 unfold ir at b;split at b
 ·rename_i l m v _ h;cases h;split at b
  ·split at b
   ·rename_i s k;obtain⟨_,rfl⟩:=dt b;exact k
   ·cases b
  ·cases b
 ·cases b
theorem Ge(K:mW C)(L:CQ C)(M:ng C)(aq:iK ops bs m order){aM U W:Oper}(ai:ops.toList.drop m=[aM,U,W]){st aw:St}(F:FN C fc aM U W g i st=some (n,u,p,aw)) 
  {D:Nat->Bool} (aF:IR ops D a) (bm:Down ops D) (bp:∀q,q<m->D q=true) (bi:∀q,m<=q->D q=false) (ba:js bs (m+1) m=true)
  {ρ:Ren} {w:World} {tm:Array Value} {df:List Deferred} (cs:List Frame) (k:List Item) (aI:dD w0 N0 G ρ st w) (T:k4 ρ fc g b tm df):
  n=.norm/\p=i/\∃x aU I,ρ.le x/\dD w0 N0 G x aw aU/\k4 x fc u b I df/\Steps C.P (lone (eW b tm df (.inRegion ops a::k)) cs w) (lone (eW b I df (.inRegion ops []::k)) cs aU):=by
 have aO:ops.size=m+3:=by
  have:=congrArg YA ai;simp at this;omega
 have al:∀bk bb,[aM,U,W][bk]?=some bb->ops[m+bk]?=some bb:=by
  intro bk bb F;rw[<-ai,YC,Yo]at F;exact F
 have ar:ops[m]?=some aM:=al 0 aM rfl;have e:ops[m+1]?=some U:=al 1 U rfl;have r:ops[m+2]?=some W:=al 2 W rfl;have aE:=(aq.tail m aM (Ys _) ar).2.1;have z:=(aq.tail (m+1) U om e).2.1;have ag:=(aq.tail (m+2) W om r).2.1;unfold FN at F;split at F
 ·rename_i aH t1 bB bz t2 bx bG am ak ah aG aD ad;rw[Yl]at ad;split at F
  ·rename_i bn bv aK;split at F
   ·rename_i H br ao;have h:hS fc.nt g (some aH) bn=some H:=ao;have aJ:=qv ad.1 ad.2 aK (Yn br);subst aJ;split at F
    ·rename_i bf bh bc bq bg bo aP aW aV aS;split at F
     ·cases F
     ·rename_i aT;split at F
      ·rename_i bD bt bC bu ae X;split at F
       ·rename_i bA bl aB;split at F
        ·cases F
        ·rename_i aj;rw[Ym]at aj;have:=q4 _ _ aj.1;subst this;have an:=qv ad.1 ad.2 aB (Yn aj.2);subst an;split at F
         ·rename_i bw bj bE be Y J;simp only[Option.some.injEq,Prod.mk.injEq]at F;obtain⟨rfl,rfl,rfl,rfl⟩:=F;have R:=r1 aT (lh ae) (lh X) (lh Y) (lh J);refine⟨Z,Z,?_⟩;have aC:∀s,iX C (jq H) U s=ir C t1 (.pointer (some ⟨bf,bh,none⟩)) bc s:=by
           intro s;unfold iX;rw[aG];simp only;rw[aP,aW]
          have aL:∀s,iX C (jq ⟨g.tm.put aH none,g.df⟩) W s=ir C t2 (.pointer (some ⟨bq,bg,none⟩)) bo s:=by
           intro s;unfold iX;rw[aD];simp only;rw[aV,aS]
          have af:H=⟨g.tm.set aH bn,g.df⟩/\aH<fc.nt:=by
           unfold hS at h;simp only at h;split at h
           ·rename_i aQ;cases h;exact⟨rfl,Yz.mp aQ⟩
           ·cases h
          have ap:∀q ay,(g.tm.put aH none).get q=some ay->g.tm.get q=some ay:=by
           intro q ay N;rw[da]at N;split at N
           ·cases N
           ·exact N
          have y:∀q ay,(g.tm.put aH none).get q=some ay->H.tm.get q=some ay:=by
           intro q ay N;rw[af.1];show(g.tm.set aH bn).get q=some ay;rw[da]at N;rw[cF];split at N
           ·cases N
           ·rename_i aN;rw[if_neg aN];exact N
          have ab:∀{x:Ren} {I:Array Value},ρ.le x->gL x fc.nt H.tm I->k4 x fc H b I df:=by
           intro x I aR aY;have d:=T.mono aR;exact⟨d.fn,d.round,d.kind,aY,by rw[af.1];exact d.df⟩
          rcases Wk aq aO aF bm bp bi ba with rfl|rfl|rfl
          ·obtain⟨av,ax,w1,c,P,j,A⟩:=eo (fc:=fc) (b:=b) (df:=df) (cs:=cs) (k:=k) (rest:=[m+1,m+2]) K L M ar aE aK aI T.tm;rw[am]at A;have B:=(dW (T.tm.mono c) j h).1;obtain⟨az,au,aX,l,O,V,v⟩:=eo (fc:=fc) (b:=b) (df:=df) (cs:=cs) (k:=k) (rest:=[m+2]) K L M e z ((aC _).trans ae) P B;rw[ak]at v;have E:=B.mono l;obtain⟨Q,aA,aa,o,S,ac,t⟩:=eo (fc:=fc) (b:=b) (df:=df) (cs:=cs) (k:=k) (rest:=[]) K L M r ag ((aL _).trans Y) O (E.less y);rw[ah]at t;exact⟨Q,aa,_,(c.trans l).trans o,S,ab ((c.trans l).trans o) (E.mono o),(A.trans v).trans t⟩
          ·obtain⟨av,ax,w1,c,P,j,A⟩:=eo (fc:=fc) (b:=b) (df:=df) (cs:=cs) (k:=k) (rest:=[m+2,m+1]) K L M ar aE aK aI T.tm;rw[am]at A;have B:=(dW (T.tm.mono c) j h).1;obtain⟨az,au,aX,l,O,V,v⟩:=eo (fc:=fc) (b:=b) (df:=df) (cs:=cs) (k:=k) (rest:=[m+1]) K L M r ag ((aL _).trans X) P (B.less y);rw[ah]at v;have E:=B.mono l;obtain⟨Q,aA,aa,o,S,ac,t⟩:=eo (fc:=fc) (b:=b) (df:=df) (cs:=cs) (k:=k) (rest:=[]) K L M e z ((aC _).trans J) O E;rw[ak]at t;exact⟨Q,aa,_,(c.trans l).trans o,S.alike R,ab ((c.trans l).trans o) (E.mono o),(A.trans v).trans t⟩
          ·obtain⟨av,ax,w1,c,P,j,A⟩:=eo (fc:=fc) (b:=b) (df:=df) (cs:=cs) (k:=k) (rest:=[m,m+1]) K L M r ag ((aL _).trans X) aI (T.tm.less ap);rw[ah]at A;have B:=T.tm.mono c;obtain⟨az,au,aX,l,O,V,v⟩:=eo (fc:=fc) (b:=b) (df:=df) (cs:=cs) (k:=k) (rest:=[m+1]) K L M ar aE aB P B;rw[am]at v;have E:=(dW (B.mono l) V h).1;obtain⟨Q,aA,aa,o,S,ac,t⟩:=eo (fc:=fc) (b:=b) (df:=df) (cs:=cs) (k:=k) (rest:=[]) K L M e z ((aC _).trans J) O E;rw[ak]at t;exact⟨Q,aa,_,(c.trans l).trans o,S.alike R,ab ((c.trans l).trans o) (E.mono o),(A.trans v).trans t⟩
         ·cases F
       ·cases F
      ·cases F
    ·cases F
   ·cases F
  ·cases F
 ·cases F
theorem four:∀c,c<4->∀b,b<4->∀k,k<4->∀f,f<4->c≠1->c≠3->b≠c->(b=1->c=0)->(b=3->c=2)->k≠b->k≠c->(k=1->c=0∨b=0)->(k=3->c=2∨b=2)->f≠k->f≠b->f≠c->
  (c=0/\b=1/\k=2/\f=3)∨(c=0/\b=2/\k=1/\f=3)∨(c=0/\b=2/\k=3/\f=1)∨(c=2/\b=0/\k=1/\f=3)∨(c=2/\b=0/\k=3/\f=1)∨(c=2/\b=3/\k=0/\f=1):=by
 intro c I b K k E f G x w H t v J F l m B D C;have A:c=0∨c=2:=by clear t v l m;omega
 rcases A with rfl|rfl
 ·have o:b≠3:=fun h=>absurd (v h) dc;clear x w t v l;have o:b=1∨b=2:=by clear m;omega
  rcases o with rfl|rfl
  ·have s:k≠3:=fun h=>by rcases m h with h|h<;>cases h
   clear m;obtain rfl:k=2:=om;obtain rfl:f=3:=om;exact .inl ⟨Z,Z,Z,Z⟩
  ·clear m;have s:k=1∨k=3:=om;rcases s with rfl|rfl
   ·obtain rfl:f=3:=om;exact .inr (.inl ⟨Z,Z,Z,Z⟩)
   ·obtain rfl:f=1:=om;exact .inr (.inr (.inl ⟨Z,Z,Z,Z⟩))
 ·have o:b≠1:=fun h=>absurd (t h) dc;clear x w t v m;have o:b=0∨b=3:=by clear l;omega
  rcases o with rfl|rfl
  ·clear l;have s:k=1∨k=3:=om;rcases s with rfl|rfl
   ·obtain rfl:f=3:=om;exact .inr (.inr (.inr (.inl ⟨Z,Z,Z,Z⟩)))
   ·obtain rfl:f=1:=om;exact .inr (.inr (.inr (.inr (.inl ⟨Z,Z,Z,Z⟩))))
  ·have s:k≠1:=fun h=>by rcases l h with h|h<;>cases h
   clear l;obtain rfl:k=0:=om;obtain rfl:f=1:=om;exact .inr (.inr (.inr (.inr (.inr ⟨Z,Z,Z,Z⟩))))
theorem Wl(e:iK ops bs m order)(ai:ops.size=m+4){D:Nat->Bool}(R:IR ops D a)(M:Down ops D)(ad:∀c,c<m->D c=true)(O:∀c,m<=c->D c=false)(j:js bs (m+1) m=true)(Y:js bs (m+3) (m+2)=true):
  a=[m,m+1,m+2,m+3]∨a=[m,m+2,m+1,m+3]∨a=[m,m+2,m+3,m+1]∨a=[m+2,m,m+1,m+3]∨a=[m+2,m,m+3,m+1]∨a=[m+2,m+3,m,m+1]:=by
 have step:∀{D:Nat->Bool} {a:List Nat},IR ops D a->Down ops D->(a=[]/\∀c,c<ops.size->D c=true)∨
   ∃c P,a=c::P/\c<ops.size/\D c=false/\(c=m+1->D m=true)/\(c=m+3->D (m+2)=true)/\IR ops (fun x=>D x||x==c) P/\Down ops (fun x=>D x||x==c):=by
  intro D a d M;cases d with
  |nil h=>exact .inl ⟨rfl,h⟩
  |@cons _ c P aI I ag U aG=>
   refine .inr ⟨c,P,Z,?_,ag,?_,?_,aG,M.add I U⟩
   ·rcases Yv c ops.size with h|h
    ·exact h
    ·rw[Yu h]at I;cases I
   ·rintro rfl;exact M.ready e I U j
   ·rintro rfl;exact M.ready e I U Y
 have t:∀{c:Nat},D c=false->m<=c:=fun{c} h=>by
  rcases Yv c m with S|S
  ·rw[ad c S]at h;cases h
  ·exact S
 have H:=O m (Ys _);have T:=O (m+1) om;have N:=O (m+2) om;have z:=O (m+3) om;rcases step R M with⟨_,b⟩|⟨c,ap,rfl,ax,X,W,g,ah,d1⟩
 ·have:=b m om;rw[H]at this;cases this
 have an:c≠m+1:=fun r=>by have:=W r;rw[H]at this;cases this
 have aE:c≠m+3:=fun r=>by have:=g r;rw[N]at this;cases this
 have aw:=t X;rcases step ah d1 with⟨_,b⟩|⟨Q,aF,rfl,ao,K,v,B,y,d2⟩
 ·exfalso;have L:=b m om;have J:=b (m+1) om;simp only[H,T,Yq,beq_iff_eq]at L J;omega
 simp only[Yl,beq_eq_false_iff_ne]at K;have aH:=t K.1;rcases step y d2 with⟨_,b⟩|⟨k,al,rfl,aq,G,A,w,p,d3⟩
 ·exfalso;have L:=b m om;have J:=b (m+1) om;have V:=b (m+2) om;simp only[H,T,N,Yq,Yp,beq_iff_eq]at L J V;omega
 simp only[Yl,beq_eq_false_iff_ne]at G;have ar:=t G.1.1;rcases step p d3 with⟨_,b⟩|⟨i,am,rfl,d,E,aj,ak,q,d4⟩
 ·exfalso;have L:=b m om;have J:=b (m+1) om;have V:=b (m+2) om;have ae:=b (m+3) om;simp only[H,T,N,z,Yq,Yp,beq_iff_eq]at L J V ae;omega
 simp only[Yl,beq_eq_false_iff_ne]at E;have az:=t E.1.1.1;simp only[H,N,Yq,Yp,beq_iff_eq]at v B A w;have ac:=K.2;have ab:=G.2;have n:=G.1.2;have af:=E.2;have aa:=E.1.2;have u:=E.1.1.2;obtain⟨c,rfl⟩:∃F,c=m+F:=⟨c-m,om⟩;obtain⟨Q,rfl⟩:∃F,Q=m+F:=⟨Q-m,om⟩;obtain⟨k,rfl⟩:∃F,k=m+F:=⟨k-m,om⟩;obtain⟨i,rfl⟩:∃F,i=m+F:=⟨i-m,om⟩;have f:Q=1->c=0:=fun h=>by subst h;have:=v rfl;clear v B A w;omega
 have l:Q=3->c=2:=fun h=>by subst h;have:=B rfl;clear v B A w f;omega
 have o:k=1->c=0∨Q=0:=fun h=>by subst h;have:=A rfl;clear v B A w f l;omega
 have s:k=3->c=2∨Q=2:=fun h=>by subst h;have:=w rfl;clear v B A w f l o;omega
 clear v B A w;have f1:=four c (by clear f l o s;omega) Q (by clear f l o s;omega) k (by clear f l o s;omega) i (by clear f l o s;omega) (by clear f l o s;omega) (by clear f l o s;omega) (by clear f l o s;omega) f l (by clear f l o s;omega) (by clear f l o s;omega) o s (by clear f l o s;omega) (by clear f l o s;omega) (by clear f l o s;omega);clear f l o s;rcases step q d4 with⟨rfl,_⟩|⟨aJ,av,rfl,aC,C,_,_,_,_⟩
 ·rcases f1 with⟨rfl,rfl,rfl,rfl⟩|⟨rfl,rfl,rfl,rfl⟩|⟨rfl,rfl,rfl,rfl⟩|⟨rfl,rfl,rfl,rfl⟩|⟨rfl,rfl,rfl,rfl⟩|⟨rfl,rfl,rfl,rfl⟩
  ·exact .inl Z
  ·exact .inr (.inl Z)
  ·exact .inr (.inr (.inl Z))
  ·exact .inr (.inr (.inr (.inl Z)))
  ·exact .inr (.inr (.inr (.inr (.inl Z))))
  ·exact .inr (.inr (.inr (.inr (.inr Z))))
 ·exfalso;simp only[Yl,beq_eq_false_iff_ne]at C;have aA:=t C.1.1.1.1;have ay:=C.2;have aD:=C.1.2;have au:=C.1.1.2;have aB:=C.1.1.1.2;clear ac ab n af aa u;rcases f1 with⟨rfl,rfl,rfl,rfl⟩|⟨rfl,rfl,rfl,rfl⟩|⟨rfl,rfl,rfl,rfl⟩|⟨rfl,rfl,rfl,rfl⟩|⟨rfl,rfl,rfl,rfl⟩|⟨rfl,rfl,rfl,rfl⟩<;>omega
theorem z6{s:TypeId}{k:Nat}{st f:St}(b:gb C s e k st=some (.val z f))(c:St):gb C s e k c=some (.val z c):=by
 unfold gb at b⊢;split at b
 ·split at b
  ·split at b
   ·split at b
    ·obtain⟨rfl,rfl⟩:=dt b;rfl
    ·cases b
   ·cases b
  ·cases b
 ·cases b
theorem r2{t:Tr Value}{df:List Deferred}(b:q<d):hS d ⟨t,df⟩ (some q) e=some ⟨t.set q e,df⟩:=by
 unfold hS;simp only;rw[show Nat.blt q d=true by rw[Yz];exact b]
theorem Gg(P:mW C)(Q:CQ C)(R:ng C)(aR:iK ops bs m order){be aC f aD:Oper}(aQ:ops.toList.drop m=[be,aC,f,aD]){st aU:St}(r:FO C fc be aC f aD g i st=some (n,u,p,aU)) 
  {D:Nat->Bool} (aY:IR ops D a) (bH:Down ops D) (bJ:∀h,h<m->D h=true) (bB:∀h,m<=h->D h=false) (bt:js bs (m+1) m=true) (bk:js bs (m+3) (m+2)=true)
  {ρ:Ren} {w:World} {tm:Array Value} {df:List Deferred} (cs:List Frame) (k:List Item) (aK:dD w0 N0 G ρ st w) (q:k4 ρ fc g b tm df):
  n=.norm/\p=i/\∃y bn ao,ρ.le y/\dD w0 N0 G y aU bn/\k4 y fc u b ao df/\Steps C.P (lone (eW b tm df (.inRegion ops a::k)) cs w) (lone (eW b ao df (.inRegion ops []::k)) cs bn):=by
 have bg:ops.size=m+4:=by
  have:=congrArg YA aQ;simp at this;omega
 have aG:∀bE bu,[be,aC,f,aD][bE]?=some bu->ops[m+bE]?=some bu:=by
  intro bE bu r;rw[<-aQ,YC,Yo]at r;exact r
 have aE:ops[m]?=some be:=aG 0 be rfl;have ac:ops[m+1]?=some aC:=aG 1 aC rfl;have ae:ops[m+2]?=some f:=aG 2 f rfl;have ah:ops[m+3]?=some aD:=aG 3 aD rfl;have aI:=(aR.tail m be (Ys _) aE).2.1;have ai:=(aR.tail (m+1) aC om ac).2.1;have aJ:=(aR.tail (m+2) f om ae).2.1;have al:=(aR.tail (m+3) aD om ah).2.1;unfold FO at r;split at r
 ·rename_i E F t1 bY bV bX cb bU t2 bS ce ap an ak am ba bc aX aP;rw[Yl]at aP;split at r
  ·cases r
  rename_i aV;have aV:E≠F:=Yr aV;split at r
  ·rename_i z bQ cf aL bi;split at r
   ·rename_i H bM bf;split at r
    ·rename_i bL S;rw[Ym,Yz,Yz]at S;have bb:=qv aP.1 aP.2 aL (Yn bL);subst bb;split at r
     ·rename_i bx bA bv bK bz bI bh bp bo bl;split at r
      ·cases r
      rename_i bm;split at r
      ·rename_i cc bO ca bP aq ar;split at r
       ·rename_i bW bG aW;split at r
        ·cases r
        rename_i T;rw[Ym]at T;have:=q4 _ _ T.1;subst this;have aT:=qv aP.1 aP.2 aW (Yn T.2);subst aT;split at r
        ·rename_i bR bC cd bw aa ab;simp only[Option.some.injEq,Prod.mk.injEq]at r;obtain⟨rfl,rfl,rfl,rfl⟩:=r;have ad:=r1 bm (lh aq) (lh ar) (lh aa) (lh ab);refine⟨Z,Z,?_⟩;have aH:∀s,iX C (jq ⟨(g.tm.put F none).set E z,g.df⟩) aC s=ir C t1 (.pointer (some ⟨bx,bA,none⟩)) bv s:=by
          intro s;unfold iX;rw[ba];simp only;rw[bh,bp]
         have aN:∀s,iX C (jq ⟨(g.tm.put E none).set F H,g.df⟩) aD s=ir C t2 (.pointer (some ⟨bK,bz,none⟩)) bI s:=by
          intro s;unfold iX;rw[aX];simp only;rw[bo,bl]
         have aM:∀s,iX C (jq ⟨g.tm.put E none,g.df⟩) f s=some (.val H s):=by
          intro s;unfold iX;rw[bc];simp only;rw[bi];exact z6 bf s
         have bq:∀(t:Tr Value) (bN h:Nat) (j:Value),(t.put bN none).get h=some j->t.get h=some j:=by
          intro t bN h j c;rw[da]at c;split at c
          ·cases c
          ·exact c
         have aj:∀{y:Ren} {ao:Array Value},ρ.le y->gL y fc.nt ((g.tm.set E z).set F H) ao->k4 y fc ⟨(g.tm.set E z).set F H,g.df⟩ b ao df:=by
          intro y ao bj br;have aF:=q.mono bj;exact⟨aF.fn,aF.round,aF.kind,br,aF.df⟩
         have bD:gL ρ fc.nt g.tm tm:=q.tm;rcases Wl aR bg aY bH bJ bB bt bk with rfl|rfl|rfl|rfl|rfl|rfl
         ·obtain⟨av,ay,w1,x,W,X,K⟩:=eo (fc:=fc) (b:=b) (df:=df) (cs:=cs) (k:=k) (rest:=[m+1,m+2,m+3]) P Q R aE aI aL aK (gL.less (t:=g.tm) q.tm (fun h j c=>by
           simp only[da,cF]at c⊢;by_cases hid:h=E<;>by_cases o:h=F<;>simp_all))
          rw[ap]at K;have L:=(dW (fr:=⟨g.tm,g.df⟩) ((q.tm).mono x) X (r2 S.1)).1;obtain⟨aA,au,aS,A,V,T,J⟩:=eo (fc:=fc) (b:=b) (df:=df) (cs:=cs) (k:=k) (rest:=[m+2,m+3]) P Q R ac ai ((aH _).trans aq) W (gL.less (t:=(g.tm).set E z) L (fun h j c=>by
           simp only[da,cF]at c⊢;by_cases hid:h=E<;>by_cases o:h=F<;>simp_all))
          rw[an]at J;have M:=(L).mono A;obtain⟨ax,aB,aO,B,d,ag,I⟩:=eo (fc:=fc) (b:=b) (df:=df) (cs:=cs) (k:=k) (rest:=[m+3]) P Q R ae aJ (aM _) V (gL.less (t:=(g.tm).set E z) M (fun h j c=>by
           simp only[da,cF]at c⊢;by_cases hid:h=E<;>by_cases o:h=F<;>simp_all))
          rw[ak]at I;have N:=(dW (fr:=⟨(g.tm).set E z,g.df⟩) ((M).mono B) ag (r2 S.2)).1;obtain⟨Y,az,af,v,U,aw,O⟩:=eo (fc:=fc) (b:=b) (df:=df) (cs:=cs) (k:=k) (rest:=[]) P Q R ah al ((aN _).trans aa) d (gL.less (t:=((g.tm).set E z).set F H) N (fun h j c=>by
           simp only[da,cF]at c⊢;by_cases hid:h=E<;>by_cases o:h=F<;>simp_all))
          rw[am]at O;have e:=(N).mono v;exact⟨Y,af,_,((x.trans A).trans B).trans v,U,aj (((x.trans A).trans B).trans v) (gL.less (t:=((g.tm).set E z).set F H) e (fun h j c=>by
           simp only[da,cF]at c⊢;by_cases hid:h=E<;>by_cases o:h=F<;>simp_all)),((K.trans J).trans I).trans O⟩
         ·obtain⟨av,ay,w1,x,W,X,K⟩:=eo (fc:=fc) (b:=b) (df:=df) (cs:=cs) (k:=k) (rest:=[m+2,m+1,m+3]) P Q R aE aI aL aK (gL.less (t:=g.tm) q.tm (fun h j c=>by
           simp only[da,cF]at c⊢;by_cases hid:h=E<;>by_cases o:h=F<;>simp_all))
          rw[ap]at K;have L:=(dW (fr:=⟨g.tm,g.df⟩) ((q.tm).mono x) X (r2 S.1)).1;obtain⟨aA,au,aS,A,V,T,J⟩:=eo (fc:=fc) (b:=b) (df:=df) (cs:=cs) (k:=k) (rest:=[m+1,m+3]) P Q R ae aJ (aM _) W (gL.less (t:=(g.tm).set E z) L (fun h j c=>by
           simp only[da,cF]at c⊢;by_cases hid:h=E<;>by_cases o:h=F<;>simp_all))
          rw[ak]at J;have M:=(dW (fr:=⟨(g.tm).set E z,g.df⟩) ((L).mono A) T (r2 S.2)).1;obtain⟨ax,aB,aO,B,d,ag,I⟩:=eo (fc:=fc) (b:=b) (df:=df) (cs:=cs) (k:=k) (rest:=[m+3]) P Q R ac ai ((aH _).trans aq) V (gL.less (t:=((g.tm).set E z).set F H) M (fun h j c=>by
           simp only[da,cF]at c⊢;by_cases hid:h=E<;>by_cases o:h=F<;>simp_all))
          rw[an]at I;have N:=(M).mono B;obtain⟨Y,az,af,v,U,aw,O⟩:=eo (fc:=fc) (b:=b) (df:=df) (cs:=cs) (k:=k) (rest:=[]) P Q R ah al ((aN _).trans aa) d (gL.less (t:=((g.tm).set E z).set F H) N (fun h j c=>by
           simp only[da,cF]at c⊢;by_cases hid:h=E<;>by_cases o:h=F<;>simp_all))
          rw[am]at O;have e:=(N).mono v;exact⟨Y,af,_,((x.trans A).trans B).trans v,U,aj (((x.trans A).trans B).trans v) (gL.less (t:=((g.tm).set E z).set F H) e (fun h j c=>by
           simp only[da,cF]at c⊢;by_cases hid:h=E<;>by_cases o:h=F<;>simp_all)),((K.trans J).trans I).trans O⟩
         ·obtain⟨av,ay,w1,x,W,X,K⟩:=eo (fc:=fc) (b:=b) (df:=df) (cs:=cs) (k:=k) (rest:=[m+2,m+3,m+1]) P Q R aE aI aL aK (gL.less (t:=g.tm) q.tm (fun h j c=>by
           simp only[da,cF]at c⊢;by_cases hid:h=E<;>by_cases o:h=F<;>simp_all))
          rw[ap]at K;have L:=(dW (fr:=⟨g.tm,g.df⟩) ((q.tm).mono x) X (r2 S.1)).1;obtain⟨aA,au,aS,A,V,T,J⟩:=eo (fc:=fc) (b:=b) (df:=df) (cs:=cs) (k:=k) (rest:=[m+3,m+1]) P Q R ae aJ (aM _) W (gL.less (t:=(g.tm).set E z) L (fun h j c=>by
           simp only[da,cF]at c⊢;by_cases hid:h=E<;>by_cases o:h=F<;>simp_all))
          rw[ak]at J;have M:=(dW (fr:=⟨(g.tm).set E z,g.df⟩) ((L).mono A) T (r2 S.2)).1;obtain⟨ax,aB,aO,B,d,ag,I⟩:=eo (fc:=fc) (b:=b) (df:=df) (cs:=cs) (k:=k) (rest:=[m+1]) P Q R ah al ((aN _).trans ar) V (gL.less (t:=((g.tm).set E z).set F H) M (fun h j c=>by
           simp only[da,cF]at c⊢;by_cases hid:h=E<;>by_cases o:h=F<;>simp_all))
          rw[am]at I;have N:=(M).mono B;obtain⟨Y,az,af,v,U,aw,O⟩:=eo (fc:=fc) (b:=b) (df:=df) (cs:=cs) (k:=k) (rest:=[]) P Q R ac ai ((aH _).trans ab) d (gL.less (t:=((g.tm).set E z).set F H) N (fun h j c=>by
           simp only[da,cF]at c⊢;by_cases hid:h=E<;>by_cases o:h=F<;>simp_all))
          rw[an]at O;have e:=(N).mono v;exact⟨Y,af,_,((x.trans A).trans B).trans v,U.alike ad,aj (((x.trans A).trans B).trans v) (gL.less (t:=((g.tm).set E z).set F H) e (fun h j c=>by
           simp only[da,cF]at c⊢;by_cases hid:h=E<;>by_cases o:h=F<;>simp_all)),((K.trans J).trans I).trans O⟩
         ·obtain⟨av,ay,w1,x,W,X,K⟩:=eo (fc:=fc) (b:=b) (df:=df) (cs:=cs) (k:=k) (rest:=[m,m+1,m+3]) P Q R ae aJ (aM _) aK (gL.less (t:=g.tm) q.tm (fun h j c=>by
           simp only[da,cF]at c⊢;by_cases hid:h=E<;>by_cases o:h=F<;>simp_all))
          rw[ak]at K;have L:=(dW (fr:=⟨g.tm,g.df⟩) ((q.tm).mono x) X (r2 S.2)).1;obtain⟨aA,au,aS,A,V,T,J⟩:=eo (fc:=fc) (b:=b) (df:=df) (cs:=cs) (k:=k) (rest:=[m+1,m+3]) P Q R aE aI aL W (gL.less (t:=(g.tm).set F H) L (fun h j c=>by
           simp only[da,cF]at c⊢;by_cases hid:h=E<;>by_cases o:h=F<;>simp_all))
          rw[ap]at J;have M:=(dW (fr:=⟨(g.tm).set F H,g.df⟩) ((L).mono A) T (r2 S.1)).1;obtain⟨ax,aB,aO,B,d,ag,I⟩:=eo (fc:=fc) (b:=b) (df:=df) (cs:=cs) (k:=k) (rest:=[m+3]) P Q R ac ai ((aH _).trans aq) V (gL.less (t:=((g.tm).set F H).set E z) M (fun h j c=>by
           simp only[da,cF]at c⊢;by_cases hid:h=E<;>by_cases o:h=F<;>simp_all))
          rw[an]at I;have N:=(M).mono B;obtain⟨Y,az,af,v,U,aw,O⟩:=eo (fc:=fc) (b:=b) (df:=df) (cs:=cs) (k:=k) (rest:=[]) P Q R ah al ((aN _).trans aa) d (gL.less (t:=((g.tm).set F H).set E z) N (fun h j c=>by
           simp only[da,cF]at c⊢;by_cases hid:h=E<;>by_cases o:h=F<;>simp_all))
          rw[am]at O;have e:=(N).mono v;exact⟨Y,af,_,((x.trans A).trans B).trans v,U,aj (((x.trans A).trans B).trans v) (gL.less (t:=((g.tm).set F H).set E z) e (fun h j c=>by
           simp only[da,cF]at c⊢;by_cases hid:h=E<;>by_cases o:h=F<;>simp_all)),((K.trans J).trans I).trans O⟩
         ·obtain⟨av,ay,w1,x,W,X,K⟩:=eo (fc:=fc) (b:=b) (df:=df) (cs:=cs) (k:=k) (rest:=[m,m+3,m+1]) P Q R ae aJ (aM _) aK (gL.less (t:=g.tm) q.tm (fun h j c=>by
           simp only[da,cF]at c⊢;by_cases hid:h=E<;>by_cases o:h=F<;>simp_all))
          rw[ak]at K;have L:=(dW (fr:=⟨g.tm,g.df⟩) ((q.tm).mono x) X (r2 S.2)).1;obtain⟨aA,au,aS,A,V,T,J⟩:=eo (fc:=fc) (b:=b) (df:=df) (cs:=cs) (k:=k) (rest:=[m+3,m+1]) P Q R aE aI aL W (gL.less (t:=(g.tm).set F H) L (fun h j c=>by
           simp only[da,cF]at c⊢;by_cases hid:h=E<;>by_cases o:h=F<;>simp_all))
          rw[ap]at J;have M:=(dW (fr:=⟨(g.tm).set F H,g.df⟩) ((L).mono A) T (r2 S.1)).1;obtain⟨ax,aB,aO,B,d,ag,I⟩:=eo (fc:=fc) (b:=b) (df:=df) (cs:=cs) (k:=k) (rest:=[m+1]) P Q R ah al ((aN _).trans ar) V (gL.less (t:=((g.tm).set F H).set E z) M (fun h j c=>by
           simp only[da,cF]at c⊢;by_cases hid:h=E<;>by_cases o:h=F<;>simp_all))
          rw[am]at I;have N:=(M).mono B;obtain⟨Y,az,af,v,U,aw,O⟩:=eo (fc:=fc) (b:=b) (df:=df) (cs:=cs) (k:=k) (rest:=[]) P Q R ac ai ((aH _).trans ab) d (gL.less (t:=((g.tm).set F H).set E z) N (fun h j c=>by
           simp only[da,cF]at c⊢;by_cases hid:h=E<;>by_cases o:h=F<;>simp_all))
          rw[an]at O;have e:=(N).mono v;exact⟨Y,af,_,((x.trans A).trans B).trans v,U.alike ad,aj (((x.trans A).trans B).trans v) (gL.less (t:=((g.tm).set F H).set E z) e (fun h j c=>by
           simp only[da,cF]at c⊢;by_cases hid:h=E<;>by_cases o:h=F<;>simp_all)),((K.trans J).trans I).trans O⟩
         ·obtain⟨av,ay,w1,x,W,X,K⟩:=eo (fc:=fc) (b:=b) (df:=df) (cs:=cs) (k:=k) (rest:=[m+3,m,m+1]) P Q R ae aJ (aM _) aK (gL.less (t:=g.tm) q.tm (fun h j c=>by
           simp only[da,cF]at c⊢;by_cases hid:h=E<;>by_cases o:h=F<;>simp_all))
          rw[ak]at K;have L:=(dW (fr:=⟨g.tm,g.df⟩) ((q.tm).mono x) X (r2 S.2)).1;obtain⟨aA,au,aS,A,V,T,J⟩:=eo (fc:=fc) (b:=b) (df:=df) (cs:=cs) (k:=k) (rest:=[m,m+1]) P Q R ah al ((aN _).trans ar) W (gL.less (t:=(g.tm).set F H) L (fun h j c=>by
           simp only[da,cF]at c⊢;by_cases hid:h=E<;>by_cases o:h=F<;>simp_all))
          rw[am]at J;have M:=(L).mono A;obtain⟨ax,aB,aO,B,d,ag,I⟩:=eo (fc:=fc) (b:=b) (df:=df) (cs:=cs) (k:=k) (rest:=[m+1]) P Q R aE aI aW V (gL.less (t:=(g.tm).set F H) M (fun h j c=>by
           simp only[da,cF]at c⊢;by_cases hid:h=E<;>by_cases o:h=F<;>simp_all))
          rw[ap]at I;have N:=(dW (fr:=⟨(g.tm).set F H,g.df⟩) ((M).mono B) ag (r2 S.1)).1;obtain⟨Y,az,af,v,U,aw,O⟩:=eo (fc:=fc) (b:=b) (df:=df) (cs:=cs) (k:=k) (rest:=[]) P Q R ac ai ((aH _).trans ab) d (gL.less (t:=((g.tm).set F H).set E z) N (fun h j c=>by
           simp only[da,cF]at c⊢;by_cases hid:h=E<;>by_cases o:h=F<;>simp_all))
          rw[an]at O;have e:=(N).mono v;exact⟨Y,af,_,((x.trans A).trans B).trans v,U.alike ad,aj (((x.trans A).trans B).trans v) (gL.less (t:=((g.tm).set F H).set E z) e (fun h j c=>by
           simp only[da,cF]at c⊢;by_cases hid:h=E<;>by_cases o:h=F<;>simp_all)),((K.trans J).trans I).trans O⟩
        ·cases r
       ·cases r
      ·cases r
     ·cases r
    ·cases r
   ·cases r
  ·cases r
 ·cases r
end
section
variable{C:eD} {w0:World} {N0:Nat} {G:Nat->Prop} {fc:FC} {b:FB} {rc:Rec}
theorem ii.of_steps{ρ c:Ren}{x B:Machine}{k:List Item}{w o h:eT}{cs l:List Frame}{N:Ex}{m:Fr}{f:St}(F:ρ.le c)(D:oH w o cs l)(v:Steps C.P x B)(O:ii C w0 N0 G c fc B b k o l N m h f):ii C w0 N0 G ρ fc x b k w cs N m h f:=by
 obtain⟨s,H,t,E,A,I,K,M,J,L⟩:=O;exact⟨s,H,t,E,A,F.trans I,K,M,D.trans J,.of_steps v L⟩
theorem DR(N:mW C)(O:CQ C)(Q:ng C)(q:C.P.follows .mixedOrders=true)(ar:∀G,uM C w0 N0 G rc){id:Nat}{ops:Array Oper}(M:r=true->Dx ops.toList=true){st o:St}(c:region C rc fc ops r g i st=some (n,u,p,o)) 
  {ρ:Ren} {w:World} {tm:Array Value} {df:List Deferred} {cs:List Frame} (k:List Item) (al:dD w0 N0 G ρ st w) (ai:k4 ρ fc g b tm df) (ao:sM ρ fc.BG i cs):
  ii C w0 N0 G ρ fc (lone (eW b tm df (.code (.region id ops r)::k)) cs w) b k i cs n u p o:=by
 cases r with
 |false=>
  have:=DK (fc:=fc) (b:=b) N O Q (ar G) (ops:=ops) k ops.toList 0 g i st ρ w tm df cs n u p o rfl c al ai ao;exact .of_steps (Ren.le_refl _) (.refl _ _) (.one LU) this
 |true=>
  have x:=Ga (M rfl);unfold region at c;simp only at c;have d:=DL (ops:=ops) x.back (w.tape w.drawn (.order b.fn id));have f:=zW (P:=C.P) (b:=b) (tm:=tm) (df:=df) (k:=k) (cs:=cs) (w:=w) (id:=id) (ops:=ops);rw[q]at f;have a:Inv w0 N0 G ops (qs ops.toList).bs (qs ops.toList).m fc b (fun _=>false) [] 0 [] g i st ρ {w with drawn:=w.drawn+1} tm df cs:=by
   refine⟨⟨fun A c=>by simp at c,fun A aH c=>by simp at c⟩,fun A c=>by simp at c,fun A c=>by simp at c,fun A c=>by simp at c,fun aK c=>by simp at c,fun A au aE X c=>by simp at c,fun A au aE X aN aL aF c=>by simp at c,fun aJ c=>by simp at c,fun aJ c=>by simp at c,fun A au aE X c=>by simp at c,?_,?_,ao⟩
   ·refine(al.drewN _).uO ?_;rintro n (av|⟨aK,au,X,E,_⟩)
    ·exact av
    ·simp at E
   ·have:nK g (gu ops (fun _=>false) [])=g:=rfl;rw[this];exact ai
  cases J:fy C rc fc ops.toList (qs ops.toList).bs (qs ops.toList).order 0 [] g i st with
  |none=>rw[J]at c;cases c
  |some U=>
   have l:=IW (C:=C) (rc:=rc) N O Q ar x k d [] (qs ops.toList).order 0 [] g i st ρ _ tm df cs U rfl J (fun _ _=>rfl) a;rw[J]at c;obtain⟨R,V,T,W⟩:=U;have h:(∀aA,R=aA->aA≠.norm->some (R,V,T,W)=some (n,u,p,o)->ii C w0 N0 G ρ fc (lone (eW b tm df (.inRegion ops (Region.schedule true ops (w.tape w.drawn (.order b.fn id)))::k)) cs {w with drawn:=w.drawn+1}) b k i cs R V T W->ii C w0 N0 G ρ fc (lone (eW b tm df (.code (.region id ops true)::k)) cs w) b k i cs n u p o):=by
    intro aA _ _ am aw;cases am;exact .of_steps (Ren.le_refl _) (.refl _ _) (.one f) aw
   cases R with
   |exit A=>exact h _ rfl (by intro af;cases af) c l
   |ret=>exact h _ rfl (by intro af;cases af) c l
   |panic au=>exact h _ rfl (by intro af;cases af) c l
   |norm=>
    obtain⟨aM,ay,ah,aC,an,K,m,aa,ak,Y,y,e,ac,ab,z,aq⟩:=l;simp only at c;split at c
    ·rename_i E;have E:=Yn E;simp only[Option.some.injEq,Prod.mk.injEq]at c;obtain⟨rfl,rfl,rfl,rfl⟩:=c;have az:ay=[]:=by
      cases aa with
      |nil _=>rfl
      |@cons _ A aP aH ae ap am aQ=>
       exfalso;have ag:A<ops.size:=by
        rcases Yv A ops.size with j|j
        ·exact j
        ·rw[Yu j]at ae;cases ae
       rw[Y A (by rw[E];simpa using ag)]at ap;cases ap
     subst az;exact⟨ah,aC,an,K,m,y,e,ac,ab,(Steps.head f z).trans (.one mX)⟩
    ·split at c
     ·rename_i aG aB aD ax v L;split at c
      ·rename_i t;obtain⟨rfl,rfl,H,ad,I,s,B,F,D⟩:=Ge (C:=C) N O Q x v c aa ak Y aq (by unfold js;rw[L];exact t) m k e ac;exact⟨H,ad,I,K,m,y.trans s,B,F,ab,(Steps.head f (z.trans D)).trans (.one mX)⟩
      ·cases c
     ·rename_i aG aB aO aD ax v L;split at c
      ·rename_i aI t aj;split at c
       ·rename_i S;obtain⟨rfl,rfl,H,ad,I,s,B,F,D⟩:=Gg (C:=C) N O Q x v c aa ak Y aq (by unfold js;rw[L];exact t) (by unfold js;rw[aj];exact S) m k e ac;exact⟨H,ad,I,K,m,y.trans s,B,F,ab,(Steps.head f (z.trans D)).trans (.one mX)⟩
       ·cases c
      ·cases c
     ·cases c
end
def Gh:gz->Bool
 |.cells .. =>false
 |.dead=>false
 |_=>true
section
variable{w0:World} {N0:Nat} {G:Nat->Prop} {ρ:Ren} {st:St} {w:World}
theorem dD.vZ(v:dD w0 N0 G ρ st w){l:Loc}{o o2:gz}{co:Obj}(t:ρ d=some l)(Q:st.get d=some o)(Y:Gh o=true)(T:Gh o2=true)(a:vO ρ l o2 (some co)):
  dD w0 N0 G ρ (st.put d o2) {w with heap:=w.heap.setIfInBounds l.b co}:=by
 have J:=v.vH _ _ t;have m:∀k,k≠l.b->(w.heap.setIfInBounds l.b co)[k]?=w.heap[k]?:=fun k R=>Yx (fun x=>R x.symm);have D:(w.heap.setIfInBounds l.b co)[l.b]?=some co:=Yw J.2.2;have s:∀S K F,ρ S=some K->(st.put d o2).get S=some F->K.b=l.b->S=d∨F=.dead:=by
  intro S K F e I f;by_cases A:S=d
  ·exact .inl A
  ·rw[de,if_neg A]at I;have:=v.sep _ _ _ _ _ _ t e f.symm Q I (fun x=>A x.symm);cases o<;>cases F<;>first|exact .inr rfl|exact this.elim|cases Y
 refine⟨⟨fun b o c=>?_,fun b p x j n c=>?_,v.wf.Kz⟩,?_,by simpa using v.CM,v.Io,fun b B c=>by have:=v.vH b B c;exact⟨this.1,this.2.1,by simpa using this.2.2⟩,fun b B o c h=>?_,fun b W g i X o2 E C P N L H=>?_⟩
 ·rw[de]at c;split at c
  ·rename_i x;subst x;exact v.wf.lt _ _ Q
  ·exact v.wf.lt _ _ c
 ·rw[de]at c;split at c
  ·cases c;cases T
  ·exact v.wf.en _ _ _ _ _ c
 ·exact v.below.trans ⟨Z,Z,Z,by simp,fun k R=>m k om⟩
 ·show vO ρ B o (w.heap.setIfInBounds l.b co)[B.b]?;by_cases f:B.b=l.b
  ·rcases s _ _ _ c h f with rfl|rfl
   ·rw[de,if_pos rfl]at h;cases h;rw[t]at c;cases c;rw[D];exact a
   ·trivial
  ·rw[m _ f];rw[de]at h;split at h
   ·rename_i x;subst x;rw[t]at c;cases c;exact absurd rfl f
   ·exact v.obj _ _ _ c h
 ·by_cases f:g.b=l.b
  ·rcases s _ _ _ E N f with O|O
   ·rcases s _ _ _ C L (P▸f)with M|M
    ·exact absurd (O.trans M.symm) H
    ·subst M;cases X<;>trivial
   ·subst O;cases o2<;>trivial
  ·have V:b≠d:=fun x=>by subst x;rw[t]at E;cases E;exact f rfl
   have U:W≠d:=fun x=>by subst x;rw[t]at C;cases C;exact f P
   rw[de,if_neg V]at N;rw[de,if_neg U]at L;exact v.sep _ _ _ _ _ _ E C P N L H
end
section
variable{P:Program} {b:FB} {tm:Array Value} {df:List Deferred} {k:List Item} {cs:List Frame} {w:World}
theorem DS{f:Operand}{m:Array Tmp}{h s:Code}{l:Nat}{mark:List Deferred}{w1:World}{t:FuncId}{first c:Array Value}(B:BH tm f=.func (.func t) first c) 
  (v:(Instr.enterLoop b.fn tm m h s b.round).run P w=.ok (l,mark) w1) (C:(callFunc t (first++ #[.func (.yield l) #[] #[]]++c)).run P w1=.ok (.enter t (first++ #[.func (.yield l) #[] #[]]++c)) w1):
  step P (lone (eW b tm df (.code (.rangeFunc f m h s)::k)) cs w)=
   .next (lone (Frame.enter P t (first++ #[.func (.yield l) #[] #[]]++c) .normal) (eW b tm (mark++df) (.inRangeFunc l::k)::cs) w1):=by
 refine step_lone_go ?_;have x:=zV b tm (mark++df) (.inRangeFunc l::k);have o:(do let D<-resolve (eW b tm (mark++df) (.inRangeFunc l::k)).eval {callee:=.value f,args:= #[.const (.func (.yield l) #[] #[])],argTypes:= #[]} 0;invoke D.target D.args:Sem Next).run P w1=.ok (.enter t (first++ #[.func (.yield l) #[] #[]]++c)) w1:=by
  rw[x];unfold resolve;have A:Array.map (BH tm) #[.const (.func (.yield l) #[] #[])]= #[.func (.yield l) #[] #[]]:=by simp[BH]
  simp only[B,A];exact C
 simp only[eW]at o v⊢;simp[stepG,stepG.exec,Sem.runT_eq,v,stepG.apply,o]
theorem Gi{l:Nat}{c:Option Code}{w1:World}(f:(Instr.endLoop l).run P w=.ok c w1):
  step P (lone (eW b tm df (.endRangeFunc l::k)) cs w)=.next (lone (eW b tm df ((c.map Item.code).toList++k)) cs w1):=
 step_lone_go (by simp[stepG,stepG.exec,eW,Sem.runT_eq,f])
end
section
variable{C:eD} {w0:World} {N0:Nat} {G:Nat->Prop} {fc:FC} {b:FB} {rc:Rec}
theorem xF{ρ:Ren}{st E:St}{w:World}{tm:Array Value}{df:List Deferred}{params:Array Tmp}{assign body:Code}{l:Nat}(H:codeOk assign=true/\codeOk body=true)(I:oE fc g params.toList assign body st=some (l,u,E))(B:dD w0 N0 G ρ st w)(s:k4 ρ fc g b tm df):
  ∃x w1 A mark,ρ.le x/\dD w0 N0 G x E w1/\x l=some A/\(Instr.enterLoop b.fn tm params assign body b.round).run C.P w=.ok (A.b,mark) w1/\k4 x fc u b tm (mark++df):=by
 unfold oE at I;split at I
 ·rename_i W h;split at I
  ·rename_i T P;simp only[Option.some.injEq,Prod.mk.injEq]at I;obtain⟨rfl,rfl,rfl⟩:=I;have t:=s.round;rw[h]at t;obtain⟨v,Q,M⟩:=t;obtain⟨V,O,S⟩:=B.obj _ _ _ Q P;have k:=B.ie
   let A:Loc:=⟨w.heap.size,0,0,0⟩
   have c:=e1 (l:=A) k;obtain⟨U,N,R⟩:=S.defers;refine⟨ρ.add st.n A,_,A,[],c,B.new (l:=A) (o:=.loop {state:=.ready,pending:=none,fn:=fc.fn,tm:=g.tm,nt:=fc.nt,params:=params.toList,assign,body,defers:=T.defers}) (co:=.loop {state:=.ready,pending:=none,fn:=b.fn,tmps:=tm,params,assign,body,defers:=V.defers}) Z trivial ?_,dr _ _ _,?_,?_⟩
   ·exact⟨_,Z,Z,Z,s.fn,s.tm.mono c,Z,Z,Z,⟨U,c _ _ N,R⟩,H⟩
   ·rw[M];exact run_enterLoop_inner O _ _ _ _ _
   ·exact s.mono c
  ·cases I
 ·rename_i h;simp only[Option.some.injEq,Prod.mk.injEq]at I;obtain⟨rfl,rfl,rfl⟩:=I;have t:=s.round;rw[h]at t;have k:=B.ie
  let v:Loc:=⟨w.heap.size,0,0,0⟩
  have c:=e1 (l:=v) k;have F:=B.new (l:=v) (o:=.fg false) (co:=.deferred (some [])) rfl trivial rfl;have D:=F.ie
  let A:Loc:=⟨w.heap.size+1,0,0,0⟩
  have f:=e1 (l:=A) D;have J:((ρ.add st.n v).add (st.new (.fg false)).n A) st.n=some v:=f _ _ (dr _ _ _);have L:=F.new (l:=A) (o:=.loop {state:=.ready,pending:=none,fn:=fc.fn,tm:=g.tm,nt:=fc.nt,params:=params.toList,assign,body,defers:=st.n}) (co:=.loop {state:=.ready,pending:=none,fn:=b.fn,tmps:=tm,params,assign,body,defers:=w.heap.size}) (by simp[A]) trivial
   ⟨_,rfl,rfl,rfl,s.fn,s.tm.mono (c.trans f),rfl,rfl,rfl,⟨v,J,rfl⟩,H⟩
  refine⟨_,_,A,[{target:=.collected w.heap.size,args:= #[]}],c.trans f,L,dr _ _ _,?_,?_⟩
  ·have K:b.round=none:=t;rw[K];exact run_enterLoop_outer _ _ _ _ _
  ·have m:=s.mono (c.trans f);exact⟨m.fn,m.round,m.kind,m.tm,⟨⟨⟨v,J,Z⟩,.nil⟩,m.df⟩⟩
theorem KI.pass{P:Program}{m:Machine}{ρ:Ren}{k k':List Item}{tm:Array Value}{df:List Deferred}{cs:List Frame}{w:World}(l:n≠.norm)(f:∀id,n=.exit id->exitTo id k'=exitTo id k)(h:KI P m ρ b k' tm df cs w n):KI P m ρ b k tm df cs w n:=by
 cases n with
 |norm=>exact absurd rfl l
 |exit id=>obtain⟨c,s,o⟩:=h;exact⟨c,s,o.trans (f id rfl)⟩
 |ret=>exact h
 |panic t=>exact h
theorem ii.pass{ρ:Ren}{m:Machine}{k k':List Item}{t f:eT}{cs:List Frame}{w:Ex}{h:Fr}{c:St}(B:w≠.norm)(D:∀id,w=.exit id->exitTo id k'=exitTo id k)(J:ii C w0 N0 G ρ fc m b k' t cs w h f c):ii C w0 N0 G ρ fc m b k t cs w h f c:=by
 obtain⟨o,A,s,v,l,F,I,E,H,x⟩:=J;exact⟨o,A,s,v,l,F,I,E,H,x.pass B D⟩
theorem IY{ρ:Ren}{c:Code}{k:List Item}{tm:Array Value}{df:List Deferred}{w:World}{cs:List Frame}{A:St}(U:ii C w0 N0 G ρ fc (lone (eW b tm df (.code (.loop c)::k)) cs w) b k i cs n g p A):
  ii C w0 N0 G ρ fc (lone (eW b tm df (.inLoop c::k)) cs w) b k i cs n g p A:=by
 have l:∀m,Steps C.P (lone (eW b tm df (.code (.loop c)::k)) cs w) m->m≠lone (eW b tm df (.code (.loop c)::k)) cs w->Steps C.P (lone (eW b tm df (.inLoop c::k)) cs w) m:=by
  rintro m ⟨R,v⟩ E;cases R with
  |zero=>simp[runN]at v;exact absurd v.symm E
  |succ R=>
   simp only[runN,KH]at v;exact .head LS ⟨R,v⟩
 have h:∀{N D:Frame} {B x:List Frame} {w1 K:World},lone N B w1=lone D x K->N=D:=by
  intro N D B x w1 K f;simp[lone]at f;exact f.2.1
 obtain⟨F,L,H,J,I,O,Q,S,P,t⟩:=U;refine⟨F,L,H,J,I,O,Q,S,P,?_⟩;cases n with
 |norm=>
  refine l _ t fun f=>?_;have:=congrArg Frame.todo (h f);simp only[eW]at this;exact absurd (congrArg YA this) sm
 |exit id=>
  obtain⟨o,s,V⟩:=t;refine⟨o,l _ s fun f=>?_,V⟩;have:=congrArg Frame.todo (h f);simp[eW]at this
 |ret=>
  obtain⟨o,s⟩:=t;refine⟨o,l _ s fun f=>?_⟩;have:=congrArg Frame.todo (h f);simp[eW]at this
 |panic W=>
  obtain⟨o,M,T,s⟩:=t;refine⟨o,M,T,l _ s fun f=>?_⟩;have:=congrArg Frame.mode (h f);simp[eW]at this
end
section
variable{C:eD} {w0:World} {N0:Nat} {G:Nat->Prop} {fc:FC} {b:FB} {rc:Rec}
theorem q6(bb:mW C)(aP:CQ C)(be:ng C)(aD:C.P.follows .mixedOrders=true)(aK:∀G,uM C w0 N0 G rc):∀(aa:Code) (v:Fr) (t:eT) (st:St) (g:Ex) (m:Fr) (l:eT) (h:St),
  code C rc fc aa v t st=some (g,m,l,h)->codeOk aa=true->∀(ρ:Ren) (w:World) (tm:Array Value) (df:List Deferred) (cs:List Frame) (k:List Item),dD w0 N0 G ρ st w->k4 ρ fc v b tm df->sM ρ fc.BG t cs->
  ii C w0 N0 G ρ fc (lone (eW b tm df (.code aa::k)) cs w) b k t cs g m l h:=by
 intro aa;induction aa with
 |skip=>
  intro v t st g m l h c f ρ w tm df cs k x s B;simp only[code,Option.some.injEq,Prod.mk.injEq]at c;obtain⟨rfl,rfl,rfl,rfl⟩:=c;exact⟨ρ,w,tm,df,cs,Ren.le_refl _,x,s,.refl _ _,.one Qx⟩
 |region id ops bf=>
  intro v t st g m l h c f ρ w tm df cs k x s B;simp only[code]at c;refine DR bb aP be aD aK (fun bi=>?_) c k x s B;subst bi;exact f
 |seq af b O ah=>
  intro v t st g m l h c f ρ w tm df cs k x s B;simp only[codeOk,Ym]at f;simp only[code]at c;cases S:code C rc fc af v t st with
  |none=>rw[S]at c;cases c
  |some aE=>
   obtain⟨e,X,z,Y⟩:=aE;have A:=O _ _ _ _ _ _ _ S f.1 ρ w tm df cs (.code b::k) x s B;have A:=A.of_steps (Ren.le_refl _) (.refl _ _) (.one (SZ (P:=C.P) (x:=af) (y:=b) (k:=k)));rw[S]at c;by_cases r:e=.norm
   ·subst r;obtain⟨D,w1,Q,T,M,o,E,I,H,L⟩:=A;exact .of_steps o H L (ah _ _ _ _ _ _ _ c f.2 D w1 Q T M k E I ((B.mono o).step H))
   ·have R:some (e,X,z,Y)=some (g,m,l,h):=by
     cases e with
     |norm=>exact absurd rfl r
     |_=>exact c
    cases R;exact ii.pass (k':=.code b::k) r (fun _ _=>Z) A
 |cond aa af b O ah=>
  intro v t st g m l h c f ρ w tm df cs k x s B;simp only[codeOk,Ym]at f;simp only[code]at c;split at c
  ·rename_i u;have W:=oI s.tm aa _ u;generalize n:BH tm aa=ad at W;cases W;exact .of_steps (Ren.le_refl _) (.refl _ _) (.one (KG n)) (O _ _ _ _ _ _ _ c f.1 ρ w tm df cs k x s B)
  ·rename_i u;have W:=oI s.tm aa _ u;generalize n:BH tm aa=ad at W;cases W;exact .of_steps (Ren.le_refl _) (.refl _ _) (.one (KG n)) (ah _ _ _ _ _ _ _ c f.2 ρ w tm df cs k x s B)
  ·cases c
 |block id af O=>
  intro v t st g m l h c f ρ w tm df cs k x s B;simp only[codeOk]at f;simp only[code]at c;cases S:code C rc fc af v t st with
  |none=>rw[S]at c;cases c
  |some aE=>
   obtain⟨e,X,z,Y⟩:=aE;have A:=O _ _ _ _ _ _ _ S f ρ w tm df cs (.inBlock id::k) x s B;have A:=A.of_steps (Ren.le_refl _) (.refl _ _) (.one (NY (P:=C.P) (id:=id) (c:=af) (k:=k)));rw[S]at c;cases e with
   |norm=>
    cases c;obtain⟨D,w1,Q,T,M,o,E,I,H,L⟩:=A;exact⟨D,w1,Q,T,M,o,E,I,H,L.trans (.one IQ)⟩
   |exit au=>
    simp only at c;split at c
    ·rename_i hid;have hid:=Yn hid;subst hid;cases c;obtain⟨D,w1,Q,T,M,o,E,I,H,bj,L,ba⟩:=A;have aM:exitTo au bj=some k:=by rw[ba];simp[exitTo]
     exact⟨D,w1,Q,T,M,o,E,I,H,L.trans (.one (Qy aM))⟩
    ·rename_i hid;cases c;refine A.pass (by intro aB;cases aB) fun bm am=>?_;cases am;have:=Yr hid;simp only[exitTo];rw[if_neg (by simpa using fun aB:id=au=>this aB.symm)]
   |ret=>cases c;exact A.pass (by intro aB;cases aB) fun bm am=>by cases am
   |panic bp=>cases c;exact A.pass (by intro aB;cases aB) fun bm am=>by cases am
 |loop af O=>
  intro v t st g m l h c f ρ w tm df cs k x s B;simp only[codeOk]at f;simp only[code]at c;cases S:code C rc fc af v t st with
  |none=>rw[S]at c;cases c
  |some aE=>
   obtain⟨e,X,z,Y⟩:=aE;have A:=O _ _ _ _ _ _ _ S f ρ w tm df cs (.inLoop af::k) x s B;have A:=A.of_steps (Ren.le_refl _) (.refl _ _) (.one (KH (P:=C.P) (c:=af) (k:=k)));rw[S]at c;by_cases r:e=.norm
   ·subst r;obtain⟨D,w1,Q,T,M,o,E,I,H,L⟩:=A;exact .of_steps o H L (IY ((aK G).code _ _ _ _ _ _ _ _ _ c f D w1 b Q T M k E I ((B.mono o).step H)))
   ·have R:some (e,X,z,Y)=some (g,m,l,h):=by
     cases e with
     |norm=>exact absurd rfl r
     |_=>exact c
    cases R;exact ii.pass (k':=.inLoop af::k) r (fun _ _=>Z) A
 |rangeFunc bk aR aN bg _ _=>
  intro v t st g m l h c f ρ w tm df cs k x s B;simp only[codeOk,Ym]at f;simp only[code]at c;split at c
  ·rename_i bq first U bh X Y aX aG
   split at c
   ·cases c
   ·rename_i br aW;have W:=oI s.tm bk _ aX;generalize n:BH tm bk=ad at W;cases W with
    |@func _ _ p _ K aj ap=>
    obtain⟨D,w1,ax,mark,o,E,aU,aH,I⟩:=xF (C:=C) f aG x s;have ai:=DS (P:=C.P) (df:=df) (k:=k) (cs:=cs) n aH (p9 aP aW _);have aq:db D (first.toList++[.func (.yield bh) #[] #[]]++U.toList) (p++ #[Value.func (.yield ax.b) #[] #[]]++K).toList:=by
     simp only[YB];exact((aj.mono o).append (.cons (.yield aU .nil .nil) .nil)).append (ap.mono o)
    cases u:rc.call bq (first.toList++[.func (.yield bh) #[] #[]]++U.toList) false .none Y with
    |none=>rw[u]at c;cases c
    |some aE=>
     obtain⟨bc,bl,aT⟩:=aE;rw[u]at c;obtain⟨az,aL,F,bo,a,ag,aJ,q,ay,an,ao,fn,ak,J⟩:=(aK G).call _ _ _ _ _ _ _ _ u D w1 (p++ #[Value.func (.yield ax.b) #[] #[]]++K) (eW b tm (mark++df) (.inRangeFunc ax.b::k)::cs) E aq trivial;obtain⟨_,rfl⟩:=mz aJ;have av:=I.mono a;cases bc with
     |ret bp=>
      simp only at c J;obtain⟨d,ad,J,_⟩:=J;have i:=step_leave_returned (P:=C.P) (c:=eW b tm (mark++df) (.inRangeFunc ax.b::k)) (cs:=cs) (w:=aL) (fr:=F) ⟨d,an,ao,fn,by rw[ay];exact ak,J⟩;have aI:(eW b tm (mark++df) (.inRangeFunc ax.b::k)).finish ad=eW b tm (mark++df) (.endRangeFunc ax.b::k):=rfl;rw[aI]at i;split at c
      ·rename_i ae ar;have aw:=a _ _ aU;obtain⟨aC,aO,V⟩:=ag.obj _ _ _ aw ar;have aQ:ae.state≠.busy->∃aV,Dw ae.pending=some aV/\(aV,X,t,aT.put bh (.loop {ae with state:=.exhausted}))=(g,m,l,h):=by
        intro y;split at c
        ·rename_i aY;exact absurd aY y
        ·split at c
         ·rename_i aV j;cases c;exact⟨_,j,rfl⟩
         ·cases c
       have y:ae.state≠.busy:=by
        intro R;rw[R]at c;cases c
       obtain⟨aV,j,R⟩:=aQ y;cases R;have aF:=run_endLoop (P:=C.P) aO (by rw[V.state];exact y);have aS:=ag.vZ (o2:=.loop {ae with state:=.exhausted}) (co:=.loop {aC with state:=.exhausted}) aw ar rfl rfl ⟨_,rfl,rfl,V.pending,V.fn,V.tm,V.params,V.assign,V.body,V.defers,V.ok⟩;have aA:=Gi (P:=C.P) (b:=b) (tm:=tm) (df:=mark++df) (k:=k) (cs:=cs) aF;have N:=Steps.head ai (q.trans (.head i (.one aA)));refine⟨az,_,tm,mark++df,cs,o.trans a,aS,av,.refl _ _,?_⟩;have ac:=V.pending;cases ab:ae.pending with
       |none=>
        rw[ab]at ac j;cases j;have R:(Option.map Item.code aC.pending).toList++k=k:=by rw[ac];rfl
        rw[R]at N;exact N
       |some bn=>
        rw[ab]at ac j;have R:(Option.map Item.code aC.pending).toList++k=.code bn::k:=by rw[ac];rfl
        rw[R]at N;cases bn with
        |ret=>cases j;exact⟨k,N⟩
        |exit id=>cases j;exact⟨k,N,rfl⟩
        |_=>cases j
      ·cases c
     |fO bp=>
      simp only at c J;cases c;obtain⟨ad,d,W⟩:=J;have i:=step_leave_panicked (P:=C.P) (c:=eW b tm (mark++df) (.inRangeFunc ax.b::k)) (cs:=cs) (w:=aL) (fr:=F) ⟨d,an,fn,by rw[ay];exact ak⟩;exact⟨az,aL,tm,mark++df,cs,o.trans a,ag,av,.refl _ _,.inRangeFunc ax.b::k,ad,W,Steps.head ai (q.trans (.one i))⟩
  ·cases c
 |exit id=>
  intro v t st g m l h c f ρ w tm df cs k x s B;simp only[code,Option.some.injEq,Prod.mk.injEq]at c;obtain⟨rfl,rfl,rfl,rfl⟩:=c;exact⟨ρ,w,tm,df,cs,Ren.le_refl _,x,s,.refl _ _,k,.refl _ _,Z⟩
 |ret=>
  intro v t st g m l h c f ρ w tm df cs k x s B;simp only[code,Option.some.injEq,Prod.mk.injEq]at c;obtain⟨rfl,rfl,rfl,rfl⟩:=c;exact⟨ρ,w,tm,df,cs,Ren.le_refl _,x,s,.refl _ _,k,.refl _ _⟩
 |scope _ _=>intro v t st g m l h c;cases c
 |label _=>intro v t st g m l h c;cases c
 |goto _=>intro v t st g m l h c;cases c
 |refuse _=>intro v t st g m l h c;cases c
end
def Gj(ρ:Ren)(m:Mode)(c:FrameMode):Prop:=
 match m with
 |.returning=>c=.returning
 |.panicking v=>∃b,c=.panicking [{v:=b,recovered:=false}]/\dg ρ v b
theorem Gj.mono{ρ b:Ren}(c:ρ.le b){m:Mode}{f:FrameMode}(k:Gj ρ m f):Gj b m f:=by
 cases m with
 |returning=>exact k
 |panicking s=>obtain⟨h,o,l⟩:=k;exact⟨h,o,l.mono c⟩
def L2(m:Mode):eT:=match m with|.returning=>.none|.panicking b=>.gu b
variable{j:List Deferred}
section
variable{P:Program} {F:Frame} {cs:List Frame} {w w1:World}
theorem KJ{ρ:Ren}{m:Mode}{c:FrameMode}(f:Gj ρ m c):c≠.run:=by
 cases m with
 |returning=>intro b;rw[b]at f;cases f
 |panicking k=>obtain⟨h,b,_⟩:=f;rw[b];intro b;cases b
theorem QB{args:Array Value}{c:List Deferred}(k:F.mode≠.run)(f:F.defers={target:=.collected d,args}::j)(h:(Instr.takeDeferred d).run P w=.ok c w1):
  step P (lone F cs w)=.next (lone {F with defers:=c++j} cs w1):=by
 refine step_lone_go ?_;cases b:F.mode with
 |run=>exact absurd b k
 |returning=>simp[stepG,b,unwind,f,Sem.runT_eq,h]
 |panicking l=>simp[stepG,b,unwind,f,Sem.runT_eq,h]
theorem Gk{f:FuncId}{args b:Array Value}(l:F.mode≠.run)(h:F.defers={target:=.fn (.func f) b,args}::j)(m:(callFunc f (args++b)).run P w=.ok (.enter f (args++b)) w1):
  step P (lone F cs w)=.next (lone (Frame.enter P f (args++b) .deferred) ({F with defers:=j}::cs) w1):=by
 have k:(invoke (.fn (.func f) b) args).run P w=.ok (.enter f (args++b)) w1:=m;refine step_lone_go ?_;cases c:F.mode with
 |run=>exact absurd c l
 |returning=>simp[stepG,c,unwind,h,callDeferred,Sem.runT_eq,k]
 |panicking o=>simp[stepG,c,unwind,h,callDeferred,Sem.runT_eq,k]
def Gl(c:Frame):Frame:=
 match c.mode with
 |.panicking ({recovered:=true,.. }::b)=>
  match b.dropWhile (!·.goexit)with
  |[]=>{c with mode:=.returning}
  |rest=>{c with mode:=.panicking rest}
 |_=>c
theorem pA{c:Frame}{fn:Func}(f:F.mode=.returning)(b:F.defers=[])(h:F.kind=.deferred)(k:P.funcs[F.fn]?=some fn)(l:(results fn F.tmps).run P w=.ok e w):
  step P (lone F (c::cs) w)=.next (lone (Gl c) cs w):=by
 refine step_lone_go ?_;simp[stepG,f,unwind,b,k,Sem.runT_eq,l,doReturn,h,Gl];rfl
end
section
variable{C:eD} {w0:World} {N0:Nat} {G:Nat->Prop} {rc:Rec} {b:FB}
theorem v7(aj:CQ C)(am:uM C w0 N0 G rc)(tm:Array Value)(f:List Item)(cs:List Frame):∀(Q:List Deferred) (m:Mode) (st:St) (d:Mode) (D:St),kg C rc Q m st=some (d,D)->
  ∀(ρ:Ren) (w:World) (df:List Deferred) (o:FrameMode),dD w0 N0 G ρ st w->zX ρ Q df->Gj ρ m o->
  ∃k I t,ρ.le k/\dD w0 N0 G k D I/\Gj k d t/\Steps C.P (lone {eW b tm df f with mode:=o} cs w) (lone {eW b tm [] f with mode:=t} cs I):=by
 intro Q;induction Q with
 |nil=>
  intro m st d D K ρ w df o R V s;simp only[kg,Option.some.injEq,Prod.mk.injEq]at K;obtain⟨rfl,rfl⟩:=K;cases df with
  |nil=>exact⟨ρ,w,o,Ren.le_refl _,R,s,.refl _ _⟩
  |cons ap df=>exact V.elim
 |cons ap Q af=>
  intro m st d D K ρ w df o R V s;cases df with
  |nil=>exact V.elim
  |cons ak df=>
  obtain⟨i,e⟩:=V;have v:=i.target;obtain⟨aC,args⟩:=ap;obtain⟨y,h⟩:=ak;simp only[kg]at K;split at K
  ·rename_i ah;split at K
   ·rename_i z;cases y with
    |collected au=>
     obtain⟨ar,ac,rfl⟩:=v;have n:w.heap[ar.b]?=some (.deferred (some [])):=R.obj _ _ _ ac z;have O:=QB (P:=C.P) (F:={eW b tm ({target:=.collected ar.b,args:=h}::df) f with mode:=o}) (cs:=cs) (KJ s) rfl (run_takeDeferred n);have ae:=R.vZ (o2:=.fg true) (co:=.deferred none) ac z rfl rfl rfl;obtain⟨k,I,t,U,L,M,l⟩:=af _ _ _ _ K ρ _ df o ae e s;exact⟨k,I,t,U,L,M,.head O l⟩
    |_=>exact v.elim
   ·cases K
  ·rename_i av x;split at K
   ·rename_i aA aB ai ao ag an;cases y with
    |fn aw c=>
     cases aw with
     |func ay=>
      obtain⟨rfl,Y⟩:=v;have a:db ρ (args.toList++x.toList) (h++c).toList:=by
       simp only[YB];exact i.args.append Y
      have O:=Gk (P:=C.P) (F:={eW b tm ({target:=.fn (.func av) c,args:=h}::df) f with mode:=o}) (cs:=cs) (KJ s) rfl (p9 (w:=w) aj ag _);have ad:sM ρ true (L2 m) ({eW b tm df f with mode:=o}::cs):=by
       cases m with
       |returning=>exact⟨_,_,rfl,s⟩
       |panicking aq=>obtain⟨W,az,ah⟩:=s;exact⟨_,_,W,rfl,az,ah⟩
      obtain⟨g,r,F,u,A,aa,p,l,j,T,B,fn,N,E,W,S,_⟩:=am.call _ _ _ _ _ _ _ _ an ρ w (h++c) ({eW b tm df f with mode:=o}::cs) R a ad;have X:∃H,Gj g (match m,ai with|.panicking _,.qn=>.returning|m,_=>m) H/\step C.P (lone F u r)=.next (lone {eW b tm df f with mode:=H} cs r):=by
       rcases p with⟨rfl,rfl⟩|⟨aq,al,rfl,rfl⟩
       ·refine⟨o,?_,?_⟩
        ·cases m<;>exact s.mono A
        ·rw[pA E T B (by rw[j];exact N) S];cases m with
         |returning=>
          cases s;rfl
         |panicking aq=>
          obtain⟨W,rfl,ah⟩:=s;rfl
       ·cases m with
        |returning=>cases al
        |panicking ax=>
         obtain⟨W,rfl,ah⟩:=s;refine⟨.returning,Z,?_⟩;simp only[vW];rw[pA E T B (by rw[j];exact N) S];rfl
      obtain⟨H,ab,q⟩:=X;obtain⟨k,I,t,U,L,M,J⟩:=af _ _ _ _ K g r df H aa (e.mono A) ab;exact⟨k,I,t,A.trans U,L,M,.head O (l.trans (.head q J))⟩
     |_=>exact v.elim
    |_=>exact v.elim
   ·cases K
  ·cases K
end
end Go.AM
