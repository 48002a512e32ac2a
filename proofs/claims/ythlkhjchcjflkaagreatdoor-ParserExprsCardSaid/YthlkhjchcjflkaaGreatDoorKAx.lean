/- Part of the proof. -/
import Derived.Test.YthlkhjchcjflkaaGreatDoorKAw
set_option linter.all false
set_option maxHeartbeats 16000000
set_option maxRecDepth 100000
open List renaming take_of_length_le->Yl,getElem_mem->Yp,length_take->Yr,length_drop->Ys,length_nil->Yt,length_map->Yu,getElem?_eq_getElem->Yv,map->Yz,length_append->YA
open Nat renaming le_refl->Ym,zero_le->Yo,beq->Yq,add_assoc->Yw,le_of_ble_eq_true->Yx
open Int renaming ofNat->Yn,ofNat_eq_natCast->Yy
namespace Go.Proofs.YthlkhjchcjflkaaGreatDoor
open Go.AM Go.VM
def C7:Type:=D×D×D×D×D×D×D
def Ue:Tm:=[(1,.bp 0 0),(2,.bp 1 0),(3,.bp 2 0),(4,.bp 3 0)]
def Wh(c:C7)(b:V):cU:=.box [.d c.1,.d c.2.1,.d c.2.2.1,.d c.2.2.2.1,.d c.2.2.2.2.1,.d c.2.2.2.2.2.1,.d c.2.2.2.2.2.2,b]
def Uf(c:C7)(b:D):List D:=[c.1,c.2.1,c.2.2.1,c.2.2.2.1,c.2.2.2.2.1,c.2.2.2.2.2.1,c.2.2.2.2.2.2,b]
def UD(R:Rd)(f:RS)(c:C7):Sum D (List (List D))->VS
 |.inl e=>[.box (H6 R f),.box UC,.box tx,Wh c (.d e)]
 |.inr b=>[.box (H6 R f),.box UC,.box tx,Wh c (.ms 4 8 0 b.length b.length),.row 8 (b.map fun e=>e.map V.d)]
def XG(f:Sum D (List (List D)))(b:Nat):D:=match f with
 |.inl e=>e
 |.inr c=>.ps b 0 8 c.length c
def SO:Nat->Bool:=fun b=>Yq b 2000045
variable{h:Nat}
theorem Kp{R:Rd}{x:RS}:x.p<=(x.word R h).p:=by
 unfold RS.word;split
 ·exact Nat.le_succ _
 ·rw[RS.nU,qY];exact Ym _
variable{d:Nat->PR Ex} {a:Nat->PR Ty}
theorem R9{R:Rd}(w:R.Wf){lo:Nat}(aO:kW jj one (fb a d R) R lo)(au:iD R lo (fb a d R))(bf:kW dP one d R (lo+1))(ao:iD R (lo+1) d):kW fh one (gm a d R) R lo:=by
 have aX:=w.len;refine kW.of (fun n=>Z) (fun n aT aG=>?_);refine cy SO (fun _=>Z) ?_;refine aO.call n aT aG _ _ (fun C v u y B E A aS M W I P e=>?_);refine cw (eh:=Ue) (fN:=UD R M (C,v,u,y,B,E,A) (.inl aS)) (.same ⟨Z,Z,Z,Z,tv⟩ Z) ?_;refine GQ (fun _:RS×C7×Sum D (List (List D))=>Ue) (fun t=>UD R t.1 t.2.1 t.2.2) (fun t=>if t.1.e=0 then R.ts.length-t.1.p+1 else 0)
  (fun t=>t.1.p<R.ts.length/\t.1.ge lo/\n.stay t.1/\(n.e=0->t.1.e≠0->eO (gm a d R n.p) t.1 (fun _=>False))/\
   (n.e=0->t.1.e=0->n.p<t.1.p/\∃g c,R.ts.length-t.1.p<c/\(∀x,hY g (Uf t.2.1 (XG t.2.2 x)))/\gm a d R n.p=jL d R c g t.1.p)) ?_ (M,(C,v,u,y,B,E,A),.inl aS) ⟨W,I,P,fun m H=>?_,fun m ab=>?_⟩
 ·intro az aU;obtain⟨ap,J⟩:∃bo,bo=(if az.1.e=0 then R.ts.length-az.1.p+1 else 0):=⟨_,rfl⟩;rw[<-J];obtain⟨f,ag,s⟩:=az;obtain⟨ak,aA,aW,aN,aJ⟩:=aU;have J:ap=(if f.e=0 then R.ts.length-f.p+1 else 0):=J;have S:f.p<R.ts.length:=ak;have F:f.ge lo:=aA;have P:n.stay f:=aW;have ay:n.e=0->f.e≠0->eO (gm a d R n.p) f (fun _=>False):=aN;have l:n.e=0->f.e=0->n.p<f.p/\∃g c,R.ts.length-f.p<c/\(∀x,hY g (Uf ag (XG s x)))/\gm a d R n.p=jL d R c g f.p:=aJ;clear ak aA aW aN aJ W I e;apply eg (ι:=D) (T:=fun _=>Ue) (S:=fun Q=>UD R f ag (.inl Q)) (I:=fun Q=>n.e=0->f.e=0->n.p<f.p/\∃g c,R.ts.length-f.p<c/\hY g (Uf ag Q)/\gm a d R n.p=jL d R c g f.p)
  ·intro aP;obtain⟨aw,ai⟩:∃aw,s=aw:=⟨_,rfl⟩;rcases aw with Q|p
   ·refine cw (eh:=Ue) (fN:=UD R f ag (.inl Q)) (.same ⟨Z,Z,Z,Z,tv⟩ (by rw[ai])) (aP Q (fun m b=>?_));obtain⟨aB,g,c,q,X,ax⟩:=l m b;rw[ai]at X;exact⟨aB,g,c,q,X 0,ax⟩
   ·refine cw (eh:=Ue) (fN:=UD R f ag (.inr p)) (.same ⟨Z,Z,Z,Z,tv⟩ (by rw[ai])) ?_;refine Ce 4 3 Ue (es:=8) (l:=p) Z Z (ed _) ⟨Z,Z,Z,Z,tv⟩ ⟨tv,tv,tv,tv,tv⟩ ⟨tv,tv,tv,tv,tv,tv,tv,(fun _=>⟨Z,Nat.le_of_eq (Nat.zero_add _)⟩),tv⟩ (fun x=>?_);refine cw (eh:=Ue) (fN:=UD R f ag (.inl (.ps x 0 8 p.length p))) (.drop 4 ⟨Z,Z,Z,Z,tv⟩ Z Z Z Z Z Z ?_) (aP (.ps x 0 8 p.length p) (fun m b=>?_))
    ·show [_,_,_,cU.box [_,_,_,_,_,_,_,iW 4 x p (.ms 4 8 0 p.length p.length)]]=[_,_,_,Wh ag _];rw[Option.some.inj (jo (i:=4) (b:=x) (l:=p) rfl)];rfl
    ·obtain⟨aB,g,c,q,X,ax⟩:=l m b;rw[ai]at X;exact⟨aB,g,c,q,X x,ax⟩
  ·rintro Q l;have l:n.e=0->f.e=0->n.p<f.p/\∃g c,R.ts.length-f.p<c/\hY g (Uf ag Q)/\gm a d R n.p=jL d R c g f.p:=l;obtain⟨C,v,u,y,B,E,A⟩:=ag;refine cJ R f [46] S ?_;cases O:f.is R [46]with
   |true=>
    obtain⟨b,t1⟩:=dL O;have m:n.e=0:=by
     by_cases z:n.e=0
     ·exact z
     ·rw[P z]at b;exact absurd b z
    have U:=fX F b;have ad:=w.step S t1;obtain⟨ar,g,c,aq,L,r⟩:=l m b;obtain⟨c,rfl⟩:∃aD,c=aD+1:=⟨c-1,om⟩;rw[jL,if_pos t1]at r;refine cJ R f [46] S ?_;rw[O];refine cP R f om ?_;refine dT R w f.next 1 ad ?_
    have o:=eO.name R (f.p+1);have aI:f.next=cu (f.p+1):=by rw[U];rfl
    rw[<-aI]at o;have bc:=fv w (x:=f.next) (k:=1) dc ad;have bh:f.p+1<=(f.next.word R 1).p:=Kp (x:=f.next);intro x;repeat refine b1 ?_
    refine⟨(f.next.word R 1,(.int .i64 (Yn 6),.str [],.str (f.next.dm R 1),.str [],.int .i64 (Yn 0),.cC,.cC),.inl (.ps x 0 8 1 [[C,v,u,y,B,E,A,Q]])),⟨bc,F.next.word,(fun z=>absurd m z),fun _ H=>?_,fun _ h=>⟨by show n.p<(f.next.word R 1).p;omega,?_⟩⟩,?_,.drop 4 ⟨rfl,rfl,rfl,rfl,tv⟩ rfl rfl rfl rfl rfl rfl rfl,rfl,rfl⟩
    ·show eO (gm a d R n.p) (f.next.word R 1) (fun _=>False);rw[r];cases N:dy R (f.p+1)with
     |bad aF aC=>rw[N]at o;exact o
     |ok t af=>rw[N]at o;exact absurd (by rw[o.1];rfl) H
    ·have h:(f.next.word R 1).e=0:=h;cases N:dy R (f.p+1)with
     |bad aF aC=>rw[N]at o;exact absurd (o.2.2.symm.trans h) o.1
     |ok t af=>
      rw[N]at o r;refine⟨.mk 6 [] t [] 0 [] [] [g],c,by show R.ts.length-(f.next.word R 1).p<c;omega,fun bk=>?_,by show gm a d R n.p=jL d R c (.mk 6 [] t [] 0 [] [] [g]) (f.next.word R 1).p;rw[r,o.1];rfl⟩;rw[<-o.2];exact .mk .nil .nil (.ps (.cons L .nil))
    ·rw[J,if_pos b];show(if(f.next.word R 1).e=0 then R.ts.length-(f.next.word R 1).p+1 else 0)<R.ts.length-f.p+1;split<;>omega
   |false=>
    refine cJ R f [40] S ?_;cases an:f.is R [40]with
    |true=>
     obtain⟨b,t2⟩:=dL an;have t1:=cM O b;have m:n.e=0:=by
      by_cases z:n.e=0
      ·exact z
      ·rw[P z]at b;exact absurd b z
     have U:=fX F b;have ad:=w.step S t2;obtain⟨ar,g,c,aq,L,r⟩:=l m b;obtain⟨c,rfl⟩:∃aD,c=aD+1:=⟨c-1,om⟩;rw[jL,if_neg (by rw[t1];decide),if_pos t2,hZ]at r;refine cJ R f [46] S ?_;rw[O];refine cP R f om ?_;refine Fp (H7 w bf ao [41] dc f.next ad F.p5) Z (fun ac bb M W I be aY av aE e=>?_);have e:=e b;have T:∀(p:List (List D)),(∀aj,fM aj bb->∀x,fM ([g]++aj) (.ps x 0 8 p.length p))->(n.e=0->M.e≠0->eO (gm a d R n.p) M (fun _=>False))/\(n.e=0->M.e=0->n.p<M.p/\∃al am,R.ts.length-M.p<am/\(∀x,hY al (Uf (.int .i64 (Yn 9),.str [],.str [],.str [],.int .i64 (Yn 0),.cC,ac) (.ps x 0 8 p.length p)))/\gm a d R n.p=jL d R am al M.p)/\(if M.e=0 then R.ts.length-M.p+1 else 0)<ap:=fun p aR=>by
      have e:eO (dK (fW d R) R [41] [] (f.p+1)) M _:=e;cases K:dK (fW d R) R [41] [] (f.p+1)with
      |bad aF aC=>
       rw[K]at e r;have H:M.e≠0:=by rw[e.2.2];exact e.1
       refine⟨fun _ _=>by rw[r];exact e,fun _ z=>absurd z H,?_⟩;rw[if_neg H,J,if_pos b];omega
      |ok aj af=>
       have ba:hZ d R [41] 9 [g] (f.p+1)=.ok (iS 9 [] [] [g] aj) af:=by rw[hZ,K];rfl
       obtain⟨bq,bp⟩:=uf w ao (by have:=(F b).1;omega) ad ba;rw[K]at e r;obtain⟨k,aH,aL⟩:=e;subst k;refine⟨fun _ z=>absurd Z z,fun _ _=>⟨by show n.p<af;omega,_,c,by show R.ts.length-af<c;omega,fun x=>?_,r⟩,?_⟩
       ·exact .mk .nil aH (aR _ aL x)
       ·rw[if_pos (show(cu af).e=0 from rfl),J,if_pos b];show R.ts.length-af+1<R.ts.length-f.p+1;omega
     obtain⟨bi,aQ⟩:=av;rcases aQ.inv with⟨rfl,rfl⟩|⟨x,aF,bj,aV,rfl,bn⟩
     ·repeat first
       |refine bZ rfl ?_
       |intro x
       |refine zG ?_
       |refine rk ?_
      obtain⟨Y,aa,ae⟩:=T [[C,v,u,y,B,E,A,Q]] (fun aj K x=>by cases K;exact .ps (.cons L .nil));exact⟨(M,(.int .i64 (Yn 9),.str [],.str [],.str [],.int .i64 (Yn 0),.cC,ac),.inr [[C,v,u,y,B,E,A,Q]]),⟨W,I.low,(fun z=>absurd m z),Y,aa⟩,ae,.pick 4 [0,1,2,3,5] ⟨Z,Z,Z,Z,tv⟩ Z Z Z Z Z dc ⟨Z,Z,Z,Z,Z,Z,Z,Z,pg Z,fs _ 8 _,tv⟩,Z,Z⟩
     ·rcases aV with _|⟨ah,aK⟩
      ·repeat first
        |refine bZ rfl ?_
        |intro x
        |refine zG ?_
        |refine rk ?_
       obtain⟨Y,aa,ae⟩:=T [[C,v,u,y,B,E,A,Q]] (fun aj K x=>by cases K with|ps z=>cases z;exact .ps (.cons L .nil));exact⟨(M,(.int .i64 (Yn 9),.str [],.str [],.str [],.int .i64 (Yn 0),.cC,ac),.inr [[C,v,u,y,B,E,A,Q]]),⟨W,I.low,(fun z=>absurd m z),Y,aa⟩,ae,.pick 4 [0,1,2,3,5] ⟨Z,Z,Z,Z,tv⟩ Z Z Z Z Z dc ⟨Z,Z,Z,Z,Z,Z,Z,Z,pg Z,fs _ 8 _,tv⟩,Z,Z⟩
      ·have bg:aK.length+1<=R.ts.length:=aE;repeat first
        |refine bZ rfl ?_
        |intro x
        |refine zG ?_
        |refine rk ?_
       obtain⟨Y,aa,ae⟩:=T ([C,v,u,y,B,E,A,Q]::ah::aK) (fun aj K x=>by cases K with|ps z=>exact .ps (.cons L z));refine⟨(M,(.int .i64 (Yn 9),.str [],.str [],.str [],.int .i64 (Yn 0),.cC,ac),.inr ([C,v,u,y,B,E,A,Q]::ah::aK)),⟨W,I.low,(fun z=>absurd m z),Y,aa⟩,ae,.pick 4 [0,1,2,3,6] ⟨Z,Z,Z,Z,tv⟩ Z Z Z Z Z dc ⟨Z,Z,Z,Z,Z,Z,?_,Z,pg Z,fs _ 8 _,tv⟩,Z,Z⟩;exact congrArg (fun aM=>some (cU.box [.d (.int .i64 (Yn 9)),.d (.str []),.d (.str []),.d (.str []),.d (.int .i64 (Yn 0)),.d .cC,.d ac,.ms 6 8 0 aM aM])) (by simp only[Yu,List.length_cons,Yt];omega: [[C,v,u,y,B,E,A,Q]].length+(Yz (fun aC=>Yz V.d aC) (ah::aK)).length=([C,v,u,y,B,E,A,Q]::ah::aK).length)
    |false=>
     repeat refine b1 ?_
     refine a6 0 ⟨Z,Z,_,_,_,_,_,_,_,_,f,S,F,P,fun m=>?_,Z⟩;by_cases b:f.e=0
     ·obtain⟨ar,g,c,aq,L,r⟩:=l m b;obtain⟨c,rfl⟩:∃aD,c=aD+1:=⟨c-1,om⟩;rw[jL,if_neg (by rw[cM O b];decide),if_neg (by rw[cM an b];decide)]at r;have U:=fX F b;rw[r];exact⟨U,L⟩
     ·exact(ay m b).imp (fun _ z=>z.elim)
 ·have q:=e m;show eO (gm a d R n.p) M (fun _=>False);rw[gm];cases G:fb a d R n.p with
  |bad aF aC=>rw[G]at q;exact q
  |ok t af=>rw[G]at q;exact absurd (by rw[q.1];rfl) H
 ·have q:=e m;have ab:M.e=0:=ab;cases G:fb a d R n.p with
  |bad aF aC=>rw[G]at q;exact absurd (q.2.2.symm.trans ab) q.1
  |ok t af=>
   rw[G]at q;obtain⟨ak,aA⟩:=au _ _ _ (aG m).1 aT G;obtain⟨k,L⟩:=q;subst k;exact⟨ak,t,R.ts.length,by show R.ts.length-af<R.ts.length;omega,fun _=>L,by rw[gm,G];rfl⟩
def SP:Nat->Bool:=fun b=>Yq b 15
theorem Nn{R:Rd}(w:R.Wf)(s:∀I,HX (R.tok I)){lo f:Nat}(D:kW fh one (gm a d R) R lo)(F:kW il one (nI a d R f) R (lo+1)):kW il one (nI a d R (f+1)) R lo:=by
 have E:=w.len;refine kW.of (fun o=>Z) (fun o m q=>?_);refine cy SP (fun _=>Z) ?_;refine cJ R o [108,101,110,103,116,104] m ?_;cases g:o.is R [108,101,110,103,116,104]with
 |true=>
  obtain⟨c,t1⟩:=dL g;have r:=w.step m t1;refine cP R o om ?_;refine F.call o.next r q.p5 _ _ (fun C u v y B z A t x n e l b=>?_)
  intro K;repeat refine b1 ?_
  refine a6 0 ⟨Z,Z,_,_,_,_,_,_,_,_,x,n,e.low,(fun G=>absurd c G),fun _=>?_,Z⟩;rw[nI,if_pos t1];exact eO.map (b c) (fun J H=>.mk .nil .nil (.ps (.cons H .nil)))
 |false=>
  refine cJ R o [45] m ?_;cases p:o.is R [45]with
  |true=>
   obtain⟨c,t2⟩:=dL p;have t1:=cM g c;have r:=w.step m t2;refine cP R o om ?_;refine(P3 w s true (lo+1)).call o.next r q.p5 _ _ (fun C u v y B z A t x n e l b=>?_)
   refine a6 0 ⟨Z,Z,_,_,_,_,_,_,_,_,x,n,e.low,(fun G=>absurd c G),fun _=>?_,Z⟩;rw[nI,t1,if_neg dc,if_pos t2];exact b c
  |false=>
   refine D.call o m q _ _ (fun C u v y B z A t x n e l b=>?_);refine a6 0 ⟨Z,Z,_,_,_,_,_,_,_,_,x,n,e,l,fun c=>?_,Z⟩;rw[nI,cM g c,if_neg dc,cM p c,if_neg dc];exact b c
theorem Ug{R:Rd}(w:R.Wf)(n:∀A,HX (R.tok A)){lo:Nat}(e:kW fh one (gm a d R) R lo)(c:iD R lo (gm a d R)):∀p b,lo<=b->R.ts.length-b<=p->kW il one (nI a d R p) R b:=by
 intro p;induction p with
 |zero=>
  intro b g t;have l:=e.up c g;refine kW.of (fun q=>Z) (fun q m s=>?_);have f:q.e≠0:=fun x=>by have:=(s x).1;omega
  refine cy SP (fun _=>Z) ?_;refine cJ R q [108,101,110,103,116,104] m ?_;rw[dv f];refine cJ R q [45] m ?_;rw[dv f];refine l.call q m s _ _ (fun I B C E H F G z D v r o u=>?_);exact a6 0 ⟨Z,Z,_,_,_,_,_,_,_,_,D,v,r,o,fun x=>absurd x f,Z⟩
 |succ p y=>exact fun b g t=>Nn w n (e.up c g) (y (b+1) om om)
def iV:Nat->List (List UInt8)
 |0=>[[111,114]]
 |1=>[[97,110,100]]
 |3=>[[61,61],[61,61,61],[60]]
 |4=>[[43],[45],[43,43]]
 |5=>[[42]]
 |_=>[]
def VI:Nat->Bool:=fun b=>Yq b 5||Yq b 8||Yq b 11||Yq b 14||Yq b 17
theorem No{l:Nat}(e:l=0∨l=1∨l=3∨l=4∨l=5){σ:VS}{K:cZ->VS->Prop}(c:∀b,K (.ret (.d (.ps b 0 1 (iV l).length (et (iV l))))) σ):b3 C cn qc [b6 l] σ K:=by
 refine b3.closed (P:=fun f=>∃b,f=.ret (.d (.ps b 0 1 (iV l).length (et (iV l))))) ?_ rfl (fun f g=>by obtain⟨b,rfl⟩:=g;exact c b);rcases e with rfl|rfl|rfl|rfl|rfl;all_goals
  refine cy VI (fun _=>Z) ?_;intro b;exact a6 0 ⟨Z,Z,b,Z⟩
theorem Dt{f:FuncId}{c b:List V}{σ:VS}{K:cZ->VS->Prop}(g:c=b)(e:b3 C cn f b σ K):b3 C cn f c σ K:=g▸e
def two(l:Nat)(b:V):List V:=[b,b6 l]
def VJ:Nat->Bool:=fun _=>false
def XH(c:Nat)(e:V)(b:Bool):Tm:=[(1,b6 c),(2,.bp 0 0),(4,.bp 1 0),(5,.bp 2 0),(8,.bp 3 0),(9,e),(10,b0 b)]
def VL(c:Nat)(e:V)(b:Bool)(f:Nat):Tm:=[(1,b6 c),(2,.bp 0 0),(4,.bp 1 0),(5,.bp 2 0),(8,.bp 3 0),(9,e),(10,b0 b),(11,b6 f)]
def Wi(R:Rd)(b:RS)(c:C7×D):VS:=[.box (H6 R b),.box UC,.box tx,Wh c.1 (.d c.2)]
structure SQ (R:Rd) (x:RS) (lo:Nat) (fn:Nat->PR Ex) (P:Nat->Ex->Prop) (z:RS) (c:C7×D):Prop where
 lt:z.p<R.ts.length
 ge:z.ge lo
 st:x.stay z
 bad:x.e=0->z.e≠0->eO (fn x.p) z (fun _=>False)
 Np:x.e=0->z.e=0->x.p<z.p/\∃xe,hY xe (Uf c.1 c.2)/\P z.p xe
variable{i:List (List UInt8)}
theorem Sa{t:Tok}(f:∀c (b:c<i.length),cD t i[c]=false):mv t i=none:=by
 rw[mv,List.find?_eq_none];intro g e;obtain⟨c,b,rfl⟩:=List.mem_iff_getElem.1 e;rw[f c b];decide
theorem Sb{t:Tok}(g:h<i.length)(f:∀c (b:c<i.length),c<h->cD t i[c]=false)(e:cD t i[h]=true):mv t i=some i[h]:=by
 rw[mv,List.find?_eq_some_iff_getElem];refine⟨e,h,g,Z,fun c b=>?_⟩;rw[f c om b];rfl
theorem Nq{l:List (List UInt8)}(b:h<l.length):nth (et l) h=some [.str l[h]]:=by
 rw[cz,et,List.getElem?_map,Yv b];rfl
theorem Qb{R:Rd}(w:R.Wf){lv lo:Nat}(aq:lv=0∨lv=1∨lv=3∨lv=4∨lv=5){next fn:Nat->PR Ex}{Gf:Nat->Ex->Nat->PR Ex}(aO:kW dd (two (lv+1)) next R lo)(i:iD R lo next) 
  (an:∀aT,fn aT=(next aT).bind fun q m=>Gf R.ts.length q m)
  (aA:∀c q m,Gf (c+1) q m=match mv (R.tok m) (iV lv)with|none=>.ok q m|some ar=>(next (m+1)).bind fun H aD=>if lv=3 then .ok (.mk 16 [] ar [] 0 [] [] [q,H]) aD else Gf c (.mk 16 [] ar [] 0 [] [] [q,H]) aD):
  kW dd (two lv) fn R lo:=by
 have aQ:=w.len;refine kW.of (fun q=>Z) (fun q aN aB=>?_);have ai:∀ag:V,[ag,.d (.int .i64 (IntKind.i64.wrap (Yn lv+1)))]=two (lv+1) ag:=fun ag=>by rw[cq om];rfl
 have aU:(iV lv).length<4294967296:=by rcases aq with rfl|rfl|rfl|rfl|rfl<;>decide
 refine cy VJ (fun _=>Z) ?_;refine aZ (fun B=>absurd (BJ (b:=6) B) om) (fun aY=>?_);repeat refine e4 ?_
 refine aZ (fun B=>absurd (BJ (b:=2) B) om) (fun x=>?_);repeat refine e4 ?_
 refine Dt (ai _) (aO.call q aN aB _ _ (fun aa X T a k ac h ab H ah P W b=>?_));refine No aq (fun aS=>?_);obtain⟨ay,aL⟩:∃ay,ay=V.d (.ps aS 0 1 (iV lv).length (et (iV lv))):=⟨_,rfl⟩;rw[<-aL];have ak:SQ R q lo fn (fun m e=>∃c,R.ts.length-m<c/\fn q.p=Gf c e m) H ((aa,X,T,a,k,ac,h),ab):=by
  refine⟨ah,P,W,fun v K=>?_,fun v t=>?_⟩
  ·have x:=b v;rw[an];cases A:next q.p with
   |bad ar aP=>rw[A]at x;exact x
   |ok o m=>rw[A]at x;exact absurd (by rw[x.1];rfl) K
  ·have x:=b v;cases A:next q.p with
   |bad ar aP=>rw[A]at x;exact absurd (x.2.2.symm.trans t) x.1
   |ok o m=>
    rw[A]at x;obtain⟨E,J⟩:=i _ _ _ (aB v).1 aN A;obtain⟨aK,O⟩:=x;subst aK;exact⟨E,o,O,R.ts.length,by show R.ts.length-m<R.ts.length;omega,by rw[an,A];rfl⟩
 refine cw (eh:=XH lv ay true) (fN:=Wi R H ((aa,X,T,a,k,ac,h),ab)) (.same ⟨Z,Z,Z,Z,Z,Z,Z,tv⟩ Z) ?_;refine b5.iter (fun o:Bool×RS×(C7×D)=>XH lv ay o.1) (fun o=>Wi R o.2.1 o.2.2) (fun o=>if o.1 then(if o.2.1.e=0 then R.ts.length-o.2.1.p+2 else 1)else 0)
  (fun o=>SQ R q lo fn (fun m e=>if o.1 then ∃c,R.ts.length-m<c/\fn q.p=Gf c e m else fn q.p=.ok e m) o.2.1 o.2.2) ?_ (true,H,((aa,X,T,a,k,ac,h),ab)) ak
 clear ak b W P ah H;rintro⟨j,G,aC⟩ n;have n:SQ R q lo fn (fun m e=>if j then ∃c,R.ts.length-m<c/\fn q.p=Gf c e m else fn q.p=.ok e m) G aC:=n;cases j with
 |false=>
  repeat refine b1 ?_
  refine a6 0 ⟨Z,Z,_,_,_,_,_,_,_,_,G,n.lt,n.ge,n.st,fun v=>?_,Z⟩;by_cases f:G.e=0
  ·obtain⟨_,e,O,u⟩:=n.Np v f;have aM:=fX n.ge f;have u:fn q.p=.ok e G.p:=u;rw[u];exact⟨aM,O⟩
  ·exact(n.bad v f).imp (fun _ B=>B.elim)
 |true=>
  refine cw (eh:=VL lv ay false 0) (fN:=Wi R G aC) (.same ⟨Z,Z,Z,Z,Z,Z,Z,Z,tv⟩ Z) ?_;refine b5.iter (fun o:Nat×Bool×RS×(C7×D)=>VL lv ay o.2.1 o.1) (fun o=>Wi R o.2.2.1 o.2.2.2) (fun o=>(iV lv).length-o.1)
   (fun o=>o.1<=(iV lv).length/\(o.2.1=false->o.2.2.1=G/\o.2.2.2=aC/\∀L (M:L<(iV lv).length),L<o.1->G.is R (iV lv)[L]=false)/\
    (o.2.1=true->G.e=0/\(o.2.2.1.e=0->G.p<o.2.2.1.p)/\SQ R q lo fn (fun m e=>∃c,R.ts.length-m<c/\fn q.p=if lv=3 then .ok e m else Gf c e m) o.2.2.1 o.2.2.2)) ?_ (0,false,G,aC) ⟨Yo _,fun _=>⟨rfl,rfl,fun L _ B=>absurd B (Nat.not_lt_zero _)⟩,fun B=>by cases B⟩
  rintro⟨C,af,l,z⟩ ⟨E,J,ae⟩;have aV:C<=(iV lv).length:=E;have U:af=false->l=G/\z=aC/\∀L (M:L<(iV lv).length),L<C->G.is R (iV lv)[L]=false:=J;have y:af=true->G.e=0/\(l.e=0->G.p<l.p)/\SQ R q lo fn (fun m e=>∃c,R.ts.length-m<c/\fn q.p=if lv=3 then .ok e m else Gf c e m) l z:=ae;clear E J ae;have aj:(et (iV lv)).length=(iV lv).length:=by simp[et]
  rw[aL];apply aZ<;>intro aE
  ·have F:C<(iV lv).length:=aj▸fq aE;have aG:=Nq F;cases af with
   |true=>
    repeat refine b1 ?_
    exact⟨(C+1,true,l,z),⟨F,(fun B=>by cases B),y⟩,by show(iV lv).length-(C+1)<(iV lv).length-C;omega,.same ⟨rfl,rfl,rfl,rfl,rfl,rfl,rfl,int_eq (cq om),tv⟩ rfl,rfl,rfl⟩
   |false=>
    obtain⟨au,aw,I⟩:=U rfl;subst au aw;clear U y;repeat refine b1 ?_
    refine bZ Z ?_;refine b7 _ aG ?_;repeat refine b4 ?_
    refine cJ R l (iV lv)[C] n.lt ?_;cases ap:l.is R (iV lv)[C]with
    |true=>
     obtain⟨f,t1⟩:=dL ap;have al:=w.step n.lt t1;have aF:=n.lt;repeat refine b4 ?_
     refine cP R l om ?_;refine Dt (ai _) (aO.call l.next al n.ge.next _ _ (fun aa X T a k ac h ab H ah P W b=>?_));repeat refine b4 ?_
     refine bZ Z ?_;refine b7 _ aG ?_;repeat refine b4 ?_
     intro Y;repeat refine b4 ?_
     have v:q.e=0:=by
      by_cases B:q.e=0
      ·exact B
      ·rw[n.st B]at f;exact absurd f B
     obtain⟨ao,e,O,ax⟩:=n.Np v f;obtain⟨c,aJ,u⟩:∃c,R.ts.length-l.p<c/\fn q.p=Gf c e l.p:=ax;obtain⟨c,rfl⟩:∃aR,c=aR+1:=⟨c-1,om⟩;rw[aA,Sb F (fun L M am=>cM (I L M am) f) t1]at u;dsimp only at u;have b:eO (next (l.p+1)) H _:=b f;have Q:H.e=0->l.p<H.p:=fun t=>by
      cases r:next (l.p+1)with
      |bad ar aP=>rw[r]at b;exact absurd (b.2.2.symm.trans t) b.1
      |ok ag m=>
       rw[r]at b;obtain⟨aX,aW⟩:=i (l.p+1) ag m (by have:=(n.ge f).1;omega) al r;rw[b.1];show l.p<m;omega
     refine⟨(C+1,true,H,((.int .i64 (Yn 16),.str [],.str (iV lv)[C],.str [],.int .i64 (Yn 0),.cC,.cC),.ps Y 0 8 2 [Uf z.1 z.2,[aa,X,T,a,k,ac,h,ab]])),⟨F,(fun B=>by cases B),fun _=>⟨f,Q,ah,P,(fun B=>absurd v B),fun _ K=>?_,fun _ t=>?_⟩⟩,by show(iV lv).length-(C+1)<(iV lv).length-C;omega,.drop 4 ⟨rfl,rfl,rfl,rfl,rfl,rfl,rfl,int_eq (cq om),tv⟩ rfl rfl rfl rfl rfl rfl rfl,rfl,rfl⟩
     ·show eO (fn q.p) H (fun _=>False);have K:H.e≠0:=K;rw[u];cases r:next (l.p+1)with
      |bad ar aP=>rw[r]at b;exact b
      |ok ag m=>rw[r]at b;exact absurd (by rw[b.1];rfl) K
     ·have t:H.e=0:=t;cases r:next (l.p+1)with
      |bad ar aP=>rw[r]at b;exact absurd (b.2.2.symm.trans t) b.1
      |ok ag m=>
       rw[r]at b u;have S:=Q t;refine⟨by show q.p<H.p;omega,.mk 16 [] (iV lv)[C] [] 0 [] [] [e,ag],.mk .nil .nil (.ps (.cons O (.cons b.2 .nil))),c,by show R.ts.length-H.p<c;omega,?_⟩;show fn q.p=if lv=3 then PR.ok (Ex.mk 16 [] (iV lv)[C] [] 0 [] [] [e,ag]) H.p else Gf c (Ex.mk 16 [] (iV lv)[C] [] 0 [] [] [e,ag]) H.p
       rw[u,b.1];rfl
    |false=>
     repeat refine b4 ?_
     exact⟨(C+1,false,l,z),⟨F,(fun _=>⟨Z,Z,fun L M am=>by
      rcases Nat.lt_or_ge L C with g|g
      ·exact I L M g
      ·obtain rfl:L=C:=om;exact ap⟩),fun B=>by cases B⟩,by show(iV lv).length-(C+1)<(iV lv).length-C;omega,.same ⟨rfl,rfl,rfl,rfl,rfl,rfl,rfl,int_eq (cq om),tv⟩ rfl,rfl,rfl⟩
  ·have F:(iV lv).length<=C:=aj▸dM aE;have ad:af=false->SQ R q lo fn (fun m e=>fn q.p=.ok e m) l z:=fun s=>by
    obtain⟨au,aw,I⟩:=U s;rw[au,aw];refine⟨n.lt,n.ge,n.st,n.bad,fun v f=>?_⟩;obtain⟨ao,e,O,ax⟩:=n.Np v f;obtain⟨c,aJ,u⟩:∃c,R.ts.length-G.p<c/\fn q.p=Gf c e G.p:=ax;obtain⟨c,rfl⟩:∃aR,c=aR+1:=⟨c-1,om⟩;rw[aA,Sa (fun L M=>cM (I L M om) f)]at u;exact⟨ao,e,O,u⟩
   apply aZ<;>intro az
   ·have d:=BJ (b:=3) az;have av:SQ R q lo fn (fun m e=>fn q.p=.ok e m) l z:=by
     by_cases s:af=true
     ·obtain⟨f,S,p⟩:=y s;refine⟨p.lt,p.ge,p.st,p.bad,fun o Y=>?_⟩;obtain⟨E,e,J,c,ae,N⟩:=p.Np o Y;rw[if_pos d]at N;exact⟨E,e,J,N⟩
     ·exact ad (by simpa using s)
    repeat refine e4 ?_
    refine⟨(false,l,z),av,?_,.same ⟨Z,Z,Z,Z,Z,Z,Z,tv⟩ Z,Z,Z⟩;show 0<(if G.e=0 then R.ts.length-G.p+2 else 1);split<;>omega
   ·have d:lv≠3:=wA (b:=3) az;repeat refine e4 ?_
    refine⟨(af,l,z),?_,?_,.same ⟨Z,Z,Z,Z,Z,Z,Z,tv⟩ Z,Z,Z⟩
    ·show SQ R q lo fn (fun m e=>if af then ∃c,R.ts.length-m<c/\fn q.p=Gf c e m else fn q.p=.ok e m) l z;by_cases s:af=true
     ·obtain⟨f,S,p⟩:=y s;refine⟨p.lt,p.ge,p.st,p.bad,fun o Y=>?_⟩;obtain⟨E,e,J,c,ae,N⟩:=p.Np o Y;rw[if_neg d]at N;exact⟨E,e,J,by rw[if_pos s];exact⟨c,ae,N⟩⟩
     ·have p:=ad (by simpa using s);refine⟨p.lt,p.ge,p.st,p.bad,fun o Y=>?_⟩;obtain⟨E,e,J,N⟩:=p.Np o Y;exact⟨E,e,J,by rw[if_neg s];exact N⟩
    ·show(if af then(if l.e=0 then R.ts.length-l.p+2 else 1)else 0)<(if G.e=0 then R.ts.length-G.p+2 else 1);by_cases s:af=true
     ·obtain⟨f,S,p⟩:=y s;have aF:=p.lt;rw[if_pos s,if_pos f];split
      ·have:=S (by assumption);omega
      ·omega
     ·rw[if_neg s];split<;>omega
def Qc:Nat->Bool:=fun _=>false
theorem Sc{R:Rd}{fn:Nat->PR Ex}{lo:Nat}(p:kW il one fn R lo):kW dd (two 6) fn R lo:=by
 refine kW.of (fun m=>Z) (fun m f l=>?_);refine cy Qc (fun _=>Z) ?_;refine p.call m f l _ _ (fun v w n q u s t r o g e c b=>?_);exact a6 0 ⟨Z,Z,_,_,_,_,_,_,_,_,o,g,e,c,b,Z⟩
def CG(c:Nat->PR Ty)(b:Nat->PR Ex)(R:Rd)(p:Nat):PR Ex:=match kL c b R p with
 |.bad m n=>.bad m n
 |.ok f e=>match mv (R.tok e) [[61,61],[61,61,61],[60]]with
  |none=>.ok f e
  |some l=>(kL c b R (e+1)).map fun g=>.mk 16 [] l [] 0 [] [] [f,g]
theorem Qd(c:Nat->PR Ty)(b:Nat->PR Ex)(R:Rd)(f p:Nat):l8 c b R (f+1) p=if cD (R.tok p) [110,111,116]then(l8 c b R f (p+1)).map (U0 [110,111,116])else CG c b R p:=by rw[l8];rfl
theorem Nr{R:Rd}(w:R.Wf){lo f:Nat}(E:kW dd (two 3) (CG a d R) R lo)(z:kW dd (two 2) (l8 a d R f) R (lo+1)):kW dd (two 2) (l8 a d R (f+1)) R lo:=by
 have r:=w.len;refine kW.of (fun o=>Z) (fun o m p=>?_);refine cy Qc (fun _=>Z) ?_;refine cJ R o [110,111,116] m ?_;cases g:o.is R [110,111,116]with
 |true=>
  obtain⟨c,t1⟩:=dL g;have y:=w.step m t1;refine cP R o om ?_;refine z.call o.next y p.p5 _ _ (fun D s t v C x B q u n e l b=>?_)
  intro H;repeat refine b1 ?_
  refine a6 0 ⟨Z,Z,_,_,_,_,_,_,_,_,u,n,e.low,(fun F=>absurd c F),fun _=>?_,Z⟩;rw[Qd,if_pos t1];exact eO.map (b c) (fun G A=>.mk .nil .nil (.ps (.cons A .nil)))
 |false=>
  refine E.call o m p _ _ (fun D s t v C x B q u n e l b=>?_);refine a6 0 ⟨Z,Z,_,_,_,_,_,_,_,_,u,n,e,l,fun c=>?_,Z⟩;rw[Qd,cM g c,if_neg dc];exact b c
theorem Uh{R:Rd}(w:R.Wf){lo:Nat}(q:kW dd (two 3) (CG a d R) R lo)(c:iD R lo (CG a d R)):∀l b,lo<=b->R.ts.length-b<=l->kW dd (two 2) (l8 a d R l) R b:=by
 intro l;induction l with
 |zero=>
  intro b e s;have m:=q.up c e;refine kW.of (fun r=>Z) (fun r o p=>?_);have f:r.e≠0:=fun v=>by have:=(p v).1;omega
  refine cy Qc (fun _=>Z) ?_;refine cJ R r [110,111,116] o ?_;rw[dv f];refine m.call r o p _ _ (fun G z A C F D E y B u n g t=>?_);exact a6 0 ⟨Z,Z,_,_,_,_,_,_,_,_,B,u,n,g,fun v=>absurd v f,Z⟩
 |succ l x=>exact fun b e s=>Nr w (q.up c e) (x (b+1) om om)
theorem Ui(next:Nat->PR Ex)(b:List (List UInt8))(R:Rd)(p:Nat):l7 next b R p=(next p).bind fun e c=>rQ next b R R.ts.length e c:=by
 rw[l7];cases next p<;>rfl
theorem Uj(m:h≠3)(next:Nat->PR Ex)(R:Rd)(e:Nat)(f:Ex)(c:Nat):rQ next (iV h) R (e+1) f c=match mv (R.tok c) (iV h)with
  |none=>.ok f c
  |some g=>(next (c+1)).bind fun l b=>if h=3 then .ok (.mk 16 [] g [] 0 [] [] [f,l]) b else rQ next (iV h) R e (.mk 16 [] g [] 0 [] [] [f,l]) b:=by
 rw[rQ];cases mv (R.tok c) (iV h)with
 |none=>rfl
 |some g=>
  dsimp only;cases next (c+1)with
  |bad g n=>rfl
  |ok l b=>simp only[PR.bind,if_neg m]
theorem Uk(c:Nat->PR Ty)(b:Nat->PR Ex)(R:Rd)(p:Nat):CG c b R p=(kL c b R p).bind fun f e=>match mv (R.tok e) (iV 3)with
  |none=>.ok f e
  |some s=>(kL c b R (e+1)).map fun g=>.mk 16 [] s [] 0 [] [] [f,g]:=by
 rw[CG];cases kL c b R p<;>rfl
theorem Sd{R:Rd}(w:R.Wf){lo:Nat}(r:iD R lo (kL a d R)):iD R lo (CG a d R):=by
 intro t x z o g b;rw[CG]at b;cases e:kL a d R t with
 |bad s A=>rw[e]at b;cases b
 |ok y n=>
  rw[e]at b;dsimp only at b;obtain⟨q,f⟩:=r _ _ _ o g e;cases c:mv (R.tok n) [[61,61],[61,61,61],[60]]with
  |none=>rw[c]at b;cases b;exact⟨q,f⟩
  |some s=>
   rw[c]at b;dsimp only at b;obtain⟨_,_,_,m,_⟩:=qU c;obtain⟨v,p,rfl⟩:=fj b;obtain⟨u,l⟩:=r _ _ _ om (w.step f m) p;exact⟨om,l⟩
theorem zI{R:Rd}(w:R.Wf){lv lo:Nat}(l:lv=0∨lv=1∨lv=4∨lv=5){next:Nat->PR Ex}(e:kW dd (two (lv+1)) next R lo)(b:iD R lo next):kW dd (two lv) (l7 next (iV lv) R) R lo/\iD R lo (l7 next (iV lv) R):=
 ⟨Qb w om e b (Gf:=fun c g f=>rQ next (iV lv) R c g f) (fun n=>Ui _ _ _ _) (fun c g f=>Uj om _ _ _ _ _),xd w b⟩
theorem Lr{R:Rd}(w:R.Wf)(l:∀A,HX (R.tok A)){lo:Nat}(Ls:R.ts.length-lo<=R.ts.length)(m:kW fh one (gm a d R) R lo)(b:iD R lo (gm a d R)):kW dd (two 0) (MI a d R) R lo/\iD R lo (MI a d R):=by
 have v:=Ug w l m b R.ts.length lo (Ym _) Ls;have f:iD R lo (nI a d R R.ts.length):=Lg w b R.ts.length;obtain⟨t,o⟩:=zI w (lv:=5) om (Sc v) f;obtain⟨q,g⟩:=zI w (lv:=4) om t o;have x:kW dd (two 3) (CG a d R) R lo:=Qb w (lv:=3) om q g (Gf:=fun _ p e=>match mv (R.tok e) (iV 3)with
  |none=>.ok p e
  |some s=>(kL a d R (e+1)).map fun C=>.mk 16 [] s [] 0 [] [] [p,C]) (fun A=>Uk _ _ _ _) (fun B p e=>by
   cases mv (R.tok e) (iV 3)with
   |none=>rfl
   |some E=>
    show(kL a d R (e+1)).map _=(kL a d R (e+1)).bind _;cases kL a d R (e+1)<;>rfl)
 have u:iD R lo (CG a d R):=Sd w g;have n:=Uh w x u R.ts.length lo (Ym _) Ls;have z:iD R lo (l8 a d R R.ts.length):=Le w g R.ts.length;obtain⟨r,y⟩:=zI w (lv:=1) om n z;exact zI w (lv:=0) om r y
theorem Ul(b:Nat->PR Ex)(R:Rd)(p:Nat):sn b R p=(dy R p).bind fun s c=>(ep b R [61] c).bind fun g e=>(ep b R [105,110] e).map fun f=>.mk 10 [] s [] 0 [] [] [g,f]:=by
 unfold sn PR.bind;cases dy R p with
 |bad l m=>rfl
 |ok s c=>dsimp only;cases ep b R [61] c<;>rfl
theorem Se(e:Nat->PR Ty)(b:Nat->PR Ex)(R:Rd)(p:Nat):l9 e b R p=(dl e R p).bind fun o f=>(b f).bind fun l c=>(ep b R [116,104,101,110] c).bind fun m g=>(ep b R [101,108,115,101] g).map fun n=>.mk 12 [] [] [] 0 [o] [] [l,m,n]:=by
 unfold l9 PR.bind;cases dl e R p with
 |bad q r=>rfl
 |ok s f=>
  dsimp only;cases b f with
  |bad q r=>rfl
  |ok l c=>dsimp only;cases ep b R [116,104,101,110] c<;>rfl
theorem Qe(e:Nat->PR Ty)(b:Nat->PR Ex)(R:Rd)(p:Nat):j7 e b R p=(dl e R p).bind fun m f=>(b f).bind fun l c=>(cv R [[123]] c).bind fun _ g=>(dK (fD b R) R [125] [] g).map (iS 13 [] [m] [l]):=by
 unfold j7 PR.bind;cases dl e R p with
 |bad n o=>rfl
 |ok s f=>
  dsimp only;cases b f with
  |bad n o=>rfl
  |ok l c=>dsimp only;cases cv R [[123]] c<;>rfl
theorem Sf(g:Nat->PR Ty)(b:Nat->PR Ex)(R:Rd)(p:Nat):j8 g b R p=(dl g R p).bind fun t o=>(dy R o).bind fun s f=>(cv R [[44]] f).bind fun _ l=>(dy R l).bind fun u c=>(ep b R [105,110] c).bind fun r e=>(ep b R [102,114,111,109] e).bind fun v q=>(ep b R [61,62] q).map fun w=>.mk 15 [] s u 0 [t] [] [r,v,w]:=by
 unfold j8 PR.bind;cases dl g R p with
 |bad m n=>rfl
 |ok t o=>
  dsimp only;cases dy R o with
  |bad m n=>rfl
  |ok s f=>
   dsimp only;cases cv R [[44]] f with
   |bad m n=>rfl
   |ok x l=>
    dsimp only;cases dy R l with
    |bad m n=>rfl
    |ok u c=>
     dsimp only;cases ep b R [105,110] c with
     |bad m n=>rfl
     |ok r e=>dsimp only;cases ep b R [102,114,111,109] e<;>rfl
theorem Lt(c:Nat->PR Ty)(b:Nat->PR Ex)(R:Rd)(p:Nat):funcF c b R p=(cv R [[40]] p).bind fun _ e=>(dK (ee c b R) R [41] [] e).bind fun g f=>(ep b R [61,62] f).map (E3 (iS 8 [] [] [] g)):=by
 unfold funcF PR.bind;cases cv R [[40]] p with
 |bad m n=>rfl
 |ok l e=>dsimp only;cases dK (ee c b R) R [41] [] e<;>rfl
theorem VN{R:Rd}(g:R.Kd)(c:Nat->PR Ty)(b:Nat->PR Ex){p:Nat}(m:p<R.ts.length):yE c b R p=
  if cD (R.tok p) [108,101,116]then sn b R (p+1)
  else if cD (R.tok p) [105,102]then l9 c b R (p+1)
  else if cD (R.tok p) [109,97,116,99,104]then j7 c b R (p+1)
  else if cD (R.tok p) [102,111,108,100]then j8 c b R (p+1)
  else if cD (R.tok p) [102,110]then funcF c b R (p+1)
  else MI c b R p:=by
 have e:∀l,l ∉ gS->(cD (R.tok p) l=true)=((R.tok p).kind=5/\(R.tok p).text=l):=fun l n=>by
  rw[Br (g p m) n,Bool.and_eq_true,decide_eq_true_eq,decide_eq_true_eq];exact propext ⟨fun f=>⟨f.2,f.1⟩,fun f=>⟨f.2,f.1⟩⟩
 rw[yE];simp only[e [108,101,116] dc,e [105,102] dc,e [109,97,116,99,104] dc,e [102,111,108,100] dc,e [102,110] dc]
theorem Ic(e:Nat)(types:List Ty)(b:List Ex)(l:List cV)(c:Ex):E3 (iS e [] types b l) c=.mk e [] [] [] 0 types ((ct cV.n l).map cV.pc) (b++(ct cV.n l).flatMap cV.val++[c]):=rfl
theorem Um(b:List (List D))(c:List D):some (cU.row 8 (List.take b.length (List.drop 0 (Yz (fun c=>Yz V.d c) b))++[c.map V.d]))=some (.row 8 ((b++[c]).map fun c=>c.map V.d)):=by
 rw[List.drop_zero,Yl sm];simp
def SS:Nat->Bool:=fun b=>Yq b 2000116
theorem Kq{R:Rd}(w:R.Wf)(aY:R.Kd){lo:Nat}(aQ:RZ du a R (lo+1))(be:∀bh aP aw,lo+1<=bh->bh<R.ts.length->a bh=.ok aP aw->bh<aw/\aw<R.ts.length)(A:kW dP one d R (lo+1))(aD:iD R (lo+1) d)(aW:kW dd (two 0) (MI a d R) R lo):kW dP one (yE a d R) R lo:=by
 have bl:=w.len;have ao:=Vy w aQ;refine kW.of (fun q=>Z) (fun q K h=>?_);have T:=VN aY a d K;have al:q.e=0->q.next=cu (q.p+1):=fun Q=>by rw[fX h Q];rfl
 refine cy SS (fun _=>Z) ?_;refine cJ R q [108,101,116] K ?_;cases S:q.is R [108,101,116]with
 |true=>
  obtain⟨c,t1⟩:=dL S;have O:=w.step K t1;refine cP R q om ?_;refine dT R w q.next 1 O ?_
  have af:=fv w (x:=q.next) (k:=1) dc O;refine cG R w _ [61] af ?_;refine A.call _ (cY w af) h.p5.word.expect _ _ (fun I E B F H L G J bz ay ad ae ab=>?_);refine cG R w bz [105,110] ay ?_;refine A.call _ (cY w ay) ad.expect _ _ (fun d0 d1 d2 d3 d4 d5 d6 d7 bM bm aV b e=>?_);intro X;repeat refine b1 ?_
  refine a6 0 ⟨Z,Z,_,_,_,_,_,_,_,_,bM,bm,aV.low,(fun Q=>absurd c Q),fun _=>?_,Z⟩;rw[T,if_pos t1,Ul];have aC:=eO.name R (q.p+1);rw[<-al c]at aC;refine eO.bind aC ((RS.stay.expect.trans ae).trans (RS.stay.expect.trans b)) (fun s aw N bu=>?_);refine eO.bind (eO.val N h.p5.word ae ab) (RS.stay.expect.trans b) (fun au ac x t=>?_);exact eO.map (eO.val x ad b e) (fun bb j=>by rw[<-bu];exact .mk .nil .nil (.ps (.cons t (.cons j .nil))))
 |false=>
  refine cJ R q [105,102] K ?_;cases Y:q.is R [105,102]with
  |true=>
   obtain⟨c,t2⟩:=dL Y;have t1:=cM S c;have O:=w.step K t2;refine cP R q om ?_;refine ao q.next O h.p5 _ _ (fun aO bA bD bj bk C o l z f=>?_)
   refine A.call C o l _ _ (fun I E B F H L G J P p g b e=>?_);refine cG R w P [116,104,101,110] p ?_;refine A.call _ (cY w p) g.expect _ _ (fun d0 d1 d2 d3 d4 d5 d6 d7 V y n m r=>?_);refine cG R w V [101,108,115,101] y ?_;refine A.call _ (cY w y) n.expect _ _ (fun bi bn bx bG bC bv br bq av aj k u W=>?_);intro ax bE;repeat refine b1 ?_
   refine a6 0 ⟨Z,Z,_,_,_,_,_,_,_,_,av,aj,k.low,(fun Q=>absurd c Q),fun _=>?_,Z⟩;rw[T,t1,if_neg dc,if_pos t2,Se];refine eO.bind (f c) ((b.trans (RS.stay.expect.trans m)).trans (RS.stay.expect.trans u)) (fun aP aw N ar=>?_);rw[N]at e;refine eO.bind (e Z) ((RS.stay.expect.trans m).trans (RS.stay.expect.trans u)) (fun au ac x t=>?_);refine eO.bind (eO.val x g m r) (RS.stay.expect.trans u) (fun bb aM i j=>?_);exact eO.map (eO.val i n u W) (fun bp ap=>.mk (.ps (.cons ar .nil) sm) .nil (.ps (.cons t (.cons j (.cons ap .nil)))))
  |false=>
   refine cJ R q [109,97,116,99,104] K ?_;cases ag:q.is R [109,97,116,99,104]with
   |true=>
    obtain⟨c,t3⟩:=dL ag;have t1:=cM S c;have t2:=cM Y c;have O:=w.step K t3;refine cP R q om ?_;refine ao q.next O h.p5 _ _ (fun aO bA bD bj bk C o l z f=>?_)
    refine A.call C o l _ _ (fun I E B F H L G J P p g b e=>?_);refine cG R w P [123] p ?_;refine Fp (R3 w A aD _ (cY w p) g.expect) Z (fun aN bt V y n m ak am az r=>?_);have aa:∀(ax X aK:Nat) (ah:List (List D)),(∀au,hY au [I,E,B,F,H,L,G,J]->∀aG,fM aG bt->fM ([au]++aG) (.ps X 0 8 aK ah))->q.e=0->eO (yE a d R q.p) V (fun aP=>hY aP [.int .i64 (Yn 13),.str [],.str [],.str [],.int .i64 (Yn 0),.ps ax 0 5 1 [[aO,bA,bD,bj,bk]],aN,.ps X 0 8 aK ah]):=fun ax X aK ah bf _=>by
     rw[T,t1,if_neg dc,t2,if_neg dc,if_pos t3,Qe];refine eO.bind (f c) (b.trans (RS.stay.expect.trans m)) (fun aP aw N ar=>?_);rw[N]at e;refine eO.bind (e Z) (RS.stay.expect.trans m) (fun au ac x t=>?_);have v:=kc R ac [123];rw[<-x]at v;refine eO.bind v m (fun bB aM i _=>?_);rw[i]at r;exact eO.map (r Z) (fun aG M=>.mk (.ps (.cons ar .nil) sm) M.1 (bf au t _ M.2))
    obtain⟨bK,bc⟩:=am;rcases bc.inv with⟨rfl,rfl⟩|⟨X,bR,bL,U,rfl,bN⟩
    ·repeat first
      |refine bZ rfl ?_
      |intro X
      |refine zG ?_
      |refine rk ?_
     refine ph (els:=[[I,E,B,F,H,L,G,J]]) Z Z (fun X=>?_);exact⟨_,_,_,_,_,_,_,_,V,y,n.low,(fun Q=>absurd c Q),aa _ X _ _ (fun au t aG M=>by cases M;exact .ps (.cons t .nil)),rfl⟩
    ·rcases U with _|⟨bo,bI⟩
     ·repeat first
       |refine bZ rfl ?_
       |intro X
       |refine zG ?_
       |refine rk ?_
      refine ph (els:=[[I,E,B,F,H,L,G,J]]) Z Z (fun X=>?_);exact⟨_,_,_,_,_,_,_,_,V,y,n.low,(fun Q=>absurd c Q),aa _ X _ _ (fun au t aG M=>by cases M with|ps Q=>cases Q;exact .ps (.cons t .nil)),rfl⟩
     ·have bH:bI.length+1<=R.ts.length:=az;repeat first
       |refine bZ rfl ?_
       |intro X
       |refine zG ?_
       |refine rk ?_
      refine ph (els:=[I,E,B,F,H,L,G,J]::bo::bI) Z vI (fun X=>?_);exact⟨_,_,_,_,_,_,_,_,V,y,n.low,(fun Q=>absurd c Q),aa _ X _ _ (fun au t aG M=>by cases M with|ps Q=>exact .ps (.cons t Q)),rfl⟩
   |false=>
    refine cJ R q [102,111,108,100] K ?_;cases an:q.is R [102,111,108,100]with
    |true=>
     obtain⟨c,t4⟩:=dL an;have t1:=cM S c;have t2:=cM Y c;have t3:=cM ag c;have O:=w.step K t4;refine cP R q om ?_;refine ao q.next O h.p5 _ _ (fun aO bA bD bj bk C o l z f=>?_)
     refine dT R w C 1 o ?_;have aF:=fv w (x:=C) (k:=1) dc o;refine cG R w _ [44] aF ?_;have aA:=cY w (s:=[44]) aF;refine dT R w _ 1 aA ?_;have aB:=fv w (k:=1) dc aA;refine cG R w _ [105,110] aB ?_;refine A.call _ (cY w aB) l.word.expect.word.expect _ _ (fun I E B F H L G J P p g b e=>?_);refine cG R w P [102,114,111,109] p ?_;refine A.call _ (cY w p) g.expect _ _ (fun d0 d1 d2 d3 d4 d5 d6 d7 V y n m r=>?_);refine cG R w V [61,62] y ?_;refine A.call _ (cY w y) n.expect _ _ (fun bi bn bx bG bC bv br bq av aj k u W=>?_);intro ax bE;repeat refine b1 ?_
     refine a6 0 ⟨Z,Z,_,_,_,_,_,_,_,_,av,aj,k.low,(fun Q=>absurd c Q),fun _=>?_,Z⟩;rw[T,t1,if_neg dc,t2,if_neg dc,t3,if_neg dc,if_pos t4,Sf];have aX:V.stay av:=RS.stay.expect.trans u;have aq:P.stay av:=(RS.stay.expect.trans m).trans aX;refine eO.bind (f c) ((((RS.stay.word.trans .expect).trans .word).trans (RS.stay.expect.trans b)).trans aq) (fun aP aw N ar=>?_);have v:=eO.name R aw;rw[<-N]at v;refine eO.bind v (((RS.stay.expect.trans .word).trans (RS.stay.expect.trans b)).trans aq) (fun s ac x ba=>?_);have aJ:=kc R ac [44];rw[<-x]at aJ;refine eO.bind aJ ((RS.stay.word.trans (RS.stay.expect.trans b)).trans aq) (fun bB aM i _=>?_);have aE:=eO.name R aM;rw[<-i]at aE;refine eO.bind aE ((RS.stay.expect.trans b).trans aq) (fun bP bJ aS aR=>?_);refine eO.bind (eO.val aS l.word.expect.word b e) aq (fun au bQ aT t=>?_);refine eO.bind (eO.val aT g m r) aX (fun bb bO bg j=>?_);exact eO.map (eO.val bg n u W) (fun bp ap=>by rw[<-ba,<-aR];exact .mk (.ps (.cons ar .nil) sm) .nil (.ps (.cons t (.cons j (.cons ap .nil)))))
    |false=>
     refine cJ R q [102,110] K ?_;cases aH:q.is R [102,110]with
     |true=>
      obtain⟨c,t5⟩:=dL aH;have t1:=cM S c;have t2:=cM Y c;have t3:=cM ag c;have t4:=cM an c;have O:=w.step K t5;have aI:yE a d R q.p=funcF a d R (q.p+1):=by
       rw[T,t1,if_neg dc,t2,if_neg dc,t3,if_neg dc,t4,if_neg dc,if_pos t5]
      refine cP R q om ?_;refine cG R w q.next [40] O ?_
      have af:=cY w (x:=q.next) (s:=[40]) O;have v:=kc R (q.p+1) [40];rw[<-al c]at v;refine b3.fresh (Ko w aQ A be aD _ af h.p5.expect) Z (fun aN C o l z ai ak f=>?_) (fun aN ah C az o l z ak am f=>?_)
      ·refine cG R w C [61,62] o ?_;refine A.call _ (cY w o) l.expect _ _ (fun I E B F H L G J P p g b e=>?_);have aU:(C.expect R [61,62]).e≠0:=by rw[eA ai];exact ai
       have aL:P=C:=by rw[b aU,eA ai]
       repeat first
        |refine bZ rfl ?_
        |intro X
        |refine zG ?_
        |refine rk ?_
       refine ph (els:=[[I,E,B,F,H,L,G,J]]) Z Z (fun X=>?_);refine⟨_,_,_,_,_,_,_,_,P,p,g.low,(fun Q=>absurd c Q),fun _=>?_,Z⟩;rw[aI,Lt,aL];refine eO.bind v z (fun bB aw N _=>?_);rw[N]at f;have bw:=f rfl;exact eO.bind (P:=fun _=>False) bw (fun _=>Z) (fun aG ac _ bs=>bs.elim)
      ·refine cG R w C [61,62] o ?_;refine A.call _ (cY w o) l.expect _ _ (fun I E B F H L G J P p g b e=>?_);repeat first
        |refine bZ rfl ?_
        |intro X
        |refine zG ?_
        |refine rk ?_
       refine ph (els:=ah++[[I,E,B,F,H,L,G,J]]) (by exact Um ah _) sm (fun X=>?_);refine⟨_,_,_,_,_,_,_,_,P,p,g.low,(fun Q=>absurd c Q),fun _=>?_,Z⟩;rw[aI,Lt];refine eO.bind v (z.trans (RS.stay.expect.trans b)) (fun bB aw N _=>?_);rw[N]at f;refine eO.bind (f Z) (RS.stay.expect.trans b) (fun aG ac x M=>?_);refine eO.map (eO.val x l b e) (fun au t=>?_);rw[Ic,List.nil_append];exact .mk .nil M.1 (.ps (M.2.snoc t))
     |false=>
      refine aW.call q K h _ _ (fun I E B F H L G J bz ay ad ae ab=>?_);refine a6 0 ⟨Z,Z,_,_,_,_,_,_,_,_,bz,ay,ad,ae,fun c=>?_,Z⟩;rw[T,cM S c,if_neg dc,cM Y c,if_neg dc,cM ag c,if_neg dc,cM an c,if_neg dc,cM aH c,if_neg dc];exact ab c
theorem Ie{R:Rd}(w:R.Wf)(q:R.Kd):∀(c lo:Nat),R.ts.length-lo<=c->uJ (dG R c) R lo:=by
 intro c;induction c with
 |zero=>intro lo n;exact⟨fun f t m p b=>om,fun f p b=>om,fun x l g s E e=>HR R w x l g e⟩
 |succ c C=>
  intro lo n;refine⟨fun f t m _ b A=>K5 w _ f t m b A,fun f p b s E u B=>?_,fun x l g s E e=>HR R w x l g e⟩;refine b3.closed (P:=Pz R (dG R (c+1) f)) (J8 R w q (dG R c) f b (C (f+1) om) _ Z) Z (fun K n=>?_);unfold Pz at n;split at n
  ·rename_i t m D;obtain⟨H,v,rfl⟩:=n;exact u t H m D v
  ·rename_i r z D;obtain⟨o,G,J,I,F,c,m,y,rfl⟩:=n;exact B r z m G J I F c D o y
section
variable{R:Rd} (w:R.Wf) {fn:Nat->PR Ex} {lo:Nat} (Ls:R.ts.length<=lo)
include Ls
theorem zJ{b:RS}(e:b.p<R.ts.length)(c:b.ge lo):b.e≠0:=fun f=>by have:=(c f).1;omega
theorem Ns:kW jj one fn R lo:=by
 refine kW.of (fun e=>Z) (fun e b f=>?_);have c:=zJ Ls b f;refine cy SN (fun _=>Z) ?_;refine gj R e 3 b ?_;rw[hO c];refine gj R e 4 b ?_;rw[hO c];refine cJ R e [116,114,117,101] b ?_;rw[dv c];refine cJ R e [102,97,108,115,101] b ?_;rw[dv c];refine gj R e 1 b ?_;rw[hO c];refine cJ R e [123] b ?_;rw[dv c];refine cJ R e [60] b ?_;rw[dv c];refine cJ R e [91] b ?_;rw[dv c];refine cJ R e [40] b ?_;rw[dv c];refine nA R e b ?_;rw[od c];exact a6 0 ⟨Z,Z,_,_,_,_,_,_,_,_,e,b,f,fun _=>Z,fun g=>absurd g c,Z⟩
theorem Nt:kW fh one fn R lo:=by
 refine kW.of (fun n=>Z) (fun n b e=>?_);have c:=zJ Ls b e;refine cy SO (fun _=>Z) ?_;refine(Ns (fn:=fn) Ls).call n b e _ _ (fun y q r t x u w p l s o f m=>?_);have g:=f c;subst g;refine b5.loop ?_;refine cJ R l [46] b ?_;rw[dv c];refine cJ R l [40] b ?_;rw[dv c];repeat refine b1 ?_
 exact a6 0 ⟨Z,Z,_,_,_,_,_,_,_,_,l,b,e,fun _=>Z,fun v=>absurd v c,Z⟩
theorem Nu(l:kW dd (two 0) fn R lo):kW dP one fn R lo:=by
 refine kW.of (fun e=>Z) (fun e b m=>?_);have c:=zJ Ls b m;refine cy SS (fun _=>Z) ?_;refine cJ R e [108,101,116] b ?_;rw[dv c];refine cJ R e [105,102] b ?_;rw[dv c];refine cJ R e [109,97,116,99,104] b ?_;rw[dv c];refine cJ R e [102,111,108,100] b ?_;rw[dv c];refine cJ R e [102,110] b ?_;rw[dv c];refine l.call e b m _ _ (fun y q r t x u w p s o g f n=>?_);exact a6 0 ⟨Z,Z,_,_,_,_,_,_,_,_,s,o,g,f,fun v=>absurd v c,Z⟩
end
theorem kW.any{q:FuncId}{p:V->List V}{fn e:Nat->PR Ex}{R:Rd}{lo:Nat}(Ls:R.ts.length<=lo)(A:kW q p fn R lo):kW q p e R lo:=
 ⟨fun s b c o r l=>A.call s b c o r (fun D v w y C z B u x m f n t=>l _ _ _ _ _ _ _ _ x m f n (fun g=>absurd g (zJ Ls b c)))⟩
theorem Qf{R:Rd}(w:R.Wf)(n:R.Ng){lo:Nat}(g:fU a R lo)(b:na dA d R (lo+1)):iD R lo (gm a d R):=by
 have p:na kp (fb a d R) R lo:=na.of (fun l m c q e o=>Bh w (fun l m c o=>g.lt l m c om) (fun l m c o=>b.lt l m c om) l m c q e o) (fun l q e=>Bg w n ⟨fun f r c o=>g.lt f r c om,fun f o=>g.call f om⟩ (b.up om) e);exact(Pt w p b).lt
theorem Un{R:Rd}(w:R.Wf)(m:R.Ng)(f:R.Kd)(e:∀r,HX (R.tok r)):∀(p lo:Nat),R.ts.length-lo<=p->kW dP one (zy R p) R lo:=by
 intro p;induction p with
 |zero=>
  intro lo x;have Ls:R.ts.length<=lo:=om;have l:kW fh one (gm (dG R R.ts.length) (zy R 0) R) R lo:=Nt Ls;have g:=(Lr w e om l (fun r u v A z=>om)).1;exact(Nu Ls g).any Ls
 |succ p y=>
  intro lo x;have q:=y (lo+1) om;have t:=Ie w f R.ts.length lo om;have c:=Ie w f R.ts.length (lo+1) om;have n:=ER w R.ts.length lo om;have b:=SF w m p (lo+1) om;have s:=R8 w e (R0 w t) c.g q b.lt;have o:iD R lo (fb (dG R R.ts.length) (zy R p) R):=Bh w (fun r u v x=>n.lt r u v om) (fun r u v x=>b.lt r u v om);have l:=R9 w s o q b.lt;have g:=(Lr w e om l (Qf w m n b)).1;exact Kq w f c.g c.lt q b.lt g
def uu:V:=.agg [.d (.int .i64 0),.d (.str []),.d (.str []),.d (.str []),.d (.int .i64 0),.d .cC,.d .cC,.d .cC]
def Bz(n:List UInt8)(e:cZ):Prop:=match kJ n with
 |.err b g=>e=.ret (.dN [uu,b6 b,b6 g])
 |.ok ts=>∃f c,match zy ⟨f,c,ts⟩ ts.length 0 with
  |.bad b g=>e=.ret (.dN [uu,b6 b,b6 g])
  |.ok o m=>if(Rd.tok ⟨f,c,ts⟩ m).kind≠0 then e=.ret (.dN [uu,b6 (Rd.tok ⟨f,c,ts⟩ m).off,b6 3])else ∃l,hY o l/\e=.ret (.dN [.agg (l.map V.d),b6 0,b6 0])
theorem Kr(s:List UInt8){σ:VS}{K:cZ->VS->Prop}(v:∀u,Bz s u->K u σ):b3 C cn rm [cE s,.fn dA [] []] σ K:=by
 refine b3.closed (P:=Bz s) ?_ Z v;refine cB ?_;refine Mz s (fun u l=>?_);cases c:kJ s with
 |err r z=>
  rw[c]at l;obtain rfl:u=_:=l;have y:=AT c;refine aZ (fun n=>?_) (fun n=>absurd (iZ n) y);repeat refine b1 ?_
  refine a6 0 ⟨Z,Z,?_⟩;unfold Bz;rw[c];rfl
 |ok ts=>
  rw[c]at l;obtain⟨g,b,rfl⟩:=l;obtain⟨w,e⟩:=wZ (R:=⟨g,b,ts⟩) c;have p:=HY (R:=⟨g,b,ts⟩) c;have m:=SF w p ts.length 0 (by show ts.length-0<=ts.length;omega);refine m.call 0 (Ym _) e 4 _ _ ?_ (fun L H t f o=>?_) (fun r z t f=>?_)
  ·exact Z
  ·obtain⟨G,J,I,D,A,E,F,B,rfl⟩:=o.eight;obtain⟨_,x⟩:=m.lt _ _ _ (Yo _) e f;refine mL ⟨g,b,ts⟩ t _ (b8 x) 4 ?_ ?_
   ·exact Z
   apply aZ<;>intro n
   ·have q:(Rd.tok ⟨g,b,ts⟩ t).kind≠0:=fun z=>by rw[z]at n;cases n
    refine iR _ (Rd.tok ⟨g,b,ts⟩ t).off 3 ?_;refine xN.body Jr ?_;repeat refine b1 ?_
    refine a6 0 ⟨Z,Z,?_⟩;unfold Bz;rw[c];refine⟨g,b,?_⟩;rw[f];dsimp only;rw[if_pos q];rfl
   ·have q:(Rd.tok ⟨g,b,ts⟩ t).kind=0:=iZ n;refine xN.body Jr ?_;refine a6 0 ⟨Z,Z,?_⟩;unfold Bz;rw[c];refine⟨g,b,?_⟩;rw[f];dsimp only;rw[if_neg om];exact⟨_,o,Z⟩
  ·refine xN.body Jr ?_;repeat refine b1 ?_
   refine a6 0 ⟨Z,Z,?_⟩;unfold Bz;rw[c];refine⟨g,b,?_⟩;rw[f];rfl
def xu(b:List UInt8)(e:cZ):Prop:=∃c,hY (mc b).1 c/\e=.ret (.dN [.agg (c.map V.d),b6 (mc b).2.1,b6 (mc b).2.2])
theorem ke{b:List UInt8}{c:Nat}(e:mc b=(nV,h,c)):xu b (.ret (.dN [uu,b6 h,b6 c])):=by
 rw[xu,e];exact⟨_,RN,Z⟩
theorem Qg(c:h≠0):decide (Yn h=0)=false:=decide_eq_false fun b=>c (by simp only[Yy]at b;omega)
theorem If(s:List UInt8):b3 C cn uU [cE s] [] fun y D=>D=[]/\cX y=true/\xu s y:=by
 refine cB ?_;refine Kr s (fun y b=>?_);unfold Bz at b;cases g:kJ s with
 |err f q=>
  rw[g]at b;have b:y=.ret (.dN [uu,b6 f,b6 q]):=b;subst b;have n:=AT g;have c:mc s=(nV,f,q):=by rw[mc,g]
  refine a1 (Qg n) ?_;refine a6 0 ⟨Z,Z,ke c⟩
 |ok ts=>
  rw[g]at b;dsimp only at b;obtain⟨x,e,b⟩:=b;obtain⟨w,u⟩:=wZ (R:=⟨x,e,ts⟩) g;have E:=Bi (R:=⟨x,e,ts⟩) g;have F:zy ⟨x,e,ts⟩ ts.length=zy ⟨0,0,ts⟩ ts.length:=PX (R:=⟨x,e,ts⟩) (R':=⟨0,0,ts⟩) rfl _;have l:=Bt w E ts.length 0;rw[F]at b l;cases m:zy ⟨0,0,ts⟩ ts.length 0 with
  |bad f q=>
   rw[m]at b;have b:y=.ret (.dN [uu,b6 f,b6 q]):=b;subst b;have n:=Vx _ _ _ f q m;have c:mc s=(nV,f,q):=by rw[mc,g];dsimp only;rw[m]
   refine a1 (Qg n) ?_;refine a6 0 ⟨Z,Z,ke c⟩
  |ok v p=>
   rw[m]at b;dsimp only at b;have c:mc s=if(Rd.tok ⟨0,0,ts⟩ p).kind≠0 then(nV,(Rd.tok ⟨0,0,ts⟩ p).off,3)else if rV v≠0 then(nV,0,rV v)else(v,0,0):=by rw[mc,g];dsimp only;rw[m]
   have G:Rd.tok ⟨x,e,ts⟩ p=Rd.tok ⟨0,0,ts⟩ p:=hI (R:=⟨x,e,ts⟩) (R':=⟨0,0,ts⟩) rfl p;rw[G]at b;by_cases z:(Rd.tok ⟨0,0,ts⟩ p).kind≠0
   ·rw[if_pos z]at b c;subst b;refine a6 0 ⟨Z,Z,ke c⟩
   ·rw[if_neg z]at b c;obtain⟨Q,r,rfl⟩:=b;obtain⟨H,N,_,A⟩:=l 0 v p (Ym _) u m;have B:=w.len;have A:p<ts.length:=A;have B:ts.length<4294967296:=B;obtain⟨P,T,S,L,J,M,O,K,rfl⟩:=r.eight;refine HF v _ r H om ?_;apply aZ<;>intro t
    ·have o:rV v≠0:=fun q=>by rw[q]at t;cases t
     rw[if_pos o]at c;refine a6 0 ⟨Z,Z,ke c⟩
    ·have o:rV v=0:=iZ t;rw[if_neg om]at c;rw[o];refine a6 0 ⟨Z,Z,by rw[xu,c];exact⟨_,r,rfl⟩⟩
theorem BA(c:List UInt8){σ:VS}{K:cZ->VS->Prop}(b:∀e,xu c e->K e σ):b3 C cn uU [cE c] σ K:=
 b3.closed (If c) rfl b
theorem Fq(s:List UInt8)(c:UInt8)(g:List UInt8)(f:s=c::g)(e:s.length<4294967296){σ:VS}{K:cZ->VS->Prop}(b:K (.ret (Bq (fG s))) σ):b3 C cn e6 [cE s] σ K:=by
 refine cN (CC s c g f e) Z ?_ b;cases fG s<;>rfl
def Xi:Nat->Bool:=fun b=>Yq b 36||Yq b 50
def XI(c:List UInt8)(b:Nat×List Tok):Tm:=[(0,cE c),(5,.ms 0 3 0 b.2.length b.2.length),(6,b6 b.1)]
def XJ(b:List Tok):VS:=[j1 b]
theorem Qh{c b n:Nat}(g:c<=b)(e:b<4294967296)(f:n=1:=by rfl):(c+n)*32<=eE/\c+n<=eE:=by
 unfold eE;omega
theorem Sg{c:Nat->Nat}(b:List Tok)(t:Tok):some (cU.row 3 (List.take b.length (List.drop 0 (b.map fun t=>(mK t).map V.d))++[(mK t).map V.d]))=some (eC c (j1 (b++[t]))):=by
 rw[Da,j1,List.map_append,List.drop_zero,Yl sm];rfl
theorem Uo(c:Nat)(b:List Tok)(t:Tok):some (V.ms c 3 0 (b.length+1) (b.length+1))=some (V.ms c 3 0 (b++[t]).length (b++[t]).length):=by simp
theorem Nv(c:List UInt8)(b:Nat)(g:b<=c.length)(l:c.length<4294967296){m:V}(f:m=b6 b){σ:VS}{K:cZ->VS->Prop}(e:K (.ret (b6 (dw false (c.drop b)))) σ):b3 C cn nM [cE c,m] σ K:=by
 subst f;exact yJ c b g l e
theorem Ks(s:List UInt8){σ:VS}{K:cZ->VS->Prop}(y:∀G,Jx (kJ s) G->K G σ):b3 C cn vl [cE s] σ K:=by
 refine b3.closed (P:=Jx (kJ s)) ?_ Z y;refine cy Xi (fun _=>Z) ?_;apply aZ<;>intro J
 ·have m:65536<s.length:=fq (a:=65536) J;refine cR.now Z ⟨Z,Z,?_⟩;rw[kJ,if_pos m];rfl
 ·have m:s.length<=65536:=dM (a:=65536) J;have u:s.length<4294967296:=om;refine yJ s 0 (Yo _) u ?_;refine cw (eh:=XI s (dw false s,[])) (fN:=XJ []) (.same ⟨Z,Z,Z,tv⟩ Z) ?_;refine b5.iter (XI s) (fun z=>XJ z.2) (fun z=>s.length-z.1) (Jy s) ?_ (dw false s,[]) ⟨qQ false s,Yo _,s.length+1,by show s.length-dw false s<s.length+1;omega,by rw[wR]⟩;rintro⟨c,b⟩ ⟨p,e,r,n,f⟩;have p:c<=s.length:=p;have e:b.length<=c:=e;have n:s.length-c<r:=n;have f:h6 s (s.length+1) (dw false s)=(h6 s r c).KY b:=f;obtain⟨r,rfl⟩:∃M,r=M+1:=⟨r-1,om⟩;apply aZ<;>intro w
  ·have g:c<s.length:=fq w;have x:s.drop c=s[c]::s.drop (c+1):=List.drop_eq_getElem_cons g;refine bZ Z (a7 ⟨p,Ym _⟩ ?_);rw[List.take_length];refine Fq (s.drop c) _ _ x (by rw[Ys];omega) ?_;cases l:fG (s.drop c)with
   |err O=>
    have E:=wS l;refine aZ (fun v=>?_) (fun v=>absurd (iZ v) E);refine cR.drop 0 ?_ ?_ ?_ ?_
    ·exact Z
    ·exact Z
    ·exact Z
    refine cR.now Z ⟨Z,Z,?_⟩;rw[EF m g l f];rfl
   |ok A F o=>
    have B:=te l;rw[Ys]at B;have t:c+o<=s.length:=om;have q:=qQ false (s.drop (c+o));rw[Ys]at q;intro N;refine a7 Z (a7 ⟨Z,Z,by simp[j1],Ym _,Qh e om⟩ ?_);refine a1 Z (a1 (dZ b.length) ?_);refine Nv s (c+o) t u (congrArg V.d (congrArg (D.int .i64) (eb om))) ?_;refine⟨(c+o+dw false (s.drop (c+o)),b++[⟨A,F,c⟩]),AO g n e l f,by show s.length-(c+o+dw false (s.drop (c+o)))<s.length-c;omega,?_,rfl,rfl⟩;refine .pick 0 [2] ⟨Z,Uo 2 b ⟨A,F,c⟩,int_eq ?_,tv⟩ Z Z Z Z Z dc ⟨Sg b ⟨A,F,c⟩,KZ _ _,tv⟩;rw[eb om];exact eb om
  ·have g:s.length<=c:=dM w;intro N;refine a7 Z (a7 ⟨Z,Z,by simp[j1],Ym _,Qh e om⟩ ?_);refine a1 Z (a1 (dZ b.length) ?_);rw[Jz m g f];refine EG 1 (b++[⟨0,[],s.length⟩]) (b.length+1) sm ?_;exact vr b b.length Z ⟨0,[],s.length⟩
def BB(f:List UInt8)(e:cZ):Prop:=match kJ f with
 |.ok ts=>∃g c,e=.ret ((cu 0).v ⟨g,c,ts⟩)
 |.err b l=>e=.ret (.agg [.d .cC,b6 0,b6 b,b6 l])
theorem Fs(s:List UInt8){σ:VS}{K:cZ->VS->Prop}(l:∀g,BB s g->K g σ):b3 C cn sV [cE s] σ K:=by
 refine b3.closed (P:=BB s) ?_ Z l;refine cB ?_;refine Ks s (fun g b=>?_);cases c:kJ s with
 |err e n=>
  rw[c]at b;have b:g=.ret (.dN [.d .cC,b6 e,b6 n]):=b;subst b;refine a6 0 ⟨Z,Z,by rw[BB,c];rfl⟩
 |ok ts=>
  rw[c]at b;obtain⟨m,f,rfl⟩:=b;refine a6 0 ⟨Z,Z,by rw[BB,c];exact⟨m,f,rfl⟩⟩
theorem Ig(R:Rd)(c:RS)(n:c.e≠0∨(R.tok c.p).kind=0)(e:c.p<R.ts.length){σ:VS}{K:cZ->VS->Prop}(f:K (.ret (c.v R)) σ):b3 C cn oU [c.v R] σ K:=by
 refine cN ?_ Z Z f;refine cB ?_;apply aZ<;>intro l
 ·have b:c.e=0:=Wb l;have g:=n.resolve_left (fun m=>m b);repeat refine e4 ?_
  refine gj R c 0 e ?_;rw[RS.isKind,decide_eq_true b,decide_eq_true g];repeat refine e4 ?_
  refine qW ?_ ?_<;>exact Z
 ·repeat refine e4 ?_
  refine qW ?_ ?_<;>exact Z
theorem Qi(R:Rd)(b:Nat)(f:(R.tok b).kind≠0)(c:b<R.ts.length){σ:VS}{K:cZ->VS->Prop}(e:K (.ret ((RS.mk b (R.tok b).off 3).v R)) σ):b3 C cn oU [(cu b).v R] σ K:=by
 refine cN ?_ Z Z e;refine cB ?_;refine gj R (cu b) 0 c ?_;rw[fk,decide_eq_false f];refine nA R (cu b) c ?_;refine qW ?_ ?_<;>exact Z
def Up:Prop:=∀(c:Ex) (e:List D),hY c e->fZ c->dh c<4294967295->∀(b:VS) (f:cZ->VS->Prop),f (.ret (b6 (rV c))) b->b3 C cn qa [.agg (e.map V.d)] b f
theorem Ft(O:Up)(s:List UInt8):b3 C cn kz [cE s] [] fun P L=>L=[]/\cX P=true/\xu s P:=by
 refine cB ?_;refine Fs s (fun P g=>?_);unfold BB at g;cases f:kJ s with
 |err m D=>
  rw[f]at g;have g:P=.ret (.agg [.d .cC,b6 0,b6 m,b6 D]):=g;subst g;have p:=AT f;have e:mc s=(nV,m,D):=by rw[mc,f]
  refine aZ (fun t=>?_) (fun t=>absurd (iZ t) p);repeat refine b1 ?_
  refine a6 0 ⟨Z,Z,ke e⟩
 |ok ts=>
  rw[f]at g;obtain⟨n,b,rfl⟩:=g;obtain⟨w,q⟩:=wZ (R:=⟨n,b,ts⟩) f;have N:=Bi (R:=⟨n,b,ts⟩) f;have J:=PJ (R:=⟨n,b,ts⟩) f;have G:=HY (R:=⟨n,b,ts⟩) f;have H:=Dn (R:=⟨n,b,ts⟩) f;have Q:zy ⟨n,b,ts⟩ ts.length=zy ⟨0,0,ts⟩ ts.length:=PX (R:=⟨n,b,ts⟩) (R':=⟨0,0,ts⟩) rfl _;have l:=Bt w N ts.length 0;have x:=Un w G J H ts.length 0 (Nat.sub_le _ _);rw[Q]at l x;refine x.call (cu 0) q (.yd (Ym _)) _ _ (fun h i j k ad aa ac d S U a Y c=>?_);have c:=c rfl;have c:eO (zy ⟨0,0,ts⟩ ts.length 0) S _:=c;cases r:zy ⟨0,0,ts⟩ ts.length 0 with
  |ok z o=>
   rw[r]at c;obtain⟨F,E⟩:=c;subst F;have e:mc s=if(Rd.tok ⟨0,0,ts⟩ o).kind≠0 then(nV,(Rd.tok ⟨0,0,ts⟩ o).off,3)else if rV z≠0 then(nV,0,rV z)else(z,0,0):=by rw[mc,f];dsimp only;rw[r]
   have V:Rd.tok ⟨n,b,ts⟩ o=Rd.tok ⟨0,0,ts⟩ o:=hI (R:=⟨n,b,ts⟩) (R':=⟨0,0,ts⟩) rfl o;rw[<-V]at e;obtain⟨W,ab,_,v⟩:=l 0 z o (Ym _) q r;have K:=w.len;have v:o<ts.length:=v;have K:ts.length<4294967296:=K;by_cases B:(Rd.tok ⟨n,b,ts⟩ o).kind≠0
   ·rw[if_pos B]at e;refine Qi _ o B v ?_;repeat refine b1 ?_
    refine a6 0 ⟨Z,Z,ke e⟩
   ·rw[if_neg B]at e;have I:(Rd.tok ⟨n,b,ts⟩ o).kind=0:=om;refine Ig ⟨n,b,ts⟩ (cu o) (.inr I) v ?_;repeat refine b1 ?_
    refine O z _ E W om _ _ ?_;repeat refine b1 ?_
    refine jm ⟨n,b,ts⟩ (cu o) 0 (rV z) ?_;repeat refine b1 ?_
    apply aZ<;>intro A
    ·have y:rV z≠0:=fun D=>by rw[RS.fail,if_pos (show(cu o).e=0 from rfl),D]at A;cases A
     rw[if_pos y]at e;repeat refine b1 ?_
     refine a6 0 ⟨Z,Z,ke e⟩
    ·have y:rV z=0:=iZ A;rw[if_neg om]at e;repeat refine b1 ?_
     refine a6 0 ⟨Z,Z,by rw[xu,e];exact⟨_,E,rfl⟩⟩
  |bad m D=>
   rw[r]at c;have e:mc s=(nV,m,D):=by rw[mc,f];dsimp only;rw[r]
   obtain⟨p,T,M⟩:=c;have u:S.e≠0:=by rw[M];exact p
   refine Ig ⟨n,b,ts⟩ S (.inl u) U ?_;refine a1 (Qg u) ?_;refine aZ (fun t=>?_) (fun t=>absurd (iZ t) u);rw[T,M];repeat refine b1 ?_
   refine a6 0 ⟨Z,Z,ke e⟩
theorem Ih(b:Up)(e:List UInt8){σ:VS}{K:cZ->VS->Prop}(c:∀f,xu e f->K f σ):b3 C cn kz [cE e] σ K:=
 b3.closed (Ft b e) rfl c
theorem BC{l:List iB}(b:h<l.length):(l.take (h+1)).map iB.ty=(l.take h).map iB.ty++[l[h].ty]:=by
 rw[List.take_add_one,Yv b,List.map_append];rfl
def VO:Nat->Bool:=fun b=>Yq b 26
theorem Fu(K:Nat)(Q n O:List UInt8)(s:Int)(types:List Ty)(b:List iB)(R T z:D)(i:fK types R)(t:eV b T)(aa:types.length+b.length<4294967296):
  b3 C cn nn [Pd K Q n O s R T z] [] fun j S=>S=[]/\cX j=true/\∃L,FG (types++if K=8 then b.map iB.ty else []) L/\j=.ret (.d L):=by
 refine cy VO (fun _=>Z) ?_;cases i with
 |nil=>
  refine a7 ⟨Z,Z,Ym _,Ym _,Yx Z,Yx Z⟩ ?_;refine a8 Z ?_;apply aZ<;>intro B
  ·have l:=BJ (b:=8) B;repeat refine e4 ?_
   rw[if_pos l];cases t with
   |nil=>
    refine b5.loop ?_;refine hX (els:=[]) 0 _ sm ?_ ?_
    ·exact Z
    ·simpa using eX.nil
   |ps t=>
    rename_i E A m o;have u:=t.len;refine cw (eh:=Sz (0,[])) (fN:=Sy (kt K Q n O s .cC (.ps E A 8 m o) z) []) (.same ⟨Z,Z,Z,tv⟩ Z) ?_;refine b5.iter Sz (fun y=>Sy (kt K Q n O s .cC (.ps E A 8 m o) z) y.2) (fun y=>b.length-y.1) (fun y=>y.1<=b.length/\eX ([]++(b.take y.1).map iB.ty) y.2) ?_ (0,[]) ⟨Yo _,by simpa using eX.nil⟩;rintro⟨r,e⟩ ⟨F,c⟩;have F:r<=b.length:=F;have c:eX ([]++(b.take r).map iB.ty) e:=c;have x:=c.len;rw[YA,Yu,Yr]at x;try simp only[Yt]at x
    apply aZ<;>intro G
    ·have f:r<b.length:=u▸fq G;obtain⟨L,J,w⟩:=t.get f;have q:eX ([]++(b.take (r+1)).map iB.ty) (e++[L]):=by rw[BC f,<-List.append_assoc];exact c.snoc w
     obtain⟨Y,h,tn,a,d,rfl⟩:=w.eG;refine bZ Z ?_;refine b7 _ (by rw[cz];exact J) ?_;intro X;refine a7 Z (a7 ⟨Z,Z,by simp,Ym _,pa (show e.length<=4294967296 by omega)⟩ ?_);refine a1 Z (a1 (dZ e.length) ?_);refine⟨(r+1,e++[_]),⟨f,q⟩,by show b.length-(r+1)<b.length-r;omega,?_,rfl,rfl⟩;exact .pick 1 [0,2] ⟨Z,ES 2 e _,int_eq (cq om),tv⟩ Z Z Z Z Z dc ⟨Z,Z,zv e _,fs _ _ _,tv⟩
    ·have f:b.length<=r:=u▸dM G;rw[Yl f]at c;exact hX 0 e.length Z Z c
  ·have l:=wA (b:=8) B;repeat refine e4 ?_
   rw[if_neg l,List.append_nil];refine hX (els:=[]) 0 _ sm ?_ ?_
   ·exact Z
   ·simpa using eX.nil
 |ps W N=>
  rename_i M k H v;cases v with
  |nil=>exact absurd rfl N
  |cons p g=>
   have V:=W.len;have I:g.length+1<4294967296:=by simp only[List.length_cons]at V;omega
   refine a7 Z (a7 ⟨Z,Z,Ym _,Ym _,tX p g I⟩ ?_);refine a1 Z (a1 Z ?_);apply aZ<;>intro B
   ·have l:=BJ (b:=8) B;repeat refine e4 ?_
    rw[if_pos l];cases t with
    |nil=>
     refine b5.loop ?_;refine hX (els:=(p::g)) 1 _ sm ?_ ?_
     ·exact Z
     ·simpa using W
    |ps t=>
     rename_i E A m o;have u:=t.len;refine cw (eh:=Sz (0,(p::g))) (fN:=Sy (kt K Q n O s (.ps M k 5 H (p::g)) (.ps E A 8 m o) z) (p::g)) (.pick 1 [0,2] ⟨Z,La 2 (p::g),Z,tv⟩ Z Z Z Z Z dc ⟨Z,Z,vx p g,fs _ _ _,tv⟩) ?_;refine b5.iter Sz (fun y=>Sy (kt K Q n O s (.ps M k 5 H (p::g)) (.ps E A 8 m o) z) y.2) (fun y=>b.length-y.1) (fun y=>y.1<=b.length/\eX (types++(b.take y.1).map iB.ty) y.2) ?_ (0,(p::g)) ⟨Yo _,by simpa using W⟩;rintro⟨r,e⟩ ⟨F,c⟩;have F:r<=b.length:=F;have c:eX (types++(b.take r).map iB.ty) e:=c;have x:=c.len;rw[YA,Yu,Yr]at x;try simp only[Yt]at x
     apply aZ<;>intro G
     ·have f:r<b.length:=u▸fq G;obtain⟨L,J,w⟩:=t.get f;have q:eX (types++(b.take (r+1)).map iB.ty) (e++[L]):=by rw[BC f,<-List.append_assoc];exact c.snoc w
      obtain⟨Y,h,tn,a,d,rfl⟩:=w.eG;refine bZ Z ?_;refine b7 _ (by rw[cz];exact J) ?_;intro X;refine a7 Z (a7 ⟨Z,Z,by simp,Ym _,pa (show e.length<=4294967296 by omega)⟩ ?_);refine a1 Z (a1 (dZ e.length) ?_);refine⟨(r+1,e++[_]),⟨f,q⟩,by show b.length-(r+1)<b.length-r;omega,?_,rfl,rfl⟩;exact .pick 1 [0,2] ⟨Z,ES 2 e _,int_eq (cq om),tv⟩ Z Z Z Z Z dc ⟨Z,Z,zv e _,fs _ _ _,tv⟩
     ·have f:b.length<=r:=u▸dM G;rw[Yl f]at c;exact hX 0 e.length Z Z c
   ·have l:=wA (b:=8) B;repeat refine e4 ?_
    rw[if_neg l,List.append_nil];refine hX (els:=(p::g)) 1 _ sm ?_ ?_
    ·exact Z
    ·simpa using W
theorem yO{e:Ex}{g:List D}(m:hY e g)(s:∀l v t p c types b f,e=.mk l v t p c types b f->types.length+b.length<4294967296){σ:VS}{K:cZ->VS->Prop}(q:∀g,FG (l4 e) g->K (.ret (.d g)) σ):b3 C cn nn [.agg (g.map V.d)] σ K:=by
 cases m with
 |mk n u z=>
  rename_i l v t p c types b f w x o;have r:=s _ _ _ _ _ _ _ _ rfl;exact b3.closed (P:=fun y=>∃g,FG (types++if l=8 then b.map iB.ty else []) g/\y=.ret (.d g)) (Fu l v t p c types b w x o n u r) rfl (fun y ⟨g,A,e⟩=>by rw[e];exact q g A)
theorem CH(n:Nat)(G:∀(m:Ex) (o:List D),dh m<=n->hY m o->∀{u:VS} {H:cZ->VS->Prop},H (.ret (b6 (l5 m))) u->b3 C cn gJ [.agg (o.map V.d)] u H) 
  (m:Ex) (o:List D) (d:dh m<=n+1) (i:n<4294967295) (x:hY m o):b3 C cn gJ [.agg (o.map V.d)] [] fun y f=>f=[]/\y=.ret (b6 (l5 m)):=by
 have q:=gx m;rw[x4];cases x with
 |mk R X t=>
  rename_i W a z U r types p b B E T;have K:c8 b<=n:=by simp only[Ex.kids]at q;omega
  show b3 C cn gJ [.agg _] [] fun y f=>f=[]/\y=.ret (b6 (gR b+1));have J:=j5 b;refine cB ?_;cases t with
  |nil=>
   refine b5.loop ?_;exact a6 0 ⟨Z,Z⟩
  |ps N=>
   rename_i Y S s v;have g:=N.len;refine b5.less (eh:=[(1,.bp 0 0),(3,b6 0),(4,b6 0)]) ⟨Z,Z,Z,tv⟩ ?_;refine b5.iter (fun e:Nat=>[(1,.bp 0 0),(3,b6 (gR (b.take e))),(4,b6 e)]) (fun _=>[.box (kt W a z U r B E (.ps Y S 8 s v))]) (fun e=>b.length-e) (fun e=>e<=b.length) ?_ 0 (Yo _);intro e h;apply aZ<;>intro w
   ·have c:e<b.length:=g▸fq w;obtain⟨o,F,l⟩:=N.get c;refine bZ Z ?_;obtain⟨k,Q,aa,j,A,O,M,I,rfl⟩:=l.eight;refine b7 _ (by rw[cz];exact F) ?_;have P:=j6 (Yp c);refine G b[e] _ om l ?_;refine⟨e+1,c,by show b.length-(e+1)<b.length-e;omega,.drop 1 ⟨rfl,int_eq ?_,int_eq (cq om),tv⟩ rfl rfl rfl rfl rfl rfl rfl,rfl,rfl⟩;rw[xa c];simp only[Yy];omega
   ·have c:b.length<=e:=g▸dM w;rw[Yl c];have L:=A5 b;refine a6 0 ⟨Z,?_⟩;exact congrArg cZ.ret (congrArg V.d (congrArg (D.int .i64) (cq om)))
theorem Fv:∀(f:Nat) (b:Ex) (e:List D),f<4294967295->dh b<=f->hY b e->∀{c:VS} {l:cZ->VS->Prop},l (.ret (b6 (l5 b))) c->b3 C cn gJ [.agg (e.map V.d)] c l:=by
 intro f;induction f with
 |zero=>intro b e _ t;have:=ia b;omega
 |succ f q=>
  intro b e x t g c l n;obtain⟨y,v,z,w,p,u,s,r,rfl⟩:=g.eight;exact cN (CH f (fun b e o m=>q b e om o m) b _ t om g) Z Z n
theorem Fw(n:Nat)(d:∀(r:Ex) (A:List D),dh r<=n->fZ r->hY r A->∀{X:VS} {ac:cZ->VS->Prop},ac (.ret (b6 (dh r))) X->b3 C cn iN [.agg (A.map V.d)] X ac) 
  (r:Ex) (A:List D) (j:dh r<=n+1) (ai:n<4294967294) (G:fZ r) (z:hY r A):b3 C cn iN [.agg (A.map V.d)] [] fun ah U=>U=[]/\ah=.ret (b6 (dh r)):=by
 have B:=gx r;have v:=fun R S n Q p types s b (aa:r=.mk R S n Q p types s b)=>xm G aa om;have t:=G.kids;obtain⟨R,S,H,Q,p,J,K,P,rfl⟩:=z.eight;refine cB ?_;refine yO z v (fun A E=>?_);have u:fM r.kids P:=by cases z;assumption
 have x:cL (l4 r)+c8 r.kids<=n:=om;rw[B];generalize l4 r=own at E x;generalize r.kids=b at u x t;clear z G B j v;have ad:=j5 b;have ae:=fu own;have i:∀{ag:Prop},ag->ag:=fun y=>y;cases E with
 |nil=>
  refine b5.loop ?_;cases u with
  |nil=>
   refine b5.loop ?_;exact a6 0 ⟨Z,Z⟩
  |ps y=>
   rename_i M L m o;have f:=y.len;refine b5.less (eh:=[(1,.bp 0 0),(3,b6 (1+cL []+0)),(6,b6 0)]) ⟨Z,Z,Z,tv⟩ ?_;refine b5.iter (fun e:Nat=>[(1,.bp 0 0),(3,b6 (1+cL []+c8 (b.take e))),(6,b6 e)]) (fun _=>[.box (kt R S H Q p J K (.ps M L 8 m o))]) (fun e=>b.length-e) (fun e=>e<=b.length) ?_ 0 (Yo _);intro e W;apply aZ<;>intro q
   ·have c:e<b.length:=f▸fq q;obtain⟨A,w,g⟩:=y.get c;refine bZ Z ?_;obtain⟨a,O,ab,k,I,h,Y,N,rfl⟩:=g.eight;refine b7 _ (by rw[cz];exact w) ?_;have l:b[e]∈b:=Yp c;have F:=j6 l;refine d b[e] _ om (t _ l) g ?_;refine⟨e+1,c,by show b.length-(e+1)<b.length-e;omega,.drop 1 ⟨rfl,int_eq ?_,int_eq (cq om),tv⟩ rfl rfl rfl rfl rfl rfl rfl,rfl,rfl⟩;have T:=l6 b e;rw[p2 c,<-Yw];exact eb om
   ·have c:b.length<=e:=f▸dM q;rw[Yl c];exact a6 0 ⟨Z,Z⟩
 |ps y=>
  rename_i M L m o;have f:=y.len;refine b5.less (eh:=[(1,.bp 0 0),(3,b6 (1+0)),(4,.d (.ps M L 5 m o)),(5,b6 0)]) ⟨Z,Z,Z,Z,tv⟩ ?_;refine b5.iter (fun e:Nat=>[(1,.bp 0 0),(3,b6 (1+cL (own.take e))),(4,.d (.ps M L 5 m o)),(5,b6 e)]) (fun _=>[.box (kt R S H Q p J K P)]) (fun e=>own.length-e) (fun e=>e<=own.length) ?_ 0 (Yo _);intro e W;apply aZ<;>intro q
  ·have c:e<own.length:=f▸fq q;obtain⟨A,w,g⟩:=y.get c;refine bZ Z ?_;obtain⟨a,O,af,aj,f2,rfl⟩:=g.eG;refine b7 _ (by rw[cz];exact w) ?_;have F:=gG (Yp c);refine AV _ own[e] _ om (Ym _) g ?_;refine⟨e+1,c,by show own.length-(e+1)<own.length-e;omega,.drop 1 ⟨rfl,int_eq ?_,rfl,int_eq (cq om),tv⟩ rfl rfl rfl rfl rfl rfl rfl,rfl,rfl⟩;have T:=lW own e;rw[pZ c,<-Yw];exact eb om
  ·have c:own.length<=e:=f▸dM q;rw[Yl c];cases u with
   |nil=>
    refine b5.loop ?_;exact a6 0 ⟨Z,Z⟩
   |ps y=>
    rename_i M L m o;have f:=y.len;refine b5.less (eh:=[(1,.bp 0 0),(3,b6 (1+cL own+0)),(6,b6 0)]) ⟨Z,Z,Z,tv⟩ ?_;refine b5.iter (fun e:Nat=>[(1,.bp 0 0),(3,b6 (1+cL own+c8 (b.take e))),(6,b6 e)]) (fun _=>[.box (kt R S H Q p J K (.ps M L 8 m o))]) (fun e=>b.length-e) (fun e=>e<=b.length) ?_ 0 (Yo _);intro e W;apply aZ<;>intro q
    ·have c:e<b.length:=f▸fq q;obtain⟨A,w,g⟩:=y.get c;refine bZ Z ?_;obtain⟨a,O,ab,k,I,h,Y,N,rfl⟩:=g.eight;refine b7 _ (by rw[cz];exact w) ?_;have l:b[e]∈b:=Yp c;have F:=j6 l;refine d b[e] _ om (t _ l) g ?_;refine⟨e+1,c,by show b.length-(e+1)<b.length-e;omega,.drop 1 ⟨rfl,int_eq ?_,int_eq (cq om),tv⟩ rfl rfl rfl rfl rfl rfl rfl,rfl,rfl⟩;have T:=l6 b e;rw[p2 c,<-Yw];exact eb om
    ·have c:b.length<=e:=f▸dM q;rw[Yl c];exact a6 0 ⟨Z,Z⟩
theorem Ii:∀(f:Nat) (b:Ex) (e:List D),f<4294967295->dh b<=f->fZ b->hY b e->∀{c:VS} {l:cZ->VS->Prop},l (.ret (b6 (dh b))) c->b3 C cn iN [.agg (e.map V.d)] c l:=by
 intro f;induction f with
 |zero=>intro b e _ v;have:=ia b;omega
 |succ f s=>
  intro b e z v n g c l o;obtain⟨A,x,B,y,q,w,u,t,rfl⟩:=g.eight;exact cN (Fw f (fun b e p m r=>s b e om p m r) b _ v om n g) Z Z o
def Lu:Prop:=∀(c:Ex) (e:List D),hY c e->fZ c->dh c<4294967295->∀(b:VS) (f:cZ->VS->Prop),f (.ret (b6 (nT c))) b->b3 C cn lj [.agg (e.map V.d)] b f
theorem Nw:∀(n:Nat) (e:Ex) (l:Nat),dh e<=n->ja iU e ()=.inr l->l≠0:=by
 intro n;induction n with
 |zero=>intro e l r;have:=ia e;omega
 |succ n q=>
  intro e l r c;have v:=gx e;rw[nv,iU]at c;by_cases g:nT e=0
  ·rw[if_pos g]at c;have m:∀o:List Ex,c8 o<=n->fY iU o ()=.inr l->l≠0:=by
    intro o;induction o with
    |nil=>intro _ r;cases r
    |cons u o p=>
     intro t b;rw[c8]at t;rw[fY]at b;cases f:ja iU u ()with
     |inl w=>rw[f]at b;exact p om b
     |inr s=>rw[f]at b;cases b;exact q u l om f
   exact m e.kids om c
  ·rw[if_neg g]at c;cases c;exact g
theorem Fx(H:Lu)(n:Nat)(U:∀(e:Ex) (A:List D),dh e<=n->fZ e->hY e A->∀{J:VS} {X:cZ->VS->Prop},X (.ret (b6 (SG (ja iU e ())))) J->b3 C cn iO [.agg (A.map V.d)] J X) 
  (e:Ex) (A:List D) (Q:dh e<=n+1) (ai:n<4294967294) (v:fZ e) (o:hY e A):b3 C cn iO [.agg (A.map V.d)] [] fun aa I=>I=[]/\aa=.ret (b6 (SG (ja iU e ()))):=by
 have B:=gx e;have q:=v.kids;have u:=o;obtain⟨ae,ag,O,ad,E,P,R,M,rfl⟩:=o.eight;refine cB ?_;refine H e _ u v om _ _ ?_;rw[nv,iU];have s:fM e.kids M:=by cases o;assumption
 have z:c8 e.kids<=n:=om;apply aZ<;>intro w
 ·have l:nT e≠0:=fun T=>by rw[T]at w;cases w
  rw[if_neg l];repeat refine e4 ?_
  exact a6 0 ⟨Z,Z⟩
 ·have l:nT e=0:=iZ w;rw[if_pos l];repeat refine e4 ?_
  generalize e.kids=b at s z q;clear o v B Q u;have a:=j5 b;cases s with
  |nil=>
   refine b5.loop ?_;exact a6 0 ⟨Z,Z⟩
  |ps i=>
   rename_i af ac F K;have r:=i.len;refine b5.less (eh:=[(1,.bp 0 0),(4,b6 0)]) ⟨Z,Z,tv⟩ ?_;refine b5.iter (fun f:Nat=>[(1,.bp 0 0),(4,b6 f)]) (fun _=>[.box (kt ae ag O ad E P R (.ps af ac 8 F K))]) (fun f=>b.length-f) (fun f=>f<=b.length/\fY iU (b.take f) ()=.inl ()) ?_ 0 ⟨Yo _,Z⟩;rintro f ⟨ah,x⟩;apply aZ<;>intro L
   ·have c:f<b.length:=r▸fq L;obtain⟨A,S,t⟩:=i.get c;refine bZ Z ?_;obtain⟨ak,ab,al,aj,N,j,h,Y,rfl⟩:=t.eight;refine b7 _ (by rw[cz];exact S) ?_;have m:b[f]∈b:=Yp c;have k:=j6 m;refine U b[f] _ om (q _ m) t ?_;have p:=tq iU c x;cases g:ja iU b[f] ()with
    |inl am=>
     rw[g]at p;exact⟨f+1,⟨c,p⟩,by show b.length-(f+1)<b.length-f;omega,.drop 1 ⟨rfl,int_eq (cq om),tv⟩ rfl rfl rfl rfl rfl rfl rfl,rfl,rfl⟩
    |inr d=>
     rw[g]at p;have W:d≠0:=Nw _ _ _ (Ym _) g;have y:fY iU b ()=.inr d:=tr iU p;refine aZ (fun G=>?_) (fun G=>absurd (iZ G) W);repeat refine e4 ?_
     refine a6 0 ⟨Z,?_⟩;show _=cZ.ret (b6 (SG (fY iU b ())));rw[y];rfl
   ·have c:b.length<=f:=r▸dM L;rw[Yl c]at x;refine a6 0 ⟨Z,?_⟩;show _=cZ.ret (b6 (SG (fY iU b ())));rw[x];rfl
theorem Ij(l:Lu):∀(f:Nat) (b:Ex) (e:List D),f<4294967295->dh b<=f->fZ b->hY b e->∀{c:VS} {m:cZ->VS->Prop},m (.ret (b6 (SG (ja iU b ())))) c->b3 C cn iO [.agg (e.map V.d)] c m:=by
 intro f;induction f with
 |zero=>intro b e _ w;have:=ia b;omega
 |succ f t=>
  intro b e A w o g c m p;obtain⟨B,y,E,z,r,x,v,u,rfl⟩:=g.eight;exact cN (Fx l f (fun b e q n s=>t b e om q n s) b _ w om o g) Z Z p
theorem Sh(o:Lu):Up:=by
 intro g A e m f v x q;obtain⟨z,C,B,y,r,t,u,s,rfl⟩:=e.eight;refine cN ?_ Z Z q;refine cB ?_;refine Ii _ g _ f (Ym _) m e ?_;rw[rV];apply aZ<;>intro n
 ·have c:4096<dh g:=fq (a:=4096) n;rw[if_pos (.inl c)];repeat refine e4 ?_
  exact a6 0 ⟨Z,Z⟩
 ·have c:¬4096<dh g:=Nat.not_lt.2 (dM (a:=4096) n);repeat refine e4 ?_
  refine Fv _ g _ f (Ym _) e ?_;repeat refine e4 ?_
  apply aZ<;>intro l
  ·have b:32<l5 g:=fq (a:=32) l;rw[if_pos (.inr b)];repeat refine e4 ?_
   exact a6 0 ⟨Z,Z⟩
  ·have b:¬32<l5 g:=Nat.not_lt.2 (dM (a:=32) l);rw[if_neg (fun w=>w.elim c b)];repeat refine e4 ?_
   refine Ij o _ g _ f (Ym _) m e ?_;exact a6 0 ⟨Z,Z⟩
variable{j:List iB} {k:D}
theorem Nx(q:eV j k)(y:j.length<4294967296){σ:VS}{K:cZ->VS->Prop}(p:K (.ret (b6 (xc j))) σ):b3 C cn qe [.d k] σ K:=by
 refine cN ?_ Z Z p;refine cB ?_;cases q with
 |nil=>
  refine b5.loop ?_;exact a6 0 ⟨Z,Z⟩
 |ps v=>
  rename_i u s g l;have f:=v.len;refine b5.less (eh:=[(0,.d (.ps u s 8 g l)),(3,b6 0),(4,b6 0)]) ⟨Z,Z,Z,tv⟩ ?_;refine b5.iter (fun c:Nat=>[(0,.d (.ps u s 8 g l)),(3,b6 (xc (j.take c))),(4,b6 c)]) (fun _=>[]) (fun c=>j.length-c) (fun c=>c<=j.length) ?_ 0 (Yo _);intro c x;apply aZ<;>intro o
  ·have b:c<j.length:=f▸fq o;obtain⟨B,r,n⟩:=v.get b;obtain⟨z,w,t,A,f2,rfl⟩:=n.eG;have m:=E7 (j.take c);rw[Yr]at m;refine bZ Z ?_;refine b7 _ (by rw[cz];exact r) ?_;apply aZ<;>intro e
   ·have e:j[c].oa=true:=e;refine⟨c+1,b,by show j.length-(c+1)<j.length-c;omega,.same ⟨rfl,int_eq ?_,int_eq (cq om),tv⟩ rfl,rfl,rfl⟩;rw[x5 b,e,if_pos rfl];exact cq om
   ·have e:j[c].oa=false:=e;refine⟨c+1,b,by show j.length-(c+1)<j.length-c;omega,.same ⟨rfl,int_eq ?_,int_eq (cq om),tv⟩ rfl,rfl,rfl⟩;rw[x5 b,e,if_neg dc];rfl
  ·have b:j.length<=c:=f▸dM o;rw[Yl b];exact a6 0 ⟨Z,Z⟩
def VP:Nat->Bool:=fun b=>Yq b 9
def VT:List (List UInt8):=[[43],[45],[42],[60],[61,61],[61,61,61],[43,43],[97,110,100],[111,114]]
theorem BD{n:List UInt8}(b:n∈Hu){σ:VS}{K:cZ->VS->Prop}(c:K (.ret (b6 1)) σ):b3 C cn lk [cE n] σ K:=by
 refine cN ?_ Z Z c;simp only[Hu,List.mem_cons,List.not_mem_nil,or_false]at b;rcases b with rfl|rfl;all_goals
  refine cy VP (fun _=>Z) ?_;exact a6 0 ⟨Z,Z⟩
theorem BE{n:List UInt8}(b:n∈y9){σ:VS}{K:cZ->VS->Prop}(e:K (.ret (b6 2)) σ):b3 C cn lk [cE n] σ K:=by
 refine cN ?_ Z Z e;have c:n∈VT:=b;have m:decide (n=[110,111,116])=false:=decide_eq_false fun f=>by subst f;revert b;decide
 have g:decide (n=[108,101,110,103,116,104])=false:=decide_eq_false fun f=>by subst f;revert b;decide
 refine cy VP (fun _=>Z) ?_;repeat refine e4 ?_
 intro l;refine rN VT dc n l 9 ?_;rw[decide_eq_true c];exact a6 0 ⟨Z,Z⟩
def ql(c:Nat)(b:Int):List V:=match c with
 |0=>[b0 false,b0 false,b0 true,b0 false,b0 false,b0 false,b0 false,.d (.int .i64 b),b0 false]
 |1=>[b0 false,b0 true,b0 false,b0 false,b0 false,b0 false,b0 false,.d (.int .i64 b),b0 false]
 |2=>[b0 false,b0 false,b0 true,b0 false,b0 false,b0 false,b0 false,.d (.int .i64 b),b0 false]
 |4=>[b0 true,b0 false,b0 false,b0 true,b0 false,b0 false,b0 true,.d (.int .i64 b),b0 false]
 |5=>[b0 false,b0 false,b0 false,b0 false,b0 true,b0 false,b0 false,.d (.int .i64 b),b0 false]
 |8=>[b0 false,b0 false,b0 false,b0 false,b0 true,b0 false,b0 false,.d (.int .i64 b),b0 false]
 |9=>[b0 false,b0 false,b0 false,b0 false,b0 true,b0 false,b0 false,.d (.int .i64 b),b0 false]
 |11=>[b0 false,b0 false,b0 false,b0 false,b0 false,b0 false,b0 true,.d (.int .i64 b),b0 true]
 |12=>[b0 false,b0 false,b0 false,b0 false,b0 false,b0 false,b0 true,.d (.int .i64 b),b0 true]
 |13=>[b0 false,b0 false,b0 false,b0 false,b0 true,b0 true,b0 true,.d (.int .i64 b),b0 true]
 |14=>[b0 false,b0 false,b0 false,b0 false,b0 false,b0 false,b0 true,.d (.int .i64 (-1)),b0 true]
 |15=>[b0 true,b0 true,b0 false,b0 false,b0 false,b0 false,b0 true,.d (.int .i64 b),b0 true]
 |_=>[b0 true,b0 false,b0 false,b0 false,b0 false,b0 false,b0 false,.d (.int .i64 b),b0 false]
theorem CI{G n F:List UInt8}{s:Int}{types:List Ty}{m:List Ex}{r B:D}(K:gh (.mk h G n F s types j m))(y:eV j r)(v:j.length<4294967296):
  b3 C cn mm [Pd h G n F s k r B] [] fun H z=>z=[]/\H=.ret (.dN [.agg (ql h (Yn m.length)),b0 true]):=by
 have e:(r=.cC/\j.length=0)∨∃p o q c,r=.ps p o 8 q c/\c.length=j.length:=by
  rcases y.inv with⟨u,t⟩|⟨p,o,q,c,u,t⟩
  ·exact .inl ⟨t,by rw[u];rfl⟩
  ·exact .inr ⟨p,o,q,c,u,t.len⟩
 have J:∀A:Nat,A<4294967296->cZ.ret (.dN [.agg (ql 5 (Yn A)),b0 true])=cZ.ret (.dN [.agg (ql 5 (Yn A)),b0 true]):=fun _ _=>rfl;cases K with
 |int|text|bool|loc|val|Rh|inj|Ri|V9|cond|Wa|fold=>
  rcases e with⟨rfl,_⟩|⟨p,o,q,c,rfl,b⟩;all_goals
   refine cB ?_;exact a6 0 ⟨Z,Z⟩
 |O3 g f=>
  rw[f];rcases e with⟨rfl,b⟩|⟨p,o,q,c,rfl,b⟩;all_goals
   first|rw[b]|rw[<-b]
   refine cB ?_;exact a6 0 ⟨Z,Z⟩
 |call g f=>
  rw[f];rcases e with⟨rfl,b⟩|⟨p,o,q,c,rfl,b⟩
  ·rw[b];refine cB ?_;exact a6 0 ⟨Z,Z⟩
  ·rw[<-b];refine cB ?_;exact a6 0 ⟨Z,congrArg (fun w=>cZ.ret (.dN [.agg (ql 9 w),b0 true])) (cq om)⟩
 |Uu I g f=>
  rw[f];rcases e with⟨rfl,b⟩|⟨p,o,q,c,rfl,b⟩
  ·rw[b];refine cB ?_;exact a6 0 ⟨Z,Z⟩
  ·rw[<-b];refine cB ?_;exact a6 0 ⟨Z,congrArg (fun w=>cZ.ret (.dN [.agg (ql 13 w),b0 true])) (cq om)⟩
 |func g f=>
  have E:=E7 j;rw[f];have x:=y;rcases e with⟨rfl,b⟩|⟨p,o,q,c,rfl,b⟩;all_goals
   refine cB ?_;refine Nx x v ?_;exact a6 0 ⟨Z,congrArg (fun w=>cZ.ret (.dN [.agg (ql 8 w),b0 true])) (cq om)⟩
 |one l=>
  rcases e with⟨rfl,_⟩|⟨p,o,q,c,rfl,b⟩;all_goals
   refine cB ?_;repeat refine b1 ?_
   refine BD l ?_;repeat refine b1 ?_
   refine BD l ?_;repeat refine b1 ?_
   exact a6 0 ⟨Z,Z⟩
 |two l=>
  rcases e with⟨rfl,_⟩|⟨p,o,q,c,rfl,b⟩;all_goals
   refine cB ?_;repeat refine b1 ?_
   refine BE l ?_;repeat refine b1 ?_
   refine BE l ?_;repeat refine b1 ?_
   exact a6 0 ⟨Z,Z⟩
end Go.Proofs.YthlkhjchcjflkaaGreatDoor
