/- Part of the proof. -/
import Derived.Test.YthlkhjchcjflkaaGreatDoorKAt
set_option linter.all false
set_option maxHeartbeats 16000000
set_option maxRecDepth 100000
open Nat renaming succ_ne_zero->Yl,zero_le->Ym,le_refl->Yo,beq->YB,eq_of_beq_eq_true->YI
open Int renaming ofNat->Yn,ofNat_eq_natCast->Yp
open List renaming take->Yq,length_take->Yr,drop_eq_getElem_cons->Ys,getElem?_eq_getElem->Yt,length_drop->Yu,drop->Yv,drop_of_length_le->Yw,length_map->Yx,take_of_length_le->Yy,length_cons->Yz,length_append->YA,length_nil->YC,drop_zero->YD,find?_append->YE,map_append->YG,map_cons->YH
open Bool renaming and_eq_true->YF,false_eq_true->YJ
namespace Go.Proofs.YthlkhjchcjflkaaGreatDoor
open Go.AM Go.VM
theorem vE(xs:List FE)(n:Nat)(q:n=xs.length)(o:n<4294967296)(p:Nat){σ:VS}{K:cZ->VS->Prop}(b:nth σ p=some (.row 7 (rows xs)))(e:∀c,K (.ret (.d (.ps c 0 1 n (et (xs.map FE.n))))) σ):
  b3 C cn kv [.ms p 7 0 n n] σ K:=by
 refine rD (eN:=[.ms 0 7 0 n n]) (P:=fun h a=>a=rows xs/\∃c,h=.ret (.d (.ps c 0 1 n (et (xs.map FE.n))))) ((HJ xs n q o).mono fun h r l=>?_) p b (pY xs) Z Z (fun h a l=>?_)
 ·obtain⟨rfl,c,rfl⟩:=l;exact⟨rows xs,Z,Z,pY xs,Z,c,Z⟩
 ·obtain⟨rfl,c,rfl⟩:=l;rw[tg b];exact e c
theorem HK(e:Rd)(r:e.Wf)(p:Nat->PR Ty)(lo:Nat)(o:uJ p e lo)(c:RS)(a:c.e≠0)(b:c.p<e.ts.length)(n h:List UInt8)(l:Bool){σ:VS}{K:cZ->VS->Prop}(q:K (.ret (.dN [.d .cC,c.v e])) σ):b3 C cn jG [c.v e,cE n,cE h,b0 l] σ K:=by
 refine cN ?_ Z Z q;refine cB ?_;refine cJ e c h b ?_;rw[dv a];refine b5.loop ?_;refine dT e r c 1 b ?_;rw[lx a,RS.dm,hO a,if_neg dc];refine vE [] 0 Z dc 2 Z (fun t=>?_);refine hP [] [] t 0 dc ?_;cases l with
 |false=>
  refine cG e r c [58] b ?_;rw[eA a];refine o.err c a b _ _ (fun x u s v w=>?_);refine aZ (fun d=>?_) (fun d=>absurd (iZ d) a);repeat refine b1 ?_
  refine qW ?_ ?_<;>exact Z
 |true=>
  refine cJ e c [63] b ?_;rw[dv a];refine cG e r c [58] b ?_;rw[eA a];refine o.err c a b _ _ (fun x u s v w=>?_);refine aZ (fun d=>?_) (fun d=>absurd (iZ d) a);repeat refine b1 ?_
  refine qW ?_ ?_<;>exact Z
def Vs(d:Rd)(l:PR (List nB))(e:cZ):Prop:=match l with
 |.ok n c=>∃b,eP n b/\e=.ret (.dN [.d b,(cu c).v d])
 |.bad a h=>h≠0/\∃b c,c<d.ts.length/\e=.ret (.dN [.d b,(RS.mk c a h).v d])
def Xa:Nat->Bool:=fun a=>YB a 69||YB a 1000012||YB a 1000017
def PC(a:Rd)(p:Nat)(xs:List FE):VS:=[.box [.d (.ps a.b 0 3 a.cap (a.ts.map mK)),b6 p,b6 0,b6 0],.box tx,.row 7 (rows xs)]
def XC(c b:List UInt8)(a:Bool)(n:Nat):Tm:=[(1,cE c),(2,cE b),(3,b0 a),(4,.bp 0 0),(8,.d .cC),(9,.bp 1 0),(10,.ms 2 7 0 n n)]
def Rv(a:Rd)(b:Nat):List V:=[.d (.ps a.b 0 3 a.cap (a.ts.map mK)),b6 b,b6 0,b6 0]
def Wc(n:List UInt8)(o:Bool):List V:=[cE n,.d (.int .i64 0),.d (.str []),.d (.str []),.d .cC,.d .cC,b0 o]
def Rw(c b:List UInt8)(a:Bool)(n d:Nat):Tm:=[(1,cE c),(2,cE b),(3,b0 a),(4,.bp 0 0),(8,.d .cC),(9,.bp 1 0),(10,.ms 2 7 0 n n),(13,.bp 3 0),(14,.bp 4 0),(15,b6 d)]
def PD(c b:List UInt8)(a:Bool)(n:Nat):Tm:=[(1,cE c),(2,cE b),(3,b0 a),(4,.bp 0 0),(8,.d .cC),(9,.bp 1 0),(10,.ms 2 7 0 n n),(13,.bp 3 0)]
variable{i:Nat} {g:Nat->Bool->Prop}
theorem xo{b:Bool}{p:Unit->Prop}(a:i=0)(c:b=true)(d:p ()):Go.VM.Od.match_1 (fun _ _=>Prop) i b p g:=by
 subst a c;exact d
theorem ui{b:Bool}{p:Unit->Prop}(a:i≠0∨b=false)(c:g i b):Go.VM.Od.match_1 (fun _ _=>Prop) i b p g:=by
 cases i with
 |succ i=>exact c
 |zero=>
  cases b with
  |false=>exact c
  |true=>rcases a with a|a<;>simp at a
theorem lO{a b:Nat}(c:a=b):YB a b=true:=by subst c;exact gE a
theorem Rx(b Z:List (List V))(e:List V)(a n:Nat)(h:Z.length=n)(l:a<=n):Yq (0+(Yq (a-0) (Yv (0+0) Z)).length+1) (Yv 0 (Yq (0+(Yq (a-0) (Yv (0+0) Z)).length) (Yv 0 (Yq 0 (Yv 0 b)++Yq (a-0) (Yv (0+0) Z)))++[e]))++Yq (n-a) (Yv (0+a) Z)=Yq a Z++e::Yv a Z:=by
 have c:Yq (n-a) (Yv a Z)=Yv a Z:=Yy (by rw[Yu];omega);have d:Yq (Yq a Z).length (Yq a Z)=Yq a Z:=List.take_length;simp only[Nat.zero_add,YD,List.take_zero,List.nil_append,Nat.sub_zero,c,d];rw[Yy sm,List.append_assoc];rfl
theorem Ry(c Z:List (List V))(d:List V)(a:Nat)(b:a=0):Yq (0+1) (Yv 0 (Yq 0 (Yv 0 c)++[d]))++Z=Yq a Z++d::Yv a Z:=by
 subst b;rfl
theorem Rz(a Z:List (List V))(d:List V)(c:Nat)(b:Z.length=0):Yq 0 (Yv 0 a)++[d]=Yq c Z++d::Yv c Z:=by
 obtain rfl:=List.eq_nil_of_length_eq_zero b;simp
theorem RA(c Z:List (List V))(d:List V)(a:Nat)(b:a=Z.length):Yq (0+Z.length) (Yv 0 (Yq 0 (Yv 0 c)++Z))++[d]=Yq a Z++d::Yv a Z:=by
 subst b;simp
theorem n5{a b:Nat}(d:a≠b):YB a b=false:=by
 cases c:YB a b with
 |false=>rfl
 |true=>exact absurd (YI c) d
theorem wy{a b:Nat}(d:b<a):Nat.ble a b=false:=by
 cases c:Nat.ble a b with
 |false=>rfl
 |true=>have:=Nat.le_of_ble_eq_true c;omega
variable{k:List FE}
theorem Bn{a:Nat}(b:i=k.length):some (V.ms a 7 0 i i)=some (V.ms a 7 0 k.length k.length):=by rw[b]
variable{j:Nat->Nat}
theorem xp{l:List (List V)}(a:l=rows k):some (cU.row 7 l)=some (eC j (.row 7 (rows k))):=by
 rw[a];exact congrArg some (mM j 7 (k.map fe)).symm
theorem hH{c n:Nat}(a:c+n<=4294967296):(c+n)*112<=eE/\c+n<=eE:=by
 unfold eE;omega
theorem Fe{xs:List FE}{a:FE}{l:List (List V)}(b:l=(rows xs).take (nb (xs.map FE.n) a.n)++(fe a).map V.d::(rows xs).drop (nb (xs.map FE.n) a.n)):l=rows (jk FE.n a xs):=by
 rw[b,Fb];simp only[rows,YG,YH,List.map_take,List.map_drop]
theorem CA(b:Rd)(N:b.Wf)(D:Nat->PR Ty)(p:Nat)(az:p<b.ts.length)(B:uJ D b p)(l d:List UInt8)(aA:l≠d)(c:Bool):
  b3 C cn jG [(cu p).v b,cE l,cE d,b0 c] [] fun aM aB=>aB=[]/\cX aM=true/\Vs b (ea D b l d c p) aM:=by
 have aH:=N.len;have aC:∀{t:Tok},cD t l=true->cD t d=false:=by
  intro t aw;simp only[cD,YF,decide_eq_true_eq]at aw;rw[cD,aw.1,decide_eq_false aA];rfl
 refine cy Xa (fun _=>Z) ?_;refine cJ b (cu p) d az ?_;rw[eS];cases aw:cD (b.tok p) d with
 |true=>
  refine cP b (cu p) (by show p<4294967296;omega) ?_;refine xn (i:=2) (es:=7) (els:=[]) Z Z (fun ao=>?_);rw[ea,aw,if_pos rfl];exact⟨_,.ps .nil,Z⟩
 |false=>
  refine cw (eh:=XC l d c 0) (fN:=PC b p []) (.same ⟨Z,Z,Z,Z,Z,Z,Z,tv⟩ Z) ?_;refine b5.iter (fun x:Nat×List nB×List FE=>XC l d c x.2.2.length) (fun x=>PC b x.1 x.2.2) (fun x=>b.ts.length-x.1)
   (fun x=>p<=x.1/\x.1<b.ts.length/\x.2.2.length<=x.1/\kB (ct (·.1) x.2.1) x.2.2/\(x.2.1.map (·.1)).Nodup/\∃F,b.ts.length-x.1<=F/\ea D b l d c p=(cW D b l d c F x.2.1 x.1).map (ct (·.1))) ?_ (p,[],[]) ⟨Yo _,az,Ym _,.nil,List.nodup_nil,b.ts.length,Nat.sub_le _ _,by rw[ea,aw,if_neg dc]⟩
  rintro⟨h,o,a⟩ ⟨ac,r,aa,P,O,F,ap,e⟩;have ac:p<=h:=ac;have r:h<b.ts.length:=r;have aa:a.length<=h:=aa;have P:kB (ct (·.1) o) a:=P;have O:(o.map (·.1)).Nodup:=O;have ap:b.ts.length-h<=F:=ap;have e:ea D b l d c p=(cW D b l d c F o h).map (ct (·.1)):=e;obtain⟨F,rfl⟩:∃S,F=S+1:=⟨F-1,om⟩;rw[cW]at e;have ai:lA (·.1) (ct (·.1) o):=gF (key:=fun x:nB=>x.1) O;have aj:∀s,s∈a.map FE.n↔s∈o.map (·.1):=fun s=>by
   rw[P.names];exact((dC (key:=fun x:nB=>x.1) o).map _).mem_iff
  have an:∀s,decide ((a.map FE.n)[nb (a.map FE.n) s]?=some s)=decide (s∈o.map (·.1)):=fun s=>by
   rw[P.names,Fc ai s,<-P.names];exact decide_eq_decide.2 (aj s)
  refine dT b N (cu h) 1 r ?_;by_cases A:(b.tok h).kind=1
  ·have q:h+1<b.ts.length:=N.go h _ (b8 r) om;rw[if_neg (fun L=>L A)]at e;rw[ka A,RS.dm,fk,decide_eq_true A,if_pos rfl];refine vE a a.length Z om 2 Z (fun ao=>?_);refine hP (a.map FE.n) (b.tok h).text ao a.length (by simp;omega) ?_;rw[an];by_cases J:(b.tok h).text∈o.map (·.1)
   ·rw[decide_eq_true J];rw[if_pos J]at e;refine jm b (cu (h+1)) (b.tok h).off 5 ?_;rw[show(cu (h+1)).fail (b.tok h).off 5=⟨h+1,(b.tok h).off,5⟩from rfl];cases c with
    |false=>
     refine ft ?_;refine cG b N _ [58] q ?_;rw[eA (Yl _)];refine B.err _ (Yl _) q _ _ (fun S j al Y F=>?_);repeat refine b1 ?_
     refine cR.drop 0 ?_ ?_ ?_ ?_
     ·exact Z
     ·exact Z
     ·exact Z
     refine cR.now Z ⟨Z,Z,?_⟩;rw[e];exact⟨dc,_,_,q,Z⟩
    |true=>
     refine cJ b _ [63] q ?_;rw[dv (Yl _)];refine ft ?_;refine cG b N _ [58] q ?_;rw[eA (Yl _)];refine B.err _ (Yl _) q _ _ (fun S j al Y F=>?_);repeat refine b1 ?_
     refine cR.drop 0 ?_ ?_ ?_ ?_
     ·exact Z
     ·exact Z
     ·exact Z
     refine cR.now Z ⟨Z,Z,?_⟩;rw[e];exact⟨dc,_,_,q,Z⟩
   ·rw[decide_eq_false J];rw[if_neg J]at e;apply eg (ι:=Nat×Bool) (T:=fun _=>Rw l d c a.length (nb (a.map FE.n) (b.tok h).text)) (S:=fun X=>PC b h a++[.box (Rv b X.1),.box (Wc (b.tok h).text X.2)])
     (I:=fun X=>p<=X.1/\h<X.1/\X.1<b.ts.length/\ea D b l d c p=(match cv b [[58]] X.1 with
      |.bad W ab=>.bad W ab
      |.ok _ E=>match D E with
       |.bad W ab=>.bad W ab
       |.ok t n=>if cD (b.tok n) d then .ok (o++[((b.tok h).text,t,X.2)]) (n+1)else match cv b [l] n with
        |.bad W ab=>.bad W ab
        |.ok _ aG=>cW D b l d c F (o++[((b.tok h).text,t,X.2)]) aG:PR (List nB)).map (ct (·.1)))
    ·intro H;rcases Bool.eq_false_or_eq_true c with f|f;rotate_left
     ·simp only[show(c&&cD (b.tok (h+1)) [63])=false by rw[f];rfl,YJ,if_false]at e;repeat refine e4 ?_
      refine cw (eh:=Rw l d c a.length (nb (a.map FE.n) (b.tok h).text)) (fN:=PC b h a++[.box (Rv b (h+1)),.box (Wc (b.tok h).text false)]) (.same ⟨Z,Z,Z,Z,Z,Z,Z,Z,Z,Z,tv⟩ Z) (H ((h+1),false) ⟨by show p<=(h+1);omega,by show h<(h+1);omega,q,e⟩)
     ·repeat refine e4 ?_
      refine cJ b (cu (h+1)) [63] q ?_;rw[eS];cases V:cD (b.tok (h+1)) [63]with
      |false=>
       repeat refine e4 ?_
       simp only[show(c&&cD (b.tok (h+1)) [63])=false by rw[f,V];rfl,YJ,if_false]at e;refine cw (eh:=Rw l d c a.length (nb (a.map FE.n) (b.tok h).text)) (fN:=PC b h a++[.box (Rv b (h+1)),.box (Wc (b.tok h).text false)]) (.same ⟨Z,Z,Z,Z,Z,Z,Z,Z,Z,Z,tv⟩ Z) (H ((h+1),false) ⟨by show p<=(h+1);omega,by show h<(h+1);omega,q,e⟩)
      |true=>
       repeat refine e4 ?_
       simp only[show(c&&cD (b.tok (h+1)) [63])=true by rw[f,V];rfl,if_true]at e;have u:=N.step q V;refine cP b (cu (h+1)) (by show h+1<4294967296;omega) ?_;refine cw (eh:=Rw l d c a.length (nb (a.map FE.n) (b.tok h).text)) (fN:=PC b h a++[.box (Rv b (h+1+1)),.box (Wc (b.tok h).text true)]) (.same ⟨Z,Z,Z,Z,Z,Z,Z,Z,Z,Z,tv⟩ Z) (H ((h+1+1),true) ⟨by show p<=(h+1+1);omega,by show h<(h+1+1);omega,u,e⟩)
    ·rintro⟨E,W⟩ ⟨af,ae,u,e⟩;have af:p<=E:=af;have ae:h<E:=ae;have u:E<b.ts.length:=u;dsimp only at e;refine cG b N (cu E) [58] u ?_;cases T:cD (b.tok E) [58]with
     |false=>
      rw[cv,T,if_neg dc]at e;dsimp only at e;rw[er T];refine B.err _ (Yl _) u _ _ (fun S j al Y F=>?_);repeat refine b1 ?_
      refine cR.drop 0 ?_ ?_ ?_ ?_
      ·exact Z
      ·exact Z
      ·exact Z
      refine cR.now Z ⟨Z,Z,?_⟩;rw[e];exact⟨dc,_,_,u,Z⟩
     |true=>
      rw[cv,T,if_pos rfl,cv]at e;dsimp only at e;rw[dY T];have ad:=N.step u T;refine B.call (E+1) om ad _ _ (fun t aS n g ax=>?_) (fun aK ab n S j al Y av g L q=>?_)
      ·obtain⟨S,j,aF,Y,av,rfl⟩:=ax.eG;obtain⟨aQ,k⟩:=B.lt (E+1) _ _ om ad g;rw[g]at e;dsimp only at e;have U:nb (a.map FE.n) (b.tok h).text<=a.length:=by have:=Fa (a.map FE.n) (b.tok h).text;rwa[Yx]at this
       obtain⟨y,z⟩:∃y:FE,y=⟨(b.tok h).text,S,j,aF,Y,av,W,[],.cC⟩:=⟨_,rfl⟩;have ag:kB (ct (·.1) (o++[((b.tok h).text,t,W)])) (jk FE.n y a):=by
        rw[tj];have:=P.ins (t:=t) (x:=y) (by rw[z];exact ax);rw[z]at this⊢;exact this
       have aq:((o++[((b.tok h).text,t,W)]).map (·.1)).Nodup:=by
        rw[YG,List.nodup_append];refine⟨O,by simp,?_⟩;intro X aI aT ar ab;simp only[YH,List.map_nil,List.mem_singleton]at ar;subst ar;exact J (ab▸aI)
       have G:(jk FE.n y a).length=a.length+1:=(tS y a).length_eq;apply eg (ι:=Unit) (T:=fun _=>PD l d c (jk FE.n y a).length) (S:=fun _=>PC b h (jk FE.n y a)++[.box (Rv b n)]) (I:=fun _=>True)
       ·intro H;have aD:0+(nb (a.map FE.n) (b.tok h).text-0)<=(rows a).length:=by rw[ju];omega
        have aE:0+(((rows a).drop (0+0)).take (nb (a.map FE.n) (b.tok h).text-0)).length<=4294967296:=by rw[Yr,Yu,ju];omega
        have R:(((rows a).drop (0+0)).take (nb (a.map FE.n) (b.tok h).text-0)).length=nb (a.map FE.n) (b.tok h).text:=by rw[Yr,Yu,ju];omega
        have Q:(rows a).length=a.length:=ju a;refine bZ Z (a7 ⟨Ym _,U,Yo _,Ym _,Z,Z,Z⟩ ?_);intro aO;refine bZ Z (a7 ⟨U,Yo _,Yo _,Ym _,Z,Z,Z⟩ ?_);repeat refine b4 ?_
        by_cases K:nb (a.map FE.n) (b.tok h).text=0
        ·by_cases M:a.length=0
         ·refine xo Z (lO gM) ?_;refine a7 ⟨Z,Z,gM,Yo _,(hH gM).1,(hH gM).2⟩ ?_;refine a8 (lO (by rw[ju];exact M)) ?_;refine b4 ?_;refine a7 Z ?_;refine a7 ⟨Z,Z,gM,Yo _,(hH gM).1,(hH gM).2⟩ ?_;refine a1 Z (a1 (dZ 0) ?_);refine b4 ?_;refine a7 ⟨Z,Z,gM⟩ ?_;refine xo om (lO gM) ?_;refine a7 ⟨Z,Z,gM,Yo _,(hH gM).1,(hH gM).2⟩ ?_;refine a8 (lO (by rw[ju];exact M)) ?_;refine b4 ?_;refine b4 ?_;refine cw (eh:=PD l d c (jk FE.n y a).length) (fN:=PC b h (jk FE.n y a)++[.box (Rv b n)]) ?_ (H () trivial);exact .pick 2 [0,1,6,3] ⟨Z,Z,Z,Z,Z,Z,Bn (by simp only[G,YA,Yr,Yu,Yx,ju,Yz,YC,u7];omega),rfl,tv⟩ rfl rfl rfl rfl rfl dc ⟨rfl,rfl,rfl,rfl,xp (by refine Fe ?_;rw[z];exact Rz _ (rows a) _ _ (Q.trans M)),fs _ 7 _,rfl,rfl,tv⟩
         ·refine ui (.inr (n5 gM)) ?_;refine a7 ⟨Z,Z,gM,Yo _,(hH gM).1,(hH gM).2⟩ ?_;refine a8 (lO (by rw[R];exact K)) ?_;refine b4 ?_;refine a7 Z ?_;refine a7 ⟨Z,Z,gM,Yo _,(hH gM).1,(hH gM).2⟩ ?_;refine a1 Z (a1 (dZ 0) ?_);refine b4 ?_;refine a7 ⟨Z,Z,gM⟩ ?_;refine xo om (lO gM) ?_;refine a7 ⟨Z,Z,gM,Yo _,(hH gM).1,(hH gM).2⟩ ?_;refine a1 (n5 (by rw[ju];exact M)) (a1 (wy gM) ?_);refine b4 ?_;refine b4 ?_;refine cw (eh:=PD l d c (jk FE.n y a).length) (fN:=PC b h (jk FE.n y a)++[.box (Rv b n)]) ?_ (H () trivial);exact .pick 2 [0,1,7,3] ⟨Z,Z,Z,Z,Z,Z,Bn (by simp only[G,YA,Yr,Yu,Yx,ju,Yz,YC,u7];omega),rfl,tv⟩ rfl rfl rfl rfl rfl dc ⟨rfl,rfl,rfl,rfl,xp (by refine Fe ?_;rw[z];exact Ry _ (rows a) _ _ K),fs _ 7 _,rfl,rfl,tv⟩
        ·by_cases ak:nb (a.map FE.n) (b.tok h).text=a.length
         ·refine xo Z (lO gM) ?_;refine a7 ⟨Z,Z,gM,Yo _,(hH gM).1,(hH gM).2⟩ ?_;refine a1 (n5 gM) (a1 (wy gM) ?_);refine b4 ?_;refine a7 Z ?_;refine a7 ⟨Z,Z,gM,Yo _,(hH gM).1,(hH gM).2⟩ ?_;refine a1 Z (a1 (dZ _) ?_);refine b4 ?_;refine a7 ⟨Z,Z,gM⟩ ?_;refine ui (.inl om) ?_;refine a7 ⟨Z,Z,gM,Yo _,(hH gM).1,(hH gM).2⟩ ?_;refine a8 (lO gM) ?_;refine b4 ?_;refine b4 ?_;refine cw (eh:=PD l d c (jk FE.n y a).length) (fN:=PC b h (jk FE.n y a)++[.box (Rv b n)]) ?_ (H () trivial);exact .pick 2 [0,1,7,3] ⟨Z,Z,Z,Z,Z,Z,Bn (by simp only[G,YA,Yr,Yu,Yx,ju,Yz,YC,u7];omega),rfl,tv⟩ rfl rfl rfl rfl rfl dc ⟨rfl,rfl,rfl,rfl,xp (by refine Fe ?_;rw[z];exact RA _ (rows a) _ _ (ak.trans Q.symm)),fs _ 7 _,rfl,rfl,tv⟩
         ·refine ui (.inr (n5 gM)) ?_;refine a7 ⟨Z,Z,gM,Yo _,(hH gM).1,(hH gM).2⟩ ?_;refine a1 (n5 (by rw[R];exact K)) (a1 (wy (by simp only[R];omega)) ?_);refine b4 ?_;refine a7 Z ?_;refine a7 ⟨Z,Z,gM,Yo _,(hH gM).1,(hH gM).2⟩ ?_;refine a1 Z (a1 (dZ _) ?_);refine b4 ?_;refine a7 ⟨Z,Z,gM⟩ ?_;refine ui (.inl om) ?_;refine a7 ⟨Z,Z,gM,Yo _,(hH gM).1,(hH gM).2⟩ ?_;refine a1 (n5 gM) (a1 (wy gM) ?_);refine b4 ?_;refine b4 ?_;refine cw (eh:=PD l d c (jk FE.n y a).length) (fN:=PC b h (jk FE.n y a)++[.box (Rv b n)]) ?_ (H () trivial);exact .pick 2 [0,1,8,3] ⟨Z,Z,Z,Z,Z,Z,Bn (by simp only[G,YA,Yr,Yu,Yx,ju,Yz,YC,u7];omega),rfl,tv⟩ rfl rfl rfl rfl rfl dc ⟨rfl,rfl,rfl,rfl,xp (by refine Fe ?_;rw[z];exact Rx _ (rows a) _ _ a.length Q U),fs _ 7 _,rfl,rfl,tv⟩
       ·intro _ _;refine cJ b (cu n) l k ?_;rw[eS];cases m:cD (b.tok n) l with
        |true=>
         rw[aC m,if_neg dc,cv,if_pos m,cv]at e;dsimp only at e;refine cP b (cu n) (by show n<4294967296;omega) ?_;refine⟨(n+1,o++[((b.tok h).text,t,W)],jk FE.n y a),⟨by show p<=n+1;omega,N.step k m,by show(jk FE.n y a).length<=n+1;rw[G];omega,ag,aq,F,by show b.ts.length-(n+1)<=F;omega,e⟩,by show b.ts.length-(n+1)<b.ts.length-h;omega,?_,rfl,rfl⟩;exact .pick 2 [0,1,2] ⟨Z,Z,Z,Z,Z,Z,Bn Z,tv⟩ Z Z Z Z Z dc ⟨Z,Z,Z,Z,xp Z,fs _ 7 _,tv⟩
        |false=>
         refine cG b N (cu n) d k ?_;cases i:cD (b.tok n) d with
         |true=>
          rw[i,if_pos rfl]at e;rw[dY i];refine xn (i:=2) (es:=7) (els:=(jk FE.n y a).map fe) Z (by rw[Yx]) (fun ao=>?_);rw[e];exact⟨_,.ps ag.Xw,Z⟩
         |false=>
          rw[i,if_neg dc,cv,m,if_neg dc]at e;dsimp only at e;rw[er i];refine xn (i:=2) (es:=7) (els:=(jk FE.n y a).map fe) Z (by rw[Yx]) (fun ao=>?_);rw[e];exact⟨dc,_,n,k,Z⟩
      ·rw[g]at e;dsimp only at e;refine aZ (fun am=>?_) (fun am=>absurd (iZ am) L);repeat refine b1 ?_
       refine cR.drop 0 ?_ ?_ ?_ ?_
       ·exact Z
       ·exact Z
       ·exact Z
       refine cR.now Z ⟨Z,Z,?_⟩;rw[e];exact⟨L,_,n,q,Z⟩
  ·rw[if_pos A]at e;rw[mS A,RS.dm,fk,decide_eq_false A,if_neg dc];refine vE a a.length Z om 2 Z (fun ao=>?_);refine hP (a.map FE.n) [] ao a.length (by simp;omega) ?_;generalize decide ((a.map FE.n)[nb (a.map FE.n) []]?=some [])=aP;apply aZ<;>intro am
   ·refine jm b _ (b.tok h).off 5 ?_;rw[p4 (Yl _)];cases c with
    |false=>
     refine ft ?_;refine cG b N _ [58] r ?_;rw[eA (Yl _)];refine B.err _ (Yl _) r _ _ (fun S j al Y F=>?_);repeat refine b1 ?_
     refine cR.drop 0 ?_ ?_ ?_ ?_
     ·exact Z
     ·exact Z
     ·exact Z
     refine cR.now Z ⟨Z,Z,?_⟩;rw[e];exact⟨dc,_,_,r,Z⟩
    |true=>
     refine cJ b _ [63] r ?_;rw[dv (Yl _)];refine ft ?_;refine cG b N _ [58] r ?_;rw[eA (Yl _)];refine B.err _ (Yl _) r _ _ (fun S j al Y F=>?_);repeat refine b1 ?_
     refine cR.drop 0 ?_ ?_ ?_ ?_
     ·exact Z
     ·exact Z
     ·exact Z
     refine cR.now Z ⟨Z,Z,?_⟩;rw[e];exact⟨dc,_,_,r,Z⟩
   ·cases c with
    |false=>
     refine ft ?_;refine cG b N _ [58] r ?_;rw[eA (Yl _)];refine B.err _ (Yl _) r _ _ (fun S j al Y F=>?_);repeat refine b1 ?_
     refine cR.drop 0 ?_ ?_ ?_ ?_
     ·exact Z
     ·exact Z
     ·exact Z
     refine cR.now Z ⟨Z,Z,?_⟩;rw[e];exact⟨dc,_,_,r,Z⟩
    |true=>
     refine cJ b _ [63] r ?_;rw[dv (Yl _)];refine ft ?_;refine cG b N _ [58] r ?_;rw[eA (Yl _)];refine B.err _ (Yl _) r _ _ (fun S j al Y F=>?_);repeat refine b1 ?_
     refine cR.drop 0 ?_ ?_ ?_ ?_
     ·exact Z
     ·exact Z
     ·exact Z
     refine cR.now Z ⟨Z,Z,?_⟩;rw[e];exact⟨dc,_,_,r,Z⟩
theorem bT{c d:UInt8}(a:decide (Yn c.toNat=Yn d.toNat)=true):c=d:=UInt8.toNat_inj.1 (BJ a)
theorem bF{c d:UInt8}(b:decide (Yn c.toNat=Yn d.toNat)=false):c≠d:=fun a=>wA b (by rw[a])
theorem Ux{c d:UInt8}(a:(!decide (Yn c.toNat=Yn d.toNat))=true):c≠d:=bF (by simpa using a)
theorem Uy{c d:UInt8}(a:(!decide (Yn c.toNat=Yn d.toNat))=false):c=d:=bT (by simpa using a)
theorem M6{a b:Nat}(c:a+b<9223372036854775806):IntKind.i64.wrap (IntKind.i64.wrap (Yn a+Yn b)+1)=Yn (a+b+1):=by
 rw[eb om,cq om]
theorem RB(t:List UInt8):dw false (47::47::t)=1+dw true (47::t):=rfl
def Xb(c:List UInt8)(a:Nat)(b:Bool×Nat):Tm:=[(0,cE c),(1,b6 a),(5,b0 b.1),(6,b6 b.2)]
variable{m:V} {f:List UInt8}
theorem uj{b n:Nat}{c:Bool}{a:Tm}(p:n<4294967296)(l:gf a 5=some m)(e:m=b0 c)(o:gf a 0=some (cE f))(h:gf a 1=some (b6 b))(d:gf a 6=some (.d (.int .i64 (IntKind.i64.wrap (Yn n+1))))):qF (Xb f b (c,n+1)) a:=
 ⟨o,h,by rw[l,e],by rw[d,cq om];rfl,tv⟩
theorem yJ(s:List UInt8)(a:Nat)(M:a<=s.length)(T:s.length<4294967296){σ:VS}{K:cZ->VS->Prop}(D:K (.ret (b6 (dw false (s.drop a)))) σ):b3 C cn nM [cE s,b6 a] σ K:=by
 refine cA ?_;refine b5.less (eh:=Xb s a (false,0)) ⟨Z,Z,Z,Z,tv⟩ ?_;refine b5.iter (Xb s a) (fun _=>σ) (fun G=>s.length-G.2) (fun G=>a+G.2<=s.length/\dw false (s.drop a)=G.2+dw G.1 (s.drop (a+G.2))) ?_ (false,0) ⟨M,by simp⟩;rintro⟨I,b⟩ ⟨L,c⟩;have L:a+b<=s.length:=L;have c:dw false (s.drop a)=b+dw I (s.drop (a+b)):=c;apply aZ<;>intro E
 ·rw[eb om]at E;have h:a+b<s.length:=fq E;have l:s.drop (a+b)=s[a+b]::s.drop (a+b+1):=Ys h;have O:=eb (a:=a) (b:=b) om;refine bZ O (b7 s[a+b] (by rw[cz];exact Yt h) ?_);generalize s[a+b]=H at l;cases I with
  |true=>
   refine⟨(decide (H≠10),b+1),⟨by show a+(b+1)<=s.length;omega,?_⟩,by show s.length-(b+1)<s.length-b;omega,.same (uj om rfl ?_ rfl rfl rfl) rfl,rfl,rfl⟩
   ·show dw false (s.drop a)=b+1+dw (decide (H≠10)) (s.drop (a+b+1));rw[c,l,dw];omega
   ·show b0 (!decide (Yn H.toNat=10))=b0 (decide (H≠10));congr 1;by_cases P:H=10
    ·subst P;rfl
    ·rw[decide_eq_true P,Bool.not_eq_true',decide_eq_false_iff_not];intro N;exact P (bT (d:=10) (decide_eq_true N))
  |false=>
   have z:=M6 (a:=a) (b:=b) om;apply aZ<;>intro e
   ·have d:=bT (d:=47) e;subst d;repeat refine a8 e ?_
    apply aZ<;>intro q
    ·have r:=q;rw[z]at r;have B:a+b+1<s.length:=fq r;have w:s.drop (a+b+1)=s[a+b+1]::s.drop (a+b+1+1):=Ys B;repeat first|refine a8 q ?_|refine a8 e ?_
     refine bZ z (b7 s[a+b+1] (by rw[cz];exact Yt B) ?_);generalize s[a+b+1]=R at w;repeat first|refine a8 q ?_|refine a8 e ?_
     apply aZ<;>intro p
     ·have d:=bT (d:=47) p;subst d;repeat first|refine a8 p ?_
      refine⟨(true,b+1),⟨by show a+(b+1)<=s.length;omega,?_⟩,by show s.length-(b+1)<s.length-b;omega,.same (uj om rfl rfl rfl rfl rfl) rfl,rfl,rfl⟩;show dw false (s.drop a)=b+1+dw true (s.drop (a+b+1));rw[c,l,w,RB];omega
     ·have d:=bF (d:=47) p;repeat first|refine a1 p ?_
      refine kR ?_ D;rw[c,l,w,dw,if_neg (by rintro⟨_,h⟩;simp at h;exact d h),if_neg dc];rfl
    ·have r:=q;rw[z]at r;have B:s.length<=a+b+1:=dM r;repeat first|refine a1 q ?_|refine a8 e ?_
     refine kR ?_ D;rw[c,l,Yw B,dw,if_neg (by rintro⟨_,h⟩;simp at h),if_neg dc];rfl
   ·have d:=bF (d:=47) e;repeat refine a1 e ?_
    have J:¬(H=47/\(s.drop (a+b+1)).head? =some 47):=fun h=>d h.1;apply aZ<;>intro o
    ·have A:=Ux (d:=32) o;repeat refine a8 o ?_
     apply aZ<;>intro u
     ·have F:=Ux (d:=9) u;repeat first|refine a8 o ?_|refine a8 u ?_
      apply aZ<;>intro n
      ·have y:=Ux (d:=10) n;repeat first|refine a8 u ?_|refine a8 n ?_
       apply aZ<;>intro t
       ·have x:=Ux (d:=13) t;repeat first|refine a8 t ?_|refine a8 n ?_
        refine kR ?_ D;rw[c,l,dw,if_neg J,if_neg (by rintro(h|h|h|h);exact A h;exact F h;exact y h;exact x h)];rfl
       ·have x:=Uy (d:=13) t;repeat first|refine a1 t ?_|refine a8 n ?_
        exact⟨(false,b+1),⟨by show a+(b+1)<=s.length;omega,by show _=b+1+dw false (s.drop (a+b+1));rw[c,l,ln (.inr (.inr (.inr x)))];omega⟩,by show s.length-(b+1)<s.length-b;omega,.same (uj om rfl rfl rfl rfl rfl) rfl,rfl,rfl⟩
      ·have y:=Uy (d:=10) n;repeat first|refine a1 n ?_|refine a8 u ?_
       exact⟨(false,b+1),⟨by show a+(b+1)<=s.length;omega,by show _=b+1+dw false (s.drop (a+b+1));rw[c,l,ln (.inr (.inr (.inl y)))];omega⟩,by show s.length-(b+1)<s.length-b;omega,.same (uj om rfl rfl rfl rfl rfl) rfl,rfl,rfl⟩
     ·have F:=Uy (d:=9) u;repeat first|refine a1 u ?_|refine a8 o ?_
      exact⟨(false,b+1),⟨by show a+(b+1)<=s.length;omega,by show _=b+1+dw false (s.drop (a+b+1));rw[c,l,ln (.inr (.inl F))];omega⟩,by show s.length-(b+1)<s.length-b;omega,.same (uj om rfl rfl rfl rfl rfl) rfl,rfl,rfl⟩
    ·have A:=Uy (d:=32) o;repeat refine a1 o ?_
     exact⟨(false,b+1),⟨by show a+(b+1)<=s.length;omega,by show _=b+1+dw false (s.drop (a+b+1));rw[c,l,ln (.inl A)];omega⟩,by show s.length-(b+1)<s.length-b;omega,.same (uj om rfl rfl rfl rfl rfl) rfl,rfl,rfl⟩
 ·rw[eb om]at E;have h:s.length<=a+b:=dM E;refine kR ?_ D;rw[c,Yw h];simp[dw]
def M7:List UInt8->UInt8×Nat
 |h::b::_=>match lf h,lf b with
  |some a,some c=>(UInt8.ofNat (16*a+c),4)
  |_,_=>(0,0)
 |_=>(0,0)
def PE:List UInt8->UInt8×Nat
 |[]=>(0,0)
 |e::a=>if e=34∨e=92 then(e,2)else if e=110 then(10,2)else if e=120 then M7 a else(0,0)
def zb:List UInt8->UInt8×Nat
 |[]=>(0,0)
 |c::a=>if c<32∨c=34 then(0,0)else if c≠92 then(c,1)else PE a
def Xc(a:UInt8×Nat):V:=.dN [hK a.1,b6 a.2]
theorem PF:∀p:List UInt8,eF p=match p with
  |[]=>none
  |c::_=>if c=34 then some ([],1)else match zb p with
   |(_,0)=>none
   |(v,u+1)=>(eF (p.drop (u+1))).map fun t=>(v::t.1,t.2+(u+1)):=by
 intro p;cases p with
 |nil=>rw[eF.eq_def]
 |cons c x=>
  by_cases a:c=34
  ·subst a;rw[rz];rfl
  ·dsimp only;rw[if_neg a];by_cases d:c<32
   ·rw[AK a d,zb,if_pos (.inl d)]
   ·have o:¬(c<32∨c=34):=by rintro(h|h);exact d h;exact a h
    by_cases b:c≠92
    ·rw[vq a d b,zb,if_neg o,if_pos b];rfl
    ·have b:c=92:=by simpa using b
     subst b;rw[nr,zb,if_neg o,if_neg sm];cases x with
     |nil=>rfl
     |cons q r=>
      rw[PE];dsimp only;by_cases l:q=34∨q=92
      ·rw[if_pos l,if_pos l];rfl
      ·rw[if_neg l,if_neg l];by_cases e:q=110
       ·rw[if_pos e,if_pos e];rfl
       ·rw[if_neg e,if_neg e];by_cases n:q=120
        ·rw[if_pos n,if_pos n];cases r with
         |nil=>rfl
         |cons h s=>
          cases s with
          |nil=>rfl
          |cons p w=>
           rw[M7];dsimp only;cases lf h with
           |none=>rfl
           |some y=>
            cases lf p with
            |none=>rfl
            |some v=>rfl
        ·rw[if_neg n,if_neg n]
theorem HL{c:UInt8}(b:decide (0<=y7 c)=true):∃a,lf c=some a/\y7 c=Yn a:=by
 unfold y7 at b⊢;cases d:lf c with
 |some a=>exact⟨a,rfl,rfl⟩
 |none=>rw[d]at b;exact absurd b dc
theorem HM{c:UInt8}(a:decide (0<=y7 c)=false):lf c=none:=by
 unfold y7 at a;cases b:lf c with
 |some d=>rw[b]at a;exact absurd (by simp:decide ((0:Int)<=Yn d)=true) (by rw[a];decide)
 |none=>rfl
theorem Vt{c:UInt8}{b:Bool}(a:decide (Yn c.toNat<32)=b):decide (c<32)=b:=by
 rw[<-a];exact decide_eq_decide.2 ⟨fun a=>by have:c.toNat<32:=a;simp only[Yp];omega,fun a=>by show c.toNat<32;simp only[Yp]at a;omega⟩
theorem PG{a b:Nat}(d:a<16)(c:b<16):IntKind.u8.wrap (IntKind.i64.wrap (IntKind.i64.wrap (16*Yn a)+Yn b))=Yn (UInt8.ofNat (16*a+b)).toNat:=by
 simp only[Yp];rw[wrap64 (n:=16*(a:Int)) om om,wrap64 om om,C6 om om];rw[UInt8.toNat_ofNat',Nat.mod_eq_of_lt om];omega
theorem zC{K:cZ->VS->Prop}{b:V}{σ:VS}(a:K (.ret b) σ)(c:m=b):K (.ret m) σ:=c▸a
theorem ya(s:List UInt8)(M:s.length<4294967296){σ:VS}{K:cZ->VS->Prop}(a:K (.ret (Xc (zb s))) σ):b3 C cn qd [cE s] σ K:=by
 refine cA ?_;cases s with
 |nil=>exact a
 |cons y L=>
  have B:decide ((y::L)=([]:List UInt8))=false:=by simp
  repeat refine a1 B ?_
  refine bZ Z (b7 y Z ?_);repeat refine a1 B ?_
  apply aZ<;>intro o
  ·have w:y<32:=of_decide_eq_true (Vt o);repeat refine a8 o ?_
   refine zC a ?_;rw[zb,if_pos (.inl w)];rfl
  ·have w:¬y<32:=of_decide_eq_false (Vt o);repeat refine a1 o ?_
   refine bZ Z (b7 y Z ?_);repeat refine a1 o ?_
   apply aZ<;>intro b
   ·have e:=bT (d:=34) b;repeat refine a8 b ?_
    refine zC a ?_;rw[zb,if_pos (.inr e)];rfl
   ·have e:=bF (d:=34) b;have A:¬(y<32∨y=34):=by rintro(h|h);exact w h;exact e h
    repeat refine a1 b ?_
    refine bZ Z (b7 y Z ?_);apply aZ<;>intro d
    ·have n:=Ux (d:=92) d;refine bZ Z (b7 y Z ?_);refine zC a ?_;rw[zb,if_neg A,if_pos n];rfl
    ·have n:=Uy (d:=92) d;rw[zb,if_neg A,if_neg (by simpa using n)]at a;cases L with
     |nil=>exact a
     |cons D J=>
      refine bZ Z (b7 D Z ?_);rw[PE]at a;apply aZ<;>intro b
      ·have e:=bT (d:=34) b;repeat refine a8 b ?_
       refine bZ Z (b7 D Z ?_);rw[if_pos (.inl e)]at a;exact a
      ·have e:=bF (d:=34) b;repeat refine a1 b ?_
       refine bZ Z (b7 D Z ?_);repeat refine a1 b ?_
       apply aZ<;>intro d
       ·have n:=bT (d:=92) d;repeat refine a8 d ?_
        refine bZ Z (b7 D Z ?_);rw[if_pos (.inr n)]at a;exact a
       ·have n:=bF (d:=92) d;repeat refine a1 d ?_
        refine bZ Z (b7 D Z ?_);rw[if_neg (by rintro(h|h);exact e h;exact n h)]at a;apply aZ<;>intro v
        ·have q:=bT (d:=110) v;rw[if_pos q]at a;exact a
        ·have q:=bF (d:=110) v;rw[if_neg q]at a;refine bZ Z (b7 D Z ?_);apply aZ<;>intro l
         ·have r:=bT (d:=120) l;rw[if_pos r]at a;repeat refine a8 l ?_
          cases J with
          |nil=>exact a
          |cons h H=>
           cases H with
           |nil=>exact a
           |cons E I=>
            have c:decide (4<=Yn (y::D::h::E::I).length)=true:=decide_eq_true (by simp only[Yz,Yp];omega);rw[M7]at a;repeat first|refine a8 c ?_|refine a8 l ?_
            refine bZ Z (b7 h Z ?_);repeat refine a8 c ?_
            refine rM h ?_;repeat refine a8 c ?_
            apply aZ<;>intro p
            ·obtain⟨N,x,G⟩:=HL p;repeat first|refine a8 c ?_|refine a8 p ?_
             refine bZ Z (b7 E Z ?_);repeat first|refine a8 c ?_|refine a8 p ?_
             refine rM E ?_;repeat first|refine a8 c ?_|refine a8 p ?_
             apply aZ<;>intro t
             ·obtain⟨O,z,F⟩:=HL t;repeat first|refine a8 c ?_|refine a8 p ?_|refine a8 t ?_
              rw[x,z]at a;repeat first
               |refine bZ rfl (b7 h rfl ?_)
               |refine bZ rfl (b7 E rfl ?_)
               |refine rM h ?_
               |refine rM E ?_
               |refine b4 ?_
              refine zC a ?_;show V.dN [V.d (.int .u8 (IntKind.u8.wrap (IntKind.i64.wrap (IntKind.i64.wrap (16*y7 h)+y7 E)))),b6 4]=_;rw[G,F,PG (zs x) (zs z)];rfl
             ·have z:=HM t;repeat first|refine a1 t ?_|refine a8 c ?_|refine a8 p ?_
              rw[x,z]at a;exact a
            ·have x:=HM p;repeat first|refine a1 p ?_|refine a8 c ?_
             rw[x]at a;exact a
         ·have r:=bF (d:=120) l;rw[if_neg r]at a;repeat refine a1 l ?_
          exact a
def Vu:List V:=[.d (.int .i64 0),.d (.str []),.d (.int .i64 0)]
def X6(a:List UInt8):VS:=[.box Vu,bytesRow a]
def XD(b:List UInt8)(a:Nat×List UInt8):Tm:=[(0,cE b),(2,.bp 0 0),(5,.ms 1 1 0 a.2.length a.2.length),(6,b6 a.1)]
def SJ(a:Option (List UInt8×Nat)):V:=match a with
 |some (c,b)=>.dN [Cq 4 c 0,b6 (b+1),b6 0]
 |none=>.dN [Cq 0 [] 0,b6 0,b6 3]
def Xd:Nat->Bool:=fun a=>YB a 32
theorem TV{c a n:Nat}(e:c<=a)(b:a<4294967296)(d:n=1:=by rfl):(c+n)*1<=eE/\c+n<=eE:=by
 unfold eE;omega
theorem TW(a:List UInt8)(b:UInt8):some (V.ms 2 1 0 (a.length+1) (a.length+1))=some (V.ms 2 1 0 (a++[b]).length (a++[b]).length):=by simp
theorem RC(a:List UInt8)(b:UInt8):some (cU.row 1 (((a.map fun c=>[hK c]).drop 0).take a.length++[[hK b]]))=some (eC j (bytesRow (a++[b]))):=by
 rw[AN,bytesRow,YG,YD,Yy sm];rfl
theorem RD:∀a:List UInt8,(zb a).2<=a.length:=by
 intro a;cases a with
 |nil=>exact Yo _
 |cons l e=>
  rw[zb];split
  ·simp
  ·split
   ·simp
   ·cases e with
    |nil=>simp[PE]
    |cons n b=>
     rw[PE];split
     ·simp
     ·split
      ·simp
      ·split
       ·cases b with
        |nil=>simp[M7]
        |cons h c=>
         cases c with
         |nil=>simp[M7]
         |cons a d=>
          rw[M7];cases lf h<;>cases lf a<;>simp
       ·simp
theorem Ff(s:List UInt8)(z:0<s.length)(E:s.length<4294967296):b3 C cn nO [cE s] [] fun A x=>x=[]/\A=.ret (SJ (eF (s.drop 1))):=by
 refine cy Xd (fun _=>Z) ?_;refine b5.less (eh:=XD s (1,[])) ⟨Z,Z,Z,Z,tv⟩ ?_;refine b5.iter (XD s) (fun d=>X6 d.2) (fun d=>s.length-d.1)
  (fun d=>1<=d.1/\d.1<=s.length/\d.2.length<=d.1/\eF (s.drop 1)=(eF (s.drop d.1)).map fun q=>(d.2++q.1,q.2+(d.1-1))) ?_ (1,[]) ⟨Yo _,z,Ym _,by simp⟩
 rintro⟨b,a⟩ ⟨u,v,r,o⟩;have u:1<=b:=u;have v:b<=s.length:=v;have r:a.length<=b:=r;have o:eF (s.drop 1)=(eF (s.drop b)).map fun q=>(a++q.1,q.2+(b-1)):=o;apply aZ<;>intro e
 ·have y:b<s.length:=fq e;have t:s.drop b=s[b]::s.drop (b+1):=Ys y;repeat refine a8 e ?_
  refine bZ Z (b7 s[b] (by rw[cz];exact Yt y) ?_);generalize s[b]=F at t;repeat refine a8 e ?_
  apply aZ<;>intro l
  ·have p:=Ux (d:=34) l;repeat first|refine a8 l ?_|refine a8 e ?_
   refine bZ Z (a7 ⟨v,Yo _⟩ ?_);refine ya _ (by rw[Yu,Yr];omega) ?_;rw[List.take_length];have c:=PF (s.drop b);rw[t]at c;simp only[if_neg p]at c;rw[<-t]at c;have n:=RD (s.drop b);rw[Yu]at n;generalize zb (s.drop b)=d at c n;obtain⟨w,h⟩:=d;cases h with
   |zero=>
    have c:eF (s.drop b)=none:=c;refine a6 0 ⟨Z,?_⟩;rw[o,c];rfl
   |succ h=>
    have c:eF (s.drop b)=(eF (s.drop (b+(h+1)))).map fun d=>(w::d.1,d.2+(h+1)):=by dsimp only at c;rw[List.drop_drop]at c;exact c
    have n:h+1<=s.length-b:=n;intro B;refine a7 Z (a7 ⟨Z,Z,by simp,Yo _,TV r om⟩ ?_);refine a1 Z (a1 (dZ a.length) ?_);refine⟨(b+(h+1),a++[w]),⟨by show 1<=b+(h+1);omega,by show b+(h+1)<=s.length;omega,by show(a++[w]).length<=b+(h+1);simp;omega,?_⟩,by show s.length-(b+(h+1))<s.length-b;omega,?_,rfl,rfl⟩
    ·show eF (s.drop 1)=(eF (s.drop (b+(h+1)))).map fun q=>((a++[w])++q.1,q.2+(b+(h+1)-1));rw[o,c,Option.map_map];congr 1;funext q;simp only[Function.comp,List.append_assoc,List.cons_append,List.nil_append];rw[show q.2+(h+1)+(b-1)=q.2+(b+(h+1)-1)from by omega]
    ·exact .pick 1 [0,2] ⟨Z,Z,TW a w,int_eq (eb om),tv⟩ Z Z Z Z Z dc ⟨Z,Z,RC a w,GY _ _,tv⟩
  ·have p:=Uy (d:=34) l;subst p;repeat first|refine a1 l ?_|refine a8 e ?_
   refine a1 (decide_eq_false (by simp only[Yp];omega)) ?_;refine OH a Z Z (gD _ _ sm) sm ?_;refine a6 0 ⟨Z,?_⟩;rw[o,t,rz];show cZ.ret (.dN [Cq 4 a 0,.d (.int .i64 (IntKind.i64.wrap (Yn b+1))),b6 0])=cZ.ret (.dN [Cq 4 (a++[]) 0,b6 (1+(b-1)+1),b6 0]);rw[cq om,List.append_nil,show 1+(b-1)+1=b+1 from by omega];rfl
 ·have y:s.length<=b:=dM e;repeat refine a1 e ?_
  refine a8 (decide_eq_true (by simp only[Yp];omega)) ?_;refine a6 0 ⟨Z,?_⟩;rw[o,Yw y];rw[show eF []=none from by rw[eF.eq_def]];rfl
theorem HN(s:List UInt8)(b:0<s.length)(c:s.length<4294967296){σ:VS}{K:cZ->VS->Prop}(a:K (.ret (SJ (eF (s.drop 1)))) σ):b3 C cn nO [cE s] σ K:=by
 refine cN (Ff s b c) Z ?_ a;cases eF (s.drop 1)with
 |none=>rfl
 |some d=>rfl
def gS:List (List UInt8):=[[61,61,61],[58,58],[62,58],[60,58],[61,62],[61,61],[43,43],[40],[41],[91],[93],[123],[125],[60],[62],[44],[58],[61],[46],[43],[45],[42],[124],[63],[47]]
def Vv:Nat->Bool:=fun a=>YB a 1
theorem Bo{σ:VS}{K:cZ->VS->Prop}(a:∀b,K (.ret (.d (.ps b 0 1 25 (et gS)))) σ):b3 C cn rr [] σ K:=by
 refine b3.body Vv (fun _=>Z) ?_;intro b;exact a b
theorem RE(l:List UInt8)(c:UInt8):∀a,decide (0<=indexByte l c.toNat a)=decide (c∈l):=by
 induction l with
 |nil=>intro a;rfl
 |cons e l b=>
  intro a;simp only[indexByte];by_cases d:e=c
  ·subst d;simp[Nat.beq_refl]
  ·have:YB e.toNat c.toNat=false:=by
    rw[Bool.eq_false_iff];intro h;exact d (UInt8.toNat_inj.1 (YI h))
   simp only[this];rw[b];simp[Ne.symm d]
theorem HO(c:UInt8)(l:List UInt8):∀b:List UInt8,(b.map fun a=>[a]).find? (dQ (c::l))=if c∈b then some [c]else none:=by
 intro b;induction b with
 |nil=>rfl
 |cons a b d=>
  simp only[YH,List.find?_cons];have h:dQ (c::l) [a]=decide (a=c):=by
   simp only[dQ,List.isPrefixOf,Bool.and_true];rw[Bool.eq_iff_iff];simp
  rw[h];by_cases e:a=c
  ·subst e;simp
  ·simp only[decide_eq_false e,d,List.mem_cons,Ne.symm e,false_or]
theorem Bp(c:UInt8)(b:List UInt8):hM (c::b)=(gS.find? (dQ (c::b))).getD []:=by
 have e:gS=qP++wN.map fun d=>[d]:=rfl;rw[e,YE,HO];unfold hM;cases qP.find? (dQ (c::b))with
 |some d=>rfl
 |none=>
  dsimp only;have:=RE wN c 0;by_cases a:c∈wN
  ·rw[decide_eq_true a]at this;rw[if_pos (of_decide_eq_true this),if_pos a];rfl
  ·rw[decide_eq_false a]at this;rw[if_neg (of_decide_eq_false this),if_neg a];rfl
def Bq(a:G0):V:=match a with
 |.ok d c b=>.dN [Cq d c 0,b6 b,b6 0]
 |.err e=>.dN [Cq 0 [] 0,b6 0,b6 e]
theorem Fg{c:UInt8}(d:isDigit c=true):(gg c||eH c)=false:=by
 have:=wM d;have a:gg c=false:=by
  unfold gg;rw[decide_eq_false (by simp only[Yp];omega)];rfl
 have b:eH c=false:=by
  unfold eH;rw[decide_eq_false (by simp only[Yp];omega)];rfl
 rw[a,b];rfl
theorem uk(p:UInt8->Bool)(l:List UInt8):(l.take (dX p l)).all p=true:=by
 unfold dX;have b:l=l.takeWhile p++l.dropWhile p:=List.takeWhile_append_dropWhile.symm;have a:l.take (l.takeWhile p).length=l.takeWhile p:=by
  conv=>lhs;rw[b]
  conv=>lhs;arg 1;rw[<-b]
  rw[List.take_left'];rfl
 rw[a];exact List.all_takeWhile
theorem dF{c d:UInt8}(b:c≠d):decide (Yn c.toNat=Yn d.toNat)=false:=decide_eq_false fun a=>b (UInt8.toNat_inj.1 (by simp only[Yp]at a;omega))
theorem J6(s:List UInt8)(c:UInt8)(q:List UInt8)(b:s=c::q)(n:s.length<4294967296)(a:decide (Yn c.toNat=Yn (34:UInt8).toNat)=true):b3 C cn e6 [cE s] [] fun t h=>h=[]/\t=.ret (Bq (fG s)):=by
 have l:nth s 0=some c:=by rw[b];rfl
 refine cB ?_;refine bZ Z (b7 c l ?_);refine a8 a ?_;have e:=bT (d:=34) a;subst e;refine HN s (by rw[b];simp) n ?_;have d:fG s=match eF (s.drop 1)with
  |some (r,p)=>.ok 4 r (p+1)
  |none=>.err 3:=by rw[b];rfl
 generalize eF (s.drop 1)=o at d;cases o with
 |none=>
  refine cR.drop 0 ?_ ?_ ?_ ?_
  ·exact Z
  ·exact Z
  ·exact Z
  refine cR.now Z ⟨Z,?_⟩;rw[d];rfl
 |some o=>
  refine cR.drop 0 ?_ ?_ ?_ ?_
  ·exact Z
  ·exact Z
  ·exact Z
  refine cR.now Z ⟨Z,?_⟩;rw[d];rfl
theorem HP(s:List UInt8)(c:UInt8)(K:List UInt8)(E:s=c::K)(I:s.length<4294967296)(G:c≠34)(u:isDigit c=true):b3 C cn e6 [cE s] [] fun L F=>F=[]/\L=.ret (Bq (fG s)):=by
 have B:nth s 0=some c:=by rw[E];rfl
 refine cB ?_;refine bZ Z (b7 c B ?_);refine a1 (dF (d:=34) G) ?_;refine bZ Z (b7 c B ?_);refine iq c ?_;refine a8 u ?_;refine Cv s I ?_;have r:=oZ isDigit s;have e:fG s=hD s (s.take (dX isDigit s)) (dX isDigit s) c:=by
  rw[E,fG,if_neg (by rw[Fg u];decide),if_pos u]
 have D:0<dX isDigit s:=by rw[E,mJ,if_pos u];omega
 generalize dX isDigit s=b at r e D;have l:(s.take b).length=b:=by rw[Yr];omega
 apply aZ<;>intro p
 ·have z:=fq (a:=19) p;repeat refine a8 p ?_
  have a:19<b∨(1<b/\c=48)∨(s.drop b).head?.any isWord=true:=.inl z;have d:fG s=.err 3:=by rw[e,hD,l,if_pos a]
  refine cR.drop 0 ?_ ?_ ?_ ?_
  ·exact Z
  ·exact Z
  ·exact Z
  refine cR.now Z ⟨Z,?_⟩;rw[d];rfl
 ·have z:=dM (a:=19) p;repeat refine a1 p ?_
  apply aZ<;>intro w
  ·have A:=fq (a:=1) w;repeat first|refine a1 p ?_|refine a8 w ?_
   refine bZ Z (b7 c B ?_);repeat first|refine a1 p ?_|refine a8 w ?_
   apply aZ<;>intro n
   ·have v:=bT (d:=48) n;repeat first|refine a1 p ?_|refine a8 w ?_|refine a8 n ?_
    have a:19<b∨(1<b/\c=48)∨(s.drop b).head?.any isWord=true:=.inr (.inl ⟨A,v⟩);have d:fG s=.err 3:=by rw[e,hD,l,if_pos a]
    refine cR.drop 0 ?_ ?_ ?_ ?_
    ·exact Z
    ·exact Z
    ·exact Z
    refine cR.now Z ⟨Z,?_⟩;rw[d];rfl
   ·have v:=bF (d:=48) n;repeat first|refine a1 p ?_|refine a8 w ?_|refine a1 n ?_
    apply aZ<;>intro q
    ·have o:b<s.length:=fq q;have t:s.drop b=s[b]::s.drop (b+1):=Ys o;repeat first|refine a1 n ?_|refine a8 q ?_
     refine bZ Z (b7 s[b] (by rw[cz];exact Yt o) ?_);generalize s[b]=y at t;repeat first|refine a1 n ?_|refine a8 q ?_
     refine p0 y ?_;cases x:isWord y;rotate_left
     ·repeat first|refine a1 n ?_|refine a8 q ?_
      have a:19<b∨(1<b/\c=48)∨(s.drop b).head?.any isWord=true:=by rw[t];exact .inr (.inr x)
      have d:fG s=.err 3:=by rw[e,hD,l,if_pos a]
      refine cR.drop 0 ?_ ?_ ?_ ?_
      ·exact Z
      ·exact Z
      ·exact Z
      refine cR.now Z ⟨Z,?_⟩;rw[d];rfl
     ·repeat first|refine a1 n ?_|refine a8 q ?_
      refine bZ Z (a7 ⟨Ym _,r⟩ ?_);have a:¬(19<b∨(1<b/\c=48)∨(s.drop b).head?.any isWord=true):=by rw[t];rintro(h|h|h);exact absurd h om;exact v h.2;exact absurd h (by simp[x])
      have d:fG s=.ok 3 (s.take b) b:=by rw[e,hD,l,if_neg a]
      refine cR.drop 0 ?_ ?_ ?_ ?_
      ·exact Z
      ·exact Z
      ·exact Z
      refine cR.now Z ⟨Z,?_⟩;rw[d];rfl
    ·have o:s.length<=b:=dM q;repeat first|refine a1 n ?_|refine a1 q ?_
     refine bZ Z (a7 ⟨Ym _,r⟩ ?_);have a:¬(19<b∨(1<b/\c=48)∨(s.drop b).head?.any isWord=true):=by rw[Yw o];rintro(h|h|h);exact absurd h om;exact v h.2;exact absurd h sm
     have d:fG s=.ok 3 (s.take b) b:=by rw[e,hD,l,if_neg a]
     refine cR.drop 0 ?_ ?_ ?_ ?_
     ·exact Z
     ·exact Z
     ·exact Z
     refine cR.now Z ⟨Z,?_⟩;rw[d];rfl
  ·have A:=dM (a:=1) w;repeat refine e4 ?_
   apply aZ<;>intro q
   ·have o:b<s.length:=fq q;have t:s.drop b=s[b]::s.drop (b+1):=Ys o;repeat refine e4 ?_
    refine bZ Z (b7 s[b] (by rw[cz];exact Yt o) ?_);generalize s[b]=y at t;repeat refine e4 ?_
    refine p0 y ?_;cases x:isWord y;rotate_left
    ·repeat refine e4 ?_
     have a:19<b∨(1<b/\c=48)∨(s.drop b).head?.any isWord=true:=by rw[t];exact .inr (.inr x)
     have d:fG s=.err 3:=by rw[e,hD,l,if_pos a]
     refine cR.drop 0 ?_ ?_ ?_ ?_
     ·exact Z
     ·exact Z
     ·exact Z
     refine cR.now Z ⟨Z,?_⟩;rw[d];rfl
    ·repeat refine e4 ?_
     refine bZ Z (a7 ⟨Ym _,r⟩ ?_);have a:¬(19<b∨(1<b/\c=48)∨(s.drop b).head?.any isWord=true):=by rw[t];rintro(h|h|h);exact absurd h om;exact absurd h.1 om;exact absurd h (by simp[x])
     have d:fG s=.ok 3 (s.take b) b:=by rw[e,hD,l,if_neg a]
     refine cR.drop 0 ?_ ?_ ?_ ?_
     ·exact Z
     ·exact Z
     ·exact Z
     refine cR.now Z ⟨Z,?_⟩;rw[d];rfl
   ·have o:s.length<=b:=dM q;repeat refine e4 ?_
    refine bZ Z (a7 ⟨Ym _,r⟩ ?_);have a:¬(19<b∨(1<b/\c=48)∨(s.drop b).head?.any isWord=true):=by rw[Yw o];rintro(h|h|h);exact absurd h om;exact absurd h.1 om;exact absurd h sm
    have d:fG s=.ok 3 (s.take b) b:=by rw[e,hD,l,if_neg a]
    refine cR.drop 0 ?_ ?_ ?_ ?_
    ·exact Z
    ·exact Z
    ·exact Z
    refine cR.now Z ⟨Z,?_⟩;rw[d];rfl
theorem HQ(b:List UInt8)(c:UInt8)(y:List UInt8)(w:b=c::y)(x:b.length<4294967296)(v:c≠34)(t:isDigit c=false)(q:gg c=true):b3 C cn e6 [cE b] [] fun z u=>u=[]/\z=.ret (Bq (fG b)):=by
 have s:nth b 0=some c:=by rw[w];rfl
 refine cB ?_;refine bZ Z (b7 c s ?_);refine a1 (dF (d:=34) v) ?_;refine bZ Z (b7 c s ?_);refine iq c ?_;refine a1 t ?_;refine bZ Z (b7 c s ?_);refine lZ c ?_;repeat refine a8 q ?_
 refine w6 b x ?_;have a:=oZ isWord b;have l:=uk isWord b;have e:fG b=fF (b.take (dX isWord b)) (dX isWord b):=by
  rw[w,fG,if_pos (by rw[show gg c=true from q];rfl)]
 generalize dX isWord b=n at a e l;have p:(b.take n).length<4294967296:=by rw[Yr];omega
 repeat first|refine bZ rfl (a7 ⟨Ym _,a⟩ ?_)|refine b4 ?_
 refine nH (fun A=>?_);repeat first|refine bZ rfl (a7 ⟨Ym _,a⟩ ?_)|refine b4 ?_
 refine rN Tv dc _ A 28 ?_;rw[YD,<-AY l];repeat refine b4 ?_
 apply aZ<;>intro o
 ·have d:fG b=.ok 5 (b.take n) n:=by rw[e,fF,if_pos o]
  refine bZ Z (a7 ⟨Ym _,a⟩ ?_);refine a6 0 ⟨Z,by rw[d];rfl⟩
 ·refine bZ Z (a7 ⟨Ym _,a⟩ ?_);refine fa _ p ?_;apply aZ<;>intro h
  ·have d:fG b=.ok 1 (b.take n) n:=by rw[e,fF,if_neg (by rw[o];decide),if_pos h]
   refine bZ Z (a7 ⟨Ym _,a⟩ ?_);refine a6 0 ⟨Z,by rw[d];rfl⟩
  ·refine bZ Z (a7 ⟨Ym _,a⟩ ?_);refine jD _ p ?_;apply aZ<;>intro r
   ·have d:fG b=.ok 2 (b.take n) n:=by rw[e,fF,if_neg (by rw[o];decide),if_neg (by rw[show dp (b.take n)=false from h];decide),if_pos r]
    refine bZ Z (a7 ⟨Ym _,a⟩ ?_);refine a6 0 ⟨Z,by rw[d];rfl⟩
   ·have d:fG b=.err 4:=by rw[e,fF,if_neg (by rw[o];decide),if_neg (by rw[show dp (b.take n)=false from h];decide),if_neg (by rw[show jH (b.take n)=false from r];decide)]
    refine a6 0 ⟨Z,by rw[d];rfl⟩
theorem CB(b:List UInt8)(c:UInt8)(z:List UInt8)(x:b=c::z)(y:b.length<4294967296)(w:c≠34)(u:isDigit c=false)(h:gg c=false)(r:eH c=true):b3 C cn e6 [cE b] [] fun A v=>v=[]/\A=.ret (Bq (fG b)):=by
 have p:nth b 0=some c:=by rw[x];rfl
 refine cB ?_;refine bZ Z (b7 c p ?_);refine a1 (dF (d:=34) w) ?_;refine bZ Z (b7 c p ?_);refine iq c ?_;refine a1 u ?_;refine bZ Z (b7 c p ?_);refine lZ c ?_;repeat refine a1 h ?_
 refine bZ Z (b7 c p ?_);repeat refine a1 h ?_
 refine l0 c ?_;repeat refine a1 h ?_
 repeat first|refine a8 r ?_|refine a1 h ?_
 refine w6 b y ?_;have a:=oZ isWord b;have n:=uk isWord b;have e:fG b=fF (b.take (dX isWord b)) (dX isWord b):=by
  rw[x,fG,if_pos (by rw[show eH c=true from r,Bool.or_true])]
 generalize dX isWord b=o at a e n;have s:(b.take o).length<4294967296:=by rw[Yr];omega
 repeat first|refine bZ rfl (a7 ⟨Ym _,a⟩ ?_)|refine b4 ?_
 refine nH (fun B=>?_);repeat first|refine bZ rfl (a7 ⟨Ym _,a⟩ ?_)|refine b4 ?_
 refine rN Tv dc _ B 28 ?_;rw[YD,<-AY n];repeat refine b4 ?_
 apply aZ<;>intro q
 ·have d:fG b=.ok 5 (b.take o) o:=by rw[e,fF,if_pos q]
  refine bZ Z (a7 ⟨Ym _,a⟩ ?_);refine a6 0 ⟨Z,by rw[d];rfl⟩
 ·refine bZ Z (a7 ⟨Ym _,a⟩ ?_);refine fa _ s ?_;apply aZ<;>intro l
  ·have d:fG b=.ok 1 (b.take o) o:=by rw[e,fF,if_neg (by rw[q];decide),if_pos l]
   refine bZ Z (a7 ⟨Ym _,a⟩ ?_);refine a6 0 ⟨Z,by rw[d];rfl⟩
  ·refine bZ Z (a7 ⟨Ym _,a⟩ ?_);refine jD _ s ?_;apply aZ<;>intro t
   ·have d:fG b=.ok 2 (b.take o) o:=by rw[e,fF,if_neg (by rw[q];decide),if_neg (by rw[show dp (b.take o)=false from l];decide),if_pos t]
    refine bZ Z (a7 ⟨Ym _,a⟩ ?_);refine a6 0 ⟨Z,by rw[d];rfl⟩
   ·have d:fG b=.err 4:=by rw[e,fF,if_neg (by rw[q];decide),if_neg (by rw[show dp (b.take o)=false from l];decide),if_neg (by rw[show jH (b.take o)=false from t];decide)]
    refine a6 0 ⟨Z,by rw[d];rfl⟩
theorem M8(s:List UInt8)(c:UInt8)(H:List UInt8)(y:s=c::H)(L:s.length<4294967296)(x:c≠34)(w:isDigit c=false)(l:gg c=false)(u:eH c=false):b3 C cn e6 [cE s] [] fun K E=>E=[]/\K=.ret (Bq (fG s)):=by
 have r:nth s 0=some c:=by rw[y];rfl
 refine cB ?_;refine bZ Z (b7 c r ?_);refine a1 (dF (d:=34) x) ?_;refine bZ Z (b7 c r ?_);refine iq c ?_;refine a1 w ?_;refine bZ Z (b7 c r ?_);refine lZ c ?_;repeat refine a1 l ?_
 refine bZ Z (b7 c r ?_);repeat refine a1 l ?_
 refine l0 c ?_;repeat refine a1 l ?_
 repeat first|refine a1 u ?_|refine a1 l ?_
 refine Bo (fun J=>?_);have d:fG s=if hM (c::H)=[]then .err 3 else .ok 6 (hM (c::H)) (hM (c::H)).length:=by
  rw[y,fG,if_neg (by rw[show gg c=false from l,show eH c=false from u];decide),if_neg (by rw[w];decide),if_neg (x)]
 rw[Bp,<-y]at d;refine b5.less (eh:=[(0,cE s),(2,.bp 0 0),(3,b6 0),(4,b6 0),(7,.d (.ps J 0 1 25 (et gS))),(8,b6 0)]) ⟨Z,Z,Z,Z,Z,Z,tv⟩ ?_;have I:gS.length=25:=rfl;refine b5.iter (fun a:Nat=>[(0,cE s),(2,.bp 0 0),(3,b6 0),(4,b6 0),(7,.d (.ps J 0 1 25 (et gS))),(8,b6 a)]) (fun _=>[.box Vu]) (fun a=>25-a) (fun a=>a<=25/\(gS.take a).find? (dQ s)=none) ?_ 0 ⟨om,Z⟩;rintro a ⟨M,t⟩;apply aZ<;>intro G
 ·have h:a<gS.length:=fq G;have v:gS[a]?=some gS[a]:=Yt h;have A:gS[a]≠[]:=by have:=List.getElem_mem h;exact(show ∀z∈gS,z≠[]by decide) _ this
  have F:gS=gS.take a++gS[a]::gS.drop (a+1):=by rw[<-Ys h,List.take_append_drop]
  have o:(gS.take (a+1)).find? (dQ s)=none∨dQ s gS[a]=true:=by
   cases b:dQ s gS[a]with
   |true=>exact .inr rfl
   |false=>left;rw[List.take_add_one,v,YE,t];simp[b]
  have q:dQ s gS[a]=true->fG s=.ok 6 gS[a] gS[a].length:=fun b=>by
   have:gS.find? (dQ s)=some gS[a]:=(congrArg (List.find? (dQ s)) F).trans (by rw[YE,t,List.find?_cons,b];rfl);rw[d,this];exact if_neg A
  have p:nth (et gS) a=some [.str gS[a]]:=by rw[cz,et,List.getElem?_map,v];rfl
  generalize gS[a]=z at o q p;refine bZ Z (b7 _ p ?_);apply aZ<;>intro n
  ·have e:z.length<=s.length:=C3 n;repeat first
    |refine a8 n ?_
    |refine bZ rfl (b7 _ p ?_)
    |refine bZ rfl (a7 ⟨Ym _,e⟩ ?_)
    |refine b4 ?_
   apply aZ<;>intro D
   ·have b:dQ s z=true:=by rw[<-vp e];exact D
    have B:=q b;repeat first
     |refine a8 n ?_
     |refine bZ rfl (b7 _ p ?_)
     |refine bZ rfl (a7 ⟨Ym _,e⟩ ?_)
     |refine b4 ?_
    refine a6 0 ⟨Z,by rw[B];rfl⟩
   ·have b:dQ s z=false:=by rw[<-vp e];exact D
    refine⟨a+1,⟨om,?_⟩,by show 25-(a+1)<25-a;omega,.same ⟨rfl,rfl,rfl,rfl,rfl,int_eq (cq om),tv⟩ rfl,rfl,rfl⟩;rcases o with h|h
    ·exact h
    ·rw[b]at h;cases h
  ·have b:dQ s z=false:=C5 (wz n);repeat first
    |refine a1 n ?_
    |refine bZ rfl (b7 _ p ?_)
    |refine b4 ?_
   refine⟨a+1,⟨om,?_⟩,by show 25-(a+1)<25-a;omega,.same ⟨rfl,rfl,rfl,rfl,rfl,int_eq (cq om),tv⟩ rfl,rfl,rfl⟩;rcases o with h|h
   ·exact h
   ·rw[b]at h;cases h
 ·have h:25<=a:=dM G;rw[Yy h]at t;rw[t]at d;refine a6 0 ⟨Z,by rw[d];rfl⟩
theorem CC(s:List UInt8)(c:UInt8)(n:List UInt8)(d:s=c::n)(h:s.length<4294967296):b3 C cn e6 [cE s] [] fun p o=>o=[]/\p=.ret (Bq (fG s)):=by
 cases a:decide (Yn c.toNat=Yn (34:UInt8).toNat)with
 |true=>exact J6 s c n d h a
 |false=>
  have a:=bF a;cases b:isDigit c with
  |true=>exact HP s c n d h a b
  |false=>
   cases e:gg c with
   |true=>exact HQ s c n d h a b e
   |false=>
    cases l:eH c with
    |true=>exact CB s c n d h a b e l
    |false=>exact M8 s c n d h a b e l
def J7(t:Tok):Prop:=(t.kind=5->t.text.all isWord=true)/\(t.kind=6->t.text∈gS)
theorem M9{l:List UInt8}(b:hM l≠[]):hM l∈gS:=by
 cases l with
 |nil=>exact absurd rfl b
 |cons d c=>
  rw[Bp]at b⊢;cases a:gS.find? (dQ (d::c))with
  |none=>rw[a]at b;exact absurd rfl b
  |some e=>exact List.mem_of_find?_eq_some a
theorem RF{l t:List UInt8}{d n:Nat}(a:fG l=.ok d t n):(d=5->t.all isWord=true)/\(d=6->t∈gS):=by
 cases l with
 |nil=>cases a
 |cons h e=>
  rw[fG]at a;split at a
  ·have b:=uk isWord (h::e);unfold fF at a;split at a
   ·cases a;exact⟨fun _=>b,fun a=>om⟩
   ·split at a
    ·cases a;exact⟨fun a=>om,fun a=>om⟩
    ·split at a
     ·cases a;exact⟨fun a=>om,fun a=>om⟩
     ·cases a
  ·split at a
   ·unfold hD at a;split at a
    ·cases a
    ·cases a;exact⟨fun a=>om,fun a=>om⟩
   ·split at a
    ·split at a
     ·cases a;exact⟨fun a=>om,fun a=>om⟩
     ·cases a
    ·split at a
     ·cases a
     ·rename_i c;cases a;exact⟨fun a=>om,fun _=>M9 c⟩
theorem PH(s:List UInt8):∀(h a:Nat) (l:List Tok),h6 s h a=.ok l->∀o∈l,J7 o:=by
 intro h;induction h with
 |zero=>intro a l b;cases b;simp
 |succ h n=>
  intro a l b;rw[h6]at b;split at b
  ·cases b;intro o c;simp at c;subst c;exact⟨fun b=>by simp at b,fun b=>by simp at b⟩
  ·cases c:fG (s.drop a)with
   |err w=>rw[c]at b;cases b
   |ok t o r=>
    rw[c]at b;dsimp only at b;cases e:h6 s h (a+r+dw false (s.drop (a+r)))with
    |err v u=>rw[e]at b;cases b
    |ok p=>
     rw[e]at b;cases b;intro q d;rcases List.mem_cons.1 d with rfl|d
     ·exact RF c
     ·exact n _ p e q d
def Rd.Kd(b:Rd):Prop:=∀a,a<b.ts.length->J7 (b.tok a)
theorem PJ{s:List UInt8}{R:Rd}(a:kJ s=.ok R.ts):R.Kd:=by
 intro d b;have c:=List.mem_of_getElem? (b8 b);unfold kJ at a;split at a
 ·cases a
 ·exact PH s _ _ _ a _ c
theorem Br{t:Tok}(d:J7 t)(a:f ∉ gS):cD t f=(decide (t.text=f)&&decide (t.kind=5)):=by
 unfold cD;by_cases c:t.text=f
 ·by_cases b:t.kind=6
  ·exact absurd (c▸d.2 b) a
  ·rw[decide_eq_false b,Bool.or_false]
 ·rw[decide_eq_false c];rfl
theorem Na{t:Tok}(d:J7 t){s:List UInt8}(a:s.all isWord=false):cD t s=(decide (t.text=s)&&decide (t.kind=6)):=by
 unfold cD;by_cases b:t.text=s
 ·by_cases c:t.kind=5
  ·have:=d.1 c;rw[b,a]at this;cases this
  ·rw[decide_eq_false c,Bool.false_or]
 ·rw[decide_eq_false b];rfl
theorem Bs{t:Tok}(c:J7 t)(a:cD t f=true)(b:f ∉ gS):t.kind=5/\t.text=f:=by
 rw[Br c b,YF,decide_eq_true_eq,decide_eq_true_eq]at a;exact⟨a.2,a.1⟩
theorem PK{t:Tok}(c:J7 t)(a:cD t f=true)(b:f.all isWord=false):t.kind=6/\t.text=f:=by
 rw[Na c b,YF,decide_eq_true_eq,decide_eq_true_eq]at a;exact⟨a.2,a.1⟩
theorem PL{t:Tok}(a:cD t f=false)(b:t.kind=i)(c:i=5∨i=6):t.text≠f:=by
 intro d;rw[cD,d]at a;rcases c with rfl|rfl<;>rw[b]at a<;>simp at a
def SK:Nat->Bool:=fun a=>YB a 16||YB a 43||YB a 83
theorem HR(d:Rd)(s:d.Wf)(c:RS)(a:c.e≠0)(b:c.p<d.ts.length){σ:VS}{K:cZ->VS->Prop}(p:∀l n e o h,K (.ret (.dN [.agg [.d l,.d n,.d e,.d o,.d h],c.v d])) σ):b3 C cn du [c.v d] σ K:=by
 refine b3.closed (P:=fun q=>∃l n e o h,q=.ret (.dN [.agg [.d l,.d n,.d e,.d o,.d h],c.v d])) ?_ rfl (fun q ⟨l,n,e,o,h,r⟩=>by rw[r];exact p l n e o h);refine cy SK (fun _=>Z) ?_;intro t;refine b5.loop ?_;refine bZ Z (b7 _ Z ?_);repeat refine b4 ?_
 refine cJ d c _ b ?_;rw[dv a];repeat refine b4 ?_
 refine b5.loop ?_;refine bZ Z (b7 _ Z ?_);repeat refine b4 ?_
 refine cJ d c _ b ?_;rw[dv a];repeat refine b4 ?_
 refine b5.loop ?_;refine bZ Z (b7 _ Z ?_);repeat refine b4 ?_
 refine cJ d c _ b ?_;rw[dv a];repeat refine b4 ?_
 refine b5.loop ?_;refine bZ Z (b7 _ Z ?_);repeat refine b4 ?_
 refine cJ d c _ b ?_;rw[dv a];repeat refine b4 ?_
 refine b5.loop ?_;refine bZ Z (b7 _ Z ?_);repeat refine b4 ?_
 refine cJ d c _ b ?_;rw[dv a];repeat refine b4 ?_
 refine b5.loop ?_;refine cJ d c _ b ?_;rw[dv a];refine cJ d c _ b ?_;rw[dv a];refine cJ d c _ b ?_;rw[dv a];refine cJ d c _ b ?_;rw[dv a];refine gj d c 1 b ?_;rw[hO a];refine dT d s c 2 b ?_;rw[lx a,RS.dm,hO a,if_neg dc];refine qX d c a b ?_;repeat refine b1 ?_
 refine a6 0 ⟨Z,Z,_,_,_,_,_,Z⟩
theorem rW(e:Rd)(B:e.Wf)(h:Nat->PR Ty)(p:Nat)(A:p<e.ts.length)(w:uJ h e p)(a b:List UInt8)(r:a≠b)(d:Bool){σ:VS}{K:cZ->VS->Prop} 
  (y:∀t n l,ea h e a b d p=.ok t l->eP t n->K (.ret (.dN [.d n,(cu l).v e])) σ) (v:∀c o l n,ea h e a b d p=.bad c o->o≠0->l<e.ts.length->K (.ret (.dN [.d n,(RS.mk l c o).v e])) σ):b3 C cn jG [(cu p).v e,cE a,cE b,b0 d] σ K:=by
 refine b3.closed (CA e B h p A w a b r d) Z (fun D s=>?_);unfold Vs at s;split at s
 ·rename_i t l o;obtain⟨n,u,rfl⟩:=s;exact y t n l o u
 ·rename_i c z o;obtain⟨q,n,l,x,rfl⟩:=s;exact v c z l n o q x
theorem PM{r:Nat->PR Ty}{z:Rd}{t:Tok}(y:J7 t)(n:t.kind≠1)(d:t.kind≠2) 
  (w:cD t [97,110,121]=false) (x:cD t [110,111,110,101]=false) (h:cD t [105,110,116]=false) (l:cD t [98,111,111,108]=false) (e:cD t [116,101,120,116]=false)
  (p:cD t [108,105,115,116]=false) (q:cD t [123]=false) (s:cD t [60]=false) (o:cD t [102,110]=false):fH r z t.kind t.text t.off i=.bad t.off 3:=by
 unfold fH;by_cases b:t.kind=5
 ·have a:=fun u (v:cD t u=false)=>PL v b (.inl rfl);rw[if_pos b,rG,if_neg (a _ h),if_neg (a _ l),if_neg (a _ e),if_neg (a _ w),if_neg (a _ x)];dsimp only;rw[if_neg (a _ p),if_neg (a _ o)]
 ·rw[if_neg b];by_cases c:t.kind=6
  ·have a:=fun u (v:cD t u=false)=>PL v c (.inr rfl);rw[if_pos c,if_neg (a _ q),if_neg (a _ s)]
  ·rw[if_neg c,if_neg d,if_neg n]
theorem J8(b:Rd)(u:b.Wf)(r:b.Kd)(q:Nat->PR Ty)(p:Nat)(c:p<b.ts.length)(v:uJ q b (p+1))(L:PR Ty)(a:fH q b (b.tok p).kind (b.tok p).text (b.tok p).off (p+1)=L):
  b3 C cn du [(cu p).v b] [] fun ae m=>m=[]/\cX ae=true/\Pz b L ae:=by
 have ac:=u.len;refine cy SK (fun _=>Z) ?_;intro ah;refine b5.loop ?_;refine bZ Z (b7 _ Z ?_);repeat refine b4 ?_
 refine cJ b (cu p) _ c ?_;rw[eS];repeat refine b4 ?_
 apply aZ<;>intro M
 ·obtain⟨o,n⟩:=Bs (r p c) M dc;rw[o,n]at a;refine cP b (cu p) (by show p<4294967296;omega) ?_;refine a6 0 ⟨Z,Z,by rw[<-a];exact⟨_,.mk .nil .nil,rfl⟩⟩
 refine b5.loop ?_;refine bZ Z (b7 _ Z ?_);repeat refine b4 ?_
 refine cJ b (cu p) _ c ?_;rw[eS];repeat refine b4 ?_
 apply aZ<;>intro T
 ·obtain⟨o,n⟩:=Bs (r p c) T dc;rw[o,n]at a;refine cP b (cu p) (by show p<4294967296;omega) ?_;refine a6 0 ⟨Z,Z,by rw[<-a];exact⟨_,.mk .nil .nil,rfl⟩⟩
 refine b5.loop ?_;refine bZ Z (b7 _ Z ?_);repeat refine b4 ?_
 refine cJ b (cu p) _ c ?_;rw[eS];repeat refine b4 ?_
 apply aZ<;>intro k
 ·obtain⟨o,n⟩:=Bs (r p c) k dc;rw[o,n]at a;refine cP b (cu p) (by show p<4294967296;omega) ?_;refine a6 0 ⟨Z,Z,by rw[<-a];exact⟨_,.mk .nil .nil,rfl⟩⟩
 refine b5.loop ?_;refine bZ Z (b7 _ Z ?_);repeat refine b4 ?_
 refine cJ b (cu p) _ c ?_;rw[eS];repeat refine b4 ?_
 apply aZ<;>intro X
 ·obtain⟨o,n⟩:=Bs (r p c) X dc;rw[o,n]at a;refine cP b (cu p) (by show p<4294967296;omega) ?_;refine a6 0 ⟨Z,Z,by rw[<-a];exact⟨_,.mk .nil .nil,rfl⟩⟩
 refine b5.loop ?_;refine bZ Z (b7 _ Z ?_);repeat refine b4 ?_
 refine cJ b (cu p) _ c ?_;rw[eS];repeat refine b4 ?_
 apply aZ<;>intro f
 ·obtain⟨o,n⟩:=Bs (r p c) f dc;rw[o,n]at a;refine cP b (cu p) (by show p<4294967296;omega) ?_;refine a6 0 ⟨Z,Z,by rw[<-a];exact⟨_,.mk .nil .nil,rfl⟩⟩
 refine b5.loop ?_;refine cJ b (cu p) _ c ?_;rw[eS];apply aZ<;>intro P
 ·have d:=u.step c P;obtain⟨o,n⟩:=Bs (r p c) P dc;rw[o,n]at a;have a:(dl q b (p+1)).map (fun R=>Ty.mk 5 [] [] [R] [])=L:=a;refine cP b (cu p) (by show p<4294967296;omega) ?_;refine Cz b u q (p+1) d v (fun R I y e s=>?_) (fun x F y Y j i U W e h t=>?_)
  ·obtain⟨Y,j,i,U,W,rfl⟩:=s.eG;rw[e]at a;intro G;repeat refine b1 ?_
   refine a6 0 ⟨Z,Z,by rw[<-a];exact⟨_,.mk (.ps (.cons s .nil) (List.cons_ne_nil _ _)) .nil,rfl⟩⟩
  ·rw[e]at a;intro G;repeat refine b1 ?_
   refine a6 0 ⟨Z,Z,by rw[<-a];exact⟨h,_,_,_,_,_,y,t,rfl⟩⟩
 refine cJ b (cu p) _ c ?_;rw[eS];apply aZ<;>intro N
 ·have d:=u.step c N;obtain⟨o,n⟩:=PK (r p c) N dc;rw[o,n]at a;have a:(ea q b [44] [125] false (p+1)).map (fun D=>Ty.mk 6 [] [] [] D)=L:=a;refine cP b (cu p) (by show p<4294967296;omega) ?_;refine rW b u q (p+1) d v [44] [125] dc false (fun D I y e s=>?_) (fun x F y I e h t=>?_)
  ·rw[e]at a;repeat refine b1 ?_
   refine a6 0 ⟨Z,Z,by rw[<-a];exact⟨_,.mk .nil s,rfl⟩⟩
  ·rw[e]at a;repeat refine b1 ?_
   refine a6 0 ⟨Z,Z,by rw[<-a];exact⟨h,_,_,_,_,_,y,t,rfl⟩⟩
 refine cJ b (cu p) _ c ?_;rw[eS];apply aZ<;>intro O
 ·have d:=u.step c O;obtain⟨o,n⟩:=PK (r p c) O dc;rw[o,n]at a;have a:(ea q b [124] [62] false (p+1)).map (fun D=>Ty.mk 7 [] [] [] D)=L:=a;refine cP b (cu p) (by show p<4294967296;omega) ?_;refine rW b u q (p+1) d v [124] [62] dc false (fun D I y e s=>?_) (fun x F y I e h t=>?_)
  ·rw[e]at a;repeat refine b1 ?_
   refine a6 0 ⟨Z,Z,by rw[<-a];exact⟨_,.mk .nil s,rfl⟩⟩
  ·rw[e]at a;repeat refine b1 ?_
   refine a6 0 ⟨Z,Z,by rw[<-a];exact⟨h,_,_,_,_,_,y,t,rfl⟩⟩
 refine cJ b (cu p) _ c ?_;rw[eS];apply aZ<;>intro Q
 ·have d:=u.step c Q;obtain⟨o,n⟩:=Bs (r p c) Q dc;rw[o,n]at a;have a:(match cv b [[40]] (p+1)with
    |.bad V F=>.bad V F
    |.ok _ E=>match ea q b [44] [41] true E with
     |.bad V F=>.bad V F
     |.ok D J=>(q J).map fun R=>Ty.mk 8 [] [] [R] D)=L:=a
  refine cP b (cu p) (by show p<4294967296;omega) ?_;refine cG b u (cu (p+1)) [40] d ?_;cases A:cD (b.tok (p+1)) [40]with
  |false=>
   rw[cv,A,if_neg dc]at a;dsimp only at a;rw[er A];refine HK b u q (p+1) v _ (Yl _) d [44] [41] true ?_;refine v.err _ (Yl _) d _ _ (fun Y j i U W=>?_);intro G;repeat refine b1 ?_
   refine a6 0 ⟨Z,Z,by rw[<-a];exact⟨dc,_,_,_,_,_,p+1,d,rfl⟩⟩
  |true=>
   have w:=u.step d A;rw[cv,A,if_pos rfl,cv]at a;dsimp only at a;rw[dY A];refine rW b u q (p+1+1) w (v.up om) [44] [41] dc true (fun D I y e s=>?_) (fun x F y I e h t=>?_)
   ·obtain⟨af,ab⟩:=o9 u (fun ad R y M=>v.lt ad R y om) w e;rw[e]at a;dsimp only at a;refine v.call y om ab _ _ (fun R d2 J S K=>?_) (fun x F J Y j i U W S h aa=>?_)
    ·obtain⟨Y,j,i,U,W,rfl⟩:=K.eG;rw[S]at a;intro G;repeat refine b1 ?_
     refine a6 0 ⟨Z,Z,by rw[<-a];exact⟨_,.mk (.ps (.cons K .nil) (List.cons_ne_nil _ _)) s,rfl⟩⟩
    ·rw[S]at a;intro G;repeat refine b1 ?_
     refine a6 0 ⟨Z,Z,by rw[<-a];exact⟨h,_,_,_,_,_,J,aa,rfl⟩⟩
   ·rw[e]at a;dsimp only at a;refine v.err _ h t _ _ (fun Y j i U W=>?_);intro G;repeat refine b1 ?_
    refine a6 0 ⟨Z,Z,by rw[<-a];exact⟨h,_,_,_,_,_,y,t,rfl⟩⟩
 refine gj b (cu p) 1 c ?_;rw[fk];apply aZ<;>intro H
 ·have z:(b.tok p).kind=1:=of_decide_eq_true H;have d:=u.go p _ (b8 c) om;rw[z]at a;have a:(match cv b [[58,58]] (p+1)with
    |.bad V F=>.bad V F
    |.ok _ E=>if(b.tok E).kind≠2 then .bad (b.tok E).off 3 else(fA q b (E+1)).map fun D=>Ty.mk 10 (b.tok p).text (b.tok E).text D [])=L:=a
  refine dT b u (cu p) 1 c ?_;rw[ka z,RS.dm,fk,H,if_pos rfl];refine cG b u (cu (p+1)) [58,58] d ?_;cases B:cD (b.tok (p+1)) [58,58]with
  |false=>
   rw[cv,B,if_neg dc]at a;dsimp only at a;rw[er B];refine dT b u _ 2 d ?_;rw[lx (Yl _),RS.dm,hO (Yl _),if_neg dc];refine qX b _ (Yl _) d ?_;repeat refine b1 ?_
   refine a6 0 ⟨Z,Z,by rw[<-a];exact⟨dc,_,_,_,_,_,p+1,d,rfl⟩⟩
  |true=>
   have w:=u.step d B;rw[cv,B,if_pos rfl,cv]at a;dsimp only at a;rw[dY B];refine dT b u (cu (p+1+1)) 2 w ?_;by_cases l:(b.tok (p+1+1)).kind=2
   ·have g:=u.go _ _ (b8 w) om;rw[if_neg (fun ag=>ag l)]at a;rw[ka l,RS.dm,fk,decide_eq_true l,if_pos rfl];refine Bl b u q (p+1+1+1) g (v.up om) (fun D I y e s=>?_) (fun x F y I e h t=>?_)
    ·rw[e]at a;repeat refine b1 ?_
     refine a6 0 ⟨Z,Z,by rw[<-a];exact⟨_,.mk s .nil,rfl⟩⟩
    ·rw[e]at a;repeat refine b1 ?_
     refine a6 0 ⟨Z,Z,by rw[<-a];exact⟨h,_,_,_,_,_,y,t,rfl⟩⟩
   ·rw[if_pos l]at a;rw[mS l,RS.dm,fk,decide_eq_false l,if_neg dc];refine qX b _ (Yl _) w ?_;repeat refine b1 ?_
    refine a6 0 ⟨Z,Z,by rw[<-a];exact⟨dc,_,_,_,_,_,p+1+1,w,rfl⟩⟩
 ·have z:(b.tok p).kind≠1:=of_decide_eq_false H;refine dT b u (cu p) 2 c ?_;by_cases l:(b.tok p).kind=2
  ·have d:=u.go _ _ (b8 c) om;rw[l]at a;have a:(fA q b (p+1)).map (fun D=>Ty.mk 10 [] (b.tok p).text D [])=L:=a;rw[ka l,RS.dm,fk,decide_eq_true l,if_pos rfl];refine Bl b u q (p+1) d (v.up om) (fun D I y e s=>?_) (fun x F y I e h t=>?_)
   ·rw[e]at a;repeat refine b1 ?_
    refine a6 0 ⟨Z,Z,by rw[<-a];exact⟨_,.mk s .nil,rfl⟩⟩
   ·rw[e]at a;repeat refine b1 ?_
    refine a6 0 ⟨Z,Z,by rw[<-a];exact⟨h,_,_,_,_,_,y,t,rfl⟩⟩
  ·rw[PM (r p c) z l M T k X f P N O Q]at a;rw[mS l,RS.dm,fk,decide_eq_false l,if_neg dc];refine qX b _ (Yl _) c ?_;repeat refine b1 ?_
   refine a6 0 ⟨Z,Z,by rw[<-a];exact⟨dc,_,_,_,_,_,p,c,rfl⟩⟩
end Go.Proofs.YthlkhjchcjflkaaGreatDoor
