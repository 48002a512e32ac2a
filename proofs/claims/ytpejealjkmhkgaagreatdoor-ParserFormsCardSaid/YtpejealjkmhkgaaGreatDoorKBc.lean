/- Part of the proof. -/
import Derived.Test.YtpejealjkmhkgaaGreatDoorKBb
set_option linter.all false
set_option maxHeartbeats 16000000
set_option maxRecDepth 100000
open List renaming length_cons->abK,length_nil->abL,length_append->aet
open Nat renaming le_refl->aeu,beq->aev
open Int renaming ofNat->aeM
namespace Go.Proofs.YtpejealjkmhkgaaGreatDoor
open Go.AM Go.VM
def db(l:Nat->PR Ty)(b:Rd)(e h:cq)(a:Bool):Nat->List oG->Nat->PR (List oG)
 |0,_,_=>.bad 0 3
 |f+1,d,c=>
  if(b.tok c).kind≠1 then .bad (b.tok c).off 3
  else if(b.tok c).text∈d.map (·.1)then .bad (b.tok c).off 5
  else match cu b [[58]] (if a&&c5 (b.tok (c+1)) [63]then c+1+1 else c+1)with
   |.bad m k=>.bad m k
   |.ok _ q2=>match l q2 with
    |.bad m k=>.bad m k
    |.ok n q1=>if c5 (b.tok q1) h then .ok (d++[((b.tok c).text,n,a&&c5 (b.tok (c+1)) [63])]) (q1+1)else match cu b [e] q1 with
     |.bad m k=>.bad m k
     |.ok _ q3=>db l b e h a f (d++[((b.tok c).text,n,a&&c5 (b.tok (c+1)) [63])]) q3
def PR.map{b a:Type}(c:b->a):PR b->PR a
 |.ok d f=>.ok (c d) f
 |.bad e h=>.bad e h
def eY(e:Nat->PR Ty)(d:Rd)(b a:cq)(c:Bool)(p:Nat):PR (List oG):=
 if c5 (d.tok p) a then .ok [] (p+1)else(db e d b a c d.ts.length [] p).map (cG (·.1))
def adQ(e:Rd)(d:Nat)(a:List cq)(b:Bool):List FE->VS
 |[]=>[dp e d,.box [.bp 0 0],.box [bX b],.box [.d .ci],pg a,.box [.map 4]]
 |x::c=>[dp e d,.box [.bp 0 0],.box [bX b],.box [.ms 6 7 0 (c.length+1) (c.length+1)],pg a,.box [.map 4],.row 7 (rows (x::c))]
def tT:List V:=[.d (.str []),.d (.int .i64 0),.d (.str []),.d (.str []),.d .ci,.d .ci,.d (.bool false)]
def aaS:Nat->Bool:=fun a=>aev a 18
def ZO:Nat->Bool:=fun a=>aev a 16||aev a 24
theorem x8{a n c:Nat}(e:c<=a)(b:a<4294967296)(d:n=1):(c+n)*112<=fy/\c+n<=fy:=by
 unfold fy;omega
theorem F6(a:List FE):a.length+1<a.length+1+1:=Nat.lt_succ_self _
theorem xW(a:FE)(b:List FE):nth (List.take (b.length+1) (List.drop 0 (rows (a::b)))++[tT]) (0+(b.length+1))=some tT:=by
 rw[ck,List.getElem?_append_right (by simp[rows])];simp[rows]
theorem Cm(a:FE)(b:List FE)(c:FE):(List.take (b.length+1) (List.drop 0 (rows (a::b)))++[tT]).set (0+(b.length+1)) ((fe c).map V.d)=rows (a::(b++[c])):=by
 rw[List.drop_zero,List.take_of_length_le (by simp[rows]),List.set_append_right _ _ (by simp[rows])];simp[rows]
theorem E8{b:Nat->Nat}(a:FE)(c:List FE)(d:FE):some (cN.row 7 ((List.take (c.length+1) (List.drop 0 (rows (a::c)))++[tT]).set (0+(c.length+1)) ((fe d).map V.d)))=some (dF b (.row 7 (rows (a::(c++[d]))))):=by
 rw[Cm];exact congrArg some (sM b 7 ((a::(c++[d])).map fe)).symm
theorem NA(c:Nat)(a:List FE)(b:FE):some (cN.box [.ms c 7 0 (a.length+1+1) (a.length+1+1)])=some (cN.box [.ms c 7 0 ((a++[b]).length+1) ((a++[b]).length+1)]):=by simp
theorem pq(xs:List FE):xs.length=(cG FE.n xs).length:=(dE xs).length_eq.symm
theorem pr{xs:List FE}{l:List oG}{a:FE}(h:(xs.map FE.n).Nodup)(hX:xs.map FE.n=l.map (·.1))(zH:a.n ∉ l.map (·.1)):((xs++[a]).map FE.n).Nodup:=by
 exact YZ
theorem Gb{π:Nat->Nat}(l:List oG)(n:cq)(t:Ty)(o:Bool):some (pg (l.map (·.1)++[n]))=some (dF π (pg ((l++[(n,t,o)]).map (·.1)))):=by
 exact X5
def TE(f:Rd)(k:PR (List oG))(e:cO)(a:VS):Prop:=match k with
 |.ok l c=>a=[dp f c]/\∃d,ll l d/\e=.ret (.d d)
 |.bad b h=>∃c,a=[dp f c]/\e=.eH (dt b h)
variable{j:Nat} {i:Rd}
theorem vR{b:VS}{l:List oG}{xs:List FE}{m:PR (List oG)}(a n:Nat)(d:n=xs.length)(f:nth b a=some (.row 7 (rows xs)))(h:lW l xs)(k:m=.ok l j):
  cU 1 (.ret (.ms (a+1) 7 0 n n)) (dp i j::b) (TE i m):=by
 subst k;have c:n=(xs.map fe).length:=by simpa using d
 refine cU.freeze (a+1) (es:=7) (l:=xs.map fe) f (gk _) (fun _=>⟨Z,by simp[d]⟩) (fun e=>?_);have p:wq (a+1) e (xs.map fe) (.ret (.ms (a+1) 7 0 n n))=.ret (.d (.ps e (0*7) 7 n (xs.map fe))):=by
  show cO.ret (o5 (a+1) e (xs.map fe) (.ms (a+1) 7 0 n n))=_;rw[o5,kz];show cO.ret (.d (.ps e (0*7) 7 n (((xs.map fe).drop 0).take n)))=_;rw[eT _ _ c]
 rw[p];refine cU.drop 1 Z (by show(fW 1 (dp i j)&&mJ 1 (b.set a .gone) 0)=true;rw[mJ];rfl) Z (cU.now Z ?_);exact⟨Z,_,.ps h.fls,Z⟩
theorem HE(R:Rd)(A:R.Wf)(ty:Nat->PR Ty)(sep fin:cq)(z:Bool)(p:Nat)(T:p<R.ts.length)(E:ef ty R p):
  bV C ca tp [.bp 0 0,cn sep,cn fin,bX z] [dp R p] (TE R (eY ty R sep fin z p)):=by
 have W:=A.len;refine cm ?_;refine bV.body aaS (fun _=>Z) ?_;refine cI R p (R.tok p) fin (bY T) om 0 Z (fun X=>?_) (fun X=>?_)
 ·refine Mw ?_;refine a8 1 ?_;rw[eY,if_pos X];exact⟨Z,.ci,.nil,Z⟩
 ·refine cD (dB:=[(0,.bp 0 0),(1,cn sep),(2,cn fin),(3,.fn qQ [] [.bp 1 0,.bp 5 0,.bp 2 0,.bp 3 0])]) ?_;refine cd.iter (fun _:Nat×List oG×List FE=>[(0,.bp 0 0),(1,cn sep),(2,cn fin),(3,.fn qQ [] [.bp 1 0,.bp 5 0,.bp 2 0,.bp 3 0])]) (fun x=>adQ R x.1 (x.2.1.map (·.1)) z x.2.2) (fun x=>R.ts.length-x.1)
   (fun x=>p<=x.1/\x.1<R.ts.length/\x.2.2.length<=x.1/\lW x.2.1 x.2.2/\(x.2.2.map FE.n).Nodup/\∃f,R.ts.length-x.1<=f/\db ty R sep fin z R.ts.length [] p=db ty R sep fin z f x.2.1 x.1) ?_ (p,[],[]) ⟨aeu _,T,Nat.zero_le _,.nil,List.nodup_nil,_,by show R.ts.length-p<=R.ts.length;omega,rfl⟩
  rintro⟨q,l,F⟩ ⟨S,L,K,G,D,f,V,he⟩;have S:p<=q:=S;have L:q<R.ts.length:=L;have K:F.length<=q:=K;have G:lW l F:=G;have D:(F.map FE.n).Nodup:=D;have M:=G.names;have V:R.ts.length-q<=f:=V;have he:db ty R sep fin z R.ts.length [] p=db ty R sep fin z f l q:=he;obtain⟨f,rfl⟩:∃k,f=k+1:=⟨f-1,om⟩;have hF:eY ty R sep fin z p=(db ty R sep fin z (f+1) l q).map (cG (·.1)):=by rw[eY,if_neg (by rw[X];decide),he]
  rw[db]at hF;cases F with
  |nil=>
   refine bV.body ZO (fun _=>Z) ?_;refine p7 R A q L (l.map (·.1)) 0 4 dc ?_ ?_ (fun hk zH=>?_) (fun hk zH=>?_) (fun hk=>?_)
   ·exact Z
   ·exact Z
   ·have B:q+1<R.ts.length:=A.go q _ (bY L) om;cases z
    ·have d:q+1<R.ts.length:=B;intro Q;refine ep R A [[58]] dc (q+1) d _ _ 0 ?_ ?_
     ·exact Z
     cases hn:cu R [[58]] (q+1)with
     |bad h H=>
      exact Zw
     |ok _ q2=>
      have o:=da A _ _ _ d hn;have b:=cL _ _ _ hn;have b:p<=q2:=by rw[b];omega
      have I:q<q2:=by have:=cL _ _ _ hn;simp only[abK,abL]at this;omega
      refine E.call q2 b o 0 _ _ ?_ (fun t U q1 e1 w=>?_) (fun h H q1 e1=>?_)
      ·exact Z
      ·obtain⟨k,m,n,a,fl,rfl⟩:=w.cZ;obtain⟨P,s⟩:=E.lt q2 t q1 b o e1;have e:lW (l++[((R.tok q).text,t,false)]) ([]++[(⟨(R.tok q).text,k,m,n,a,fl,false,[],.ci⟩:FE)]):=G.snoc (x:=(⟨(R.tok q).text,k,m,n,a,fl,false,[],.ci⟩:FE)) w;have c:((([]++[(⟨(R.tok q).text,k,m,n,a,fl,false,[],.ci⟩:FE)]:List FE)).map FE.n).Nodup:=pr D M zH;intro N;repeat first
        |refine bZ rfl ?_
        |refine cf ?_
       refine cc tT Z ?_;refine cI R q1 (R.tok q1) fin (bY s) om 0 ?_ (fun h3=>?_) (fun h3=>?_)
       ·exact Z
       ·refine lO [(⟨(R.tok q).text,k,m,n,a,fl,false,[],.ci⟩:FE)] c (by simp only[abK,aet,abL]<;>omega) 1 sm 7 ?_ ?_
        ·exact Z
        ·refine vR (l:=cG (·.1) (l++[((R.tok q).text,t,false)])) (xs:=cG FE.n [(⟨(R.tok q).text,k,m,n,a,fl,false,[],.ci⟩:FE)]) 6 _ ((by simp:1=_).trans (pq [(⟨(R.tok q).text,k,m,n,a,fl,false,[],.ci⟩:FE)])) ?_ e.JR ?_
         ·exact Z
         ·exact ab4
       ·intro O;refine ep R A [sep] (by show 1<4294967296;decide) q1 s _ _ 0 ?_ ?_
        ·exact Z
        ·cases Bn:cu R [sep] q1 with
         |bad h H=>
          exact Zj
         |ok _ q3=>
          have y:=da A _ _ _ s Bn;have J:q1<q3:=by have:=cL _ _ _ Bn;simp only[abK,abL]at this;omega
          refine⟨(q3,l++[((R.tok q).text,t,false)],[(⟨(R.tok q).text,k,m,n,a,fl,false,[],.ci⟩:FE)]),⟨by show p<=q3;omega,y,by show 1<=q3;omega,e,c,f,by show R.ts.length-q3<=f;omega,?_⟩,?_,?_,Z,Z⟩
          ·exact YF
          ·exact La
          ·exact Vt
      ·exact aah
    ·refine cI R (q+1) (R.tok (q+1)) [63] (bY B) om 0 ?_ (fun h2=>?_) (fun h2=>?_)
     ·exact Z
     ·have d:q+1+1<R.ts.length:=A.step B h2;intro Q;refine ep R A [[58]] dc (q+1+1) d _ _ 0 ?_ ?_
      ·exact Z
      cases hn:cu R [[58]] (q+1+1)with
      |bad h H=>
       exact Zl
      |ok _ q2=>
       have o:=da A _ _ _ d hn;have b:=cL _ _ _ hn;have b:p<=q2:=by rw[b];omega
       have I:q<q2:=by have:=cL _ _ _ hn;simp only[abK,abL]at this;omega
       refine E.call q2 b o 0 _ _ ?_ (fun t U q1 e1 w=>?_) (fun h H q1 e1=>?_)
       ·exact Z
       ·obtain⟨k,m,n,a,fl,rfl⟩:=w.cZ;obtain⟨P,s⟩:=E.lt q2 t q1 b o e1;have e:lW (l++[((R.tok q).text,t,true)]) ([]++[(⟨(R.tok q).text,k,m,n,a,fl,true,[],.ci⟩:FE)]):=G.snoc (x:=(⟨(R.tok q).text,k,m,n,a,fl,true,[],.ci⟩:FE)) w;have c:((([]++[(⟨(R.tok q).text,k,m,n,a,fl,true,[],.ci⟩:FE)]:List FE)).map FE.n).Nodup:=pr D M zH;intro N;repeat first
         |refine bZ rfl ?_
         |refine cf ?_
        refine cc tT Z ?_;refine cI R q1 (R.tok q1) fin (bY s) om 0 ?_ (fun h3=>?_) (fun h3=>?_)
        ·exact Z
        ·refine lO [(⟨(R.tok q).text,k,m,n,a,fl,true,[],.ci⟩:FE)] c (by simp only[abK,aet,abL]<;>omega) 1 sm 7 ?_ ?_
         ·exact Z
         ·refine vR (l:=cG (·.1) (l++[((R.tok q).text,t,true)])) (xs:=cG FE.n [(⟨(R.tok q).text,k,m,n,a,fl,true,[],.ci⟩:FE)]) 6 _ ((by simp:1=_).trans (pq [(⟨(R.tok q).text,k,m,n,a,fl,true,[],.ci⟩:FE)])) ?_ e.JR ?_
          ·exact Z
          ·exact abX
        ·intro O;refine ep R A [sep] (by show 1<4294967296;decide) q1 s _ _ 0 ?_ ?_
         ·exact Z
         ·cases Bn:cu R [sep] q1 with
          |bad h H=>
           exact Y9
          |ok _ q3=>
           have y:=da A _ _ _ s Bn;have J:q1<q3:=by have:=cL _ _ _ Bn;simp only[abK,abL]at this;omega
           refine⟨(q3,l++[((R.tok q).text,t,true)],[(⟨(R.tok q).text,k,m,n,a,fl,true,[],.ci⟩:FE)]),⟨by show p<=q3;omega,y,by show 1<=q3;omega,e,c,f,by show R.ts.length-q3<=f;omega,?_⟩,?_,?_,Z,Z⟩
           ·exact YE
           ·exact La
           ·exact Vt
       ·exact Zs
     ·have d:q+1<R.ts.length:=B;intro Q;refine ep R A [[58]] dc (q+1) d _ _ 0 ?_ ?_
      ·exact Z
      cases hn:cu R [[58]] (q+1)with
      |bad h H=>
       exact Zb
      |ok _ q2=>
       have o:=da A _ _ _ d hn;have b:=cL _ _ _ hn;have b:p<=q2:=by rw[b];omega
       have I:q<q2:=by have:=cL _ _ _ hn;simp only[abK,abL]at this;omega
       refine E.call q2 b o 0 _ _ ?_ (fun t U q1 e1 w=>?_) (fun h H q1 e1=>?_)
       ·exact Z
       ·obtain⟨k,m,n,a,fl,rfl⟩:=w.cZ;obtain⟨P,s⟩:=E.lt q2 t q1 b o e1;have e:lW (l++[((R.tok q).text,t,false)]) ([]++[(⟨(R.tok q).text,k,m,n,a,fl,false,[],.ci⟩:FE)]):=G.snoc (x:=(⟨(R.tok q).text,k,m,n,a,fl,false,[],.ci⟩:FE)) w;have c:((([]++[(⟨(R.tok q).text,k,m,n,a,fl,false,[],.ci⟩:FE)]:List FE)).map FE.n).Nodup:=pr D M zH;intro N;repeat first
         |refine bZ rfl ?_
         |refine cf ?_
        refine cc tT Z ?_;refine cI R q1 (R.tok q1) fin (bY s) om 0 ?_ (fun h3=>?_) (fun h3=>?_)
        ·exact Z
        ·refine lO [(⟨(R.tok q).text,k,m,n,a,fl,false,[],.ci⟩:FE)] c (by simp only[abK,aet,abL]<;>omega) 1 sm 7 ?_ ?_
         ·exact Z
         ·refine vR (l:=cG (·.1) (l++[((R.tok q).text,t,false)])) (xs:=cG FE.n [(⟨(R.tok q).text,k,m,n,a,fl,false,[],.ci⟩:FE)]) 6 _ ((by simp:1=_).trans (pq [(⟨(R.tok q).text,k,m,n,a,fl,false,[],.ci⟩:FE)])) ?_ e.JR ?_
          ·exact Z
          ·exact aar
        ·intro O;refine ep R A [sep] (by show 1<4294967296;decide) q1 s _ _ 0 ?_ ?_
         ·exact Z
         ·cases Bn:cu R [sep] q1 with
          |bad h H=>
           exact Y6
          |ok _ q3=>
           have y:=da A _ _ _ s Bn;have J:q1<q3:=by have:=cL _ _ _ Bn;simp only[abK,abL]at this;omega
           refine⟨(q3,l++[((R.tok q).text,t,false)],[(⟨(R.tok q).text,k,m,n,a,fl,false,[],.ci⟩:FE)]),⟨by show p<=q3;omega,y,by show 1<=q3;omega,e,c,f,by show R.ts.length-q3<=f;omega,?_⟩,?_,?_,Z,Z⟩
           ·exact YA
           ·exact La
           ·exact Vt
       ·exact Zh
   ·exact ace
   ·exact aca
  |cons x0 r=>
   refine bV.body ZO (fun _=>Z) ?_;refine p7 R A q L (l.map (·.1)) 0 4 dc ?_ ?_ (fun hk zH=>?_) (fun hk zH=>?_) (fun hk=>?_)
   ·exact Z
   ·exact Z
   ·have B:q+1<R.ts.length:=A.go q _ (bY L) om;cases z
    ·have d:q+1<R.ts.length:=B;intro Q;refine ep R A [[58]] dc (q+1) d _ _ 0 ?_ ?_
     ·exact Z
     cases hn:cu R [[58]] (q+1)with
     |bad h H=>
      exact Zw
     |ok _ q2=>
      have o:=da A _ _ _ d hn;have b:=cL _ _ _ hn;have b:p<=q2:=by rw[b];omega
      have I:q<q2:=by have:=cL _ _ _ hn;simp only[abK,abL]at this;omega
      refine E.call q2 b o 0 _ _ ?_ (fun t U q1 e1 w=>?_) (fun h H q1 e1=>?_)
      ·exact Z
      ·obtain⟨k,m,n,a,fl,rfl⟩:=w.cZ;obtain⟨P,s⟩:=E.lt q2 t q1 b o e1;have e:lW (l++[((R.tok q).text,t,false)]) ((x0::r)++[(⟨(R.tok q).text,k,m,n,a,fl,false,[],.ci⟩:FE)]):=G.snoc (x:=(⟨(R.tok q).text,k,m,n,a,fl,false,[],.ci⟩:FE)) w;have c:(((x0::r++[(⟨(R.tok q).text,k,m,n,a,fl,false,[],.ci⟩:FE)]:List FE)).map FE.n).Nodup:=pr D M zH;have If:r.length+1<=q:=K;intro N;refine a6 ?_ ?_
       ·exact Sk
       refine a6 Z (a6 ⟨Z,Z,by simp[rows],aeu _,x8 If om Z⟩ ?_);refine a7 Z (a7 (fG (r.length+1)) ?_);refine a6 ?_ ?_
       ·exact Iu
       refine bZ Z ?_;refine a6 (F6 r) ?_;refine a6 ?_ ?_
       ·exact Iu
       refine cc tT (xW x0 r) ?_;refine cI R q1 (R.tok q1) fin (bY s) om 0 ?_ (fun h3=>?_) (fun h3=>?_)
       ·exact Z
       ·refine lO (x0::(r++[(⟨(R.tok q).text,k,m,n,a,fl,false,[],.ci⟩:FE)])) c (by simp only[abK,aet,abL]<;>omega) (r.length+1+1) sm 8 ?_ ?_
        ·exact ab2
        ·refine vR (l:=cG (·.1) (l++[((R.tok q).text,t,false)])) (xs:=cG FE.n (x0::(r++[(⟨(R.tok q).text,k,m,n,a,fl,false,[],.ci⟩:FE)]))) 7 _ ((by simp:r.length+1+1=_).trans (pq (x0::(r++[(⟨(R.tok q).text,k,m,n,a,fl,false,[],.ci⟩:FE)])))) ?_ e.JR ?_
         ·exact Z
         ·exact ab4
       ·intro O;refine ep R A [sep] (by show 1<4294967296;decide) q1 s _ _ 0 ?_ ?_
        ·exact Z
        ·cases Bn:cu R [sep] q1 with
         |bad h H=>
          exact Zj
         |ok _ q3=>
          have y:=da A _ _ _ s Bn;have J:q1<q3:=by have:=cL _ _ _ Bn;simp only[abK,abL]at this;omega
          refine⟨(q3,l++[((R.tok q).text,t,false)],(x0::(r++[(⟨(R.tok q).text,k,m,n,a,fl,false,[],.ci⟩:FE)]))),⟨by show p<=q3;omega,y,by show(r++[_]).length+1<=q3;simp;omega,e,c,f,by show R.ts.length-q3<=f;omega,?_⟩,?_,?_,Z,Z⟩
          ·exact YF
          ·exact La
          ·exact Yu
      ·exact aah
    ·refine cI R (q+1) (R.tok (q+1)) [63] (bY B) om 0 ?_ (fun h2=>?_) (fun h2=>?_)
     ·exact Z
     ·have d:q+1+1<R.ts.length:=A.step B h2;intro Q;refine ep R A [[58]] dc (q+1+1) d _ _ 0 ?_ ?_
      ·exact Z
      cases hn:cu R [[58]] (q+1+1)with
      |bad h H=>
       exact Zl
      |ok _ q2=>
       have o:=da A _ _ _ d hn;have b:=cL _ _ _ hn;have b:p<=q2:=by rw[b];omega
       have I:q<q2:=by have:=cL _ _ _ hn;simp only[abK,abL]at this;omega
       refine E.call q2 b o 0 _ _ ?_ (fun t U q1 e1 w=>?_) (fun h H q1 e1=>?_)
       ·exact Z
       ·obtain⟨k,m,n,a,fl,rfl⟩:=w.cZ;obtain⟨P,s⟩:=E.lt q2 t q1 b o e1;have e:lW (l++[((R.tok q).text,t,true)]) ((x0::r)++[(⟨(R.tok q).text,k,m,n,a,fl,true,[],.ci⟩:FE)]):=G.snoc (x:=(⟨(R.tok q).text,k,m,n,a,fl,true,[],.ci⟩:FE)) w;have c:(((x0::r++[(⟨(R.tok q).text,k,m,n,a,fl,true,[],.ci⟩:FE)]:List FE)).map FE.n).Nodup:=pr D M zH;have If:r.length+1<=q:=K;intro N;refine a6 ?_ ?_
        ·exact Sk
        refine a6 Z (a6 ⟨Z,Z,by simp[rows],aeu _,x8 If om Z⟩ ?_);refine a7 Z (a7 (fG (r.length+1)) ?_);refine a6 ?_ ?_
        ·exact Iu
        refine bZ Z ?_;refine a6 (F6 r) ?_;refine a6 ?_ ?_
        ·exact Iu
        refine cc tT (xW x0 r) ?_;refine cI R q1 (R.tok q1) fin (bY s) om 0 ?_ (fun h3=>?_) (fun h3=>?_)
        ·exact Z
        ·refine lO (x0::(r++[(⟨(R.tok q).text,k,m,n,a,fl,true,[],.ci⟩:FE)])) c (by simp only[abK,aet,abL]<;>omega) (r.length+1+1) sm 8 ?_ ?_
         ·exact congrArg (fun x=>some (cN.row 7 x)) (Cm x0 r (⟨(R.tok q).text,k,m,n,a,fl,true,[],.ci⟩:FE))
         ·refine vR (l:=cG (·.1) (l++[((R.tok q).text,t,true)])) (xs:=cG FE.n (x0::(r++[(⟨(R.tok q).text,k,m,n,a,fl,true,[],.ci⟩:FE)]))) 7 _ ((by simp:r.length+1+1=_).trans (pq (x0::(r++[(⟨(R.tok q).text,k,m,n,a,fl,true,[],.ci⟩:FE)])))) ?_ e.JR ?_
          ·exact Z
          ·exact abX
        ·intro O;refine ep R A [sep] (by show 1<4294967296;decide) q1 s _ _ 0 ?_ ?_
         ·exact Z
         ·cases Bn:cu R [sep] q1 with
          |bad h H=>
           exact Y9
          |ok _ q3=>
           have y:=da A _ _ _ s Bn;have J:q1<q3:=by have:=cL _ _ _ Bn;simp only[abK,abL]at this;omega
           refine⟨(q3,l++[((R.tok q).text,t,true)],(x0::(r++[(⟨(R.tok q).text,k,m,n,a,fl,true,[],.ci⟩:FE)]))),⟨by show p<=q3;omega,y,by show(r++[_]).length+1<=q3;simp;omega,e,c,f,by show R.ts.length-q3<=f;omega,?_⟩,?_,?_,Z,Z⟩
           ·exact YE
           ·exact La
           ·exact .pick 6 [0,1,2,3,4,5,8] ⟨Z,Z,Z,Z,tv⟩ Z Z Z Z Z dc ⟨Z,Z,Z,Z,Z,Z,NA 8 r (⟨(R.tok q).text,k,m,n,a,fl,true,[],.ci⟩:FE),Z,Gb l _ t _,lp _ _ (iM _),Z,Z,E8 x0 r (⟨(R.tok q).text,k,m,n,a,fl,true,[],.ci⟩:FE),jv _ _ _,tv⟩
       ·exact Zs
     ·have d:q+1<R.ts.length:=B;intro Q;refine ep R A [[58]] dc (q+1) d _ _ 0 ?_ ?_
      ·exact Z
      cases hn:cu R [[58]] (q+1)with
      |bad h H=>
       exact Zb
      |ok _ q2=>
       have o:=da A _ _ _ d hn;have b:=cL _ _ _ hn;have b:p<=q2:=by rw[b];omega
       have I:q<q2:=by have:=cL _ _ _ hn;simp only[abK,abL]at this;omega
       refine E.call q2 b o 0 _ _ ?_ (fun t U q1 e1 w=>?_) (fun h H q1 e1=>?_)
       ·exact Z
       ·obtain⟨k,m,n,a,fl,rfl⟩:=w.cZ;obtain⟨P,s⟩:=E.lt q2 t q1 b o e1;have e:lW (l++[((R.tok q).text,t,false)]) ((x0::r)++[(⟨(R.tok q).text,k,m,n,a,fl,false,[],.ci⟩:FE)]):=G.snoc (x:=(⟨(R.tok q).text,k,m,n,a,fl,false,[],.ci⟩:FE)) w;have c:(((x0::r++[(⟨(R.tok q).text,k,m,n,a,fl,false,[],.ci⟩:FE)]:List FE)).map FE.n).Nodup:=pr D M zH;have If:r.length+1<=q:=K;intro N;refine a6 ?_ ?_
        ·exact Sk
        refine a6 Z (a6 ⟨Z,Z,by simp[rows],aeu _,x8 If om Z⟩ ?_);refine a7 Z (a7 (fG (r.length+1)) ?_);refine a6 ?_ ?_
        ·exact Iu
        refine bZ Z ?_;refine a6 (F6 r) ?_;refine a6 ?_ ?_
        ·exact Iu
        refine cc tT (xW x0 r) ?_;refine cI R q1 (R.tok q1) fin (bY s) om 0 ?_ (fun h3=>?_) (fun h3=>?_)
        ·exact Z
        ·refine lO (x0::(r++[(⟨(R.tok q).text,k,m,n,a,fl,false,[],.ci⟩:FE)])) c (by simp only[abK,aet,abL]<;>omega) (r.length+1+1) sm 8 ?_ ?_
         ·exact ab2
         ·refine vR (l:=cG (·.1) (l++[((R.tok q).text,t,false)])) (xs:=cG FE.n (x0::(r++[(⟨(R.tok q).text,k,m,n,a,fl,false,[],.ci⟩:FE)]))) 7 _ ((by simp:r.length+1+1=_).trans (pq (x0::(r++[(⟨(R.tok q).text,k,m,n,a,fl,false,[],.ci⟩:FE)])))) ?_ e.JR ?_
          ·exact Z
          ·exact aar
        ·intro O;refine ep R A [sep] (by show 1<4294967296;decide) q1 s _ _ 0 ?_ ?_
         ·exact Z
         ·cases Bn:cu R [sep] q1 with
          |bad h H=>
           exact Y6
          |ok _ q3=>
           have y:=da A _ _ _ s Bn;have J:q1<q3:=by have:=cL _ _ _ Bn;simp only[abK,abL]at this;omega
           refine⟨(q3,l++[((R.tok q).text,t,false)],(x0::(r++[(⟨(R.tok q).text,k,m,n,a,fl,false,[],.ci⟩:FE)]))),⟨by show p<=q3;omega,y,by show(r++[_]).length+1<=q3;simp;omega,e,c,f,by show R.ts.length-q3<=f;omega,?_⟩,?_,?_,Z,Z⟩
           ·exact YA
           ·exact La
           ·exact Yu
       ·exact Zh
   ·exact ace
   ·exact aca
variable{g:Nat->PR Ty}
theorem ef.up{lo a:Nat}(f:ef g i lo)(k:lo<=a):ef g i a:=
 ⟨fun e l h c b d=>f.lt e l h om b d,fun e c b=>f.call e om b⟩
theorem J1(s:i.Wf){lo:Nat}(m:∀a q e,lo<=a->a<i.ts.length->g a=.ok q e->a<e/\e<i.ts.length):
  ∀(k:Nat) (c:List Ty) (a:Nat) (r:List Ty) (e:Nat),lo<=a->a<i.ts.length->ey g i k c a=.ok r e->a<=e/\e<i.ts.length:=by
 intro k;induction k with
 |zero=>intro c a r e _ _ b;cases b
 |succ k p=>
  intro c a r e o n b;rw[ey]at b;cases f:g a with
  |bad t y=>rw[f]at b;cases b
  |ok q q1=>
   rw[f]at b;obtain⟨w,h⟩:=m a q q1 o n f;dsimp only at b;split at b
   ·rename_i l;obtain⟨z,x⟩:=p _ _ _ _ om (s.step h l) b;exact⟨om,x⟩
   ·cases d:cu i [[93]] q1 with
    |bad t y=>rw[d]at b;cases b
    |ok A q2=>
     rw[d]at b;cases b;have:=cL _ _ _ d;exact⟨om,da s _ _ _ h d⟩
theorem Dn(d:i.Wf){p:Nat}(c:∀a e j,p<=a->a<i.ts.length->g a=.ok e j->a<j/\j<i.ts.length)(hp:p<i.ts.length){l:List Ty}(h:jV g i p=.ok l j):p<=j/\j<i.ts.length:=by
 rw[jV]at h;split at h
 ·rename_i b;obtain⟨k,f⟩:=J1 d c _ _ _ _ _ om (d.step hp b) h;exact⟨om,f⟩
 ·exact NC
theorem ES(t:i.Wf){lo:Nat}(x:∀a B h,lo<=a->a<i.ts.length->g a=.ok B h->a<h/\h<i.ts.length)(l n:cq)(d:Bool):
  ∀(w:Nat) (e:List oG) (a:Nat) (C:List oG) (h:Nat),lo<=a->a<i.ts.length->db g i l n d w e a=.ok C h->a<=h/\h<i.ts.length:=by
 intro w;induction w with
 |zero=>intro e a C h _ _ b;cases b
 |succ w A=>
  intro e a C h J y b;rw[db]at b;split at b
  ·cases b
  ·rename_i o;have o:(i.tok a).kind=1:=by simpa using o
   have k:a+1<i.ts.length:=t.go a _ (bY y) om;split at b
   ·cases b
   ·have r:(if d&&c5 (i.tok (a+1)) [63]then a+1+1 else a+1)<i.ts.length:=by
     split
     ·rename_i q;rw[Bool.and_eq_true]at q;exact t.step k q.2
     ·exact k
    have F:a+1<=(if d&&c5 (i.tok (a+1)) [63]then a+1+1 else a+1):=by split<;>omega
    cases f:cu i [[58]] (if d&&c5 (i.tok (a+1)) [63]then a+1+1 else a+1)with
    |bad D H=>rw[f]at b;cases b
    |ok L q2=>
     rw[f]at b;dsimp only at b;have s:=da t _ _ _ r f;have E:=cL _ _ _ f;cases m:g q2 with
     |bad D H=>rw[m]at b;cases b
     |ok B q1=>
      rw[m]at b;dsimp only at b;obtain⟨I,p⟩:=x q2 B q1 om s m;split at b
      ·rename_i z;cases b;exact⟨om,t.step p z⟩
      ·cases c:cu i [l] q1 with
       |bad D H=>rw[c]at b;cases b
       |ok L q3=>
        rw[c]at b;have G:=cL _ _ _ c;obtain⟨M,K⟩:=A _ _ _ _ om (da t _ _ _ p c) b;exact⟨om,K⟩
theorem sR(n:i.Wf){p:Nat}(m:∀d o j,p<=d->d<i.ts.length->g d=.ok o j->d<j/\j<i.ts.length){a b:cq}{c:Bool}(h:p<i.ts.length){l:List oG}(f:eY g i a b c p=.ok l j):p<=j/\j<i.ts.length:=by
 rw[eY]at f;split at f
 ·rename_i k;cases f;exact⟨om,n.step h k⟩
 ·cases e:db g i a b c i.ts.length [] p with
  |bad s t=>rw[e]at f;cases f
  |ok q r=>
   rw[e]at f;cases f;exact ES n m a b c _ _ _ _ _ (aeu _) h e
theorem kr(s:i.Wf){p:Nat}(f:∀d n j,p<=d->d<i.ts.length->g d=.ok n j->d<j/\j<i.ts.length)(m:p<i.ts.length){l:Ty}(b:dO g i p=.ok l j):p<=j/\j<i.ts.length:=by
 rw[dO]at b;cases c:cu i [[91]] p with
 |bad o r=>rw[c]at b;cases b
 |ok w q1=>
  rw[c]at b;dsimp only at b;have x:=cL _ _ _ c;have k:=da s _ _ _ m c;cases e:g q1 with
  |bad o r=>rw[e]at b;cases b
  |ok n q2=>
   rw[e]at b;dsimp only at b;obtain⟨t,h⟩:=f q1 n q2 om k e;cases a:cu i [[93]] q2 with
   |bad o r=>rw[a]at b;cases b
   |ok w q3=>
    rw[a]at b;cases b;have q:=cL _ _ _ a;exact⟨om,da s _ _ _ h a⟩
theorem u7(R:Rd)(w:R.Wf)(f:Nat->PR Ty)(a c:cq)(b:Bool)(p:Nat)(n:p<R.ts.length)(s:ef f R p)(m:Nat){σ:VS}{K:cO->VS->Prop}(k:nth σ m=some (dp R p)) 
  (h1:∀l d q,eY f R a c b p=.ok l q->ll l d->K (.ret (.d d)) (σ.set m (dp R q))) (h2:∀off e q,eY f R a c b p=.bad off e->K (.eH (dt off e)) (σ.set m (dp R q))):bV C ca tp [.bp m 0,cn a,cn c,bX b] σ K:=by
 refine bV.one (dM:=[.bp 0 0,cn a,cn c,bX b]) (P:=fun o r=>TE R (eY f R a c b p) o [.box r]) ((HE R w f a c b p n s).mono fun o t h=>?_) m k Z Z Z (fun o cs' h=>?_)
 ·have h':=h;unfold TE at h;exact Zt
 ·unfold TE at h;exact Yw
theorem ph(b:Rd)(x:b.Wf)(c:Nat->PR Ty)(p:Nat)(t:p<b.ts.length)(r:ef c b p)(h:Nat){σ:VS}{K:cO->VS->Prop}(f:nth σ h=some (dp b p)) 
  (s:∀m k d,dO c b p=.ok m d->eZ m k->K (.ret (.agg (k.map V.d))) (σ.set h (dp b d))) (o:∀a e d,dO c b p=.bad a e->K (.eH (dt a e)) (σ.set h (dp b d))):bV C ca rX [.bp h 0] σ K:=by
 refine bV.one (dM:=[.bp 0 0]) (P:=B2 b (dO c b p)) (ER b x c p t r) h f Z Z Z (fun y w l=>?_);unfold B2 at l;split at l
 ·rename_i m d e;obtain⟨rfl,k,n,rfl⟩:=l;exact s m k d e n
 ·rename_i a q e;obtain⟨d,rfl,rfl⟩:=l;exact o a q d e
def u9(s:cq):Option Nat:=
 if s=[105,110,116]then some 2 else if s=[98,111,111,108]then some 3 else if s=[116,101,120,116]then some 4 else if s=[97,110,121]then some 0 else if s=[110,111,110,101]then some 1 else none
def k0:List rL:=[⟨cn [105,110,116],bW 2,0⟩,⟨cn [98,111,111,108],bW 3,1⟩,⟨cn [116,101,120,116],bW 4,2⟩,⟨cn [97,110,121],bW 0,3⟩,⟨cn [110,111,110,101],bW 1,4⟩]
theorem iB{s c:cq}{d:V}{b a:Nat}{e:List rL}:eN .string (cn s) (⟨cn c,d,b⟩::e) a=match decide (s=c)with
   |true=>some (some (a,d))
   |false=>eN .string (cn s) e (a+1):=rfl
theorem sS(s:cq):eN .string (cn s) k0 0=some none∨∃a b,eN .string (cn s) k0 0=some (some (a,bW b)):=by
 unfold k0;rw[iB];cases decide (s=[105,110,116])with
 |true=>exact .inr ⟨_,_,rfl⟩
 |false=>
  dsimp only;rw[iB];cases decide (s=[98,111,111,108])with
  |true=>exact .inr ⟨_,_,rfl⟩
  |false=>
   dsimp only;rw[iB];cases decide (s=[116,101,120,116])with
   |true=>exact .inr ⟨_,_,rfl⟩
   |false=>
    dsimp only;rw[iB];cases decide (s=[97,110,121])with
    |true=>exact .inr ⟨_,_,rfl⟩
    |false=>
     dsimp only;rw[iB];cases decide (s=[110,111,110,101])with
     |true=>exact .inr ⟨_,_,rfl⟩
     |false=>exact .inl rfl
theorem Dp{s:cq}(a:u9 s=none):eN .string (cn s) k0 0=some none:=by
 unfold u9 at a;have h1:s≠[105,110,116]:=fun b=>by rw[if_pos b]at a;cases a
 rw[if_neg h1]at a;have h2:s≠[98,111,111,108]:=fun b=>by rw[if_pos b]at a;cases a
 rw[if_neg h2]at a;have h3:s≠[116,101,120,116]:=fun b=>by rw[if_pos b]at a;cases a
 rw[if_neg h3]at a;have h4:s≠[97,110,121]:=fun b=>by rw[if_pos b]at a;cases a
 rw[if_neg h4]at a;have h5:s≠[110,111,110,101]:=fun b=>by rw[if_pos b]at a;cases a
 unfold k0;exact Ze
def hO(c:Nat->PR Ty)(e:Rd)(b:Nat)(a:cq)(d h:Nat):PR Ty:=
 if b=5 then match u9 a with
  |some n=>.ok (.mk n [] [] [] []) h
  |none=>if a=[108,105,115,116]then(dO c e h).map fun m=>.mk 5 [] [] [m] []
   else if a=[102,110]then match cu e [[40]] h with
    |.bad l k=>.bad l k
    |.ok _ q1=>match eY c e [44] [41] true q1 with
     |.bad l k=>.bad l k
     |.ok f q2=>(c q2).map fun m=>.mk 8 [] [] [m] f
   else .bad d 3
 else if b=6 then
  if a=[123]then(eY c e [44] [125] false h).map fun f=>.mk 6 [] [] [] f
  else if a=[60]then(eY c e [124] [62] false h).map fun f=>.mk 7 [] [] [] f
  else .bad d 3
 else if b=2 then(jV c e h).map fun f=>.mk 10 [] a f []
 else if b=1 then match cu e [[58,58]] h with
  |.bad l k=>.bad l k
  |.ok _ q1=>if(e.tok q1).kind≠2 then .bad (e.tok q1).off 3 else(jV c e (q1+1)).map fun f=>.mk 10 a (e.tok q1).text f []
 else .bad d 3
def dl(a:Rd):Nat->Nat->PR Ty
 |0,_=>.bad 0 3
 |f+1,b=>hO (dl a f) a (a.tok b).kind (a.tok b).text (a.tok b).off (b+1)
def qm:Nat->Bool:=fun a=>aev a 37||aev a 49||aev a 56||aev a 96
theorem zK{a b:Nat}(c:a≠b):decide (aeM a=aeM b)=false:=decide_eq_false (by simp only[Int.ofNat_eq_natCast];omega)
def cV:Ty:=.mk 0 [] [] [] []
def ji{a:Type}(step:a->Nat->PR a)(e:Rd)(b:cq):Nat->a->Nat->PR a
 |0,_,_=>.bad 0 3
 |f+1,m,n=>match step m n with
  |.bad h k=>.bad h k
  |.ok c d=>if c5 (e.tok d) b then .ok c (d+1)else match cu e [[44]] d with
   |.bad h k=>.bad h k
   |.ok _ l=>ji step e b f c l
def gA{a:Type}(step:a->Nat->PR a)(c:Rd)(b:cq)(d:a)(p:Nat):PR a:=
 if c5 (c.tok p) b then .ok d (p+1)else ji step c b c.ts.length d p
def eJ(b:Rd)(a:List eo)(p:Nat):PR cq:=
 if(b.tok p).kind≠1 then .bad (b.tok p).off 3 else if(b.tok p).text∈a.map eo.n then .bad (b.tok p).off 5 else .ok (b.tok p).text (p+1)
def fj(a:Nat->PR Ex)(c:Rd)(s:cq)(p:Nat):PR Ex:=match cu c [s] p with
 |.bad d e=>.bad d e
 |.ok _ b=>a b
def lP(b:Nat->PR Ex)(c:Rd)(a:List eo)(p:Nat):PR (List eo):=match eJ c a p with
 |.bad h k=>.bad h k
 |.ok f d=>(fj b c [58] d).map fun e=>a++[⟨f,[],cV,false,[e]⟩]
def dh(a:Rd)(p:Nat):PR cq:=if(a.tok p).kind≠1 then .bad (a.tok p).off 3 else .ok (a.tok p).text (p+1)
def ks(b:Nat->PR Ex)(c:Rd)(a:List eo)(p:Nat):PR (List eo):=match eJ c a p with
 |.bad d e=>.bad d e
 |.ok k f=>match dh c f with
  |.bad d e=>.bad d e
  |.ok l q1=>(fj b c [61,62] q1).map fun h=>a++[⟨k,l,cV,false,[h]⟩]
def jW(f:Nat->PR Ty)(d:Nat->PR Ex)(e:Rd)(a:List eo)(p:Nat):PR (List eo):=match eJ e a p with
 |.bad b c=>.bad b c
 |.ok h l=>match cu e [[58]] l with
  |.bad b c=>.bad b c
  |.ok _ q1=>match f q1 with
   |.bad b c=>.bad b c
   |.ok k q2=>if c5 (e.tok q2) [61]then(d (q2+1)).map fun m=>a++[⟨h,[],k,true,[m]⟩]else .ok (a++[⟨h,[],k,false,[]⟩]) q2
def oc(b:Nat->PR Ex)(a:List Ex)(p:Nat):PR (List Ex):=(b p).map fun c=>a++[c]
def jP(c:Nat->PR Ex)(d:Rd)(b:cq)(e:Nat)(a:List Ex)(p:Nat):PR Ex:=(gA (lP c d) d b [] p).map (kq e [] [] a)
def sT(a:Nat)(b:Rd)(p:Nat):PR Ex:=
 if(b.tok p).kind≠3 then .bad (b.tok p).off 3 else match Lib.parseUintB 64 (b.tok p).text with
  |.ok c=>if a<c then .bad (b.tok p).off 2 else .ok (.mk 0 [] [] [] (if a=9223372036854775808 then IntKind.i64.wrap (IntKind.u64.wrap (0-aeM c))else IntKind.i64.wrap (aeM c)) [] [] []) (p+1)
  |_=>.bad (b.tok p).off 2
def xj(t:Tok)(a:List cq):Option cq:=a.find? (c5 t)
def zf(next:Nat->PR Ex)(a:List cq)(h:Rd):Nat->Ex->Nat->PR Ex
 |0,_,_=>.bad 0 3
 |f+1,e,b=>match xj (h.tok b) a with
  |none=>.ok e b
  |some c=>match next (b+1)with
   |.bad c l=>.bad c l
   |.ok k d=>zf next a h f (.mk 16 [] c [] 0 [] [] [e,k]) d
def oH(next:Nat->PR Ex)(a:List cq)(b:Rd)(p:Nat):PR Ex:=match next p with
 |.bad e f=>.bad e f
 |.ok d c=>zf next a b b.ts.length d c
def iH(c:Nat->PR Ty)(a:Rd)(s:cq)(p:Nat):PR Ex:=
 match(if c5 (a.tok p) [58,58]then(dh a (p+1)).map fun h=>(4,s,h)else .ok (3,[],s) p:PR (Nat×cq×cq))with
 |.bad k l=>.bad k l
 |.ok (f,e,d) b=>if c5 (a.tok b) [91]then(jV c a b).map fun m=>.mk 4 e d [] 0 m [] []else .ok (.mk f e d [] 0 [] [] []) b
def gd(f:Nat->PR Ty)(d:Nat->PR Ex)(a:Rd)(p:Nat):PR Ex:=
 if(a.tok p).kind=3 then sT 9223372036854775807 a p
 else if(a.tok p).kind=4 then .ok (.mk 1 [] [] (a.tok p).text 0 [] [] []) (p+1)
 else if(a.tok p).kind=1 then iH f a (a.tok p).text (p+1)
 else if c5 (a.tok p) [116,114,117,101]then .ok (.mk 2 [] [] [] 1 [] [] []) (p+1)
 else if c5 (a.tok p) [102,97,108,115,101]then .ok (.mk 2 [] [] [] 0 [] [] []) (p+1)
 else if c5 (a.tok p) [123]then jP d a [125] 5 [] (p+1)
 else if c5 (a.tok p) [60]then match dh a (p+1)with
  |.bad b c=>.bad b c
  |.ok m e=>match fj d a [58] e with
   |.bad b c=>.bad b c
   |.ok h q1=>(cu a [[62]] q1).map fun _=>.mk 7 [] m [] 0 [] [] [h]
 else if c5 (a.tok p) [91]then match f (p+1)with
  |.bad b c=>.bad b c
  |.ok k e=>match cu a [[124]] e with
   |.bad b c=>.bad b c
   |.ok _ q1=>(gA (oc d) a [93] [] q1).map fun n=>.mk 14 [] [] [] 0 [k] [] n
 else if c5 (a.tok p) [40]then match d (p+1)with
  |.bad b c=>.bad b c
  |.ok h e=>match(if c5 (a.tok e) [58]then(f (e+1)).map fun k=>.mk 11 [] [] [] 0 [k] [] [h]else .ok h e:PR Ex)with
   |.bad b c=>.bad b c
   |.ok l q1=>(cu a [[41]] q1).map fun _=>l
 else .bad (a.tok p).off 3
def p8(a:Nat->PR Ex)(b:Rd):Nat->Ex->Nat->PR Ex
 |0,_,_=>.bad 0 3
 |f+1,d,c=>
  if c5 (b.tok c) [46]then match dh b (c+1)with
   |.bad e h=>.bad e h
   |.ok l q1=>p8 a b f (.mk 6 [] l [] 0 [] [] [d]) q1
  else if c5 (b.tok c) [40]then match jP a b [41] 9 [d] (c+1)with
   |.bad e h=>.bad e h
   |.ok k q1=>p8 a b f k q1
  else .ok d c
def od(c:Nat->PR Ty)(a:Nat->PR Ex)(b:Rd)(p:Nat):PR Ex:=match gd c a b p with
 |.bad f h=>.bad f h
 |.ok e d=>p8 a b b.ts.length e d
def op1(s:cq)(a:Ex):Ex:=.mk 16 [] s [] 0 [] [] [a]
def tP(c:Nat->PR Ty)(a:Nat->PR Ex)(b:Rd):Nat->Nat->PR Ex
 |0,_=>.bad 0 3
 |f+1,d=>
  if c5 (b.tok d) [108,101,110,103,116,104]then(tP c a b f (d+1)).map (op1 [108,101,110,103,116,104])
  else if c5 (b.tok d) [45]then sT 9223372036854775808 b (d+1)
  else od c a b d
def acI(c:Nat->PR Ty)(a:Nat->PR Ex)(b:Rd):Nat->PR Ex:=oH (tP c a b b.ts.length) [[42]] b
def wX(b:Nat->PR Ty)(a:Nat->PR Ex)(c:Rd):Nat->PR Ex:=oH (acI b a c) [[43],[45],[43,43]] c
def qj(b:Nat->PR Ty)(a:Nat->PR Ex)(c:Rd):Nat->Nat->PR Ex
 |0,_=>.bad 0 3
 |f+1,e=>
  if c5 (c.tok e) [110,111,116]then(qj b a c f (e+1)).map (op1 [110,111,116])
  else match wX b a c e with
   |.bad m n=>.bad m n
   |.ok h d=>match xj (c.tok d) [[61,61],[61,61,61],[60]]with
    |none=>.ok h d
    |some l=>(wX b a c (d+1)).map fun k=>.mk 16 [] l [] 0 [] [] [h,k]
def acJ(c:Nat->PR Ty)(a:Nat->PR Ex)(b:Rd):Nat->PR Ex:=oH (qj c a b b.ts.length) [[97,110,100]] b
def Wo(b:Nat->PR Ty)(a:Nat->PR Ex)(c:Rd):Nat->PR Ex:=oH (acJ b a c) [[111,114]] c
def xI(a:Nat->PR Ex)(b:Rd)(p:Nat):PR Ex:=match dh b p with
 |.bad c d=>.bad c d
 |.ok k f=>match fj a b [61] f with
  |.bad c d=>.bad c d
  |.ok h q1=>(fj a b [105,110] q1).map fun e=>.mk 10 [] k [] 0 [] [] [h,e]
def oT(e:Nat->PR Ty)(a:Nat->PR Ex)(d:Rd)(p:Nat):PR Ex:=match dO e d p with
 |.bad b c=>.bad b c
 |.ok m h=>match a h with
  |.bad b c=>.bad b c
  |.ok k q1=>match fj a d [116,104,101,110] q1 with
   |.bad b c=>.bad b c
   |.ok f q2=>(fj a d [101,108,115,101] q2).map fun l=>.mk 12 [] [] [] 0 [m] [] [k,f,l]
def mz(e:Nat->PR Ty)(a:Nat->PR Ex)(d:Rd)(p:Nat):PR Ex:=match dO e d p with
 |.bad b c=>.bad b c
 |.ok k f=>match a f with
  |.bad b c=>.bad b c
  |.ok h q1=>match cu d [[123]] q1 with
   |.bad b c=>.bad b c
   |.ok _ q2=>(gA (ks a d) d [125] [] q2).map (kq 13 [] [k] [h])
def lQ(e:Nat->PR Ty)(c:Nat->PR Ex)(d:Rd)(p:Nat):PR Ex:=match dO e d p with
 |.bad a b=>.bad a b
 |.ok o k=>match dh d k with
  |.bad a b=>.bad a b
  |.ok m q1=>match cu d [[44]] q1 with
   |.bad a b=>.bad a b
   |.ok _ q2=>match dh d q2 with
    |.bad a b=>.bad a b
    |.ok q q3=>match fj c d [105,110] q3 with
     |.bad a b=>.bad a b
     |.ok l q4=>match fj c d [102,114,111,109] q4 with
      |.bad a b=>.bad a b
      |.ok h f=>(fj c d [61,62] f).map fun n=>.mk 15 [] m q 0 [o] [] [l,h,n]
def TF:Ex->Ex->Ex
 |.mk h k f e c types a b,d=>.mk h k f e c types a (b++[d])
def funcF(e:Nat->PR Ty)(a:Nat->PR Ex)(b:Rd)(p:Nat):PR Ex:=match cu b [[40]] p with
 |.bad c d=>.bad c d
 |.ok _ f=>match gA (jW e a b) b [41] [] f with
  |.bad c d=>.bad c d
  |.ok h q1=>(fj a b [61,62] q1).map (TF (kq 8 [] [] [] h))
def ET(c:Nat->PR Ty)(b:Nat->PR Ex)(a:Rd)(p:Nat):PR Ex:=
 if(a.tok p).kind=5/\(a.tok p).text=[108,101,116]then xI b a (p+1)
 else if(a.tok p).kind=5/\(a.tok p).text=[105,102]then oT c b a (p+1)
 else if(a.tok p).kind=5/\(a.tok p).text=[109,97,116,99,104]then mz c b a (p+1)
 else if(a.tok p).kind=5/\(a.tok p).text=[102,111,108,100]then lQ c b a (p+1)
 else if(a.tok p).kind=5/\(a.tok p).text=[102,110]then funcF c b a (p+1)
 else Wo c b a p
def Ih(a:Rd):Nat->Nat->PR Ex
 |0,_=>.bad 0 3
 |f+1,b=>ET (dl a a.ts.length) (Ih a f) a b
structure mA (g:FuncId) (fn:Nat->PR Ex) (R:Rd) (lo:Nat):Prop where
 lt:∀p x q,lo<=p->p<R.ts.length->fn p=.ok x q->p<q/\q<R.ts.length
 call:∀p,lo<=p->p<R.ts.length->∀(i:Nat) (σ:VS) (K:cO->VS->Prop),nth σ i=some (dp R p)->(∀x d q,fn p=.ok x q->je x d->K (.ret (.agg (d.map V.d))) (σ.set i (dp R q)))->
  (∀off e q,fn p=.bad off e->K (.eH (dt off e)) (σ.set i (dp R q)))->bV C ca g [.bp i 0] σ K
def Qg(h:Rd)(d:PR Ex)(f:cO)(b:List V):Prop:=match d with
 |.ok d c=>b=xa h c/\∃e,je d e/\f=.ret (.agg (e.map V.d))
 |.bad a k=>∃c,b=xa h c/\f=.eH (dt a k)
def K3(e:Rd)(d:PR Ex)(c:cO)(b:VS):Prop:=∃a,b=[.box a]/\cM c=true/\fu 0 a=true/\Qg e d c a
variable{u:FuncId}
theorem mA.of{fn:Nat->PR Ex}{lo:Nat}(b:∀a k q,lo<=a->a<i.ts.length->fn a=.ok k q->a<q/\q<i.ts.length)(h:∀a,lo<=a->a<i.ts.length->bV C ca u [.bp 0 0] [dp i a] (K3 i (fn a))):mA u fn i lo:=by
 refine⟨b,fun a e d l m n c k1 k2=>?_⟩;refine bV.one (dM:=[.bp 0 0]) (P:=Qg i (fn a)) (h a e d) l c Z Z Z (fun o f h=>?_);unfold Qg at h;exact OV
theorem mA.up{fn:Nat->PR Ex}{lo a:Nat}(e:mA u fn i lo)(c:lo<=a):mA u fn i a:=
 ⟨fun d h f b=>e.lt d h f (Nat.le_trans c b),fun d b=>e.call d (Nat.le_trans c b)⟩
variable{v:PR Ex}
theorem dQ{c:Ex}{a:cH}(d:v=.ok c j)(b:je c a):K3 i v (.ret (.agg (a.map V.d))) [dp i j]:=by
 subst d;exact⟨_,Z,qW 0 a,Z,Z,a,b,Z⟩
theorem cJ{b a:Nat}(c:v=.bad j b):K3 i v (.eH (dt j b)) [dp i a]:=by
 subst c;exact⟨_,Z,Z,Z,a,Z,Z⟩
def exV(c n:Nat)(b a:D):List V:=[bW c,cn [],cn [],cn [],bW n,.d b,.d .ci,.d a]
structure PT (f:FuncId) (R:Rd) (p q k n:Nat) (P:D->D->Prop):Prop where
 call:∀(i:Nat) (σ:VS) (K:cO->VS->Prop),nth σ i=some (dp R p)->(∀ty kids,P ty kids->K (.ret (.agg (exV k n ty kids))) (σ.set i (dp R q)))->bV C ca f [.bp i 0] σ K
def ExR(h:Rd)(d f n:Nat)(k:D->D->Prop)(e:cO)(c:List V):Prop:=c=xa h d/\∃b a,k b a/\e=.ret (.agg (exV f n b a))
theorem PT.of{f:FuncId}{p o q n:Nat}{r:D->D->Prop}(l:bV C ca f [.bp 0 0] [dp i p] fun k d=>∃a,d=[.box a]/\cM k=true/\fu 0 a=true/\ExR i o q n r k a):PT f i p o q n r:=
 ⟨fun s t w c h=>bV.one (dM:=[.bp 0 0]) l s c rfl rfl rfl fun k a l=>by
  obtain⟨rfl,m,b,e,rfl⟩:=l;exact h m b e⟩
def opsL:List cq:=[[46],[40],[42],[43],[45],[43,43],[61,61],[61,61,61],[60],[97,110,100],[111,114]]
def adR(t:Tok):Bool:=opsL.all fun a=> !c5 t a
theorem adt{t:Tok}(b:adR t=true){s:cq}(a:s∈opsL):c5 t s=false:=by
 have:=List.all_eq_true.1 b s a;simpa using this
theorem TG(r:i.Wf)(m:j<i.ts.length)(a:List cq)(p:a.length<4294967296)(f:∀o∈a,c5 (i.tok j) o=false)(k b d:Nat){σ:VS}{K:cO->VS->Prop}(h:nth σ k=some (dp i j))(l:K (.ret (.d (.int .i64 (-1)))) σ):
  bV C ca kK [.d (.ps b 0 1 d (eW a)),.fn ko [.bp k 0] []] σ K:=by
 refine cj ?_;refine cd.less (dB:=[(0,.d (.ps b 0 1 d (eW a))),(1,.fn ko [.bp k 0] []),(7,bW a.length),(8,bW 0)]) ⟨Z,Z,int_eq (by simp[eW]),Z,tv⟩ ?_;refine cd.iter (fun e:Nat=>[(0,.d (.ps b 0 1 d (eW a))),(1,.fn ko [.bp k 0] []),(7,bW a.length),(8,bW e)]) (fun _=>σ) (fun e=>a.length-e) (fun e=>e<=a.length) ?_ 0 (Nat.zero_le _);intro e q;apply aZ<;>intro n
 ·have c:e<a.length:=ee n;refine bZ Z ?_;refine cc [.str a[e]] (by rw[ck,eW,List.getElem?_map,List.getElem?_eq_getElem c];rfl) ?_;refine qV i j (i.tok j) a[e] (bY m) k h ?_;rw[f _ (List.getElem_mem c)];refine⟨e+1,c,iK,.eS,Z,Z⟩
 ·exact l
def Wp:Nat->Bool:=fun a=>aev a 6
end Go.Proofs.YtpejealjkmhkgaaGreatDoor
