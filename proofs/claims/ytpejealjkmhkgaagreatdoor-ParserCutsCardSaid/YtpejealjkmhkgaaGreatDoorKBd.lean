/- Part of the proof. -/
import Derived.Test.YtpejealjkmhkgaaGreatDoorKBc
set_option linter.all false
set_option maxHeartbeats 16000000
set_option maxRecDepth 100000
open Bool renaming false_eq_true->YL,true_and->YO,false_and->YP,and_false->YQ,and_self->YS
open List renaming length_cons->YM,length_nil->YN,length_append->YT,length_map->YX
open Nat renaming le_of_ble_eq_true->YR,le_refl->YU,beq->YW
open And renaming intro->YV
namespace Go.Proofs.YtpejealjkmhkgaaGreatDoor
open Go.AM Go.VM
def cO(r:Nat->PR Ty)(c:Rd)(n o:List UInt8)(b:Bool):Nat->List mT->Nat->PR (List mT)
 |0,_,_=>.bad 0 3
 |f+1,l,e=>
  if(c.tok e).kind≠1 then .bad (c.tok e).off 3
  else if(c.tok e).text∈l.map (·.1)then .bad (c.tok e).off 5
  else match cu c [[58]] (if b&&c0 (c.tok (e+1)) [63]then e+1+1 else e+1)with
   |.bad s q=>.bad s q
   |.ok _ u=>match r u with
    |.bad s q=>.bad s q
    |.ok v p=>if c0 (c.tok p) o then .ok (l++[((c.tok e).text,v,b&&c0 (c.tok (e+1)) [63])]) (p+1)else match cu c [n] p with
     |.bad s q=>.bad s q
     |.ok _ t=>cO r c n o b f (l++[((c.tok e).text,v,b&&c0 (c.tok (e+1)) [63])]) t
def PR.map{c b:Type}(e:c->b):PR c->PR b
 |.ok f n=>.ok (e f) n
 |.bad l o=>.bad l o
def ey(l:Nat->PR Ty)(f:Rd)(c b:List UInt8)(e:Bool)(p:Nat):PR (List mT):=
 if c0 (f.tok p) b then .ok [] (p+1)else(cO l f c b e f.ts.length [] p).map (cE (·.1))
def Xf(l:Rd)(f:Nat)(b:List (List UInt8))(c:Bool):List FE->VS
 |[]=>[dq l f,.box [.bp 0 0],.box [ct c],.box [.d .cn],nj b,.box [.map 4]]
 |x::e=>[dq l f,.box [.bp 0 0],.box [ct c],.box [.ms 6 7 0 (e.length+1) (e.length+1)],nj b,.box [.map 4],.row 7 (rows (x::e))]
def mU:List V:=[.d (.str []),.d (.int .i64 0),.d (.str []),.d (.str []),.d .cn,.d .cn,.d (.bool false)]
def Up:Nat->Bool:=fun b=>YW b 18
def TJ:Nat->Bool:=fun b=>YW b 16||YW b 24
theorem nk{b n c:Nat}(l:c<=b)(e:b<4294967296)(f:n=1):(c+n)*112<=eF/\c+n<=eF:=by
 unfold eF;omega
theorem qU(b:List FE):b.length+1<b.length+1+1:=Nat.lt_succ_self _
theorem k9(b:FE)(c:List FE):nth (List.take (c.length+1) (List.drop 0 (rows (b::c)))++[mU]) (0+(c.length+1))=some mU:=by
 rw[cv,List.getElem?_append_right (by simp[rows])];simp[rows]
theorem wM(b:FE)(c:List FE)(e:FE):(List.take (c.length+1) (List.drop 0 (rows (b::c)))++[mU]).set (0+(c.length+1)) ((fe e).map V.d)=rows (b::(c++[e])):=by
 rw[List.drop_zero,List.take_of_length_le (by simp[rows]),List.set_append_right _ _ (by simp[rows])];simp[rows]
variable{h:Nat->Nat}
theorem xQ(b:FE)(c:List FE)(e:FE):some (cL.row 7 ((List.take (c.length+1) (List.drop 0 (rows (b::c)))++[mU]).set (0+(c.length+1)) ((fe e).map V.d)))=some (dH h (.row 7 (rows (b::(c++[e]))))):=by
 rw[wM];exact congrArg some (sG h 7 ((b::(c++[e])).map fe)).symm
theorem EL(e:Nat)(b:List FE)(c:FE):some (cL.box [.ms e 7 0 (b.length+1+1) (b.length+1+1)])=some (cL.box [.ms e 7 0 ((b++[c]).length+1) ((b++[c]).length+1)]):=by simp
theorem nz(xs:List FE):xs.length=(cE FE.n xs).length:=(dG xs).length_eq.symm
theorem nA{xs:List FE}{l:List mT}{n:FE}(o:(xs.map FE.n).Nodup)(f:xs.map FE.n=l.map (·.1))(b:n.n ∉ l.map (·.1)):((xs++[n]).map FE.n).Nodup:=by
 rw[List.map_append,List.nodup_append];refine⟨o,by simp,?_⟩;intro r e q c p;simp only[List.map_cons,List.map_nil,List.mem_singleton]at c;subst p;subst c;exact b (f▸e)
theorem tr(l:List mT)(n:List UInt8)(t:Ty)(o:Bool):some (nj (l.map (·.1)++[n]))=some (dH h (nj ((l++[(n,t,o)]).map (·.1)))):=by
 rw[en h _ (fQ _),List.map_append];rfl
def Pr(n:Rd)(p:PR (List mT))(l:dC)(b:VS):Prop:=match p with
 |.ok q e=>b=[dq n e]/\∃f,ee q f/\l=.ret (.d f)
 |.bad c o=>∃e,b=[dq n e]/\l=.eE (dt c o)
variable{m:VS} {j:Nat} {g:Rd}
theorem tu{l:List mT}{xs:List FE}{r:PR (List mT)}(b n:Nat)(e:n=xs.length)(o:nth m b=some (.row 7 (rows xs)))(p:kM l xs)(q:r=.ok l j):
  cP 1 (.ret (.ms (b+1) 7 0 n n)) (dq g j::m) (Pr g r):=by
 subst q;have c:n=(xs.map fe).length:=by simpa using e
 refine cP.freeze (b+1) (es:=7) (l:=xs.map fe) o (fZ _) (fun _=>⟨Z,by simp[e]⟩) (fun f=>?_);have t:uZ (b+1) f (xs.map fe) (.ret (.ms (b+1) 7 0 n n))=.ret (.d (.ps f (0*7) 7 n (xs.map fe))):=by
  show dC.ret (nf (b+1) f (xs.map fe) (.ms (b+1) 7 0 n n))=_;rw[nf,jQ];show dC.ret (.d (.ps f (0*7) 7 n (((xs.map fe).drop 0).take n)))=_;rw[eH _ _ c]
 rw[t];refine cP.drop 1 Z (by show(fG 1 (dq g j)&&ln 1 (m.set b .gone) 0)=true;rw[ln];rfl) rfl (cP.now rfl ?_);exact⟨Z,_,.ps p.Yq,Z⟩
theorem EM(b:Rd)(V:b.Wf)(O:Nat->PR Ty)(q r:List UInt8)(U:Bool)(p:Nat)(ai:p<b.ts.length)(a:eo O b p):
  b1 C b7 rn [.bp 0 0,cq q,cq r,ct U] [dq b p] (Pr b (ey O b q r U p)):=by
 have ak:=V.len;refine cz ?_;refine b1.body Up (fun _=>Z) ?_;refine cG b p (b.tok p) r (bZ ai) om 0 Z (fun al=>?_) (fun al=>?_)
 ·refine Jk ?_;refine a7 1 ?_;rw[ey,if_pos al];exact⟨Z,.cn,.nil,Z⟩
 ·refine cl.less (eW:=[(0,.bp 0 0),(1,cq q),(2,cq r),(3,.fn o6 [] [.bp 1 0,.bp 5 0,.bp 2 0,.bp 3 0])]) ⟨Z,Z,Z,Z,tv⟩ ?_;refine cl.iter (fun _:Nat×List mT×List FE=>[(0,.bp 0 0),(1,cq q),(2,cq r),(3,.fn o6 [] [.bp 1 0,.bp 5 0,.bp 2 0,.bp 3 0])]) (fun x=>Xf b x.1 (x.2.1.map (·.1)) U x.2.2) (fun x=>b.ts.length-x.1)
   (fun x=>p<=x.1/\x.1<b.ts.length/\x.2.2.length<=x.1/\kM x.2.1 x.2.2/\(x.2.2.map FE.n).Nodup/\∃X,b.ts.length-x.1<=X/\cO O b q r U b.ts.length [] p=cO O b q r U X x.2.1 x.1) ?_ (p,[],[]) ⟨YU _,ai,Nat.zero_le _,.nil,List.nodup_nil,_,by show b.ts.length-p<=b.ts.length;omega,rfl⟩
  rintro⟨c,Q,d⟩ ⟨ag,aa,m,g,Y,X,aj,h⟩;have ag:p<=c:=ag;have aa:c<b.ts.length:=aa;have m:d.length<=c:=m;have g:kM Q d:=g;have Y:(d.map FE.n).Nodup:=Y;have ab:=g.names;have aj:b.ts.length-c<=X:=aj;have h:cO O b q r U b.ts.length [] p=cO O b q r U X Q c:=h;obtain⟨X,rfl⟩:∃F,X=F+1:=⟨X-1,om⟩;have D:ey O b q r U p=(cO O b q r U (X+1) Q c).map (cE (·.1)):=by rw[ey,if_neg (by rw[al];decide),h]
  rw[cO]at D;cases d with
  |nil=>
   refine b1.body TJ (fun _=>Z) ?_;refine n9 b V c aa (Q.map (·.1)) 0 4 dc ?_ ?_ (fun w e=>?_) (fun w e=>?_) (fun w=>?_)
   ·exact Z
   ·exact Z
   ·have W:c+1<b.ts.length:=V.go c _ (bZ aa) om;cases U
    ·have z:c+1<b.ts.length:=W;intro af;refine ej b V [[58]] dc (c+1) z _ _ 0 ?_ ?_
     ·exact Z
     cases o:cu b [[58]] (c+1)with
     |bad K i=>
      intro v;refine a7 1 ?_;rw[D];simp only[w,ne_eq,not_true,if_false,e,YP,YL,o];exact⟨v,Z,Z⟩
     |ok _ v=>
      have L:=c8 V _ _ _ z o;have s:=cH _ _ _ o;have s:p<=v:=by rw[s];omega
      have j:c<v:=by have:=cH _ _ _ o;simp only[YM,YN]at this;omega
      refine a.call v s L 0 _ _ ?_ (fun P ah n u R=>?_) (fun K i n u=>?_)
      ·exact Z
      ·obtain⟨F,I,H,G,l,rfl⟩:=R.di;obtain⟨ae,N⟩:=a.lt v P n s L u;have J:kM (Q++[((b.tok c).text,P,false)]) ([]++[(⟨(b.tok c).text,F,I,H,G,l,false,[],.cn⟩:FE)]):=g.snoc (x:=(⟨(b.tok c).text,F,I,H,G,l,false,[],.cn⟩:FE)) R;have y:((([]++[(⟨(b.tok c).text,F,I,H,G,l,false,[],.cn⟩:FE)]:List FE)).map FE.n).Nodup:=nA Y ab e;intro ac;repeat first
        |refine b0 rfl ?_
        |refine b8 ?_
       refine b4 mU Z ?_;refine cG b n (b.tok n) r (bZ N) om 0 ?_ (fun E=>?_) (fun E=>?_)
       ·exact Z
       ·refine kG [(⟨(b.tok c).text,F,I,H,G,l,false,[],.cn⟩:FE)] y (by simp only[YM,YT,YN]<;>omega) 1 sm 7 ?_ ?_
        ·exact Z
        ·refine tu (l:=cE (·.1) (Q++[((b.tok c).text,P,false)])) (xs:=cE FE.n [(⟨(b.tok c).text,F,I,H,G,l,false,[],.cn⟩:FE)]) 6 _ ((by simp:1=_).trans (nz [(⟨(b.tok c).text,F,I,H,G,l,false,[],.cn⟩:FE)])) ?_ J.GI ?_
         ·exact Z
         ·rw[D];simp only[w,ne_eq,not_true,if_false,e,YP,YL,o,u,E,if_true,PR.map]
       ·intro ad;refine ej b V [q] (by show 1<4294967296;decide) n N _ _ 0 ?_ ?_
        ·exact Z
        ·cases t:cu b [q] n with
         |bad K i=>
          intro f;refine a7 1 ?_;rw[D];simp only[w,ne_eq,not_true,if_false,e,YP,YL,o,u,E,t];exact⟨f,Z,Z⟩
         |ok _ f=>
          have T:=c8 V _ _ _ N t;have k:n<f:=by have:=cH _ _ _ t;simp only[YM,YN]at this;omega
          refine⟨(f,Q++[((b.tok c).text,P,false)],[(⟨(b.tok c).text,F,I,H,G,l,false,[],.cn⟩:FE)]),⟨by show p<=f;omega,T,by show 1<=f;omega,J,y,X,by show b.ts.length-f<=X;omega,?_⟩,?_,?_,rfl,rfl⟩
          ·show cO O b q r _ b.ts.length [] p=cO O b q r _ X (Q++[((b.tok c).text,P,false)]) f;rw[h,cO];simp only[w,ne_eq,not_true,if_false,e,YP,YL,o,u,E,t]<;>rfl
          ·show b.ts.length-f<b.ts.length-c;omega
          ·exact .pick 6 [0,1,2,3,4,5,7] ⟨Z,Z,Z,Z,tv⟩ Z Z Z Z Z dc ⟨Z,Z,Z,Z,Z,Z,Z,Z,tr Q _ P _,iA _ _ (fQ _),Z,Z,Z,Z,tv⟩
      ·refine a7 1 ?_;rw[D];simp only[w,ne_eq,not_true,if_false,e,YP,YL,o,u];exact⟨n,Z,Z⟩
    ·refine cG b (c+1) (b.tok (c+1)) [63] (bZ W) om 0 ?_ (fun M=>?_) (fun M=>?_)
     ·exact Z
     ·have z:c+1+1<b.ts.length:=V.step W M;intro af;refine ej b V [[58]] dc (c+1+1) z _ _ 0 ?_ ?_
      ·exact Z
      cases o:cu b [[58]] (c+1+1)with
      |bad K i=>
       intro v;refine a7 1 ?_;rw[D];simp only[w,ne_eq,not_true,if_false,e,M,YS,YO,if_true,o];exact⟨v,Z,Z⟩
      |ok _ v=>
       have L:=c8 V _ _ _ z o;have s:=cH _ _ _ o;have s:p<=v:=by rw[s];omega
       have j:c<v:=by have:=cH _ _ _ o;simp only[YM,YN]at this;omega
       refine a.call v s L 0 _ _ ?_ (fun P ah n u R=>?_) (fun K i n u=>?_)
       ·exact Z
       ·obtain⟨F,I,H,G,l,rfl⟩:=R.di;obtain⟨ae,N⟩:=a.lt v P n s L u;have J:kM (Q++[((b.tok c).text,P,true)]) ([]++[(⟨(b.tok c).text,F,I,H,G,l,true,[],.cn⟩:FE)]):=g.snoc (x:=(⟨(b.tok c).text,F,I,H,G,l,true,[],.cn⟩:FE)) R;have y:((([]++[(⟨(b.tok c).text,F,I,H,G,l,true,[],.cn⟩:FE)]:List FE)).map FE.n).Nodup:=nA Y ab e;intro ac;repeat first
         |refine b0 rfl ?_
         |refine b8 ?_
        refine b4 mU Z ?_;refine cG b n (b.tok n) r (bZ N) om 0 ?_ (fun E=>?_) (fun E=>?_)
        ·exact Z
        ·refine kG [(⟨(b.tok c).text,F,I,H,G,l,true,[],.cn⟩:FE)] y (by simp only[YM,YT,YN]<;>omega) 1 sm 7 ?_ ?_
         ·exact Z
         ·refine tu (l:=cE (·.1) (Q++[((b.tok c).text,P,true)])) (xs:=cE FE.n [(⟨(b.tok c).text,F,I,H,G,l,true,[],.cn⟩:FE)]) 6 _ ((by simp:1=_).trans (nz [(⟨(b.tok c).text,F,I,H,G,l,true,[],.cn⟩:FE)])) ?_ J.GI ?_
          ·exact Z
          ·rw[D];simp only[w,ne_eq,not_true,if_false,e,M,YS,YO,if_true,o,u,E,if_true,PR.map]
        ·intro ad;refine ej b V [q] (by show 1<4294967296;decide) n N _ _ 0 ?_ ?_
         ·exact Z
         ·cases t:cu b [q] n with
          |bad K i=>
           intro f;refine a7 1 ?_;rw[D];simp only[w,ne_eq,not_true,if_false,e,M,YS,YO,if_true,o,u,E,t];exact⟨f,Z,Z⟩
          |ok _ f=>
           have T:=c8 V _ _ _ N t;have k:n<f:=by have:=cH _ _ _ t;simp only[YM,YN]at this;omega
           refine⟨(f,Q++[((b.tok c).text,P,true)],[(⟨(b.tok c).text,F,I,H,G,l,true,[],.cn⟩:FE)]),⟨by show p<=f;omega,T,by show 1<=f;omega,J,y,X,by show b.ts.length-f<=X;omega,?_⟩,?_,?_,rfl,rfl⟩
           ·show cO O b q r _ b.ts.length [] p=cO O b q r _ X (Q++[((b.tok c).text,P,true)]) f;rw[h,cO];simp only[w,ne_eq,not_true,if_false,e,M,YS,YO,if_true,o,u,E,t]<;>rfl
           ·show b.ts.length-f<b.ts.length-c;omega
           ·exact .pick 6 [0,1,2,3,4,5,7] ⟨Z,Z,Z,Z,tv⟩ Z Z Z Z Z dc ⟨Z,Z,Z,Z,Z,Z,Z,Z,tr Q _ P _,iA _ _ (fQ _),Z,Z,Z,Z,tv⟩
       ·refine a7 1 ?_;rw[D];simp only[w,ne_eq,not_true,if_false,e,M,YS,YO,if_true,o,u];exact⟨n,Z,Z⟩
     ·have z:c+1<b.ts.length:=W;intro af;refine ej b V [[58]] dc (c+1) z _ _ 0 ?_ ?_
      ·exact Z
      cases o:cu b [[58]] (c+1)with
      |bad K i=>
       intro v;refine a7 1 ?_;rw[D];simp only[w,ne_eq,not_true,if_false,e,M,YO,YQ,YL,o];exact⟨v,Z,Z⟩
      |ok _ v=>
       have L:=c8 V _ _ _ z o;have s:=cH _ _ _ o;have s:p<=v:=by rw[s];omega
       have j:c<v:=by have:=cH _ _ _ o;simp only[YM,YN]at this;omega
       refine a.call v s L 0 _ _ ?_ (fun P ah n u R=>?_) (fun K i n u=>?_)
       ·exact Z
       ·obtain⟨F,I,H,G,l,rfl⟩:=R.di;obtain⟨ae,N⟩:=a.lt v P n s L u;have J:kM (Q++[((b.tok c).text,P,false)]) ([]++[(⟨(b.tok c).text,F,I,H,G,l,false,[],.cn⟩:FE)]):=g.snoc (x:=(⟨(b.tok c).text,F,I,H,G,l,false,[],.cn⟩:FE)) R;have y:((([]++[(⟨(b.tok c).text,F,I,H,G,l,false,[],.cn⟩:FE)]:List FE)).map FE.n).Nodup:=nA Y ab e;intro ac;repeat first
         |refine b0 rfl ?_
         |refine b8 ?_
        refine b4 mU Z ?_;refine cG b n (b.tok n) r (bZ N) om 0 ?_ (fun E=>?_) (fun E=>?_)
        ·exact Z
        ·refine kG [(⟨(b.tok c).text,F,I,H,G,l,false,[],.cn⟩:FE)] y (by simp only[YM,YT,YN]<;>omega) 1 sm 7 ?_ ?_
         ·exact Z
         ·refine tu (l:=cE (·.1) (Q++[((b.tok c).text,P,false)])) (xs:=cE FE.n [(⟨(b.tok c).text,F,I,H,G,l,false,[],.cn⟩:FE)]) 6 _ ((by simp:1=_).trans (nz [(⟨(b.tok c).text,F,I,H,G,l,false,[],.cn⟩:FE)])) ?_ J.GI ?_
          ·exact Z
          ·rw[D];simp only[w,ne_eq,not_true,if_false,e,M,YO,YQ,YL,o,u,E,if_true,PR.map]
        ·intro ad;refine ej b V [q] (by show 1<4294967296;decide) n N _ _ 0 ?_ ?_
         ·exact Z
         ·cases t:cu b [q] n with
          |bad K i=>
           intro f;refine a7 1 ?_;rw[D];simp only[w,ne_eq,not_true,if_false,e,M,YO,YQ,YL,o,u,E,t];exact⟨f,Z,Z⟩
          |ok _ f=>
           have T:=c8 V _ _ _ N t;have k:n<f:=by have:=cH _ _ _ t;simp only[YM,YN]at this;omega
           refine⟨(f,Q++[((b.tok c).text,P,false)],[(⟨(b.tok c).text,F,I,H,G,l,false,[],.cn⟩:FE)]),⟨by show p<=f;omega,T,by show 1<=f;omega,J,y,X,by show b.ts.length-f<=X;omega,?_⟩,?_,?_,rfl,rfl⟩
           ·show cO O b q r _ b.ts.length [] p=cO O b q r _ X (Q++[((b.tok c).text,P,false)]) f;rw[h,cO];simp only[w,ne_eq,not_true,if_false,e,M,YO,YQ,YL,o,u,E,t]<;>rfl
           ·show b.ts.length-f<b.ts.length-c;omega
           ·exact .pick 6 [0,1,2,3,4,5,7] ⟨Z,Z,Z,Z,tv⟩ Z Z Z Z Z dc ⟨Z,Z,Z,Z,Z,Z,Z,Z,tr Q _ P _,iA _ _ (fQ _),Z,Z,Z,Z,tv⟩
       ·refine a7 1 ?_;rw[D];simp only[w,ne_eq,not_true,if_false,e,M,YO,YQ,YL,o,u];exact⟨n,Z,Z⟩
   ·refine a7 1 ?_;rw[D];simp only[w,ne_eq,not_true,if_false,e,if_true];exact⟨c+1,Z,Z⟩
   ·refine a7 1 ?_;rw[D];simp only[w,ne_eq,not_false_iff,if_true];exact⟨dW (b.tok c) c,Z,Z⟩
  |cons A B=>
   refine b1.body TJ (fun _=>Z) ?_;refine n9 b V c aa (Q.map (·.1)) 0 4 dc ?_ ?_ (fun w e=>?_) (fun w e=>?_) (fun w=>?_)
   ·exact Z
   ·exact Z
   ·have W:c+1<b.ts.length:=V.go c _ (bZ aa) om;cases U
    ·have z:c+1<b.ts.length:=W;intro af;refine ej b V [[58]] dc (c+1) z _ _ 0 ?_ ?_
     ·exact Z
     cases o:cu b [[58]] (c+1)with
     |bad K i=>
      intro v;refine a7 1 ?_;rw[D];simp only[w,ne_eq,not_true,if_false,e,YP,YL,o];exact⟨v,Z,Z⟩
     |ok _ v=>
      have L:=c8 V _ _ _ z o;have s:=cH _ _ _ o;have s:p<=v:=by rw[s];omega
      have j:c<v:=by have:=cH _ _ _ o;simp only[YM,YN]at this;omega
      refine a.call v s L 0 _ _ ?_ (fun P ah n u R=>?_) (fun K i n u=>?_)
      ·exact Z
      ·obtain⟨F,I,H,G,l,rfl⟩:=R.di;obtain⟨ae,N⟩:=a.lt v P n s L u;have J:kM (Q++[((b.tok c).text,P,false)]) ((A::B)++[(⟨(b.tok c).text,F,I,H,G,l,false,[],.cn⟩:FE)]):=g.snoc (x:=(⟨(b.tok c).text,F,I,H,G,l,false,[],.cn⟩:FE)) R;have y:(((A::B++[(⟨(b.tok c).text,F,I,H,G,l,false,[],.cn⟩:FE)]:List FE)).map FE.n).Nodup:=nA Y ab e;have S:B.length+1<=c:=m;intro ac;refine a1 ?_ ?_
       ·repeat' (first|exact tv|exact rfl|exact YU _|exact(nk S om rfl).1|exact(nk S om rfl).2|(simp only[rows,YX,YM];omega)|refine b0 rfl ?_|refine YV ?_ ?_)
       refine a1 Z (a1 ⟨Z,Z,by simp[rows],YU _,nk S om rfl⟩ ?_);refine a6 Z (a6 (fg (B.length+1)) ?_);refine a1 ?_ ?_
       ·repeat' (first|exact tv|exact rfl|exact YR rfl|refine b0 rfl ?_|refine b4 mU (k9 A B) ?_|refine a1 (qU B) ?_|refine YV ?_ ?_)
       refine b0 Z ?_;refine a1 (qU B) ?_;refine a1 ?_ ?_
       ·repeat' (first|exact tv|exact rfl|exact YR rfl|refine b0 rfl ?_|refine b4 mU (k9 A B) ?_|refine a1 (qU B) ?_|refine YV ?_ ?_)
       refine b4 mU (k9 A B) ?_;refine cG b n (b.tok n) r (bZ N) om 0 ?_ (fun E=>?_) (fun E=>?_)
       ·exact Z
       ·refine kG (A::(B++[(⟨(b.tok c).text,F,I,H,G,l,false,[],.cn⟩:FE)])) y (by simp only[YM,YT,YN]<;>omega) (B.length+1+1) sm 8 ?_ ?_
        ·exact congrArg (fun x=>some (cL.row 7 x)) (wM A B (⟨(b.tok c).text,F,I,H,G,l,false,[],.cn⟩:FE))
        ·refine tu (l:=cE (·.1) (Q++[((b.tok c).text,P,false)])) (xs:=cE FE.n (A::(B++[(⟨(b.tok c).text,F,I,H,G,l,false,[],.cn⟩:FE)]))) 7 _ ((by simp:B.length+1+1=_).trans (nz (A::(B++[(⟨(b.tok c).text,F,I,H,G,l,false,[],.cn⟩:FE)])))) ?_ J.GI ?_
         ·exact Z
         ·rw[D];simp only[w,ne_eq,not_true,if_false,e,YP,YL,o,u,E,if_true,PR.map]
       ·intro ad;refine ej b V [q] (by show 1<4294967296;decide) n N _ _ 0 ?_ ?_
        ·exact Z
        ·cases t:cu b [q] n with
         |bad K i=>
          intro f;refine a7 1 ?_;rw[D];simp only[w,ne_eq,not_true,if_false,e,YP,YL,o,u,E,t];exact⟨f,Z,Z⟩
         |ok _ f=>
          have T:=c8 V _ _ _ N t;have k:n<f:=by have:=cH _ _ _ t;simp only[YM,YN]at this;omega
          refine⟨(f,Q++[((b.tok c).text,P,false)],(A::(B++[(⟨(b.tok c).text,F,I,H,G,l,false,[],.cn⟩:FE)]))),⟨by show p<=f;omega,T,by show(B++[_]).length+1<=f;simp;omega,J,y,X,by show b.ts.length-f<=X;omega,?_⟩,?_,?_,rfl,rfl⟩
          ·show cO O b q r _ b.ts.length [] p=cO O b q r _ X (Q++[((b.tok c).text,P,false)]) f;rw[h,cO];simp only[w,ne_eq,not_true,if_false,e,YP,YL,o,u,E,t]<;>rfl
          ·show b.ts.length-f<b.ts.length-c;omega
          ·exact .pick 6 [0,1,2,3,4,5,8] ⟨Z,Z,Z,Z,tv⟩ Z Z Z Z Z dc ⟨Z,Z,Z,Z,Z,Z,EL 8 B (⟨(b.tok c).text,F,I,H,G,l,false,[],.cn⟩:FE),Z,tr Q _ P _,iA _ _ (fQ _),Z,Z,xQ A B (⟨(b.tok c).text,F,I,H,G,l,false,[],.cn⟩:FE),ju _ _ _,tv⟩
      ·refine a7 1 ?_;rw[D];simp only[w,ne_eq,not_true,if_false,e,YP,YL,o,u];exact⟨n,Z,Z⟩
    ·refine cG b (c+1) (b.tok (c+1)) [63] (bZ W) om 0 ?_ (fun M=>?_) (fun M=>?_)
     ·exact Z
     ·have z:c+1+1<b.ts.length:=V.step W M;intro af;refine ej b V [[58]] dc (c+1+1) z _ _ 0 ?_ ?_
      ·exact Z
      cases o:cu b [[58]] (c+1+1)with
      |bad K i=>
       intro v;refine a7 1 ?_;rw[D];simp only[w,ne_eq,not_true,if_false,e,M,YS,YO,if_true,o];exact⟨v,Z,Z⟩
      |ok _ v=>
       have L:=c8 V _ _ _ z o;have s:=cH _ _ _ o;have s:p<=v:=by rw[s];omega
       have j:c<v:=by have:=cH _ _ _ o;simp only[YM,YN]at this;omega
       refine a.call v s L 0 _ _ ?_ (fun P ah n u R=>?_) (fun K i n u=>?_)
       ·exact Z
       ·obtain⟨F,I,H,G,l,rfl⟩:=R.di;obtain⟨ae,N⟩:=a.lt v P n s L u;have J:kM (Q++[((b.tok c).text,P,true)]) ((A::B)++[(⟨(b.tok c).text,F,I,H,G,l,true,[],.cn⟩:FE)]):=g.snoc (x:=(⟨(b.tok c).text,F,I,H,G,l,true,[],.cn⟩:FE)) R;have y:(((A::B++[(⟨(b.tok c).text,F,I,H,G,l,true,[],.cn⟩:FE)]:List FE)).map FE.n).Nodup:=nA Y ab e;have S:B.length+1<=c:=m;intro ac;refine a1 ?_ ?_
        ·repeat' (first|exact tv|exact rfl|exact YU _|exact(nk S om rfl).1|exact(nk S om rfl).2|(simp only[rows,YX,YM];omega)|refine b0 rfl ?_|refine YV ?_ ?_)
        refine a1 Z (a1 ⟨Z,Z,by simp[rows],YU _,nk S om rfl⟩ ?_);refine a6 Z (a6 (fg (B.length+1)) ?_);refine a1 ?_ ?_
        ·repeat' (first|exact tv|exact rfl|exact YR rfl|refine b0 rfl ?_|refine b4 mU (k9 A B) ?_|refine a1 (qU B) ?_|refine YV ?_ ?_)
        refine b0 Z ?_;refine a1 (qU B) ?_;refine a1 ?_ ?_
        ·repeat' (first|exact tv|exact rfl|exact YR rfl|refine b0 rfl ?_|refine b4 mU (k9 A B) ?_|refine a1 (qU B) ?_|refine YV ?_ ?_)
        refine b4 mU (k9 A B) ?_;refine cG b n (b.tok n) r (bZ N) om 0 ?_ (fun E=>?_) (fun E=>?_)
        ·exact Z
        ·refine kG (A::(B++[(⟨(b.tok c).text,F,I,H,G,l,true,[],.cn⟩:FE)])) y (by simp only[YM,YT,YN]<;>omega) (B.length+1+1) sm 8 ?_ ?_
         ·exact congrArg (fun x=>some (cL.row 7 x)) (wM A B (⟨(b.tok c).text,F,I,H,G,l,true,[],.cn⟩:FE))
         ·refine tu (l:=cE (·.1) (Q++[((b.tok c).text,P,true)])) (xs:=cE FE.n (A::(B++[(⟨(b.tok c).text,F,I,H,G,l,true,[],.cn⟩:FE)]))) 7 _ ((by simp:B.length+1+1=_).trans (nz (A::(B++[(⟨(b.tok c).text,F,I,H,G,l,true,[],.cn⟩:FE)])))) ?_ J.GI ?_
          ·exact Z
          ·rw[D];simp only[w,ne_eq,not_true,if_false,e,M,YS,YO,if_true,o,u,E,if_true,PR.map]
        ·intro ad;refine ej b V [q] (by show 1<4294967296;decide) n N _ _ 0 ?_ ?_
         ·exact Z
         ·cases t:cu b [q] n with
          |bad K i=>
           intro f;refine a7 1 ?_;rw[D];simp only[w,ne_eq,not_true,if_false,e,M,YS,YO,if_true,o,u,E,t];exact⟨f,Z,Z⟩
          |ok _ f=>
           have T:=c8 V _ _ _ N t;have k:n<f:=by have:=cH _ _ _ t;simp only[YM,YN]at this;omega
           refine⟨(f,Q++[((b.tok c).text,P,true)],(A::(B++[(⟨(b.tok c).text,F,I,H,G,l,true,[],.cn⟩:FE)]))),⟨by show p<=f;omega,T,by show(B++[_]).length+1<=f;simp;omega,J,y,X,by show b.ts.length-f<=X;omega,?_⟩,?_,?_,rfl,rfl⟩
           ·show cO O b q r _ b.ts.length [] p=cO O b q r _ X (Q++[((b.tok c).text,P,true)]) f;rw[h,cO];simp only[w,ne_eq,not_true,if_false,e,M,YS,YO,if_true,o,u,E,t]<;>rfl
           ·show b.ts.length-f<b.ts.length-c;omega
           ·exact .pick 6 [0,1,2,3,4,5,8] ⟨Z,Z,Z,Z,tv⟩ Z Z Z Z Z dc ⟨Z,Z,Z,Z,Z,Z,EL 8 B (⟨(b.tok c).text,F,I,H,G,l,true,[],.cn⟩:FE),Z,tr Q _ P _,iA _ _ (fQ _),Z,Z,xQ A B (⟨(b.tok c).text,F,I,H,G,l,true,[],.cn⟩:FE),ju _ _ _,tv⟩
       ·refine a7 1 ?_;rw[D];simp only[w,ne_eq,not_true,if_false,e,M,YS,YO,if_true,o,u];exact⟨n,Z,Z⟩
     ·have z:c+1<b.ts.length:=W;intro af;refine ej b V [[58]] dc (c+1) z _ _ 0 ?_ ?_
      ·exact Z
      cases o:cu b [[58]] (c+1)with
      |bad K i=>
       intro v;refine a7 1 ?_;rw[D];simp only[w,ne_eq,not_true,if_false,e,M,YO,YQ,YL,o];exact⟨v,Z,Z⟩
      |ok _ v=>
       have L:=c8 V _ _ _ z o;have s:=cH _ _ _ o;have s:p<=v:=by rw[s];omega
       have j:c<v:=by have:=cH _ _ _ o;simp only[YM,YN]at this;omega
       refine a.call v s L 0 _ _ ?_ (fun P ah n u R=>?_) (fun K i n u=>?_)
       ·exact Z
       ·obtain⟨F,I,H,G,l,rfl⟩:=R.di;obtain⟨ae,N⟩:=a.lt v P n s L u;have J:kM (Q++[((b.tok c).text,P,false)]) ((A::B)++[(⟨(b.tok c).text,F,I,H,G,l,false,[],.cn⟩:FE)]):=g.snoc (x:=(⟨(b.tok c).text,F,I,H,G,l,false,[],.cn⟩:FE)) R;have y:(((A::B++[(⟨(b.tok c).text,F,I,H,G,l,false,[],.cn⟩:FE)]:List FE)).map FE.n).Nodup:=nA Y ab e;have S:B.length+1<=c:=m;intro ac;refine a1 ?_ ?_
        ·repeat' (first|exact tv|exact rfl|exact YU _|exact(nk S om rfl).1|exact(nk S om rfl).2|(simp only[rows,YX,YM];omega)|refine b0 rfl ?_|refine YV ?_ ?_)
        refine a1 Z (a1 ⟨Z,Z,by simp[rows],YU _,nk S om rfl⟩ ?_);refine a6 Z (a6 (fg (B.length+1)) ?_);refine a1 ?_ ?_
        ·repeat' (first|exact tv|exact rfl|exact YR rfl|refine b0 rfl ?_|refine b4 mU (k9 A B) ?_|refine a1 (qU B) ?_|refine YV ?_ ?_)
        refine b0 Z ?_;refine a1 (qU B) ?_;refine a1 ?_ ?_
        ·repeat' (first|exact tv|exact rfl|exact YR rfl|refine b0 rfl ?_|refine b4 mU (k9 A B) ?_|refine a1 (qU B) ?_|refine YV ?_ ?_)
        refine b4 mU (k9 A B) ?_;refine cG b n (b.tok n) r (bZ N) om 0 ?_ (fun E=>?_) (fun E=>?_)
        ·exact Z
        ·refine kG (A::(B++[(⟨(b.tok c).text,F,I,H,G,l,false,[],.cn⟩:FE)])) y (by simp only[YM,YT,YN]<;>omega) (B.length+1+1) sm 8 ?_ ?_
         ·exact congrArg (fun x=>some (cL.row 7 x)) (wM A B (⟨(b.tok c).text,F,I,H,G,l,false,[],.cn⟩:FE))
         ·refine tu (l:=cE (·.1) (Q++[((b.tok c).text,P,false)])) (xs:=cE FE.n (A::(B++[(⟨(b.tok c).text,F,I,H,G,l,false,[],.cn⟩:FE)]))) 7 _ ((by simp:B.length+1+1=_).trans (nz (A::(B++[(⟨(b.tok c).text,F,I,H,G,l,false,[],.cn⟩:FE)])))) ?_ J.GI ?_
          ·exact Z
          ·rw[D];simp only[w,ne_eq,not_true,if_false,e,M,YO,YQ,YL,o,u,E,if_true,PR.map]
        ·intro ad;refine ej b V [q] (by show 1<4294967296;decide) n N _ _ 0 ?_ ?_
         ·exact Z
         ·cases t:cu b [q] n with
          |bad K i=>
           intro f;refine a7 1 ?_;rw[D];simp only[w,ne_eq,not_true,if_false,e,M,YO,YQ,YL,o,u,E,t];exact⟨f,Z,Z⟩
          |ok _ f=>
           have T:=c8 V _ _ _ N t;have k:n<f:=by have:=cH _ _ _ t;simp only[YM,YN]at this;omega
           refine⟨(f,Q++[((b.tok c).text,P,false)],(A::(B++[(⟨(b.tok c).text,F,I,H,G,l,false,[],.cn⟩:FE)]))),⟨by show p<=f;omega,T,by show(B++[_]).length+1<=f;simp;omega,J,y,X,by show b.ts.length-f<=X;omega,?_⟩,?_,?_,rfl,rfl⟩
           ·show cO O b q r _ b.ts.length [] p=cO O b q r _ X (Q++[((b.tok c).text,P,false)]) f;rw[h,cO];simp only[w,ne_eq,not_true,if_false,e,M,YO,YQ,YL,o,u,E,t]<;>rfl
           ·show b.ts.length-f<b.ts.length-c;omega
           ·exact .pick 6 [0,1,2,3,4,5,8] ⟨Z,Z,Z,Z,tv⟩ Z Z Z Z Z dc ⟨Z,Z,Z,Z,Z,Z,EL 8 B (⟨(b.tok c).text,F,I,H,G,l,false,[],.cn⟩:FE),Z,tr Q _ P _,iA _ _ (fQ _),Z,Z,xQ A B (⟨(b.tok c).text,F,I,H,G,l,false,[],.cn⟩:FE),ju _ _ _,tv⟩
       ·refine a7 1 ?_;rw[D];simp only[w,ne_eq,not_true,if_false,e,M,YO,YQ,YL,o,u];exact⟨n,Z,Z⟩
   ·refine a7 1 ?_;rw[D];simp only[w,ne_eq,not_true,if_false,e,if_true];exact⟨c+1,Z,Z⟩
   ·refine a7 1 ?_;rw[D];simp only[w,ne_eq,not_false_iff,if_true];exact⟨dW (b.tok c) c,Z,Z⟩
variable{a:Nat->PR Ty}
theorem eo.up{lo b:Nat}(n:eo a g lo)(p:lo<=b):eo a g b:=
 ⟨fun l q o e c f=>n.lt l q o om c f,fun l e c=>n.call l om c⟩
theorem GS(y:g.Wf){lo:Nat}(s:∀b w l,lo<=b->b<g.ts.length->a b=.ok w l->b<l/\l<g.ts.length):
  ∀(q:Nat) (e:List Ty) (b:Nat) (x:List Ty) (l:Nat),lo<=b->b<g.ts.length->dE a g q e b=.ok x l->b<=l/\l<g.ts.length:=by
 intro q;induction q with
 |zero=>intro e b x l _ _ c;cases c
 |succ q v=>
  intro e b x l u t c;rw[dE]at c;cases n:a b with
  |bad z C=>rw[n]at c;cases c
  |ok w p=>
   rw[n]at c;obtain⟨A,o⟩:=s b w p u t n;dsimp only at c;split at c
   ·rename_i r;obtain⟨E,B⟩:=v _ _ _ _ om (y.step o r) c;exact⟨om,B⟩
   ·cases f:cu g [[93]] p with
    |bad z C=>rw[f]at c;cases c
    |ok F D=>
     rw[f]at c;cases c;have:=cH _ _ _ f;exact⟨om,c8 y _ _ _ o f⟩
theorem AU(o:g.Wf){p:Nat}(n:∀b q j,p<=b->b<g.ts.length->a b=.ok q j->b<j/\j<g.ts.length)(c:p<g.ts.length){l:List Ty}(e:hQ a g p=.ok l j):p<=j/\j<g.ts.length:=by
 rw[hQ]at e;split at e
 ·rename_i f;obtain⟨s,r⟩:=GS o n _ _ _ _ _ om (o.step c f) e;exact⟨om,r⟩
 ·cases e;exact⟨YU _,c⟩
theorem Ck(A:g.Wf){lo:Nat}(C:∀b G o,lo<=b->b<g.ts.length->a b=.ok G o->b<o/\o<g.ts.length)(q s:List UInt8)(f:Bool):
  ∀(B:Nat) (l:List mT) (b:Nat) (H:List mT) (o:Nat),lo<=b->b<g.ts.length->cO a g q s f B l b=.ok H o->b<=o/\o<g.ts.length:=by
 intro B;induction B with
 |zero=>intro l b H o _ _ c;cases c
 |succ B F=>
  intro l b H o P D c;rw[cO]at c;split at c
  ·cases c
  ·rename_i t;have t:(g.tok b).kind=1:=by simpa using t
   have p:b+1<g.ts.length:=A.go b _ (bZ D) om;split at c
   ·cases c
   ·have x:(if f&&c0 (g.tok (b+1)) [63]then b+1+1 else b+1)<g.ts.length:=by
     split
     ·rename_i w;rw[Bool.and_eq_true]at w;exact A.step p w.2
     ·exact p
    have K:b+1<=(if f&&c0 (g.tok (b+1)) [63]then b+1+1 else b+1):=by split<;>omega
    cases n:cu g [[58]] (if f&&c0 (g.tok (b+1)) [63]then b+1+1 else b+1)with
    |bad I M=>rw[n]at c;cases c
    |ok R z=>
     rw[n]at c;dsimp only at c;have y:=c8 A _ _ _ x n;have J:=cH _ _ _ n;cases r:a z with
     |bad I M=>rw[r]at c;cases c
     |ok G v=>
      rw[r]at c;dsimp only at c;obtain⟨O,u⟩:=C z G v om y r;split at c
      ·rename_i E;cases c;exact⟨om,A.step u E⟩
      ·cases e:cu g [q] v with
       |bad I M=>rw[e]at c;cases c
       |ok R N=>
        rw[e]at c;have L:=cH _ _ _ e;obtain⟨S,Q⟩:=F _ _ _ _ om (c8 A _ _ _ u e) c;exact⟨om,Q⟩
variable{i k:List UInt8}
theorem qV(r:g.Wf){p:Nat}(q:∀c s j,p<=c->c<g.ts.length->a c=.ok s j->c<j/\j<g.ts.length){b:Bool}(n:p<g.ts.length){l:List mT}(f:ey a g i k b p=.ok l j):p<=j/\j<g.ts.length:=by
 rw[ey]at f;split at f
 ·rename_i o;cases f;exact⟨om,r.step n o⟩
 ·cases e:cO a g i k b g.ts.length [] p with
  |bad v w=>rw[e]at f;cases f
  |ok t u=>
   rw[e]at f;cases f;exact Ck r q i k b _ _ _ _ _ (YU _) n e
theorem jA(z:g.Wf){p:Nat}(r:∀f v j,p<=f->f<g.ts.length->a f=.ok v j->f<j/\j<g.ts.length)(u:p<g.ts.length){l:Ty}(c:dv a g p=.ok l j):p<=j/\j<g.ts.length:=by
 rw[dv]at c;cases e:cu g [[91]] p with
 |bad w y=>rw[e]at c;cases c
 |ok C o=>
  rw[e]at c;dsimp only at c;have D:=cH _ _ _ e;have t:=c8 z _ _ _ u e;cases n:a o with
  |bad w y=>rw[n]at c;cases c
  |ok v q=>
   rw[n]at c;dsimp only at c;obtain⟨B,s⟩:=r o v q om t n;cases b:cu g [[93]] q with
   |bad w y=>rw[b]at c;cases c
   |ok C A=>
    rw[b]at c;cases c;have x:=cH _ _ _ b;exact⟨om,c8 z _ _ _ s b⟩
variable{d:dC->VS->Prop}
theorem sI(n:Rd)(K:n.Wf)(o:Nat->PR Ty)(b c:List UInt8)(f:Bool)(p:Nat)(I:p<n.ts.length)(F:eo o n p)(z:Nat)(y:nth m z=some (dq n p)) 
  (H:∀A x q,ey o n b c f p=.ok A q->ee A x->d (.ret (.d x)) (m.set z (dq n q))) (v:∀l e q,ey o n b c f p=.bad l e->d (.eE (dt l e)) (m.set z (dq n q))):b1 C b7 rn [.bp z 0,cq b,cq c,ct f] m d:=by
 refine b1.one (dN:=[.bp 0 0,cq b,cq c,ct f]) (P:=fun D G=>Pr n (ey o n b c f p) D [.box G]) ((EM n K o b c f p I F).mono fun D J r=>?_) z y Z Z Z (fun D s r=>?_)
 ·have w:=r;unfold Pr at r;split at r
  ·obtain⟨rfl,x,v,rfl⟩:=r;exact⟨_,Z,Z,Z,w⟩
  ·obtain⟨q,rfl,rfl⟩:=r;exact⟨_,Z,Z,Z,w⟩
 ·unfold Pr at r;split at r
  ·rename_i A q e;obtain⟨t,x,B,rfl⟩:=r;have:s=ub n q:=by injection t with u;injection u
   subst this;exact H A x q e B
  ·rename_i l E e;obtain⟨q,t,rfl⟩:=r;have:s=ub n q:=by injection t with u;injection u
   subst this;exact v l E q e
theorem nl(c:Rd)(A:c.Wf)(e:Nat->PR Ty)(p:Nat)(y:p<c.ts.length)(w:eo e c p)(o:Nat)(n:nth m o=some (dq c p)) 
  (x:∀s q f,dv e c p=.ok s f->gK s q->d (.ret (.agg (q.map V.d))) (m.set o (dq c f))) (u:∀b l f,dv e c p=.bad b l->d (.eE (dt b l)) (m.set o (dq c f))):b1 C b7 p1 [.bp o 0] m d:=by
 refine b1.one (dN:=[.bp 0 0]) (P:=zu c (dv e c p)) (Cj c A e p y w) o n Z Z Z (fun B z r=>?_);unfold zu at r;split at r
 ·rename_i s f l;obtain⟨rfl,q,t,rfl⟩:=r;exact x s q f l t
 ·rename_i b v l;obtain⟨f,rfl,rfl⟩:=r;exact u b v f l
def sJ(b:List UInt8):Option Nat:=
 if b=[105,110,116]then some 2 else if b=[98,111,111,108]then some 3 else if b=[116,101,120,116]then some 4 else if b=[97,110,121]then some 0 else if b=[110,111,110,101]then some 1 else none
def kb:List pP:=[⟨cq [105,110,116],b3 2,0⟩,⟨cq [98,111,111,108],b3 3,1⟩,⟨cq [116,101,120,116],b3 4,2⟩,⟨cq [97,110,121],b3 0,3⟩,⟨cq [110,111,110,101],b3 1,4⟩]
theorem eY{f:V}{b c:Nat}{e:List pP}:eN .string (cq i) (⟨cq k,f,b⟩::e) c=match decide (i=k)with
   |true=>some (some (c,f))
   |false=>eN .string (cq i) e (c+1):=rfl
theorem qW(s:List UInt8):eN .string (cq s) kb 0=some none∨∃b c,eN .string (cq s) kb 0=some (some (b,b3 c)):=by
 unfold kb;rw[eY];cases decide (s=[105,110,116])with
 |true=>exact .inr ⟨_,_,rfl⟩
 |false=>
  dsimp only;rw[eY];cases decide (s=[98,111,111,108])with
  |true=>exact .inr ⟨_,_,rfl⟩
  |false=>
   dsimp only;rw[eY];cases decide (s=[116,101,120,116])with
   |true=>exact .inr ⟨_,_,rfl⟩
   |false=>
    dsimp only;rw[eY];cases decide (s=[97,110,121])with
    |true=>exact .inr ⟨_,_,rfl⟩
    |false=>
     dsimp only;rw[eY];cases decide (s=[110,111,110,101])with
     |true=>exact .inr ⟨_,_,rfl⟩
     |false=>exact .inl rfl
theorem AV{s:List UInt8}(b:sJ s=none):eN .string (cq s) kb 0=some none:=by
 unfold sJ at b;have l:s≠[105,110,116]:=fun c=>by rw[if_pos c]at b;cases b
 rw[if_neg l]at b;have e:s≠[98,111,111,108]:=fun c=>by rw[if_pos c]at b;cases b
 rw[if_neg e]at b;have n:s≠[116,101,120,116]:=fun c=>by rw[if_pos c]at b;cases b
 rw[if_neg n]at b;have f:s≠[97,110,121]:=fun c=>by rw[if_pos c]at b;cases b
 rw[if_neg f]at b;have o:s≠[110,111,110,101]:=fun c=>by rw[if_pos c]at b;cases b
 unfold kb;rw[eY,decide_eq_false l,eY,decide_eq_false e,eY,decide_eq_false n,eY,decide_eq_false f,eY,decide_eq_false o];rfl
def eR(e:Nat->PR Ty)(n:Rd)(c:Nat)(b:List UInt8)(l p:Nat):PR Ty:=
 if c=5 then match sJ b with
  |some u=>.ok (.mk u [] [] [] []) p
  |none=>if b=[108,105,115,116]then(dv e n p).map fun s=>.mk 5 [] [] [s] []
   else if b=[102,110]then match cu n [[40]] p with
    |.bad r q=>.bad r q
    |.ok _ f=>match ey e n [44] [41] true f with
     |.bad r q=>.bad r q
     |.ok o t=>(e t).map fun s=>.mk 8 [] [] [s] o
   else .bad l 3
 else if c=6 then
  if b=[123]then(ey e n [44] [125] false p).map fun o=>.mk 6 [] [] [] o
  else if b=[60]then(ey e n [124] [62] false p).map fun o=>.mk 7 [] [] [] o
  else .bad l 3
 else if c=2 then(hQ e n p).map fun o=>.mk 10 [] b o []
 else if c=1 then match cu n [[58,58]] p with
  |.bad r q=>.bad r q
  |.ok _ f=>if(n.tok f).kind≠2 then .bad (n.tok f).off 3 else(hQ e n (f+1)).map fun o=>.mk 10 b (n.tok f).text o []
 else .bad l 3
def de(b:Rd):Nat->Nat->PR Ty
 |0,_=>.bad 0 3
 |f+1,c=>eR (de b f) b (b.tok c).kind (b.tok c).text (b.tok c).off (c+1)
def lz:Nat->Bool:=fun b=>YW b 37||YW b 49||YW b 56||YW b 96
theorem mE{c b:Nat}(e:c≠b):decide (Int.ofNat c=Int.ofNat b)=false:=decide_eq_false (by simp only[Int.ofNat_eq_natCast];omega)
end Go.Proofs.YtpejealjkmhkgaaGreatDoor
