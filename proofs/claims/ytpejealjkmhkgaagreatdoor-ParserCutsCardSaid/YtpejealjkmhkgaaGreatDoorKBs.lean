/- Part of the proof. -/
import Derived.Test.YtpejealjkmhkgaaGreatDoorKBr
set_option linter.all false
set_option maxHeartbeats 16000000
set_option maxRecDepth 100000
open Int renaming ofNat->YL,ofNat_eq_natCast->YM
open List renaming getElem?_eq_getElem->YN,getElem_mem->YO,length_map->YQ,getElem?_map->YS,drop_eq_getElem_cons->YT,take_append_getElem->YU,take_of_length_le->YV,drop_of_length_le->YW
open Nat renaming zero_le->YP
open Bool renaming and_eq_true->YR
namespace Go.Proofs.YtpejealjkmhkgaaGreatDoor
open Go.AM Go.VM
def pk(c b:sL):Bool:=decide (b.p=c.p)||decide (b.a=c.a)
def j3(b:List UInt8):List sL->List sL->Nat
 |_,[]=>0
 |done,c::e=>if c.p=b then 14 else if done.any (pk c)then 5 else j3 b (done++[c]) e
def lB(b:Fh):Nat:=if 16<b.is.length∨64<b.ds.length then 7 else j3 b.p [] b.is
theorem HH(m:sL)(e:List sL)(y:e.length<4294967296)(b o c:Nat):b1 C b7 hB [.d (.ps b o 2 c (e.map fh)),.fn iI [] [.bp 0 0]] [.box [cq m.p,cq m.a]] fun x u=>∃n,u=[.box n]/\cN x=true/\e5 0 n=true/\(x=.ret (ct (e.any (pk m)))/\n=[cq m.p,cq m.a]):=by
 have q:(e.map fh).length=e.length:=YQ _;refine cz ?_;refine b9 ?_;refine cl.less (eW:=[(0,.d (.ps b o 2 c (e.map fh))),(1,.fn iI [] [.bp 0 0]),(7,b3 (e.map fh).length),(8,b3 0)]) ⟨Z,Z,Z,Z,tv⟩ ?_;refine cl.iter (fun l:Nat=>[(0,.d (.ps b o 2 c (e.map fh))),(1,.fn iI [] [.bp 0 0]),(7,b3 (e.map fh).length),(8,b3 l)]) (fun _=>[.box [cq m.p,cq m.a]]) (fun l=>e.length-l) (fun l=>l<=e.length/\(e.take l).any (pk m)=false) ?_ 0 ⟨YP _,Z⟩;rintro l ⟨z,r⟩;apply aZ<;>intro v
 ·have k:l<e.length:=q▸fF v;have w:nth (e.map fh) l=some (fh e[l]):=by rw[cv,YS,YN k];rfl
  refine b0 Z ?_;refine b4 _ w ?_;refine b9 ?_;have p:pk m e[l]=true->e.any (pk m)=true:=fun v=>List.any_eq_true.2 ⟨_,YO k,v⟩;apply aZ<;>intro t
  ·repeat refine dX ?_
   refine a7 1 ⟨_,Z,Z,Z,?_,Z⟩;rw[p (by simp only[pk,show decide (e[l].p=m.p)=true from t,Bool.true_or])];rfl
  ·repeat refine dX ?_
   apply aZ<;>intro s
   ·refine a7 1 ⟨_,Z,Z,Z,?_,Z⟩;rw[p (by simp only[pk,show decide (e[l].a=m.a)=true from s,Bool.or_true])];rfl
   ·refine⟨l+1,⟨k,?_⟩,by show e.length-(l+1)<e.length-l;omega,.pick 1 [0] ⟨rfl,rfl,rfl,int_eq (cp om),tv⟩ rfl rfl rfl rfl rfl dc ⟨rfl,rfl,tv⟩,rfl,rfl⟩;rw[List.take_add_one,YN k,List.any_append,r];simp only[Option.toList,List.any_cons,List.any_nil,Bool.or_false,Bool.false_or,pk,show decide (e[l].p=m.p)=false from t,show decide (e[l].a=m.a)=false from s]
 ·have k:e.length<=l:=q▸dR v;rw[YV k]at r;refine a7 1 ⟨_,Z,Z,Z,?_,Z⟩;rw[r];rfl
variable{a:dC->VS->Prop} {g:VS} {f:List (List D)}
theorem Bt(l:sL)(m:List sL)(p:f=m.map fh)(s:m.length<4294967296)(b o c q:Nat)(k:nth g q=some (.box [cq l.p,cq l.a]))(n:a (.ret (ct (m.any (pk l)))) g):b1 C b7 hB [.d (.ps b o 2 c f),.fn iI [] [.bp q 0]] g a:=by
 subst p;exact b1.one (dN:=[.d (.ps b o 2 c (m.map fh)),.fn iI [] [.bp 0 0]]) (P:=fun u r=>u=.ret (ct (m.any (pk l)))/\r=[cq l.p,cq l.a]) (HH l m s b o c) q k Z Z Z (fun u v ⟨e,t⟩=>by rw[e,t,sE k];exact n)
theorem J7(d:Fh)(ap:List D)(j:EO d ap)(ar:Ln d<=4096)(aq:∀X∈d.ds,X.k=1->fS X.ex)(ah:gB d.p=true)(ad:∀X∈d.is,gB X.p=true/\cM X.a=true):b1 C b7 B9 [.agg (ap.map V.d)] [] fun ab f=>f=[]/\ab=.ret (b3 (lB d)):=by
 have ac:=HG d ap j om aq;have v:∀s,gB s=true->s.length<=64:=fun s E=>by
  simp only[gB,YR,decide_eq_true_eq]at E;exact E.2.1
 obtain⟨I,J,B,H,rfl⟩:=j;obtain⟨c,b,l⟩:=d;have k:(I=.cn/\b=[])∨∃Y W U,b.length<=U/\I=.ps Y W 2 U (b.map fh):=by
  revert B;intro B;have B:A3 b I:=B;cases B with
  |nil=>exact .inl ⟨rfl,rfl⟩
  |ps au=>exact .inr ⟨_,_,_,au,rfl⟩
 have F:(J=.cn/\l=[])∨∃Y W U o,J=.ps Y W 31 U o/\o.length=l.length:=by
  have H:C1 l J:=H;cases H with
  |nil=>exact .inl ⟨rfl,rfl⟩
  |ps E _=>exact .inr ⟨_,_,_,_,rfl,E.len⟩
 have G:lB ⟨c,b,l⟩=if 16<b.length∨64<l.length then 7 else j3 c [] b:=rfl
 have ay:b.length<4096:=by have:1+b.length+jf l<=4096:=ar;omega
 clear B H;have aw:c.length<=64:=v c ah;have p:gB c=true:=ah;have R:∀X∈b,gB X.p=true/\cM X.a=true:=ad;have w:∀{h:VS} {al:dC->VS->Prop},(∀x,x<=4096->al (.ret (b3 x)) h)->b1 C b7 mO [.agg ([D.str c,I,J].map V.d)] h al:=fun{h} {al} an=>
  b1.closed (P:=fun ab=>∃x,x<=4096/\ab=.ret (b3 x)) (ac.mono fun ab f E=>⟨E.1,by obtain⟨x,_,g⟩:=E.2;rw[g];rfl,by obtain⟨x,ax,g⟩:=E.2;exact⟨x,om,g⟩⟩) rfl (fun ab ⟨x,ax,g⟩=>by rw[g];exact an x ax)
 have a:∀av:List (List D),av.length=l.length->¬64<l.length->decide (64<YL av.length)=false:=fun av g E=>by rw[g];exact decide_eq_false (by simp only[YM];omega)
 have af:¬16<b.length->decide (16<YL (b.map fh).length)=false:=fun E=>by rw[YQ];exact decide_eq_false (by simp only[YM];omega)
 rcases k with⟨rfl,O⟩|⟨Y,W,U,ao,rfl⟩
 ·have N:¬16<b.length:=by rw[O];decide
  rcases F with⟨rfl,K⟩|⟨aj,ae,ai,o,rfl,u⟩
  ·have t:¬64<l.length:=by rw[K];decide
   have n:lB ⟨c,b,l⟩=j3 c [] b:=by rw[G,if_neg om]
   refine cz ?_;refine gE c om ?_;refine a6 (by rw[p];rfl) ?_;repeat refine dX ?_
   refine w (fun x Q=>?_);have T:decide (4096<YL x)=false:=decide_eq_false (by simp only[YM];omega);repeat refine dX ?_
   refine cl.loop ?_;exact a7 0 ⟨Z,by rw[n,O];rfl⟩
  ·by_cases t:64<l.length
   ·have S:decide (64<YL o.length)=true:=by rw[u];exact decide_eq_true (by simp only[YM];omega)
    refine cz ?_;refine gE c om ?_;refine a6 (by rw[p];rfl) ?_;repeat refine dX ?_
    exact a7 0 ⟨Z,by rw[G,if_pos (.inr t)];rfl⟩
   ·have S:=a o u t;have n:lB ⟨c,b,l⟩=j3 c [] b:=by rw[G,if_neg om]
    refine cz ?_;refine gE c om ?_;refine a6 (by rw[p];rfl) ?_;repeat refine dX ?_
    refine w (fun x Q=>?_);have T:decide (4096<YL x)=false:=decide_eq_false (by simp only[YM];omega);repeat refine dX ?_
    refine cl.loop ?_;exact a7 0 ⟨Z,by rw[n,O];rfl⟩
 ·by_cases N:16<b.length
  ·have am:decide (16<YL (b.map fh).length)=true:=by rw[YQ];exact decide_eq_true (by simp only[YM];omega)
   rcases F with⟨rfl,K⟩|⟨aj,ae,ai,o,rfl,u⟩;all_goals
    refine cz ?_;refine gE c om ?_;refine a6 (by rw[p];rfl) ?_;repeat refine dX ?_
    exact a7 0 ⟨Z,by rw[G,if_pos (.inl N)];rfl⟩
  ·have am:=af N;rcases F with⟨rfl,K⟩|⟨aj,ae,ai,o,rfl,u⟩
   ·have t:¬64<l.length:=by rw[K];decide
    have n:lB ⟨c,b,l⟩=j3 c [] b:=by rw[G,if_neg om]
    refine cz ?_;refine gE c om ?_;refine a6 (by rw[p];rfl) ?_;repeat refine dX ?_
    refine w (fun x Q=>?_);have T:decide (4096<YL x)=false:=decide_eq_false (by simp only[YM];omega);repeat refine dX ?_
    refine cl.less (eW:=[(1,.bp 0 0),(27,.d (.ps Y W 2 U (b.map fh))),(28,b3 (b.map fh).length),(29,b3 0)]) ⟨Z,Z,Z,Z,tv⟩ ?_;refine cl.iter (fun e:Nat=>[(1,.bp 0 0),(27,.d (.ps Y W 2 U (b.map fh))),(28,b3 (b.map fh).length),(29,b3 e)]) (fun _=>_) (fun e=>b.length-e) (fun e=>e<=b.length/\j3 c [] b=j3 c (b.take e) (b.drop e)) ?_ 0 ⟨YP _,Z⟩;rintro e ⟨B,m⟩;have A:(b.map fh).length=b.length:=YQ _;apply aZ<;>intro E
    ·have k:e<b.length:=A▸fF E;have i:nth (b.map fh) e=some (fh b[e]):=by rw[cv,YS,YN k];rfl
     obtain⟨z,y⟩:=R b[e] (YO k);have aa:=v _ z;rw[YT k,j3]at m;refine b0 Z ?_;refine b4 _ i ?_;refine gE b[e].p om ?_;have ak:(!gB b[e].p)=false:=by rw[z];rfl
     repeat refine dX ?_
     refine fV b[e].a (w2 y) ?_;have ag:(!cM b[e].a)=false:=by rw[y];rfl
     repeat refine dX ?_
     apply aZ<;>intro M
     ·have r:b[e].p=c:=of_decide_eq_true M;exact a7 0 ⟨Z,by rw[n,m,if_pos r];rfl⟩
     ·have r:¬b[e].p=c:=of_decide_eq_false M;rw[if_neg r]at m;refine b0 Z ?_;refine a1 ⟨YP _,om,om,om,Z⟩ ?_;refine Bt b[e] (b.take e) (by rw[List.map_take];rfl) (by rw[List.length_take];omega) _ _ _ 1 rfl ?_;apply aZ<;>intro L
      ·have q:(b.take e).any (pk b[e])=true:=L;rw[if_pos q]at m;exact a7 0 ⟨Z,by rw[n,m];rfl⟩
      ·have q:(b.take e).any (pk b[e])=false:=L;rw[if_neg (by rw[q];decide),YU k]at m;exact⟨e+1,⟨k,m⟩,by show b.length-(e+1)<b.length-e;omega,.pick 0 [0] ⟨rfl,rfl,rfl,int_eq (cp om),tv⟩ rfl rfl rfl rfl rfl dc ⟨rfl,rfl,tv⟩,rfl,rfl⟩
    ·have k:b.length<=e:=A▸dR E;rw[YW k]at m;exact a7 0 ⟨Z,by rw[n,m];rfl⟩
   ·by_cases t:64<l.length
    ·have S:decide (64<YL o.length)=true:=by rw[u];exact decide_eq_true (by simp only[YM];omega)
     refine cz ?_;refine gE c om ?_;refine a6 (by rw[p];rfl) ?_;repeat refine dX ?_
     exact a7 0 ⟨Z,by rw[G,if_pos (.inr t)];rfl⟩
    ·have S:=a o u t;have n:lB ⟨c,b,l⟩=j3 c [] b:=by rw[G,if_neg om]
     refine cz ?_;refine gE c om ?_;refine a6 (by rw[p];rfl) ?_;repeat refine dX ?_
     refine w (fun x Q=>?_);have T:decide (4096<YL x)=false:=decide_eq_false (by simp only[YM];omega);repeat refine dX ?_
     refine cl.less (eW:=[(1,.bp 0 0),(27,.d (.ps Y W 2 U (b.map fh))),(28,b3 (b.map fh).length),(29,b3 0)]) ⟨Z,Z,Z,Z,tv⟩ ?_;refine cl.iter (fun e:Nat=>[(1,.bp 0 0),(27,.d (.ps Y W 2 U (b.map fh))),(28,b3 (b.map fh).length),(29,b3 e)]) (fun _=>_) (fun e=>b.length-e) (fun e=>e<=b.length/\j3 c [] b=j3 c (b.take e) (b.drop e)) ?_ 0 ⟨YP _,Z⟩;rintro e ⟨B,m⟩;have A:(b.map fh).length=b.length:=YQ _;apply aZ<;>intro E
     ·have k:e<b.length:=A▸fF E;have i:nth (b.map fh) e=some (fh b[e]):=by rw[cv,YS,YN k];rfl
      obtain⟨z,y⟩:=R b[e] (YO k);have aa:=v _ z;rw[YT k,j3]at m;refine b0 Z ?_;refine b4 _ i ?_;refine gE b[e].p om ?_;have ak:(!gB b[e].p)=false:=by rw[z];rfl
      repeat refine dX ?_
      refine fV b[e].a (w2 y) ?_;have ag:(!cM b[e].a)=false:=by rw[y];rfl
      repeat refine dX ?_
      apply aZ<;>intro M
      ·have r:b[e].p=c:=of_decide_eq_true M;exact a7 0 ⟨Z,by rw[n,m,if_pos r];rfl⟩
      ·have r:¬b[e].p=c:=of_decide_eq_false M;rw[if_neg r]at m;refine b0 Z ?_;refine a1 ⟨YP _,om,om,om,Z⟩ ?_;refine Bt b[e] (b.take e) (by rw[List.map_take];rfl) (by rw[List.length_take];omega) _ _ _ 1 rfl ?_;apply aZ<;>intro L
       ·have q:(b.take e).any (pk b[e])=true:=L;rw[if_pos q]at m;exact a7 0 ⟨Z,by rw[n,m];rfl⟩
       ·have q:(b.take e).any (pk b[e])=false:=L;rw[if_neg (by rw[q];decide),YU k]at m;exact⟨e+1,⟨k,m⟩,by show b.length-(e+1)<b.length-e;omega,.pick 0 [0] ⟨rfl,rfl,rfl,int_eq (cp om),tv⟩ rfl rfl rfl rfl rfl dc ⟨rfl,rfl,tv⟩,rfl,rfl⟩
     ·have k:b.length<=e:=A▸dR E;rw[YW k]at m;exact a7 0 ⟨Z,by rw[n,m];rfl⟩
def TW(c:Prop)(e:dC):Prop:=∃b:Bool,(c->b=false)/\e=.ret (ct b)
theorem TW.closed{c:Prop}{b:dC}(e:TW c b):cN b=true:=by obtain⟨l,_,k⟩:=e;rw[k];rfl
variable{i:FuncId}
theorem WA(I:Prop){l:List mv}(u:(C.ff.get i).isSome=true)(y:∀O∈l,∀A,EN O A->∀{t:VS} {J:dC->VS->Prop},(∀q:Bool,(I->q=false)->J (.ret (ct q)) t)->b1 C b7 i [.agg (A.map V.d)] t J)(P:l.length<4294967296){ps:D}(v:uA l ps):b1 C b7 hP [.d ps,.fn i [] []] [] fun M r=>r=[]/\TW I M:=by
 refine cz ?_;refine b9 ?_;cases v with
 |nil=>
  refine cl.loop ?_;exact a7 0 ⟨Z,false,fun _=>Z,Z⟩
 |ps v=>
  rename_i q K L b;have n:=v.len;refine cl.less (eW:=[(0,.d (.ps q K 7 L b)),(1,.fn i [] []),(7,b3 b.length),(8,b3 0)]) ⟨Z,Z,Z,Z,tv⟩ ?_;refine cl.iter (fun c:Nat=>[(0,.d (.ps q K 7 L b)),(1,.fn i [] []),(7,b3 b.length),(8,b3 c)]) (fun _=>[]) (fun c=>l.length-c) (fun c=>c<=l.length) ?_ 0 (YP _);intro c Q;apply aZ<;>intro H
  ·have e:c<l.length:=n▸fF H;obtain⟨A,G,m⟩:=v.get e;have o:=(cv b c).trans G;obtain⟨N,k,rfl⟩:=m;obtain⟨z,B,E,x,f7,rfl⟩:=k.di;refine b0 Z ?_;refine b4 _ o ?_;refine a8 u ?_;refine y l[c] (YO e) [.str l[c].n,.int .i64 (YL l[c].vr),.int .i64 (YL z),.str B,.str E,x,f7] ⟨_,k,Z⟩ (fun F s=>?_);apply aZ<;>intro w
   ·have p:F=true:=w;exact a7 0 ⟨Z,_,fun R=>absurd (s R) (by rw[p];decide),rfl⟩
   ·exact⟨c+1,e,by show l.length-(c+1)<l.length-c;omega,.pick 0 [] ⟨rfl,rfl,rfl,int_eq (cp om),tv⟩ rfl rfl rfl rfl rfl dc trivial,rfl,rfl⟩
  ·exact a7 0 ⟨Z,false,fun _=>Z,Z⟩
theorem hO(m:Prop){l:List mv}(k:(C.ff.get i).isSome=true)(q:∀v∈l,∀r,EN v r->∀{g:VS} {a:dC->VS->Prop},(∀b:Bool,(m->b=false)->a (.ret (ct b)) g)->b1 C b7 i [.agg (r.map V.d)] g a)(o:l.length<4294967296){c:D}(e:uA l c)(n:∀b:Bool,(m->b=false)->a (.ret (ct b)) g):b1 C b7 hP [.d c,.fn i [] []] g a:=
 b1.closed (P:=TW m) ((WA m k q o e).mono fun u s e=>⟨e.1,e.2.closed,e.2⟩) rfl (fun u ⟨b,p,t⟩=>by rw[t];exact n b p)
structure zc (x:kA):Prop where
 lo:gu x.lo
 up:gu x.up
 ty:gu x.ty
 ex:fS x.ex
 ps:∀p∈x.ps,gu p.b/\dB p.n=true
 pl:x.ps.length<4294967296
 flags:(x.yB=true->x.exp=true)/\(x.note≠[]->x.yB=true)
 kind:(x.k=0/\dB x.n=true/\x.ex=qa/\x.m=[]/\x.tg=[]/\∀p∈x.ps,p.b=c1/\p.vr<=2)∨(x.k=1/\cM x.n=true/\x.lo=c1/\x.up=c1/\x.m=[]/\x.tg=[]/\∀p∈x.ps,p.vr=0)∨(x.k=2/\x.ps=[]/\x.lo=c1/\x.up=c1/\x.ty=c1/\x.ex=qa/\cM x.m=true/\(cM x.n=true∨dB x.n=true)/\(cM x.tg=true∨dB x.tg=true))
variable{d:List D}
theorem x5{p:mv}(m:EN p d)(e:∀c:Bool,(p.b=c1->c=false)->a (.ret (ct c)) g):b1 C b7 tV [.agg (d.map V.d)] g a:=by
 obtain⟨n,b,rfl⟩:=m;have o:∀{g:VS} {a:dC->VS->Prop},(∀c:Bool,(p.b=c1->c=true)->a (.ret (ct c)) g)->b1 C b7 iZ [.agg (n.map V.d)] g a:=fun{g} {a} e=>by
  by_cases q:p.b=c1
  ·rw[q]at b;exact q5 b (e true fun _=>Z)
  ·exact w7 b fun c=>e c fun l=>absurd l q
 obtain⟨u,r,s,t,f7,rfl⟩:=b.di;refine b1.closed (P:=TW (p.b=c1)) ?_ rfl (fun v ⟨c,k,l⟩=>by rw[l];exact e c k);refine cz ?_;refine o (fun c k=>?_);exact a7 0 ⟨Z,Z,_,fun l=>by rw[k l];rfl,rfl⟩
theorem x6{p:mv}(e:EN p d)(k:∀c:Bool,(p.vr<=2->c=false)->a (.ret (ct c)) g):b1 C b7 tW [.agg (d.map V.d)] g a:=by
 obtain⟨q,b,rfl⟩:=e;obtain⟨s,m,n,o,f7,rfl⟩:=b.di;refine b1.closed (P:=TW (p.vr<=2)) ?_ rfl (fun t ⟨c,l,r⟩=>by rw[r];exact k c l);refine cz ?_;exact a7 0 ⟨Z,Z,_,fun u=>decide_eq_false (by simp only[YM];omega),rfl⟩
theorem x7{p:mv}(e:EN p d)(k:∀c:Bool,(p.vr=0->c=false)->a (.ret (ct c)) g):b1 C b7 tX [.agg (d.map V.d)] g a:=by
 obtain⟨r,b,rfl⟩:=e;obtain⟨t,m,n,q,f7,rfl⟩:=b.di;refine b1.closed (P:=TW (p.vr=0)) ?_ rfl (fun u ⟨c,l,s⟩=>by rw[s];exact k c l);refine cz ?_;exact a7 0 ⟨Z,Z,_,fun o=>by rw[o];rfl,rfl⟩
theorem S0{p:mv}(k:EN p d)(b:dB p.n=true)(l:∀e:Bool,(True->e=false)->a (.ret (ct e)) g):b1 C b7 wq [.agg (d.map V.d)] g a:=by
 obtain⟨s,c,rfl⟩:=k;obtain⟨u,n,o,r,f7,rfl⟩:=c.di;refine b1.closed (P:=TW True) ?_ rfl (fun v ⟨e,m,t⟩=>by rw[t];exact l e m);have q:p.n.length<=32:=by
  simp only[dB,YR,decide_eq_true_eq]at b;exact b.1.1.2
 refine cz ?_;refine fk p.n om ?_;exact a7 0 ⟨Z,Z,_,fun _=>by rw[b];rfl,rfl⟩
theorem jT(n:ly qa d)(c:a (.ret (ct true)) g):b1 C b7 wo [.agg (d.map V.d)] g a:=by
 cases n with
 |mk l e b=>
  have k:=l.cV;subst k;rcases e.cV with rfl|⟨q,s,r,rfl⟩<;>rcases b.cV with rfl|⟨o,p,m,rfl⟩;all_goals
   refine cQ ?_ Z Z c;refine cz ?_;exact a7 0 ⟨Z,Z⟩
variable{j:kA}
theorem Bu(m:rL j d)(a:zc j):b1 C b7 o5 [.agg (d.map V.d)] [] fun ab R=>R=[]/\ab=.ret (ct true):=by
 obtain⟨ps,ao,aj,az,ay,f1,ak,ap,aB,al,f2,ag,ac,ae,av,f3,an,am,ar,aq,aw,t4,ah,d4,v,L,M,Y,N,rfl⟩:=iD m;have W:=a.flags;have Q:=a.kind;have w:=a.pl;have u:∀{B:VS} {O:dC->VS->Prop} {aA:Ty} {au ai ax ad af},aA=c1->gK aA (j2 au ai ax ad af)->O (.ret (ct true)) B->b1 C b7 iZ [.agg ((j2 au ai ax ad af).map V.d)] B O:=fun{B O aA au ai ax ad af} aD S b=>q5 (aD▸S) b;have f:b1 C b7 o5 [.agg ((mG j.k j.n j.exp j.yB j.note ps (j2 ao aj az ay f1) (j2 ak ap aB al f2) (j2 ag ac ae av f3) [.int .i64 (YL an),.str am,.str ar,.str aq,.int .i64 aw,t4,ah,d4] j.m j.tg).map V.d)] [] fun ab R=>R=[]/\ab=.ret (ct true):=by
  refine cz ?_;have i:j.yB=false->j.note=[]:=fun S=>by
   by_cases h:j.note=[]
   ·exact h
   ·exact absurd (W.2 h) (by rw[S];decide)
  apply aZ<;>intro K
  ·have aC:(!j.exp)=false:=by rw[W.1 K];rfl
   have g:(!j.yB)=false:=by rw[show j.yB=true from K];rfl
   repeat refine dX ?_
   apply aZ<;>intro aa
   ·repeat refine dX ?_
    refine hO (∀k∈j.ps,k.b=c1) Z (fun k c d m {B O} b=>x5 m (fun z n=>b z (fun I=>n (I k c)))) w v (fun P F=>?_);rcases Q with⟨b,y,s,x,l,e⟩|⟨b,y,p,q,x,l,e⟩|⟨b,e,p,q,H,s,x,y,l⟩
    ·have A:decide (YL j.k=0)=true:=by rw[b];rfl
     have t:P=false:=F fun k c=>(e k c).1;subst t;repeat refine dX ?_
     refine hO (∀k∈j.ps,k.vr<=2) Z (fun k c d m {B O} b=>x6 m (fun z n=>b z (fun I=>n (I k c)))) w v (fun E o=>?_);have r:E=false:=o fun k c=>(e k c).2;subst r;repeat refine dX ?_
     refine jT (s▸N) ?_;have G:decide (j.m=[])=true:=by rw[x];rfl
     repeat refine dX ?_
     exact a7 0 ⟨Z,by rw[l];rfl⟩
    ·have A:decide (YL j.k=0)=false:=by rw[b];rfl
     have t:decide (YL j.k=1)=true:=by rw[b];rfl
     repeat refine dX ?_
     refine hO (∀k∈j.ps,k.vr=0) Z (fun k c d m {B O} b=>x7 m (fun z n=>b z (fun I=>n (I k c)))) w v (fun E o=>?_);have r:E=false:=o fun k c=>e k c;subst r;repeat refine dX ?_
     refine u p L ?_;repeat refine dX ?_
     refine u q M ?_;have G:decide (j.m=[])=true:=by rw[x];rfl
     repeat refine dX ?_
     exact a7 0 ⟨Z,by rw[l];rfl⟩
    ·have A:decide (YL j.k=0)=false:=by rw[b];rfl
     have t:decide (YL j.k=1)=false:=by rw[b];rfl
     have X:decide (YL j.k=2)=true:=by rw[b];rfl
     have J:ps=.cn∨∃z T U,ps=.ps z T 7 U []:=by
      rw[e]at v;cases v with
      |nil=>exact .inl rfl
      |ps S=>cases S;exact .inr ⟨_,_,_,rfl⟩
     rcases J with rfl|⟨z,T,U,rfl⟩;all_goals
      repeat refine dX ?_
      refine u p L ?_;repeat refine dX ?_
      refine u q M ?_;repeat refine dX ?_
      refine u H Y ?_;repeat refine dX ?_
      refine jT (s▸N) ?_;exact a7 0 ⟨Z,Z⟩
   ·repeat refine dX ?_
    refine hO (∀k∈j.ps,k.b=c1) Z (fun k c d m {B O} b=>x5 m (fun z n=>b z (fun I=>n (I k c)))) w v (fun P F=>?_);rcases Q with⟨b,y,s,x,l,e⟩|⟨b,y,p,q,x,l,e⟩|⟨b,e,p,q,H,s,x,y,l⟩
    ·have A:decide (YL j.k=0)=true:=by rw[b];rfl
     have t:P=false:=F fun k c=>(e k c).1;subst t;repeat refine dX ?_
     refine hO (∀k∈j.ps,k.vr<=2) Z (fun k c d m {B O} b=>x6 m (fun z n=>b z (fun I=>n (I k c)))) w v (fun E o=>?_);have r:E=false:=o fun k c=>(e k c).2;subst r;repeat refine dX ?_
     refine jT (s▸N) ?_;have G:decide (j.m=[])=true:=by rw[x];rfl
     repeat refine dX ?_
     exact a7 0 ⟨Z,by rw[l];rfl⟩
    ·have A:decide (YL j.k=0)=false:=by rw[b];rfl
     have t:decide (YL j.k=1)=true:=by rw[b];rfl
     repeat refine dX ?_
     refine hO (∀k∈j.ps,k.vr=0) Z (fun k c d m {B O} b=>x7 m (fun z n=>b z (fun I=>n (I k c)))) w v (fun E o=>?_);have r:E=false:=o fun k c=>e k c;subst r;repeat refine dX ?_
     refine u p L ?_;repeat refine dX ?_
     refine u q M ?_;have G:decide (j.m=[])=true:=by rw[x];rfl
     repeat refine dX ?_
     exact a7 0 ⟨Z,by rw[l];rfl⟩
    ·have A:decide (YL j.k=0)=false:=by rw[b];rfl
     have t:decide (YL j.k=1)=false:=by rw[b];rfl
     have X:decide (YL j.k=2)=true:=by rw[b];rfl
     have J:ps=.cn∨∃z T U,ps=.ps z T 7 U []:=by
      rw[e]at v;cases v with
      |nil=>exact .inl rfl
      |ps S=>cases S;exact .inr ⟨_,_,_,rfl⟩
     rcases J with rfl|⟨z,T,U,rfl⟩;all_goals
      repeat refine dX ?_
      refine u p L ?_;repeat refine dX ?_
      refine u q M ?_;repeat refine dX ?_
      refine u H Y ?_;repeat refine dX ?_
      refine jT (s▸N) ?_;exact a7 0 ⟨Z,Z⟩
  ·have g:(!decide (j.note=[]))=false:=by rw[i K];rfl
   repeat refine dX ?_
   refine hO (∀k∈j.ps,k.b=c1) Z (fun k c d m {B O} b=>x5 m (fun z n=>b z (fun I=>n (I k c)))) w v (fun P F=>?_);rcases Q with⟨b,y,s,x,l,e⟩|⟨b,y,p,q,x,l,e⟩|⟨b,e,p,q,H,s,x,y,l⟩
   ·have A:decide (YL j.k=0)=true:=by rw[b];rfl
    have t:P=false:=F fun k c=>(e k c).1;subst t;repeat refine dX ?_
    refine hO (∀k∈j.ps,k.vr<=2) Z (fun k c d m {B O} b=>x6 m (fun z n=>b z (fun I=>n (I k c)))) w v (fun E o=>?_);have r:E=false:=o fun k c=>(e k c).2;subst r;repeat refine dX ?_
    refine jT (s▸N) ?_;have G:decide (j.m=[])=true:=by rw[x];rfl
    repeat refine dX ?_
    exact a7 0 ⟨Z,by rw[l];rfl⟩
   ·have A:decide (YL j.k=0)=false:=by rw[b];rfl
    have t:decide (YL j.k=1)=true:=by rw[b];rfl
    repeat refine dX ?_
    refine hO (∀k∈j.ps,k.vr=0) Z (fun k c d m {B O} b=>x7 m (fun z n=>b z (fun I=>n (I k c)))) w v (fun E o=>?_);have r:E=false:=o fun k c=>e k c;subst r;repeat refine dX ?_
    refine u p L ?_;repeat refine dX ?_
    refine u q M ?_;have G:decide (j.m=[])=true:=by rw[x];rfl
    repeat refine dX ?_
    exact a7 0 ⟨Z,by rw[l];rfl⟩
   ·have A:decide (YL j.k=0)=false:=by rw[b];rfl
    have t:decide (YL j.k=1)=false:=by rw[b];rfl
    have X:decide (YL j.k=2)=true:=by rw[b];rfl
    have J:ps=.cn∨∃z T U,ps=.ps z T 7 U []:=by
     rw[e]at v;cases v with
     |nil=>exact .inl rfl
     |ps S=>cases S;exact .inr ⟨_,_,_,rfl⟩
    rcases J with rfl|⟨z,T,U,rfl⟩;all_goals
     repeat refine dX ?_
     refine u p L ?_;repeat refine dX ?_
     refine u q M ?_;repeat refine dX ?_
     refine u H Y ?_;repeat refine dX ?_
     refine jT (s▸N) ?_;exact a7 0 ⟨Z,Z⟩
 exact f
def jd(b:kA):Bool:=if b.k=2 then(cM b.n&&cM b.tg)||(dB b.n&&dB b.tg)else true
variable{h:List UInt8}
theorem x8(b:dB h=true):h.length<=32:=by
 simp only[dB,YR,decide_eq_true_eq]at b;exact b.1.1.2
theorem x9(b:cM h=true):h.length<=32:=by
 simp only[cM,YR,decide_eq_true_eq]at b;exact b.1.1.1.2
theorem E6(w:rL j d)(y:zc j):b1 C b7 yV [.agg (d.map V.d)] [] fun N H=>H=[]/\N=.ret (ct (jd j)):=by
 obtain⟨T,M,i,ae,ac,f1,ab,O,ag,ad,f2,U,P,R,a,f3,X,af,S,Q,g,t4,h,d4,s,x,o,n,Y,rfl⟩:=iD w;have E:=y.kind;have A:=y.pl;have I:=y.ps;refine cz ?_;refine hO True Z (fun f K d w {aa ai} l=>S0 w (I f K).2 l) A s (fun W B=>?_);have G:=B trivial;subst G;rcases E with⟨l,k,_⟩|⟨l,k,_⟩|⟨l,_,_,_,_,_,r,k,F⟩
 ·have v:decide (YL j.k=0)=true:=by rw[l];rfl
  have c:jd j=true:=by rw[jd,if_neg om]
  repeat refine dX ?_
  refine fk j.n (by have:=x8 k;omega) ?_;exact a7 0 ⟨Z,by rw[k,c];rfl⟩
 ·have v:decide (YL j.k=0)=false:=by rw[l];rfl
  have J:decide (YL j.k=1)=true:=by rw[l];rfl
  have c:jd j=true:=by rw[jd,if_neg om]
  repeat refine dX ?_
  refine fV j.n (by have:=x9 k;omega) ?_;exact a7 0 ⟨Z,by rw[k,c];rfl⟩
 ·have v:decide (YL j.k=0)=false:=by rw[l];rfl
  have J:decide (YL j.k=1)=false:=by rw[l];rfl
  have c:jd j=((cM j.n&&cM j.tg)||(dB j.n&&dB j.tg)):=by rw[jd,if_pos l]
  have q:j.n.length<4294967296:=k.elim (fun z=>by have:=x9 z;omega) (fun z=>by have:=x8 z;omega);have p:j.tg.length<4294967296:=F.elim (fun z=>by have:=x9 z;omega) (fun z=>by have:=x8 z;omega);repeat refine dX ?_
  refine fV j.n q ?_;have L:(!decide (j.m=[]))=true:=by
   have:j.m≠[]:=by rintro ah;rw[ah]at r;revert r;decide
   rw[decide_eq_false this];rfl
  apply aZ<;>intro s
  ·have u:cM j.n=true:=s;repeat refine dX ?_
   refine fV j.tg p ?_;repeat refine dX ?_
   apply aZ<;>intro x
   ·have t:cM j.tg=true:=x;have m:jd j=true:=by rw[c,u,t];rfl
    repeat refine dX ?_
    refine hC j.m (.inr r) ?_;repeat refine dX ?_
    exact a7 0 ⟨Z,by rw[m];rfl⟩
   ·have t:cM j.tg=false:=x;repeat refine dX ?_
    refine fk j.n q ?_;repeat refine dX ?_
    apply aZ<;>intro o
    ·have e:dB j.n=true:=o;repeat refine dX ?_
     refine fk j.tg p ?_;repeat refine dX ?_
     apply aZ<;>intro n
     ·have b:dB j.tg=true:=n;have m:jd j=true:=by rw[c,e,b];simp
      repeat refine dX ?_
      refine hC j.m (.inr r) ?_;repeat refine dX ?_
      exact a7 0 ⟨Z,by rw[m];rfl⟩
     ·have b:dB j.tg=false:=n;repeat refine dX ?_
      exact a7 0 ⟨Z,by rw[c,b];simp[*];rfl⟩
    ·have e:dB j.n=false:=o;repeat refine dX ?_
     exact a7 0 ⟨Z,by rw[c,e];simp[*];rfl⟩
  ·have u:cM j.n=false:=s;repeat refine dX ?_
   refine fk j.n q ?_;repeat refine dX ?_
   apply aZ<;>intro o
   ·have e:dB j.n=true:=o;repeat refine dX ?_
    refine fk j.tg p ?_;repeat refine dX ?_
    apply aZ<;>intro n
    ·have b:dB j.tg=true:=n;have m:jd j=true:=by rw[c,e,b];simp
     repeat refine dX ?_
     refine hC j.m (.inr r) ?_;repeat refine dX ?_
     exact a7 0 ⟨Z,by rw[m];rfl⟩
    ·have b:dB j.tg=false:=n;repeat refine dX ?_
     exact a7 0 ⟨Z,by rw[c,b];simp[*];rfl⟩
   ·have e:dB j.n=false:=o;repeat refine dX ?_
    exact a7 0 ⟨Z,by rw[c,e];simp[*];rfl⟩
def sY(c b:kA):Bool:=decide (b.n=c.n)
theorem HI{d0:List D}(v:rL j d0){l:List kA}(x:nn l f)(aC:l.length<4294967296)(b o c:Nat):b1 C b7 ia [.d (.ps b o 31 c f),.fn iJ [] [.bp 0 0]] [.box (d0.map V.d)] fun X y=>∃m,y=[.box m]/\cN X=true/\e5 0 m=true/\(X=.ret (ct (l.any (sY j)))/\m=d0.map V.d):=by
 have p:=x.len;obtain⟨E,N,H,U,T,f1,J,O,W,K,f2,F,A,B,R,f3,M,L,Q,P,S,t4,G,d4,r,aA,aD,aB,aF,rfl⟩:=iD v;have q:=pc 0 (mG j.k j.n j.exp j.yB j.note E (j2 N H U T f1) (j2 J O W K f2) (j2 F A B R f3) [.int .i64 (YL M),.str L,.str Q,.str P,.int .i64 S,t4,G,d4] j.m j.tg);refine cz ?_;refine b9 ?_;refine cl.less (eW:=[(0,.d (.ps b o 31 c f)),(1,.fn iJ [] [.bp 0 0]),(7,b3 f.length),(8,b3 0)]) ⟨Z,Z,Z,Z,tv⟩ ?_;refine cl.iter (fun k:Nat=>[(0,.d (.ps b o 31 c f)),(1,.fn iJ [] [.bp 0 0]),(7,b3 f.length),(8,b3 k)]) (fun _=>_) (fun k=>l.length-k) (fun k=>k<=l.length/\(l.take k).any (sY j)=false) ?_ 0 ⟨YP _,Z⟩;rintro k ⟨aE,s⟩;apply aZ<;>intro av
 ·have e:k<l.length:=p▸fF av;obtain⟨aG,I,n⟩:=x.get e;obtain⟨z,t⟩:∃z,z=l[k]:=⟨_,rfl⟩;have u:z∈l:=t▸YO e;rw[<-t]at n;obtain⟨aa,an,ai,ad,ak,ar,aj,ap,ag,i,au,Y,am,al,a,ax,ao,az,af,aw,g,ae,ac,ay,aq,h,ab,ah,d,rfl⟩:=iD n;have w:=(cv f k).trans I;refine b0 Z ?_;refine b4 _ w ?_;refine b9 ?_;apply aZ<;>intro r
  ·refine a7 1 ⟨_,Z,Z,q,?_,Z⟩;rw[List.any_eq_true.2 ⟨z,u,r⟩];rfl
  ·refine⟨k+1,⟨e,?_⟩,by show l.length-(k+1)<l.length-k;omega,.pick 1 [0] ⟨rfl,rfl,rfl,int_eq (cp om),tv⟩ rfl rfl rfl rfl rfl dc ⟨rfl,rfl,tv⟩,rfl,rfl⟩;rw[List.take_add_one,YN e,List.any_append,s,<-t];simp only[Option.toList,List.any_cons,List.any_nil,Bool.or_false,Bool.false_or,sY];exact r
 ·have e:l.length<=k:=p▸dR av;rw[YV e]at s;refine a7 1 ⟨_,Z,Z,q,?_,Z⟩;rw[s];rfl
theorem J8{r:kA}{d0:List D}(n:rL r d0){p:List kA}{k:List (List D)}(q:nn p k)(v:p.length<4294967296)(b o c t:Nat){m:VS}{x:dC->VS->Prop}(l:nth m t=some (.box (d0.map V.d)))(s:x (.ret (ct (p.any (sY r)))) m):b1 C b7 ia [.d (.ps b o 31 c k),.fn iJ [] [.bp t 0]] m x:=
 b1.one (dN:=[.d (.ps b o 31 c k),.fn iJ [] [.bp 0 0]]) (P:=fun y u=>y=.ret (ct (p.any (sY r)))/\u=d0.map V.d) (HI n q v b o c) t l (pc 0 d0) rfl rfl (fun y z ⟨e,w⟩=>by rw[e,w,sE l];exact s)
end Go.Proofs.YtpejealjkmhkgaaGreatDoor
