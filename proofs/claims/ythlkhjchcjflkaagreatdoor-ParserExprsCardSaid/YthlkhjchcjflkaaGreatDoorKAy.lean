/- Part of the proof. -/
import Derived.Test.YthlkhjchcjflkaaGreatDoorKAx
set_option linter.all false
set_option maxHeartbeats 16000000
set_option maxRecDepth 100000
open Int renaming ofNat->Yl,ofNat_eq_natCast->Yq
open List renaming getElem_mem->Ym,getElem?_eq_getElem->Yp,mem_map_of_mem->Yr
open Nat renaming zero_le->Yn,le_refl->Yo
namespace Go.Proofs.YthlkhjchcjflkaaGreatDoor
open Go.AM Go.VM
theorem mq(b:Nat):(!decide (Yl b=Yl b))=false:=by simp
theorem lg(b:Bool):(!decide (b=b))=false:=by simp
theorem kD(b:List UInt8):(!decide (b=b))=false:=by simp
theorem qZ(n:Nat)(U:∀(X:Ty) (R w:List D),di X<=n->hU X R->hU X w->∀{σ:VS} {K:cZ->VS->Prop},K (.ret (b0 true)) σ->b3 C cn gq [.agg (R.map V.d),.agg (w.map V.d)] σ K) 
  (l:List Ty) (h G:D) (o:cL l<=n) (aa:n<4294967295) (W:fK l h) (u:fK l G) {σ:VS} {K:cZ->VS->Prop} (B:K (.ret (b0 true)) σ):b3 C cn nl [.d h,.d G] σ K:=by
 refine cA ?_;have e:=fu l;cases W with
 |nil=>
  cases u with
  |ps L i=>cases L;exact absurd rfl i
  |nil=>
   refine b5.loop ?_;exact B
 |ps L i=>
  cases u with
  |nil=>cases L;exact absurd rfl i
  |ps E c=>
   rename_i k j s f z J q b;have x:=L.len;have Q:=E.len;have Y:(!decide (Yl f.length=Yl b.length))=false:=by rw[x,Q];exact mq _
   refine a1 Y ?_;refine b5.less (eh:=[(0,.d (.ps k j 5 s f)),(1,.d (.ps z J 5 q b)),(5,b6 0)]) ⟨Z,Z,Z,tv⟩ ?_;refine b5.iter (fun g:Nat=>[(0,.d (.ps k j 5 s f)),(1,.d (.ps z J 5 q b)),(5,b6 g)]) (fun _=>σ) (fun g=>l.length-g) (fun g=>g<=l.length) ?_ 0 (Yn _);intro g p;apply aZ<;>intro H
   ·have d:g<l.length:=x▸fq H;obtain⟨R,S,t⟩:=L.get d;obtain⟨w,y,r⟩:=E.get d;have m:=gG (Ym d);obtain⟨T,M,F,a,f2,rfl⟩:=t.eG;obtain⟨O,N,A,P,f3,rfl⟩:=r.eG;have I:nth f g=some [.int .i64 (Yl T),.str M,.str F,a,f2]:=by rw[cz];exact S
    have v:nth b g=some [.int .i64 (Yl O),.str N,.str A,P,f3]:=by rw[cz];exact y
    repeat first|refine bZ rfl ?_|refine b7 _ I ?_|refine b7 _ v ?_
    repeat refine b4 ?_
    refine U l[g] _ _ om t r ?_;repeat refine b4 ?_
    refine⟨g+1,d,by show l.length-(g+1)<l.length-g;omega,.same ⟨rfl,rfl,int_eq (cq om),tv⟩ rfl,rfl,rfl⟩
   ·have d:l.length<=g:=x▸dM H;exact B
theorem Ny(n:Nat)(z:∀(t:Ty) (T y:List D),di t<=n->hU t T->hU t y->∀{O:VS} {aj:cZ->VS->Prop},aj (.ret (b0 true)) O->b3 C cn gq [.agg (T.map V.d),.agg (y.map V.d)] O aj) 
  (t:Ty) (T y:List D) (Y:di t<=n+1) (aB:n+1<4294967295) (k:hU t T) (P:hU t y):b3 C cn gq [.agg (T.map V.d),.agg (y.map V.d)] [] fun ao U=>U=[]/\ao=.ret (b0 true):=by
 cases k with
 |mk F p=>
  rename_i al ag L d b M aE;cases P with
  |mk w G=>
   rename_i x ar;have ad:cL d+rI b<=n:=by simp only[di]at Y;omega
   have am:=qR b;have ah:b.length<=cL (fI b):=by have:=fu (fI b);rwa[show(fI b).length=b.length from by simp[fI]]at this
   refine cB ?_;repeat first|refine a1 (mq _) ?_|refine a1 (kD _) ?_|refine a1 (lg _) ?_
   cases p with
   |nil=>
    cases G with
    |nil=>
     repeat first|refine a1 (mq _) ?_|refine a1 (kD _) ?_|refine a1 (lg _) ?_
     refine b5.loop ?_;refine qZ n z d M x om om F w ?_;refine a6 0 ⟨Z,Z⟩
    |ps E=>
     cases E;repeat first|refine a1 (mq _) ?_|refine a1 (kD _) ?_|refine a1 (lg _) ?_
     refine b5.loop ?_;refine qZ n z d M x om om F w ?_;refine a6 0 ⟨Z,Z⟩
   |ps ac=>
    cases G with
    |nil=>
     cases ac;repeat first|refine a1 (mq _) ?_|refine a1 (kD _) ?_|refine a1 (lg _) ?_
     refine b5.loop ?_;refine qZ n z d M x om om F w ?_;refine a6 0 ⟨Z,Z⟩
    |ps E=>
     rename_i aA ap S A m ab K g;have J:=ac.len;have c:=E.len;have h:(!decide (Yl A.length=Yl g.length))=false:=by rw[J,c];exact mq _
     repeat first|refine a1 (mq _) ?_|refine a1 (kD _) ?_|refine a1 h ?_
     refine b5.less (eh:=[(2,.bp 0 0),(3,.bp 1 0),(5,b6 0)]) ⟨Z,Z,Z,tv⟩ ?_;refine b5.iter (fun i:Nat=>[(2,.bp 0 0),(3,.bp 1 0),(5,b6 i)]) (fun _=>[.box (rK al ag L M (.ps aA ap 7 S A)),.box (rK al ag L x (.ps m ab 7 K g))]) (fun i=>b.length-i) (fun i=>i<=b.length) ?_ 0 (Yn _);intro i au;apply aZ<;>intro Q
     ·have f:i<b.length:=J▸fq Q;obtain⟨ak,e,u,v,I⟩:=ac.get f;obtain⟨ae,aa,s,q,H⟩:=E.get f;have r:nth A i=some (fe ak):=by rw[cz];exact e
      have l:nth g i=some (fe ae):=by rw[cz];exact aa
      have B:di b[i].2.1<=cL (fI b):=gG (Yr (Ym f));generalize b[i]=an at u v I s q H B;obtain⟨X,aC,aq,af,ax,az,j⟩:=ak;obtain⟨o,av,aw,ai,aD,ay,a⟩:=ae;obtain⟨W,N,R⟩:=an;have u:W=X:=u;have s:W=o:=s;have v:R=j:=v;have q:R=a:=q;have B:di N<=cL (fI b):=B;subst u s v q;repeat first|refine bZ rfl ?_|refine b7 _ r ?_|refine b7 _ l ?_|refine a1 (kD _) ?_|refine a1 (lg _) ?_
      repeat refine a7 (by repeat' (first|exact tv|exact rfl|refine bZ rfl ?_|refine bZ rfl ?_|refine b7 _ r ?_|refine b7 _ l ?_|refine a1 (kD _) ?_|refine a1 (lg _) ?_|refine And.intro ?_ ?_)) ?_
      repeat first|refine a1 (mq _) ?_|refine a1 (kD _) ?_|refine a1 (lg _) ?_
      refine z N _ _ om I H ?_;repeat refine a7 (by repeat' (first|exact tv|exact rfl|refine bZ rfl ?_|refine bZ rfl ?_|refine b7 _ r ?_|refine b7 _ l ?_|refine a1 (kD _) ?_|refine a1 (lg _) ?_|refine And.intro ?_ ?_)) ?_
      repeat first|refine a1 (mq _) ?_|refine a1 (kD _) ?_|refine a1 (lg _) ?_
      repeat refine a7 (by repeat' (first|exact tv|exact rfl|refine bZ rfl ?_|refine bZ rfl ?_|refine b7 _ r ?_|refine b7 _ l ?_|refine a1 (kD _) ?_|refine a1 (lg _) ?_|refine And.intro ?_ ?_)) ?_
      repeat first|refine a1 (mq _) ?_|refine a1 (kD _) ?_|refine a1 (lg _) ?_
      refine⟨i+1,f,by show b.length-(i+1)<b.length-i;omega,.same ⟨rfl,rfl,int_eq (cq om),tv⟩ rfl,rfl,rfl⟩
     ·have f:b.length<=i:=J▸dM Q;refine qZ n z d M x om om F w ?_;refine a6 0 ⟨Z,Z⟩
theorem tA:∀(l:Nat) (d:Ty) (g b:List D),l<4294967295->di d<=l->hU d g->hU d b->∀{i:VS} {q:cZ->VS->Prop},q (.ret (b0 true)) i->b3 C cn gq [.agg (g.map V.d),.agg (b.map V.d)] i q:=by
 intro l;induction l with
 |zero=>intro d g b _ y;have:=kq d;omega
 |succ l x=>
  intro d g b w y n f i q t;have s:=Ny l (fun d g b u r v=>x d g b om u r v) d g b y w n f;obtain⟨J,K,A,H,I,rfl⟩:=n.eG;obtain⟨E,G,z,B,F,rfl⟩:=f.eG;exact cN s Z Z t
variable{e m o:D}
theorem eV.ye(b:eV [] e):e=.cC∨∃d g f,e=.ps d g 8 f []:=by
 cases b with
 |nil=>exact .inl rfl
 |ps b=>cases b;exact .inr ⟨_,_,_,rfl⟩
theorem fM.ye(b:fM [] e):e=.cC∨∃d g f,e=.ps d g 8 f []:=by
 cases b with
 |nil=>exact .inl rfl
 |ps b=>cases b;exact .inr ⟨_,_,_,rfl⟩
variable{k p:Ex}
theorem fM.Kt(d:fM [k] e):∃f i g b,e=.ps f i 8 g [b]:=d.one
theorem fM.Xj(b:fM [k,p] e):∃f i g d l,e=.ps f i 8 g [d,l]:=by
 cases b with|ps b=>cases b with|cons _ b=>cases b with|cons _ b=>cases b;exact⟨_,_,_,_,_,rfl⟩
theorem fM.Uq{g:Ex}(b:fM [k,p,g] e):∃i n l d q f,e=.ps i n 8 l [d,q,f]:=by
 cases b with|ps b=>cases b with|cons _ b=>cases b with|cons _ b=>cases b with|cons _ b=>cases b;exact⟨_,_,_,_,_,_,rfl⟩
theorem fK.Kt{t:Ty}(b:fK [t] e):∃f i g d,e=.ps f i 5 g [d]:=by
 cases b with|ps b _=>cases b with|cons _ b=>cases b;exact⟨_,_,_,_,rfl⟩
variable{a:List iB} {h:Nat} {c:List Ex} {j:Int}
theorem BF{ag n af:List UInt8}{types:List Ty}(R:gh (.mk h ag n af j types a c))(w:fK types e)(v:eV a m)(s:fM c o)(ac:a.length<4294967296):
  b3 C cn lQ [Pd h ag n af j e m o,.agg (ql h (Yl c.length))] [] fun ah Y=>Y=[]/\ah=.ret (b0 false):=by
 cases R with
 |int|text|loc=>
  obtain rfl:=w.cT;rcases v.ye with rfl|⟨B,A,E,rfl⟩<;>rcases s.ye with rfl|⟨q,i,l,rfl⟩;all_goals
   refine cB ?_;refine b5.loop ?_;exact a6 0 ⟨Z,Z⟩
 |bool=>
  rename_i p;obtain rfl:=w.cT;rcases v.ye with rfl|⟨B,A,E,rfl⟩<;>rcases s.ye with rfl|⟨q,i,l,rfl⟩<;>cases p;all_goals
   refine cB ?_;refine b5.loop ?_;exact a6 0 ⟨Z,Z⟩
 |val aj ai z ak=>
  rcases w.inv with⟨_,rfl⟩|⟨L,M,N,aa,rfl,_⟩<;>rcases v.ye with rfl|⟨B,A,E,rfl⟩<;>rcases s.ye with rfl|⟨q,i,l,rfl⟩;all_goals
   refine cB ?_;refine b5.loop ?_;exact a6 0 ⟨Z,Z⟩
 |Rh|inj|one=>
  obtain rfl:=w.cT;obtain⟨q,i,l,d2,rfl⟩:=s.Kt;rcases v.ye with rfl|⟨B,A,E,rfl⟩;all_goals
   refine cB ?_;refine b5.loop ?_;exact a6 0 ⟨Z,Z⟩
 |Ri|two=>
  obtain rfl:=w.cT;obtain⟨q,i,l,d2,ad,rfl⟩:=s.Xj;rcases v.ye with rfl|⟨B,A,E,rfl⟩;all_goals
   refine cB ?_;refine b5.loop ?_;exact a6 0 ⟨Z,Z⟩
 |V9=>
  obtain⟨L,M,N,d3,rfl⟩:=w.Kt;obtain⟨q,i,l,d2,rfl⟩:=s.Kt;rcases v.ye with rfl|⟨B,A,E,rfl⟩;all_goals
   refine cB ?_;refine b5.loop ?_;exact a6 0 ⟨Z,Z⟩
 |cond|fold=>
  obtain⟨L,M,N,d3,rfl⟩:=w.Kt;obtain⟨q,i,l,d2,ad,f2,rfl⟩:=s.Uq;rcases v.ye with rfl|⟨B,A,E,rfl⟩;all_goals
   refine cB ?_;refine b5.loop ?_;exact a6 0 ⟨Z,Z⟩
 |Wa=>
  obtain⟨L,M,N,d3,rfl⟩:=w.Kt;rcases v.ye with rfl|⟨B,A,E,rfl⟩<;>rcases s.inv with⟨_,rfl⟩|⟨q,i,l,b,rfl,_⟩;all_goals
   refine cB ?_;refine b5.loop ?_;exact a6 0 ⟨Z,Z⟩
 |O3 z G=>
  obtain rfl:=w.cT;have H:∀b:List (List D),b.length=c.length->(!decide (Yl b.length=Yl c.length))=false:=fun b R=>by rw[R];exact mq _
  rcases s.inv with⟨rfl,rfl⟩|⟨q,i,l,b,rfl,I⟩
  ·obtain rfl:=List.eq_nil_of_length_eq_zero (G.symm.trans rfl);rcases v.ye with rfl|⟨B,A,E,rfl⟩;all_goals
    refine cB ?_;refine b5.loop ?_;exact a6 0 ⟨Z,Z⟩
  ·have O:=H b I.len;rcases v.inv with⟨rfl,rfl⟩|⟨B,A,E,u,rfl,y⟩
   ·refine cB ?_;repeat refine e4 ?_
    refine b5.loop ?_;exact a6 0 ⟨Z,Z⟩
   ·refine cB ?_;repeat refine e4 ?_
    have x:=y.len;refine cw (eh:=[(2,.bp 0 0),(3,.bp 1 0),(5,b6 0)]) (fN:=[.box (kt 5 [] [] [] 0 .cC (.ps B A 8 E u) (.ps q i 8 l b)),.box (ql 5 (Yl c.length))]) (.same ⟨Z,Z,Z,tv⟩ Z) ?_;refine b5.iter (fun d:Nat=>[(2,.bp 0 0),(3,.bp 1 0),(5,b6 d)]) (fun _=>[.box (kt 5 [] [] [] 0 .cC (.ps B A 8 E u) (.ps q i 8 l b)),.box (ql 5 (Yl c.length))]) (fun d=>a.length-d) (fun d=>d<=a.length) ?_ 0 (Yn _);intro d V;apply aZ<;>intro K;rotate_left
    ·exact a6 0 ⟨Z,Z⟩
    ·have f:d<a.length:=x▸fq K;obtain⟨ae,J,g⟩:=y.get f;obtain⟨S,W,tn,T,U,rfl⟩:=g.eG;have r:a[d]∈a:=Ym f;refine bZ Z ?_;refine b7 _ (by rw[cz];exact J) ?_;have F:a[d].v=[]:=by have:=z.var _ r;rwa[if_neg dc]at this
     have t:=z.ty _ r;rw[if_neg dc]at t;rw[t.1]at g;have X:(!decide (a[d].v=[]))=false:=by rw[F];rfl
     have k:a[d].oa=false:=t.2;repeat refine e4 ?_
     refine tA 100 eM _ _ dc dc g (.mk .nil .nil) ?_;repeat refine e4 ?_
     exact⟨d+1,f,by show a.length-(d+1)<a.length-d;omega,.drop 2 ⟨rfl,rfl,int_eq (cq om),tv⟩ rfl rfl rfl rfl rfl rfl rfl,rfl,rfl⟩
 |func z G=>
  obtain rfl:=w.cT;have H:∀b:List (List D),b.length=c.length->(!decide (Yl b.length=Yl c.length))=false:=fun b R=>by rw[R];exact mq _
  rcases s.inv with⟨rfl,rfl⟩|⟨q,i,l,b,rfl,I⟩
  ·exact absurd G sm
  ·have O:=H b I.len;rcases v.inv with⟨rfl,rfl⟩|⟨B,A,E,u,rfl,y⟩
   ·refine cB ?_;repeat refine e4 ?_
    refine b5.loop ?_;exact a6 0 ⟨Z,Z⟩
   ·refine cB ?_;repeat refine e4 ?_
    have x:=y.len;refine cw (eh:=[(2,.bp 0 0),(3,.bp 1 0),(5,b6 0)]) (fN:=[.box (kt 8 [] [] [] 0 .cC (.ps B A 8 E u) (.ps q i 8 l b)),.box (ql 8 (Yl c.length))]) (.same ⟨Z,Z,Z,tv⟩ Z) ?_;refine b5.iter (fun d:Nat=>[(2,.bp 0 0),(3,.bp 1 0),(5,b6 d)]) (fun _=>[.box (kt 8 [] [] [] 0 .cC (.ps B A 8 E u) (.ps q i 8 l b)),.box (ql 8 (Yl c.length))]) (fun d=>a.length-d) (fun d=>d<=a.length) ?_ 0 (Yn _);intro d V;apply aZ<;>intro K;rotate_left
    ·exact a6 0 ⟨Z,Z⟩
    ·have f:d<a.length:=x▸fq K;obtain⟨ae,J,g⟩:=y.get f;obtain⟨S,W,tn,T,U,rfl⟩:=g.eG;have r:a[d]∈a:=Ym f;refine bZ Z ?_;refine b7 _ (by rw[cz];exact J) ?_;have F:a[d].v=[]:=by have:=z.var _ r;rwa[if_neg dc]at this
     have X:(!decide (a[d].v=[]))=false:=by rw[F];rfl
     repeat refine e4 ?_
     exact⟨d+1,f,by show a.length-(d+1)<a.length-d;omega,.drop 2 ⟨rfl,rfl,int_eq (cq om),tv⟩ rfl rfl rfl rfl rfl rfl rfl,rfl,rfl⟩
 |call z G=>
  obtain rfl:=w.cT;have H:∀b:List (List D),b.length=c.length->(!decide (Yl b.length=Yl c.length))=false:=fun b R=>by rw[R];exact mq _
  rcases s.inv with⟨rfl,rfl⟩|⟨q,i,l,b,rfl,I⟩
  ·exact absurd G sm
  ·have O:=H b I.len;rcases v.inv with⟨rfl,rfl⟩|⟨B,A,E,u,rfl,y⟩
   ·refine cB ?_;repeat refine e4 ?_
    refine b5.loop ?_;exact a6 0 ⟨Z,Z⟩
   ·refine cB ?_;repeat refine e4 ?_
    have x:=y.len;refine cw (eh:=[(2,.bp 0 0),(3,.bp 1 0),(5,b6 0)]) (fN:=[.box (kt 9 [] [] [] 0 .cC (.ps B A 8 E u) (.ps q i 8 l b)),.box (ql 9 (Yl c.length))]) (.same ⟨Z,Z,Z,tv⟩ Z) ?_;refine b5.iter (fun d:Nat=>[(2,.bp 0 0),(3,.bp 1 0),(5,b6 d)]) (fun _=>[.box (kt 9 [] [] [] 0 .cC (.ps B A 8 E u) (.ps q i 8 l b)),.box (ql 9 (Yl c.length))]) (fun d=>a.length-d) (fun d=>d<=a.length) ?_ 0 (Yn _);intro d V;apply aZ<;>intro K;rotate_left
    ·exact a6 0 ⟨Z,Z⟩
    ·have f:d<a.length:=x▸fq K;obtain⟨ae,J,g⟩:=y.get f;obtain⟨S,W,tn,T,U,rfl⟩:=g.eG;have r:a[d]∈a:=Ym f;refine bZ Z ?_;refine b7 _ (by rw[cz];exact J) ?_;have F:a[d].v=[]:=by have:=z.var _ r;rwa[if_neg dc]at this
     have X:(!decide (a[d].v=[]))=false:=by rw[F];rfl
     have t:=z.ty _ r;rw[if_neg dc]at t;rw[t.1]at g;have k:a[d].oa=false:=t.2;repeat refine e4 ?_
     refine tA 100 eM _ _ dc dc g (.mk .nil .nil) ?_;repeat refine e4 ?_
     exact⟨d+1,f,by show a.length-(d+1)<a.length-d;omega,.drop 2 ⟨rfl,rfl,int_eq (cq om),tv⟩ rfl rfl rfl rfl rfl rfl rfl,rfl,rfl⟩
 |Uu ab z G=>
  obtain⟨L,M,N,d3,rfl⟩:=w.Kt;have H:∀b:List (List D),b.length=c.length->(!decide (Yl b.length=Yl c.length))=false:=fun b R=>by rw[R];exact mq _
  rcases s.inv with⟨rfl,rfl⟩|⟨q,i,l,b,rfl,I⟩
  ·exact absurd G sm
  ·have O:=H b I.len;rcases v.inv with⟨rfl,rfl⟩|⟨B,A,E,u,rfl,y⟩
   ·refine cB ?_;repeat refine e4 ?_
    refine b5.loop ?_;exact a6 0 ⟨Z,Z⟩
   ·refine cB ?_;repeat refine e4 ?_
    have x:=y.len;refine cw (eh:=[(2,.bp 0 0),(3,.bp 1 0),(5,b6 0)]) (fN:=[.box (kt 13 [] [] [] 0 (.ps L M 5 N [d3]) (.ps B A 8 E u) (.ps q i 8 l b)),.box (ql 13 (Yl c.length))]) (.same ⟨Z,Z,Z,tv⟩ Z) ?_;refine b5.iter (fun d:Nat=>[(2,.bp 0 0),(3,.bp 1 0),(5,b6 d)]) (fun _=>[.box (kt 13 [] [] [] 0 (.ps L M 5 N [d3]) (.ps B A 8 E u) (.ps q i 8 l b)),.box (ql 13 (Yl c.length))]) (fun d=>a.length-d) (fun d=>d<=a.length) ?_ 0 (Yn _);intro d V;apply aZ<;>intro K;rotate_left
    ·exact a6 0 ⟨Z,Z⟩
    ·have f:d<a.length:=x▸fq K;obtain⟨ae,J,g⟩:=y.get f;obtain⟨S,W,tn,T,U,rfl⟩:=g.eG;have r:a[d]∈a:=Ym f;refine bZ Z ?_;refine b7 _ (by rw[cz];exact J) ?_;have t:=z.ty _ r;rw[if_neg dc]at t;rw[t.1]at g;have k:a[d].oa=false:=t.2;repeat refine e4 ?_
     refine tA 100 eM _ _ dc dc g (.mk .nil .nil) ?_;repeat refine e4 ?_
     exact⟨d+1,f,by show a.length-(d+1)<a.length-d;omega,.drop 2 ⟨rfl,rfl,int_eq (cq om),tv⟩ rfl rfl rfl rfl rfl rfl rfl,rfl,rfl⟩
theorem Fy{l n g:List UInt8}{types:List Ty}(i:gh (.mk h l n g j types a c))(f:eV a m)(b:a.length<4294967296){σ:VS}{K:cZ->VS->Prop}(d:K (.ret (.dN [.agg (ql h (Yl c.length)),b0 true])) σ):b3 C cn mm [Pd h l n g j e m o] σ K:=
 cN (CI i f b) rfl (by cases i<;>rfl) d
theorem CJ{r n l:List UInt8}{types:List Ty}(q:gh (.mk h r n l j types a c))(i:fK types e)(g:eV a m)(d:fM c o)(b:a.length<4294967296){σ:VS}{K:cZ->VS->Prop}(f:K (.ret (b0 false)) σ):b3 C cn lQ [Pd h r n l j e m o,.agg (ql h (Yl c.length))] σ K:=
 cN (BF q i g d b) (by cases q<;>rfl) rfl f
def VU:Nat->Bool:=fun b=>Nat.beq b 1000006||Nat.beq b 1000008||Nat.beq b 1000019||Nat.beq b 1000021
def vG:Tm:=[(1,.bp 0 0),(3,.bp 1 0)]
theorem Xk(s:Nat)(b:Int):∃g d n r q f l i t,ql s b=[b0 g,b0 d,b0 n,b0 r,b0 q,b0 f,b0 l,.d (.int .i64 t),b0 i]:=by
 unfold ql;split<;>exact⟨_,_,_,_,_,_,_,_,_,rfl⟩
theorem FA{F n B:List UInt8}{types:List Ty}(V:gh (.mk h F n B j types a c))(W:fK types e)(R:eV a m)(U:fM c o)(al:types.length+a.length<4294967296)(X:cL (l4 (.mk h F n B j types a c))<4294967295):
  b3 C cn lj [Pd h F n B j e m o] [] fun bi aG=>aG=[]/\bi=.ret (b6 (nT (.mk h F n B j types a c))):=by
 have ac:=V.Pp;have L:=V.all;refine cy VU (fun _=>Z) ?_;refine Fy V R om ?_;obtain⟨l,t,v,r,w,q,u,x,E,H⟩:=Xk h (Yl c.length);have T:=fun{σ:VS} {K:cZ->VS->Prop} (I:K (.ret (b0 false)) σ)=>CJ V W R U om (σ:=σ) (K:=K) I;rw[H]at T⊢;refine T ?_;have ba:h≠4->types.length<=1:=fun I=>by cases V<;>first|exact absurd rfl I|(simp;done)|simp
 have aD:(m=.cC/\a.length=0)∨∃b S p d,m=.ps b S 8 p d/\d.length=a.length:=by
  rcases R.inv with⟨G,y⟩|⟨b,S,p,d,G,y⟩
  ·exact .inl ⟨y,by rw[G];rfl⟩
  ·exact .inr ⟨b,S,p,d,G,y.len⟩
 have ax:(e=.cC/\types.length=0)∨∃b S p d,e=.ps b S 5 p d/\d.length=types.length:=by
  rcases W.inv with⟨G,y⟩|⟨b,S,p,d,G,y⟩
  ·exact .inl ⟨y,by rw[G];rfl⟩
  ·exact .inr ⟨b,S,p,d,G,y.len⟩
 apply eg (ι:=Unit) (T:=fun _=>vG) (S:=fun _=>[.box (kt h F n B j e m o),.box [b0 l,b0 t,b0 v,b0 r,b0 w,b0 q,b0 u,.d (.int .i64 E),b0 x]]) (I:=fun _=>¬(32<a.length∨8<types.length∨65536<B.length))
 ·intro z;rcases aD with⟨ae,au⟩|⟨b,S,p,d,ae,au⟩<;>rcases ax with⟨Y,aC⟩|⟨bh,bm,bn,aM,Y,aC⟩;all_goals
   rw[ae,Y];repeat' first|(change hT _ _ _;first|refine a8 (by with_reducible assumption) ?_|refine a1 (by with_reducible assumption) ?_|refine aZ (fun _=>?_) (fun _=>?_))
   all_goals first
    |exact a6 0 ⟨rfl,congrArg (fun aU=>cZ.ret (b6 aU)) (qT (by clear z L X ac V R W U T H;simp only[decide_eq_true_eq,decide_eq_false_iff_not,Yq]at*;omega)).symm⟩
    |exact cw (eh:=vG) (fN:=[.box (kt h F n B j e m o),.box [b0 l,b0 t,b0 v,b0 r,b0 w,b0 q,b0 u,.d (.int .i64 E),b0 x]]) (.same ⟨rfl,rfl,tv⟩ (by rw[ae,Y];rfl)) (z () (by clear z L X ac V R W U T H;simp only[decide_eq_true_eq,decide_eq_false_iff_not,Yq]at*;omega))
 ·intro _ ad;have aE:F=[]∨dp F=true:=by cases V<;>first|exact .inl rfl|assumption
  have aI:l=true->h≠16->dp n=true:=fun M I=>by
   cases V<;>first|assumption|exact absurd rfl I|(simp[ql,b0]at H;simp[H]at M)
  have aa:h=15->dp B=true:=fun I=>by cases V<;>first|assumption|cases I
  have aJ:q=true->h=13:=fun M=>by
   cases V<;>first|rfl|(simp[ql,b0]at H;simp[H]at M)
  refine l1 F aE ?_;apply eg (ι:=Unit) (T:=fun _=>vG) (S:=fun _=>[.box (kt h F n B j e m o),.box [b0 l,b0 t,b0 v,b0 r,b0 w,b0 q,b0 u,.d (.int .i64 E),b0 x]]) (I:=fun _=>True)
  ·intro z;apply aZ<;>intro M
   ·have aB:l=true:=M;repeat refine e4 ?_
    apply aZ<;>intro I
    ·have av:h≠16:=fun ay=>by rw[ay]at I;exact absurd I dc
     have aH:=aI aB av;repeat refine e4 ?_
     refine fa n (jw aH) ?_;rw[aH];repeat refine e4 ?_
     apply aZ<;>intro N
     ·have s:=aa (BJ (b:=15) N);repeat refine e4 ?_
      refine fa B (jw s) ?_;rw[s];repeat refine e4 ?_
      exact cw (eh:=vG) (fN:=[.box (kt h F n B j e m o),.box [b0 l,b0 t,b0 v,b0 r,b0 w,b0 q,b0 u,.d (.int .i64 E),b0 x]]) (.same ⟨Z,Z,tv⟩ Z) (z () trivial)
     ·repeat refine e4 ?_
      exact cw (eh:=vG) (fN:=[.box (kt h F n B j e m o),.box [b0 l,b0 t,b0 v,b0 r,b0 w,b0 q,b0 u,.d (.int .i64 E),b0 x]]) (.same ⟨Z,Z,tv⟩ Z) (z () trivial)
    ·repeat refine e4 ?_
     apply aZ<;>intro N
     ·have s:=aa (BJ (b:=15) N);repeat refine e4 ?_
      refine fa B (jw s) ?_;rw[s];repeat refine e4 ?_
      exact cw (eh:=vG) (fN:=[.box (kt h F n B j e m o),.box [b0 l,b0 t,b0 v,b0 r,b0 w,b0 q,b0 u,.d (.int .i64 E),b0 x]]) (.same ⟨Z,Z,tv⟩ Z) (z () trivial)
     ·repeat refine e4 ?_
      exact cw (eh:=vG) (fN:=[.box (kt h F n B j e m o),.box [b0 l,b0 t,b0 v,b0 r,b0 w,b0 q,b0 u,.d (.int .i64 E),b0 x]]) (.same ⟨Z,Z,tv⟩ Z) (z () trivial)
   ·repeat refine e4 ?_
    apply aZ<;>intro N
    ·have s:=aa (BJ (b:=15) N);repeat refine e4 ?_
     refine fa B (jw s) ?_;rw[s];repeat refine e4 ?_
     exact cw (eh:=vG) (fN:=[.box (kt h F n B j e m o),.box [b0 l,b0 t,b0 v,b0 r,b0 w,b0 q,b0 u,.d (.int .i64 E),b0 x]]) (.same ⟨Z,Z,tv⟩ Z) (z () trivial)
    ·repeat refine e4 ?_
     exact cw (eh:=vG) (fN:=[.box (kt h F n B j e m o),.box [b0 l,b0 t,b0 v,b0 r,b0 w,b0 q,b0 u,.d (.int .i64 E),b0 x]]) (.same ⟨Z,Z,tv⟩ Z) (z () trivial)
  ·intro _ _;apply eg (ι:=Unit) (T:=fun _=>vG) (S:=fun _=>[.box (kt h F n B j e m o),.box [b0 l,b0 t,b0 v,b0 r,b0 w,b0 q,b0 u,.d (.int .i64 E),b0 x]]) (I:=fun _=>True)
   ·intro z;rcases R.inv with⟨G,y⟩|⟨b,S,p,d,y,Q⟩
    ·rw[y];refine b5.loop ?_;refine b5.loop ?_;exact cw (eh:=vG) (fN:=[.box (kt h F n B j e m o),.box [b0 l,b0 t,b0 v,b0 r,b0 w,b0 q,b0 u,.d (.int .i64 E),b0 x]]) (.same ⟨Z,Z,tv⟩ (by rw[y])) (z () trivial)
    ·rw[y];have O:=Q.len;refine b5.less (eh:=[(1,.bp 0 0),(3,.bp 1 0),(5,b6 0)]) ⟨Z,Z,Z,tv⟩ ?_;refine b5.iter (fun f:Nat=>[(1,.bp 0 0),(3,.bp 1 0),(5,b6 f)]) (fun _=>[.box (kt h F n B j e (.ps b S 8 p d) o),.box [b0 l,b0 t,b0 v,b0 r,b0 w,b0 q,b0 u,.d (.int .i64 E),b0 x]]) (fun f=>a.length-f) (fun f=>f<=a.length) ?_ 0 (Yn _);intro f ap;apply aZ<;>intro P
     ·have i:f<a.length:=O▸fq P;obtain⟨aS,s,J⟩:=Q.get i;obtain⟨aL,aO,tn,aQ,aT,k⟩:=J.eG;rw[k]at s;have ab:a[f]∈a:=Ym i;have ah:=ac.name _ ab;refine bZ Z ?_;refine b7 _ (by rw[cz];exact s) ?_;refine fa a[f].n (jw ah) ?_;rw[ah];apply aZ<;>intro aR
      ·have ar:=aJ aR;have aq:=ac.var _ ab;rw[if_pos ar]at aq;repeat refine e4 ?_
       refine bZ Z ?_;refine b7 _ (by rw[cz];exact s) ?_;repeat refine e4 ?_
       refine fa a[f].v (jw aq) ?_;rw[aq];repeat refine e4 ?_
       exact⟨f+1,i,by show a.length-(f+1)<a.length-f;omega,.same ⟨rfl,rfl,int_eq (cq om),tv⟩ rfl,rfl,rfl⟩
      ·repeat refine e4 ?_
       exact⟨f+1,i,by show a.length-(f+1)<a.length-f;omega,.same ⟨rfl,rfl,int_eq (cq om),tv⟩ rfl,rfl,rfl⟩
     ·clear P ap;refine b5.less (eh:=[(1,.bp 0 0),(3,.bp 1 0),(6,b6 1)]) ⟨Z,Z,Z,tv⟩ ?_;refine b5.iter (fun f:Nat=>[(1,.bp 0 0),(3,.bp 1 0),(6,b6 f)]) (fun _=>[.box (kt h F n B j e (.ps b S 8 p d) o),.box [b0 l,b0 t,b0 v,b0 r,b0 w,b0 q,b0 u,.d (.int .i64 E),b0 x]]) (fun f=>a.length-f) (fun f=>1<=f) ?_ 1 (Yo _);intro f ap;apply aZ<;>intro P
      ·have i:f<a.length:=O▸fq P;have aj:f-1<a.length:=om;obtain⟨aS,s,J⟩:=Q.get aj;obtain⟨ay,an,aw⟩:=Q.get i;obtain⟨aL,aO,tn,aQ,aT,k⟩:=J.eG;obtain⟨bc,bk,bj,be,bf,aF⟩:=aw.eG;rw[k]at s;rw[aF]at an;have az:=ac.Q9.lU (Yp aj) (Yp i) om;rw[<-cz]at s an;have aK:=ow (a:=f) om om;repeat first|refine bZ aK ?_|refine bZ rfl ?_|refine b7 _ s ?_|refine b7 _ an ?_
       repeat refine b4 ?_
       refine kU a[f-1].n a[f].n az ?_;repeat refine b4 ?_
       refine⟨f+1,by show 1<=f+1;omega,by show a.length-(f+1)<a.length-f;omega,.same ⟨rfl,rfl,int_eq (cq om),tv⟩ rfl,rfl,rfl⟩
      ·exact cw (eh:=vG) (fN:=[.box (kt h F n B j e m o),.box [b0 l,b0 t,b0 v,b0 r,b0 w,b0 q,b0 u,.d (.int .i64 E),b0 x]]) (.same ⟨Z,Z,tv⟩ (by rw[y])) (z () trivial)
   ·intro _ _;apply eg (ι:=Unit) (T:=fun _=>vG) (S:=fun _=>[.box (kt h F n B j e m o),.box [b0 l,b0 t,b0 v,b0 r,b0 w,b0 q,b0 u,.d (.int .i64 E),b0 x]]) (I:=fun _=>¬(h=15/\n=B))
    ·intro z;apply aZ<;>intro G
     ·repeat refine e4 ?_
      apply aZ<;>intro y
      ·repeat refine e4 ?_
       exact a6 0 ⟨Z,congrArg (fun aU=>cZ.ret (b6 aU)) (Ba ad (BJ (b:=15) G) (of_decide_eq_true y)).symm⟩
      ·repeat refine e4 ?_
       exact cw (eh:=vG) (fN:=[.box (kt h F n B j e m o),.box [b0 l,b0 t,b0 v,b0 r,b0 w,b0 q,b0 u,.d (.int .i64 E),b0 x]]) (.same ⟨Z,Z,tv⟩ Z) (z () (fun ao=>of_decide_eq_false y ao.2))
     ·repeat refine e4 ?_
      exact cw (eh:=vG) (fN:=[.box (kt h F n B j e m o),.box [b0 l,b0 t,b0 v,b0 r,b0 w,b0 q,b0 u,.d (.int .i64 E),b0 x]]) (.same ⟨Z,Z,tv⟩ Z) (z () (fun ao=>wA (b:=15) G ao.1))
    ·intro _ af;rw[Di ad af];refine yO (e:=.mk h F n B j types a c) (.mk W R U) (fun _ _ _ _ _ _ _ _ ay=>by cases ay;exact al) (fun aS aA=>?_);generalize l4 (.mk h F n B j types a c)=own at aA L X;have aW:=fu own;cases aA with
     |nil=>
      refine b5.loop ?_;exact a6 0 ⟨Z,Z⟩
     |ps Q=>
      rename_i b S ak d;have O:=Q.len;refine b5.less (eh:=[(8,.d (.ps b S 5 ak d)),(9,b6 0)]) ⟨Z,Z,tv⟩ ?_;refine b5.iter (fun f:Nat=>[(8,.d (.ps b S 5 ak d)),(9,b6 f)]) (fun _=>[.box (kt h F n B j e m o),.box [b0 l,b0 t,b0 v,b0 r,b0 w,b0 q,b0 u,.d (.int .i64 E),b0 x]]) (fun f=>own.length-f) (fun f=>f<=own.length/\∀E (ag:E<own.length),E<f->pk own[E]=false) ?_ 0 ⟨Yn _,fun E _ V=>absurd V (Nat.not_lt_zero _)⟩;rintro f ⟨ap,ai⟩;apply aZ<;>intro P
      ·have i:f<own.length:=O▸fq P;obtain⟨aS,s,J⟩:=Q.get i;obtain⟨bg,bo,bb,bl,f2,rfl⟩:=J.eG;refine bZ Z ?_;refine b7 _ (by rw[cz];exact s) ?_;have aX:=gG (Ym i);refine Ho own[f] _ J (L _ (Ym i)) om ?_;cases M:pk own[f]with
       |true=>exact a6 0 ⟨rfl,by rw[Hw i M];rfl⟩
       |false=>
        refine⟨f+1,⟨i,fun E ag aY=>?_⟩,by show own.length-(f+1)<own.length-f;omega,.drop 2 ⟨rfl,int_eq (cq om),tv⟩ rfl rfl rfl rfl rfl rfl rfl,rfl,rfl⟩;rcases Nat.lt_or_ge E f with g|g
        ·exact ai E ag g
        ·obtain rfl:E=f:=om;exact M
      ·have i:own.length<=f:=O▸dM P;exact a6 0 ⟨Z,by rw[any_none fun E ag=>ai E ag om];rfl⟩
theorem Nz:Lu:=by
 intro w E n g B C D r;have v:=gx w;have t:=g.node;have d:=fun y A z x i types b f (u:w=.mk y A z x i types b f)=>xm g u om;cases n with
 |mk q s l=>exact cN (FA t q s l (d _ _ _ _ _ _ _ _ rfl) om) rfl rfl r
theorem Ik(d:List UInt8){σ:VS}{K:cZ->VS->Prop}(b:∀f,xu d f->K f σ):b3 C cn kz [cE d] σ K:=
 Ih (Sh Nz) d b
theorem FD(b:Int):(!decide (b=b))=false:=by simp
theorem eV.inv2{l:List iB}(d:eV l e):∃b,l2 l b/\((b=[]/\e=.cC)∨∃f i g,e=.ps f i 8 g b):=by
 cases d with
 |nil=>exact⟨[],.nil,.inl ⟨rfl,rfl⟩⟩
 |ps d=>exact⟨_,d,.inr ⟨_,_,_,rfl⟩⟩
theorem fM.inv2{l:List Ex}(d:fM l e):∃b,hh l b/\((b=[]/\e=.cC)∨∃f i g,e=.ps f i 8 g b):=by
 cases d with
 |nil=>exact⟨[],.nil,.inl ⟨rfl,rfl⟩⟩
 |ps d=>exact⟨_,d,.inr ⟨_,_,_,rfl⟩⟩
theorem Qj{u n v:List UInt8}{types:List Ty}(w:gh k)(t:k=.mk h u n v j types a c):∀r∈a,di r.ty<=dh k:=by
 intro r i;have d:∀{h:Nat},kM h a->cL (if h=8 then a.map iB.ty else [])+1<=dh k->di r.ty<=dh k:=by
  intro h b s;have q:=b.ty r i;by_cases l:h=8
  ·rw[if_pos l]at s;have:=gG (Yr (f:=iB.ty) i);omega
  ·rw[if_neg l]at q;rw[q.1];have:di eM=1:=dc;omega
 subst t;have g:=gx (.mk h u n v j types a c);rw[l4]at g;cases w with
 |O3 b _=>exact d b (by rw[g,hW];omega)
 |func b _=>exact d b (by rw[g,hW];omega)
 |call b _=>exact d b (by rw[g,hW];omega)
 |Uu _ b _=>exact d b (by rw[g,hW];omega)
 |_=>cases i
theorem yP{C:eD}{f:FuncId->List Value->Option Value}{l:Type}{σ:VS}(d:l->Tm)(s:l->Nat)(I:l->Prop){t:uw}{b:Code}{g:List gd}{i:mg}{z:Ab->Tm->List gd->mg->VS->Prop} 
  (A:∀v,I v->vc C f t b (d v) g i σ fun x w n q r=>match x with
   |.norm=>∃u,I u/\s u<s v/\KI t.fl (d u) σ g i w r/\n=g/\q=i
   |x=>z x w n q r) (v:l) (y:I v):b5 C f t (.loop b) (d v) g i σ z:=b5.iter d (fun _=>σ) s I A v y
theorem VV {b:Prop} (f:b:=by
 first
  |(refine b5.loop ?_
    exact a6 0 ⟨Z,Z⟩)
  |(refine b5.less (eh:=[(2,.bp 0 0),(3,.bp 1 0),(8,b6 0)]) ⟨rfl,rfl,rfl,tv⟩ ?_
    refine yP (fun i:Nat=>[(2,.bp 0 0),(3,.bp 1 0),(8,b6 i)]) (fun i=>kids.length-i) (fun i=>i<=kids.length) ?_ 0 (Nat.zero_le _);intro i hi;apply aZ<;>intro hc
    ·try exact absurd (VW▸fq hc) (Nat.not_lt_zero _)
     all_goals
      have hi':i<kids.length:=e2▸fq hc;have hle:=j6 (List.getElem_mem hi');obtain⟨d,hx,Qm⟩:=Vd.get hi';obtain⟨d',hy,UE⟩:=VX.get hi';have X8:=X9 _ (List.getElem_mem hi');obtain⟨k2,m2,n2,x2,Xl,Ya,Yb,Yc,rfl⟩:=Qm.eight;obtain⟨k3,m3,n3,x3,Xm,Yd,Ye,Yf,rfl⟩:=UE.eight;have Xn:nth l3 i=some [.int .i64 (Int.ofNat k2),.str m2,.str n2,.str x2,.int .i64 Xl,Ya,Yb,Yc]:=by rw[cz];exact hx
      have Xo:nth SU i=some [.int .i64 (Int.ofNat k3),.str m3,.str n3,.str x3,.int .i64 Xm,Yd,Ye,Yf]:=by rw[cz];exact hy
      repeat first|refine bZ rfl ?_|refine b7 _ Xn ?_|refine b7 _ Xo ?_
      repeat refine b4 ?_
      refine ih kids[i] _ _ om X8 Qm UE ?_;repeat refine b4 ?_
      exact⟨i+1,hi',by show kids.length-(i+1)<kids.length-i;omega,.same ⟨rfl,rfl,int_eq (cq om),tv⟩ rfl,rfl,rfl⟩
    ·exact a6 0 ⟨Z,Z⟩)):b:=f
theorem NA(s:Nat)(ih:∀(r:Ex) (d d':List D),dh r<=s->fZ r->hY r d->hY r d'->∀{J:VS} {o:cZ->VS->Prop},o (.ret (b0 true)) J->b3 C cn h8 [.agg (d.map V.d),.agg (d'.map V.d)] J o) 
  (r:Ex) (d d':List D) (c:dh r<=s+1) (Y:s+1<4294967295) (y:fZ r) (P:hY r d) (M:hY r d'):b3 C cn h8 [.agg (d.map V.d),.agg (d'.map V.d)] [] fun af I=>I=[]/\af=.ret (b0 true):=by
 have n:=gx r;cases P with
 |mk R X E=>
 rename_i av ay aw au ab types b kids an ao aj;cases M with
 |mk F G u=>
 rename_i j ad ae;have x:=Qj y.node rfl;have W:=xm y rfl om;have L:cL types<=s:=by rw[l4,hW]at n;omega
 have aa:c8 kids<=s:=by rw[Ex.kids]at n;omega
 have k:=j5 kids;have X9:=y.kids;clear n;obtain⟨t,g,O⟩:=X.inv2;obtain⟨q,l,v⟩:=G.inv2;obtain⟨l3,Vd,H⟩:=E.inv2;obtain⟨SU,VX,w⟩:=u.inv2;have e:=g.len;have e2:=Vd.len;have f:t.length=q.length:=by rw[g.len,l.len]
 have VW:l3.length=SU.length:=by rw[Vd.len,VX.len]
 refine cB ?_;rcases O with⟨rfl,rfl⟩|⟨ax,ar,az,rfl⟩<;>rcases v with⟨rfl,rfl⟩|⟨ai,ap,ah,rfl⟩<;>rcases H with⟨rfl,rfl⟩|⟨am,ak,al,rfl⟩<;>rcases w with⟨rfl,rfl⟩|⟨p,m,ac,rfl⟩;all_goals
  repeat first|refine a1 (mq _) ?_|refine a1 (kD _) ?_|refine a1 (FD _) ?_|refine a1 (qg f) ?_|refine a1 (qg VW) ?_|refine a1 (lg _) ?_
  refine qZ s (fun aq d d' T Q a=>tA s aq d d' om T Q a) types _ _ L om R F ?_;repeat first|refine a1 (mq _) ?_|refine a1 (kD _) ?_|refine a1 (FD _) ?_|refine a1 (qg f) ?_|refine a1 (qg VW) ?_|refine a1 (lg _) ?_
  first
   |(refine b5.loop ?_
     exact VV)
   |(refine b5.less (eh:=[(2,.bp 0 0),(3,.bp 1 0),(5,b6 0)]) ⟨rfl,rfl,rfl,tv⟩ ?_
     refine yP (fun i:Nat=>[(2,.bp 0 0),(3,.bp 1 0),(5,b6 i)]) (fun i=>b.length-i) (fun i=>i<=b.length) ?_ 0 (Yn _);intro i hi;apply aZ<;>intro hc
     ·try exact absurd (f▸fq hc) (Nat.not_lt_zero _)
      all_goals
       have hi':i<b.length:=e▸fq hc;have hle:=x _ (Ym hi');obtain⟨d,hx,Qm⟩:=g.get hi';obtain⟨d',hy,UE⟩:=l.get hi';generalize b[i]=ag at hx hy Qm UE hle;obtain⟨k2,m2,B,h,f2,rfl⟩:=Qm.eG;obtain⟨k3,m3,A,U,f3,rfl⟩:=UE.eG;obtain⟨N,K,S,z⟩:=ag;have Xn:nth t i=some [.str N,.str K,.int .i64 (Yl k2),.str m2,.str B,h,f2,.bool z]:=by rw[cz];exact hx
       have Xo:nth q i=some [.str N,.str K,.int .i64 (Yl k3),.str m3,.str A,U,f3,.bool z]:=by rw[cz];exact hy
       repeat first|refine bZ rfl ?_|refine b7 _ Xn ?_|refine b7 _ Xo ?_
       repeat refine b4 ?_
       repeat first|refine a1 (mq _) ?_|refine a1 (kD _) ?_|refine a1 (FD _) ?_|refine a1 (qg f) ?_|refine a1 (qg VW) ?_|refine a1 (lg _) ?_
       refine tA (s+1) S _ _ Y (Nat.le_trans hle c) Qm UE ?_;repeat first|refine a1 (mq _) ?_|refine a1 (kD _) ?_|refine a1 (FD _) ?_|refine a1 (qg f) ?_|refine a1 (qg VW) ?_|refine a1 (lg _) ?_
       exact⟨i+1,hi',by show b.length-(i+1)<b.length-i;omega,.drop 2 ⟨rfl,rfl,int_eq (cq om),tv⟩ rfl rfl rfl rfl rfl rfl rfl,rfl,rfl⟩
     ·exact VV)
theorem Il:∀(i:Nat) (d:Ex) (g b:List D),i<4294967295->dh d<=i->fZ d->hY d g->hY d b->∀{l:VS} {q:cZ->VS->Prop},q (.ret (b0 true)) l->b3 C cn h8 [.agg (g.map V.d),.agg (b.map V.d)] l q:=by
 intro i;induction i with
 |zero=>intro d g b _ G;have:=ia d;omega
 |succ i y=>
  intro d g b x G z n f l q t;have s:=NA i (fun d g b u r w=>y d g b om u r w) d g b G x z n f;obtain⟨P,Q,i,O,B,L,M,I,rfl⟩:=n.eight;obtain⟨K,N,H,J,v,A,E,F,rfl⟩:=f.eight;exact cN s Z Z t
theorem Lv(b:Nat):decide (Yl b=Yl b)=true:=by simp
theorem rZ(s:List UInt8):fZ (mc s).1/\dh (mc s).1<4294967295:=by
 have d:fZ nV/\dh nV<4294967295:=⟨.leaf .int,dc⟩;unfold mc;cases q:kJ s with
 |err i z=>exact d
 |ok b=>
  dsimp only;cases r:zy ⟨0,0,b⟩ b.length 0 with
  |bad i z=>exact d
  |ok v u=>
   dsimp only;split
   ·exact d
   ·split
    ·exact d
    ·obtain⟨w,f⟩:=wZ (R:=⟨0,0,b⟩) q;have n:=Bi (R:=⟨0,0,b⟩) q;obtain⟨t,y,_,g⟩:=Bt w n b.length 0 0 v u (Yo _) f r;have l:=w.len;have g:u<b.length:=g;have l:b.length<4294967296:=l;exact⟨t,by show dh v<4294967295;omega⟩
theorem NB(g:List UInt8):b3 C cn oS [cE g] [] fun n _=>n=.ret (b0 true):=by
 refine cB ?_;refine dV (args:=[]) (x:=.bool true) Z Z ?_;apply aZ<;>intro G
 ·repeat refine e4 ?_
  apply aZ<;>intro E
  ·repeat refine e4 ?_
   exact cR.now Z Z
  ·repeat refine e4 ?_
   refine BA g (fun n d=>?_);obtain⟨H,f,rfl⟩:=d;obtain⟨F,J,I,D,q,z,A,v,rfl⟩:=f.eight;refine Ik g (fun n d=>?_);obtain⟨y,b,rfl⟩:=d;obtain⟨x,B,t,w,i,l,r,s,rfl⟩:=b.eight;refine Il _ _ _ _ (rZ g).2 (Yo _) (rZ g).1 f b ?_;repeat refine a8 (Lv _) ?_
   refine cR.drop 0 ?_ ?_ ?_ ?_
   ·exact Z
   ·exact Z
   ·exact Z
   exact cR.now Z (by rw[Lv];rfl)
 ·repeat refine e4 ?_
  refine BA g (fun n d=>?_);obtain⟨H,f,rfl⟩:=d;obtain⟨F,J,I,D,q,z,A,v,rfl⟩:=f.eight;refine Ik g (fun n d=>?_);obtain⟨y,b,rfl⟩:=d;obtain⟨x,B,t,w,i,l,r,s,rfl⟩:=b.eight;refine Il _ _ _ _ (rZ g).2 (Yo _) (rZ g).1 f b ?_;repeat refine a8 (Lv _) ?_
  refine cR.drop 0 ?_ ?_ ?_ ?_
  ·exact Z
  ·exact Z
  ·exact Z
  exact cR.now Z (by rw[Lv];rfl)
end Go.Proofs.YthlkhjchcjflkaaGreatDoor
