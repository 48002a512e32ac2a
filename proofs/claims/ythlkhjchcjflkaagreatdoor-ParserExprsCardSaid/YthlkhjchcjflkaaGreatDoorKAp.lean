/- Part of the proof. -/
import Derived.Test.YthlkhjchcjflkaaGreatDoorKAo
set_option linter.all false
set_option maxHeartbeats 16000000
set_option maxRecDepth 100000
open Nat renaming reduceEqDiff->Yl,le_of_ble_eq_true->Yw,le_refl->Yy,mul_succ->YE,mul_zero->YI,beq->YJ,mul_comm->YL
open List renaming length_cons->Ym,length_nil->Yo,length_append->Yp,append_nil->Ys,append_assoc->Yv,eq_nil_of_length_eq_zero->Yz,flatten_cons->YA,flatten_append->YC,flatten_nil->YF,map_append->YG,nodup_append->YH,length_map->YK,length_pos_iff->YN
open Bool renaming false_eq_true->Yn,true_and->Yq,false_and->Yt,and_false->Yu,and_self->Yx
open Int renaming ofNat->Yr,ofNat_eq_natCast->YB,ofNat_lt->YM
open And renaming intro->YD
namespace Go.Proofs.YthlkhjchcjflkaaGreatDoor
open Go.AM Go.VM
theorem OV(E:Bool):∀r,EN E r:=by
 intro r;induction r with
 |zero=>intro y q t z w u _ _ _ B A D C _ _ _ _ _ x;omega
 |succ r J=>
  intro y q t z w u v p b B A D C l o n c f x;by_cases s:q.length=1
  ·obtain⟨G,I,rfl⟩:=Dd q w;have:I=[]:=Yz (by simpa using s);subst this;exact Hc E y G t z p b B A D C l o n c f
  ·by_cases F:t.length=1
   ·obtain⟨G,H,rfl⟩:=Dd t u;have:H=[]:=Yz (by simpa using F);subst this;exact Hd E y q G z s v b B A D C l o n c f
   ·exact Hf E r J y q t z om om v p b B A D C l o n c f x
variable{k m:V}
theorem ww(c:Bool)(t f l w:List FE)(G:0<f.length)(E:0<l.length)(F:lA FE.n f)(y:lA FE.n l)(q:((f++l).map FE.n).Nodup)(n u v b:Nat)(B:List FE)(z:B=t++(f++(l++w)))(H:n=B.length)(J:u=t.length)(I:v=u+f.length)(x:b=v+l.length)(D:n<4294967296) 
  {p:V} (s:k=b6 u) (o:m=b6 v) (r:p=b6 b) {K:cZ->VS->Prop} (A:K (.ret (.dN [])) [.row (ew c) (dz c (t++(ct FE.n (f++l)++w)))]):b3 C cn (Mv c) [.ms 0 (ew c) 0 n n,k,m,p,(mO c)] [.row (ew c) (dz c B)] K:=by
 subst s o r z;refine(OV c _ t f l w G E F y q n u v b H J I x D (Yy _)).mono (fun N L M=>?_);rw[M.1,M.2];exact A
theorem OW(c:Bool)(f l r:List FE)(o:(l.map FE.n).Nodup)(n s b:Nat)(w:List FE)(u:w=f++(l++r))(y:n=w.length)(z:s=f.length)(t:b=f.length+l.length)(x:n<4294967296)(q:k=b6 s)(p:m=b6 b){K:cZ->VS->Prop}(v:K (.ret (.dN [])) [.row (ew c) (dz c (f++(ct FE.n l++r)))]):
  b3 C cn (US c) [.ms 0 (ew c) 0 n n,k,m,(mO c)] [.row (ew c) (dz c w)] K:=by
 subst q p u;refine(y5 c f l r o n s b y z t x).mono (fun D A B=>?_);rw[B.1,B.2];exact v
def mP(f:Nat)(c:List (List FE)):Prop:=∀b∈c,b.length=f/\lA FE.n b
variable{e:Nat} {h:List (List FE)}
theorem mP.len(o:mP e h):h.flatten.length=e*h.length:=by
 induction h with
 |nil=>simp
 |cons n h b=>
  have l:=o n sm;have c:=b (fun n f=>o n (by simp[f]));simp only[YA,Yp,Ym,l.1,c,YE];omega
theorem mP.snoc{l:List FE}(o:mP e h)(f:l.length=e)(c:lA FE.n l):mP e (h++[l]):=by
 intro n b;rcases List.mem_append.1 b with b|b
 ·exact o n b
 ·simp at b;subst b;exact⟨f,c⟩
def V5(c:Bool)(n l f b:Nat):Tm:=[(0,.ms 0 (ew c) 0 n n),(1,b6 n),(2,(mO c)),(6,b6 l),(7,b6 f),(8,b6 b)]
theorem tU{A c B:List FE}(b:((A++(c++B)).map FE.n).Nodup):(c.map FE.n).Nodup:=by
 rw[YG,YG,YH]at b;exact(YH.1 b.2.1).1
theorem EO(q:Bool)(xs:List FE)(R:(xs.map FE.n).Nodup)(n:Nat)(S:n=xs.length)(J:n<4294967296):
  b3 C cn (Wx q) [.ms 0 (ew q) 0 n n,b6 n,(mO q)] [.row (ew q) (dz q xs)] fun am ab=>ab=[.row (ew q) (dz q (ct FE.n xs))]/\am=.ret (.dN []):=by
 have aj:q=q:=rfl;cases q;all_goals
  let q:Bool:=yz aj
  refine cA ?_;refine cw (eh:=V5 q n 20 (20*([]:List (List FE)).length) (20*([]:List (List FE)).length+20)) (fN:=[.row (ew q) (dz q (([]:List (List FE)).flatten++xs))]) (.same ⟨Z,Z,Z,Z,Z,Z,tv⟩ Z) ?_;refine b5.iter (fun p:List (List FE)×List FE=>V5 q n 20 (20*p.1.length) (20*p.1.length+20)) (fun p=>[.row (ew q) (dz q (p.1.flatten++p.2))]) (fun p=>p.2.length)
   (fun p=>mP 20 p.1/\(p.1.flatten++p.2).Perm xs) ?_ ([],xs) ⟨by intro ag J;simp at J,by simp⟩
  rintro⟨t,l⟩ ⟨w,c⟩;have w:mP 20 t:=w;have c:(t.flatten++l).Perm xs:=c;have I:=w.len;have v:n=20*t.length+l.length:=by rw[S,<-c.length_eq,Yp,I]
  have A:=vv (key:=FE.n) c R;apply aZ<;>intro M
  ·have G:20*t.length+20<=n:=C3 M;obtain⟨r,L,rfl,K⟩:=JE l 20 om;have s:=tU A;refine OW q t.flatten r L s n (20*t.length) (20*t.length+20) _ Z (by rw[S,<-c.length_eq]) I.symm om om rfl rfl ?_;refine⟨(t++[ct FE.n r],L),⟨w.snoc (by rw[eK,K]) (gF s),?_⟩,by show L.length<(r++L).length;rw[Yp];omega,.same ⟨rfl,rfl,rfl,rfl,int_eq ?_,int_eq ?_,tv⟩ ?_,rfl,rfl⟩
   ·show((t++[ct FE.n r]).flatten++L).Perm xs;refine List.Perm.trans ?_ c;simp only[YC,YA,YF,Ys,Yv];exact List.Perm.append_left _ ((dC r).append_right _)
   ·show Yr (20*t.length+20)=Yr (20*(t++[ct FE.n r]).length);rw[Yp];rfl
   ·show IntKind.i64.wrap (Yr (20*t.length+20)+20)=Yr (20*(t++[ct FE.n r]).length+20);rw[Yp];exact eb (b:=20) om
   ·show _=[cU.row (ew q) (dz q ((t++[ct FE.n r]).flatten++L))];simp only[YC,YA,YF,Ys,Yv]
  ·have G:n<20*t.length+20:=wz M;have F:(l.map FE.n).Nodup:=by
    have:((t.flatten++(l++[])).map FE.n).Nodup:=by rw[Ys];exact A
    exact tU this
   refine OW q t.flatten l [] F n (20*t.length) n _ (by rw[Ys]) (by rw[S,<-c.length_eq]) I.symm om om rfl rfl ?_;have W:(ct FE.n l).length=l.length:=eK l;have N:(t.flatten++ct FE.n l).Perm xs:=(List.Perm.append_left _ (dC l)).trans c;have u:=gF (key:=FE.n) F;generalize ct FE.n l=j at W N u;refine cw (eh:=[(0,.ms 0 (ew q) 0 n n),(1,b6 n),(2,(mO q)),(6,b6 20)]) (fN:=[.row (ew q) (dz q (t.flatten++j))]) (.same ⟨Z,Z,Z,Z,tv⟩ (by rw[Ys])) ?_;refine b5.iter (fun p:Nat×List (List FE)×List FE=>[(0,.ms 0 (ew q) 0 n n),(1,b6 n),(2,(mO q)),(6,b6 p.1)]) (fun p=>[.row (ew q) (dz q (p.2.1.flatten++p.2.2))]) (fun p=>n-p.1)
    (fun p=>0<p.1/\p.1<8589934592/\mP p.1 p.2.1/\lA FE.n p.2.2/\p.2.2.length<p.1/\(p.2.1.flatten++p.2.2).Perm xs) ?_ (20,t,j) ⟨by show 0<20;omega,by show 20<8589934592;omega,w,u,by show j.length<20;omega,N⟩
   clear c A F v G M W N u I w;rintro⟨b,t,l⟩ ⟨m,V,w,u,a,c⟩;have m:0<b:=m;have V:b<8589934592:=V;have w:mP b t:=w;have u:lA FE.n l:=u;have a:l.length<b:=a;have c:(t.flatten++l).Perm xs:=c;have I:=w.len;have v:n=b*t.length+l.length:=by rw[S,<-c.length_eq,Yp,I]
   apply aZ<;>intro M
   ·have G:b<n:=fq M;have X:IntKind.i64.wrap (2*Yr b)=Yr (2*b):=by
     rw[show(2:Int)*Yr b=Yr (2*b)from rfl,wrap64 (by simp only[YB];omega) (by simp only[YB];omega)]
    have aa:IntKind.i64.wrap (2*Yr b)=Yr (2*b*([]:List (List FE)).length+2*b):=by
     rw[X];simp
    refine cw (eh:=V5 q n b (2*b*([]:List (List FE)).length) (2*b*([]:List (List FE)).length+2*b)) (fN:=[.row (ew q) (dz q (([]:List (List FE)).flatten++(t.flatten++l)))]) (.same ⟨Z,Z,Z,Z,Z,int_eq aa,tv⟩ Z) ?_;refine b5.iter (fun p:List (List FE)×List (List FE)=>V5 q n b (2*b*p.1.length) (2*b*p.1.length+2*b)) (fun p=>[.row (ew q) (dz q (p.1.flatten++(p.2.flatten++l)))]) (fun p=>p.2.length)
     (fun p=>mP (2*b) p.1/\mP b p.2/\(p.1.flatten++(p.2.flatten++l)).Perm xs) ?_ ([],t) ⟨by intro ag J;simp at J,w,by simpa using c⟩
    rintro⟨f,o⟩ ⟨x,y,c⟩;have x:mP (2*b) f:=x;have y:mP b o:=y;have c:(f.flatten++(o.flatten++l)).Perm xs:=c;have Y:=x.len;have ae:=y.len;obtain⟨z,U⟩:∃z,2*b*f.length=z:=⟨_,rfl⟩;have A:=vv (key:=FE.n) c R;have Q:n=(f.flatten++(o.flatten++l)).length:=by rw[S,<-c.length_eq]
    have v:n=z+(b*o.length+l.length):=by rw[Q,Yp,Yp,Y,ae,U]
    have g:z=f.flatten.length:=by rw[Y,U]
    dsimp only;rw[U];apply aZ<;>intro k
    ·have ad:z+2*b<=n:=C3 k;cases o with
     |nil=>simp only[Yo,YI]at v;omega
     |cons r o=>
      cases o with
      |nil=>simp only[Ym,Yo,YE,YI]at v;omega
      |cons H o=>
       have K:=y r sm;have ak:=y H sm;have D:f.flatten++((r::H::o).flatten++l)=f.flatten++(r++(H++(o.flatten++l))):=by simp only[YA,Yv]
       have s:((r++H).map FE.n).Nodup:=by
        refine tU (A:=f.flatten) (B:=o.flatten++l) ?_;rw[Yv,<-D];exact A
       have B:IntKind.i64.wrap (Yr z+Yr b)=Yr (z+b):=eb om;refine ww q f.flatten r H (o.flatten++l) om om K.2 ak.2 s n z (z+b) (z+2*b) _ D Q g om om om Z (vi B) Z ?_;have h:(ct FE.n (r++H)).length=2*b:=by rw[eK,Yp];omega
       have ac:2*b*(f++[ct FE.n (r++H)]).length=z+2*b:=by
        rw[Yp,List.length_singleton,Nat.mul_add,U,Nat.mul_one]
       refine⟨(f++[ct FE.n (r++H)],o),⟨x.snoc h (gF s),fun ag J=>y ag (by simp[J]),?_⟩,by show o.length<o.length+1+1;omega,.same ⟨rfl,rfl,rfl,rfl,int_eq ?_,int_eq ?_,tv⟩ ?_,rfl,rfl⟩
       ·show((f++[ct FE.n (r++H)]).flatten++(o.flatten++l)).Perm xs;refine List.Perm.trans ?_ c;rw[D];simp only[YC,YA,YF,Ys,Yv];rw[<-Yv r];exact List.Perm.append_left _ ((dC (r++H)).append_right _)
       ·show Yr (z+2*b)=Yr (2*b*(f++[ct FE.n (r++H)]).length);rw[ac]
       ·show IntKind.i64.wrap (Yr (z+2*b)+IntKind.i64.wrap (2*Yr b))=Yr (2*b*(f++[ct FE.n (r++H)]).length+2*b);rw[ac,X];exact eb om
       ·show _=[cU.row (ew q) (dz q ((f++[ct FE.n (r++H)]).flatten++(o.flatten++l)))];simp only[YC,YA,YF,Ys,Yv]
    ·have ad:n<z+2*b:=wz k;have P:IntKind.i64.wrap (Yr b*2)=Yr (b*2):=by
      rw[show Yr b*(2:Int)=Yr (b*2)from rfl,wrap64 (by simp only[YB];omega) (by simp only[YB];omega)]
     have B:IntKind.i64.wrap (Yr z+Yr b)=Yr (z+b):=eb om;cases o with
     |nil=>
      simp only[Yo,YI,Nat.zero_add]at v;have E:¬(z+b<n):=om;refine a1 (by rw[B];exact decide_eq_false (fun al=>E (YM.1 al))) ?_;refine⟨(b*2,f,l),⟨by show 0<b*2;omega,by show b*2<8589934592;omega,by rw[YL];exact x,u,by show l.length<b*2;omega,c⟩,by show n-b*2<n-b;omega,.same ⟨rfl,rfl,rfl,int_eq P,tv⟩ rfl,rfl,rfl⟩
     |cons r o=>
      cases o with
      |cons H o=>simp only[Ym,YE]at v;omega
      |nil=>
       have K:=y r sm;simp only[Ym,Yo,YE,YI,Nat.zero_add]at v;have D:f.flatten++([r].flatten++l)=f.flatten++(r++(l++[])):=by simp
       by_cases T:0<l.length
       ·have E:z+b<n:=om;refine a8 (by rw[B];exact decide_eq_true (YM.2 E)) ?_;have s:((r++l).map FE.n).Nodup:=by
         refine tU (A:=f.flatten) (B:=[]) ?_;rw[Yv,<-D];exact A
        refine ww q f.flatten r l [] om T K.2 u s n z (z+b) n _ D Q g om om om Z (vi B) Z ?_;have h:(ct FE.n (r++l)).length=b+l.length:=by rw[eK,Yp];omega
        refine⟨(b*2,f,ct FE.n (r++l)),⟨by show 0<b*2;omega,by show b*2<8589934592;omega,by rw[YL];exact x,gF s,by show(ct FE.n (r++l)).length<b*2;omega,?_⟩,by show n-b*2<n-b;omega,.same ⟨rfl,rfl,rfl,int_eq P,tv⟩ (by rw[Ys]),rfl,rfl⟩;show(f.flatten++ct FE.n (r++l)).Perm xs;refine List.Perm.trans ?_ c;rw[D,Ys];exact List.Perm.append_left _ (dC (r++l))
       ·have O:l=[]:=Yz om;have E:¬(z+b<n):=by rw[O]at v;simp only[Yo]at v;omega
        refine a1 (by rw[B];exact decide_eq_false (fun al=>E (YM.1 al))) ?_;refine⟨(b*2,f,r),⟨by show 0<b*2;omega,by show b*2<8589934592;omega,by rw[YL];exact x,K.2,by show r.length<b*2;omega,?_⟩,by show n-b*2<n-b;omega,.same ⟨rfl,rfl,rfl,int_eq P,tv⟩ (by rw[D,O,Ys,Ys]),rfl,rfl⟩;show(f.flatten++r).Perm xs;rw[D,O,Ys,Ys]at c;exact c
   ·have G:n<=b:=dM M;refine⟨?_,Z⟩;have ai:lA FE.n (t.flatten++l):=by
     cases t with
     |nil=>simpa using u
     |cons ag t=>
      have ah:=w ag sm;simp only[Ym,YE]at v;have T:l=[]:=Yz om;have af:t=[]:=by
       cases t with
       |nil=>rfl
       |cons ap t=>simp only[Ym,YE]at v;omega
      subst T af;simpa using ah.2
    rw[yy R c ai]
theorem yC(b:Bool)(xs:List FE)(f:(xs.map FE.n).Nodup)(n:Nat)(p:n=xs.length)(o:n<4294967296):
  b3 C cn (Wy b) [.ms 0 (ew b) 0 n n,(mO b)] [.row (ew b) (dz b xs)] fun q c=>c=[.row (ew b) (dz b (ct FE.n xs))]/\q=.ret (.dN []):=by
 have l:b=b:=rfl;cases b;all_goals
  let b:Bool:=yz l
  refine cA ?_;refine(EO b xs f n p o).mono (fun q c r=>?_);rw[r.1,r.2];exact⟨Z,Z⟩
theorem lq(xs:List FE)(s:(xs.map FE.n).Nodup)(u:xs.length<4294967296)(n:Nat)(r:n=xs.length)(f:Nat){σ:VS}{K:cZ->VS->Prop}(c:nth σ f=some (.row 7 (rows xs))) 
  (o:K (.ret (.ms f 7 0 n n)) (σ.set f (.row 7 (rows (ct FE.n xs))))):b3 C cn sa [.ms f 7 0 n n] σ K:=by
 refine cA ?_;refine rD (eN:=[.ms 0 7 0 n n,mO false]) (P:=fun p b=>b=rows (ct FE.n xs)/\p=.ret (.dN [])) ((yC false xs s n r om).mono fun p t q=>?_) f c (pY xs) Z Z (fun p b q=>?_)
 ·obtain⟨rfl,rfl⟩:=q;exact⟨_,Z,Z,pY _,Z,Z⟩
 ·obtain⟨rfl,rfl⟩:=q;exact o
theorem JH{σ:VS}{K:cZ->VS->Prop}(b:K (.ret (.d .cC)) σ):b3 C cn sa [.d .cC] σ K:=by
 refine cA ?_;refine cA ?_;refine cA ?_;refine b5.loop ?_;refine cA ?_;refine b5.loop ?_;refine b5.loop ?_;exact b
def cW(s:Nat->PR Ty)(c:Rd)(o p:List UInt8)(b:Bool):Nat->List nB->Nat->PR (List nB)
 |0,_,_=>.bad 0 3
 |f+1,n,l=>
  if(c.tok l).kind≠1 then .bad (c.tok l).off 3
  else if(c.tok l).text∈n.map (·.1)then .bad (c.tok l).off 5
  else match cv c [[58]] (if b&&cD (c.tok (l+1)) [63]then l+1+1 else l+1)with
   |.bad t r=>.bad t r
   |.ok _ v=>match s v with
    |.bad t r=>.bad t r
    |.ok w q=>if cD (c.tok q) p then .ok (n++[((c.tok l).text,w,b&&cD (c.tok (l+1)) [63])]) (q+1)else match cv c [o] q with
     |.bad t r=>.bad t r
     |.ok _ u=>cW s c o p b f (n++[((c.tok l).text,w,b&&cD (c.tok (l+1)) [63])]) u
def PR.map{c b:Type}(f:c->b):PR c->PR b
 |.ok l o=>.ok (f l) o
 |.bad n p=>.bad n p
def ea(n:Nat->PR Ty)(l:Rd)(c b:List UInt8)(f:Bool)(p:Nat):PR (List nB):=
 if cD (l.tok p) b then .ok [] (p+1)else(cW n l c b f l.ts.length [] p).map (ct (·.1))
def WC(n:Rd)(l:Nat)(b:List (List UInt8))(c:Bool):List FE->VS
 |[]=>[e8 n l,.box [.bp 0 0],.box [b0 c],.box [.d .cC],o7 b,.box [.map 4]]
 |x::f=>[e8 n l,.box [.bp 0 0],.box [b0 c],.box [.ms 6 7 0 (f.length+1) (f.length+1)],o7 b,.box [.map 4],.row 7 (rows (x::f))]
def nQ:List V:=[.d (.str []),.d (.int .i64 0),.d (.str []),.d (.str []),.d .cC,.d .cC,.d (.bool false)]
def Th:Nat->Bool:=fun b=>YJ b 18
def Sx:Nat->Bool:=fun b=>YJ b 16||YJ b 24
theorem n8{b n c:Nat}(o:c<=b)(f:b<4294967296)(l:n=1):(c+n)*112<=eE/\c+n<=eE:=by
 unfold eE;omega
theorem rF(b:List FE):b.length+1<b.length+1+1:=Nat.lt_succ_self _
theorem lV(b:FE)(c:List FE):nth (List.take (c.length+1) (List.drop 0 (rows (b::c)))++[nQ]) (0+(c.length+1))=some nQ:=by
 rw[cz,List.getElem?_append_right (by simp[rows])];simp[rows]
theorem wX(b:FE)(c:List FE)(f:FE):(List.take (c.length+1) (List.drop 0 (rows (b::c)))++[nQ]).set (0+(c.length+1)) ((fe f).map V.d)=rows (b::(c++[f])):=by
 rw[List.drop_zero,List.take_of_length_le (by simp[rows]),List.set_append_right _ _ (by simp[rows])];simp[rows]
variable{i:Nat->Nat}
theorem xZ(b:FE)(c:List FE)(f:FE):some (cU.row 7 ((List.take (c.length+1) (List.drop 0 (rows (b::c)))++[nQ]).set (0+(c.length+1)) ((fe f).map V.d)))=some (eC i (.row 7 (rows (b::(c++[f]))))):=by
 rw[wX];exact congrArg some (mM i 7 ((b::(c++[f])).map fe)).symm
theorem EP(f:Nat)(b:List FE)(c:FE):some (cU.box [.ms f 7 0 (b.length+1+1) (b.length+1+1)])=some (cU.box [.ms f 7 0 ((b++[c]).length+1) ((b++[c]).length+1)]):=by simp
theorem ou(xs:List FE):xs.length=(ct FE.n xs).length:=(dC xs).length_eq.symm
theorem ov{xs:List FE}{l:List nB}{o:FE}(p:(xs.map FE.n).Nodup)(n:xs.map FE.n=l.map (·.1))(b:o.n ∉ l.map (·.1)):((xs++[o]).map FE.n).Nodup:=by
 rw[YG,YH];refine⟨p,by simp,?_⟩;intro s f r c q;simp only[List.map_cons,List.map_nil,List.mem_singleton]at c;subst q;subst c;exact b (n▸f)
theorem tV(l:List nB)(n:List UInt8)(t:Ty)(o:Bool):some (o7 (l.map (·.1)++[n]))=some (eC i (o7 ((l++[(n,t,o)]).map (·.1)))):=by
 rw[fT i _ (io _),YG];rfl
def OX(o:Rd)(q:PR (List nB))(n:cZ)(b:VS):Prop:=match q with
 |.ok r f=>b=[e8 o f]/\∃l,eP r l/\n=.ret (.d l)
 |.bad c p=>∃f,b=[e8 o f]/\n=.fO (fC c p)
variable{g:Rd}
theorem tW{c:VS}{l:List nB}{xs:List FE}{t:PR (List nB)}(b n:Nat)(o:n=xs.length)(q:nth c b=some (.row 7 (rows xs)))(r:kB l xs)(s:t=.ok l e):
  cR 1 (.ret (.ms (b+1) 7 0 n n)) (e8 g e::c) (OX g t):=by
 subst s;have f:n=(xs.map fe).length:=by simpa using o
 refine cR.freeze (b+1) (es:=7) (l:=xs.map fe) q (ed _) (fun _=>⟨Z,by simp[o]⟩) (fun p=>?_);have v:sU (b+1) p (xs.map fe) (.ret (.ms (b+1) 7 0 n n))=.ret (.d (.ps p (0*7) 7 n (xs.map fe))):=by
  show cZ.ret (iW (b+1) p (xs.map fe) (.ms (b+1) 7 0 n n))=_;rw[iW,gE];show cZ.ret (.d (.ps p (0*7) 7 n (((xs.map fe).drop 0).take n)))=_;rw[gD _ _ f]
 rw[v];refine cR.drop 1 Z (by show(gY 1 (e8 g e)&&mZ 1 (c.set b .gone) 0)=true;rw[mZ];rfl) rfl (cR.now rfl ?_);exact⟨Z,_,.ps r.Xw,Z⟩
theorem EQ(b:Rd)(W:b.Wf)(P:Nat->PR Ty)(r s:List UInt8)(V:Bool)(p:Nat)(ai:p<b.ts.length)(d:fU P b p):
  b3 C cn r8 [.bp 0 0,cE r,cE s,b0 V] [e8 b p] (OX b (ea P b r s V p)):=by
 have ak:=W.len;refine cB ?_;refine b3.body Th (fun _=>Z) ?_;refine dq b p (b.tok p) s (b8 ai) om 0 Z (fun al=>?_) (fun al=>?_)
 ·refine JH ?_;refine a6 1 ?_;rw[ea,if_pos al];exact⟨Z,.cC,.nil,Z⟩
 ·refine b5.less (eh:=[(0,.bp 0 0),(1,cE r),(2,cE s),(3,.fn pS [] [.bp 1 0,.bp 5 0,.bp 2 0,.bp 3 0])]) ⟨Z,Z,Z,Z,tv⟩ ?_;refine b5.iter (fun _:Nat×List nB×List FE=>[(0,.bp 0 0),(1,cE r),(2,cE s),(3,.fn pS [] [.bp 1 0,.bp 5 0,.bp 2 0,.bp 3 0])]) (fun x=>WC b x.1 (x.2.1.map (·.1)) V x.2.2) (fun x=>b.ts.length-x.1)
   (fun x=>p<=x.1/\x.1<b.ts.length/\x.2.2.length<=x.1/\kB x.2.1 x.2.2/\(x.2.2.map FE.n).Nodup/\∃Y,b.ts.length-x.1<=Y/\cW P b r s V b.ts.length [] p=cW P b r s V Y x.2.1 x.1) ?_ (p,[],[]) ⟨Yy _,ai,Nat.zero_le _,.nil,List.nodup_nil,_,by show b.ts.length-p<=b.ts.length;omega,rfl⟩
  rintro⟨c,R,e⟩ ⟨ag,aa,m,g,a,Y,aj,h⟩;have ag:p<=c:=ag;have aa:c<b.ts.length:=aa;have m:e.length<=c:=m;have g:kB R e:=g;have a:(e.map FE.n).Nodup:=a;have ab:=g.names;have aj:b.ts.length-c<=Y:=aj;have h:cW P b r s V b.ts.length [] p=cW P b r s V Y R c:=h;obtain⟨Y,rfl⟩:∃G,Y=G+1:=⟨Y-1,om⟩;have E:ea P b r s V p=(cW P b r s V (Y+1) R c).map (ct (·.1)):=by rw[ea,if_neg (by rw[al];decide),h]
  rw[cW]at E;cases e with
  |nil=>
   refine b3.body Sx (fun _=>Z) ?_;refine o8 b W c aa (R.map (·.1)) 0 4 dc ?_ ?_ (fun y f=>?_) (fun y f=>?_) (fun y=>?_)
   ·exact Z
   ·exact Z
   ·have X:c+1<b.ts.length:=W.go c _ (b8 aa) om;cases V
    ·have A:c+1<b.ts.length:=X;intro af;refine eU b W [[58]] dc (c+1) A _ _ 0 ?_ ?_
     ·exact Z
     cases q:cv b [[58]] (c+1)with
     |bad L i=>
      intro w;refine a6 1 ?_;rw[E];simp only[y,ne_eq,not_true,if_false,f,Yt,Yn,q];exact⟨w,Z,Z⟩
     |ok _ w=>
      have M:=dJ W _ _ _ A q;have t:=c9 _ _ _ q;have t:p<=w:=by rw[t];omega
      have j:c<w:=by have:=c9 _ _ _ q;simp only[Ym,Yo]at this;omega
      refine d.call w t M 0 _ _ ?_ (fun Q ah o v S=>?_) (fun L i o v=>?_)
      ·exact Z
      ·obtain⟨G,J,I,H,n,rfl⟩:=S.eG;obtain⟨ae,O⟩:=d.lt w Q o t M v;have K:kB (R++[((b.tok c).text,Q,false)]) ([]++[(⟨(b.tok c).text,G,J,I,H,n,false,[],.cC⟩:FE)]):=g.snoc (x:=(⟨(b.tok c).text,G,J,I,H,n,false,[],.cC⟩:FE)) S;have z:((([]++[(⟨(b.tok c).text,G,J,I,H,n,false,[],.cC⟩:FE)]:List FE)).map FE.n).Nodup:=ov a ab f;intro ac;repeat first
        |refine bZ rfl ?_
        |refine b4 ?_
       refine b7 nQ Z ?_;refine dq b o (b.tok o) s (b8 O) om 0 ?_ (fun F=>?_) (fun F=>?_)
       ·exact Z
       ·refine lq [(⟨(b.tok c).text,G,J,I,H,n,false,[],.cC⟩:FE)] z (by simp only[Ym,Yp,Yo]<;>omega) 1 sm 7 ?_ ?_
        ·exact Z
        ·refine tW (l:=ct (·.1) (R++[((b.tok c).text,Q,false)])) (xs:=ct FE.n [(⟨(b.tok c).text,G,J,I,H,n,false,[],.cC⟩:FE)]) 6 _ ((by simp:1=_).trans (ou [(⟨(b.tok c).text,G,J,I,H,n,false,[],.cC⟩:FE)])) ?_ K.G7 ?_
         ·exact Z
         ·rw[E];simp only[y,ne_eq,not_true,if_false,f,Yt,Yn,q,v,F,if_true,PR.map]
       ·intro ad;refine eU b W [r] (by show 1<4294967296;decide) o O _ _ 0 ?_ ?_
        ·exact Z
        ·cases u:cv b [r] o with
         |bad L i=>
          intro l;refine a6 1 ?_;rw[E];simp only[y,ne_eq,not_true,if_false,f,Yt,Yn,q,v,F,u];exact⟨l,Z,Z⟩
         |ok _ l=>
          have U:=dJ W _ _ _ O u;have k:o<l:=by have:=c9 _ _ _ u;simp only[Ym,Yo]at this;omega
          refine⟨(l,R++[((b.tok c).text,Q,false)],[(⟨(b.tok c).text,G,J,I,H,n,false,[],.cC⟩:FE)]),⟨by show p<=l;omega,U,by show 1<=l;omega,K,z,Y,by show b.ts.length-l<=Y;omega,?_⟩,?_,?_,rfl,rfl⟩
          ·show cW P b r s _ b.ts.length [] p=cW P b r s _ Y (R++[((b.tok c).text,Q,false)]) l;rw[h,cW];simp only[y,ne_eq,not_true,if_false,f,Yt,Yn,q,v,F,u]<;>rfl
          ·show b.ts.length-l<b.ts.length-c;omega
          ·exact .pick 6 [0,1,2,3,4,5,7] ⟨Z,Z,Z,Z,tv⟩ Z Z Z Z Z dc ⟨Z,Z,Z,Z,Z,Z,Z,Z,tV R _ Q _,j2 _ _ (io _),Z,Z,Z,Z,tv⟩
      ·refine a6 1 ?_;rw[E];simp only[y,ne_eq,not_true,if_false,f,Yt,Yn,q,v];exact⟨o,Z,Z⟩
    ·refine dq b (c+1) (b.tok (c+1)) [63] (b8 X) om 0 ?_ (fun N=>?_) (fun N=>?_)
     ·exact Z
     ·have A:c+1+1<b.ts.length:=W.step X N;intro af;refine eU b W [[58]] dc (c+1+1) A _ _ 0 ?_ ?_
      ·exact Z
      cases q:cv b [[58]] (c+1+1)with
      |bad L i=>
       intro w;refine a6 1 ?_;rw[E];simp only[y,ne_eq,not_true,if_false,f,N,Yx,Yq,if_true,q];exact⟨w,Z,Z⟩
      |ok _ w=>
       have M:=dJ W _ _ _ A q;have t:=c9 _ _ _ q;have t:p<=w:=by rw[t];omega
       have j:c<w:=by have:=c9 _ _ _ q;simp only[Ym,Yo]at this;omega
       refine d.call w t M 0 _ _ ?_ (fun Q ah o v S=>?_) (fun L i o v=>?_)
       ·exact Z
       ·obtain⟨G,J,I,H,n,rfl⟩:=S.eG;obtain⟨ae,O⟩:=d.lt w Q o t M v;have K:kB (R++[((b.tok c).text,Q,true)]) ([]++[(⟨(b.tok c).text,G,J,I,H,n,true,[],.cC⟩:FE)]):=g.snoc (x:=(⟨(b.tok c).text,G,J,I,H,n,true,[],.cC⟩:FE)) S;have z:((([]++[(⟨(b.tok c).text,G,J,I,H,n,true,[],.cC⟩:FE)]:List FE)).map FE.n).Nodup:=ov a ab f;intro ac;repeat first
         |refine bZ rfl ?_
         |refine b4 ?_
        refine b7 nQ Z ?_;refine dq b o (b.tok o) s (b8 O) om 0 ?_ (fun F=>?_) (fun F=>?_)
        ·exact Z
        ·refine lq [(⟨(b.tok c).text,G,J,I,H,n,true,[],.cC⟩:FE)] z (by simp only[Ym,Yp,Yo]<;>omega) 1 sm 7 ?_ ?_
         ·exact Z
         ·refine tW (l:=ct (·.1) (R++[((b.tok c).text,Q,true)])) (xs:=ct FE.n [(⟨(b.tok c).text,G,J,I,H,n,true,[],.cC⟩:FE)]) 6 _ ((by simp:1=_).trans (ou [(⟨(b.tok c).text,G,J,I,H,n,true,[],.cC⟩:FE)])) ?_ K.G7 ?_
          ·exact Z
          ·rw[E];simp only[y,ne_eq,not_true,if_false,f,N,Yx,Yq,if_true,q,v,F,if_true,PR.map]
        ·intro ad;refine eU b W [r] (by show 1<4294967296;decide) o O _ _ 0 ?_ ?_
         ·exact Z
         ·cases u:cv b [r] o with
          |bad L i=>
           intro l;refine a6 1 ?_;rw[E];simp only[y,ne_eq,not_true,if_false,f,N,Yx,Yq,if_true,q,v,F,u];exact⟨l,Z,Z⟩
          |ok _ l=>
           have U:=dJ W _ _ _ O u;have k:o<l:=by have:=c9 _ _ _ u;simp only[Ym,Yo]at this;omega
           refine⟨(l,R++[((b.tok c).text,Q,true)],[(⟨(b.tok c).text,G,J,I,H,n,true,[],.cC⟩:FE)]),⟨by show p<=l;omega,U,by show 1<=l;omega,K,z,Y,by show b.ts.length-l<=Y;omega,?_⟩,?_,?_,rfl,rfl⟩
           ·show cW P b r s _ b.ts.length [] p=cW P b r s _ Y (R++[((b.tok c).text,Q,true)]) l;rw[h,cW];simp only[y,ne_eq,not_true,if_false,f,N,Yx,Yq,if_true,q,v,F,u]<;>rfl
           ·show b.ts.length-l<b.ts.length-c;omega
           ·exact .pick 6 [0,1,2,3,4,5,7] ⟨Z,Z,Z,Z,tv⟩ Z Z Z Z Z dc ⟨Z,Z,Z,Z,Z,Z,Z,Z,tV R _ Q _,j2 _ _ (io _),Z,Z,Z,Z,tv⟩
       ·refine a6 1 ?_;rw[E];simp only[y,ne_eq,not_true,if_false,f,N,Yx,Yq,if_true,q,v];exact⟨o,Z,Z⟩
     ·have A:c+1<b.ts.length:=X;intro af;refine eU b W [[58]] dc (c+1) A _ _ 0 ?_ ?_
      ·exact Z
      cases q:cv b [[58]] (c+1)with
      |bad L i=>
       intro w;refine a6 1 ?_;rw[E];simp only[y,ne_eq,not_true,if_false,f,N,Yq,Yu,Yn,q];exact⟨w,Z,Z⟩
      |ok _ w=>
       have M:=dJ W _ _ _ A q;have t:=c9 _ _ _ q;have t:p<=w:=by rw[t];omega
       have j:c<w:=by have:=c9 _ _ _ q;simp only[Ym,Yo]at this;omega
       refine d.call w t M 0 _ _ ?_ (fun Q ah o v S=>?_) (fun L i o v=>?_)
       ·exact Z
       ·obtain⟨G,J,I,H,n,rfl⟩:=S.eG;obtain⟨ae,O⟩:=d.lt w Q o t M v;have K:kB (R++[((b.tok c).text,Q,false)]) ([]++[(⟨(b.tok c).text,G,J,I,H,n,false,[],.cC⟩:FE)]):=g.snoc (x:=(⟨(b.tok c).text,G,J,I,H,n,false,[],.cC⟩:FE)) S;have z:((([]++[(⟨(b.tok c).text,G,J,I,H,n,false,[],.cC⟩:FE)]:List FE)).map FE.n).Nodup:=ov a ab f;intro ac;repeat first
         |refine bZ rfl ?_
         |refine b4 ?_
        refine b7 nQ Z ?_;refine dq b o (b.tok o) s (b8 O) om 0 ?_ (fun F=>?_) (fun F=>?_)
        ·exact Z
        ·refine lq [(⟨(b.tok c).text,G,J,I,H,n,false,[],.cC⟩:FE)] z (by simp only[Ym,Yp,Yo]<;>omega) 1 sm 7 ?_ ?_
         ·exact Z
         ·refine tW (l:=ct (·.1) (R++[((b.tok c).text,Q,false)])) (xs:=ct FE.n [(⟨(b.tok c).text,G,J,I,H,n,false,[],.cC⟩:FE)]) 6 _ ((by simp:1=_).trans (ou [(⟨(b.tok c).text,G,J,I,H,n,false,[],.cC⟩:FE)])) ?_ K.G7 ?_
          ·exact Z
          ·rw[E];simp only[y,ne_eq,not_true,if_false,f,N,Yq,Yu,Yn,q,v,F,if_true,PR.map]
        ·intro ad;refine eU b W [r] (by show 1<4294967296;decide) o O _ _ 0 ?_ ?_
         ·exact Z
         ·cases u:cv b [r] o with
          |bad L i=>
           intro l;refine a6 1 ?_;rw[E];simp only[y,ne_eq,not_true,if_false,f,N,Yq,Yu,Yn,q,v,F,u];exact⟨l,Z,Z⟩
          |ok _ l=>
           have U:=dJ W _ _ _ O u;have k:o<l:=by have:=c9 _ _ _ u;simp only[Ym,Yo]at this;omega
           refine⟨(l,R++[((b.tok c).text,Q,false)],[(⟨(b.tok c).text,G,J,I,H,n,false,[],.cC⟩:FE)]),⟨by show p<=l;omega,U,by show 1<=l;omega,K,z,Y,by show b.ts.length-l<=Y;omega,?_⟩,?_,?_,rfl,rfl⟩
           ·show cW P b r s _ b.ts.length [] p=cW P b r s _ Y (R++[((b.tok c).text,Q,false)]) l;rw[h,cW];simp only[y,ne_eq,not_true,if_false,f,N,Yq,Yu,Yn,q,v,F,u]<;>rfl
           ·show b.ts.length-l<b.ts.length-c;omega
           ·exact .pick 6 [0,1,2,3,4,5,7] ⟨Z,Z,Z,Z,tv⟩ Z Z Z Z Z dc ⟨Z,Z,Z,Z,Z,Z,Z,Z,tV R _ Q _,j2 _ _ (io _),Z,Z,Z,Z,tv⟩
       ·refine a6 1 ?_;rw[E];simp only[y,ne_eq,not_true,if_false,f,N,Yq,Yu,Yn,q,v];exact⟨o,Z,Z⟩
   ·refine a6 1 ?_;rw[E];simp only[y,ne_eq,not_true,if_false,f,if_true];exact⟨c+1,Z,Z⟩
   ·refine a6 1 ?_;rw[E];simp only[y,ne_eq,not_false_iff,if_true];exact⟨eR (b.tok c) c,Z,Z⟩
  |cons B D=>
   refine b3.body Sx (fun _=>Z) ?_;refine o8 b W c aa (R.map (·.1)) 0 4 dc ?_ ?_ (fun y f=>?_) (fun y f=>?_) (fun y=>?_)
   ·exact Z
   ·exact Z
   ·have X:c+1<b.ts.length:=W.go c _ (b8 aa) om;cases V
    ·have A:c+1<b.ts.length:=X;intro af;refine eU b W [[58]] dc (c+1) A _ _ 0 ?_ ?_
     ·exact Z
     cases q:cv b [[58]] (c+1)with
     |bad L i=>
      intro w;refine a6 1 ?_;rw[E];simp only[y,ne_eq,not_true,if_false,f,Yt,Yn,q];exact⟨w,Z,Z⟩
     |ok _ w=>
      have M:=dJ W _ _ _ A q;have t:=c9 _ _ _ q;have t:p<=w:=by rw[t];omega
      have j:c<w:=by have:=c9 _ _ _ q;simp only[Ym,Yo]at this;omega
      refine d.call w t M 0 _ _ ?_ (fun Q ah o v S=>?_) (fun L i o v=>?_)
      ·exact Z
      ·obtain⟨G,J,I,H,n,rfl⟩:=S.eG;obtain⟨ae,O⟩:=d.lt w Q o t M v;have K:kB (R++[((b.tok c).text,Q,false)]) ((B::D)++[(⟨(b.tok c).text,G,J,I,H,n,false,[],.cC⟩:FE)]):=g.snoc (x:=(⟨(b.tok c).text,G,J,I,H,n,false,[],.cC⟩:FE)) S;have z:(((B::D++[(⟨(b.tok c).text,G,J,I,H,n,false,[],.cC⟩:FE)]:List FE)).map FE.n).Nodup:=ov a ab f;have T:D.length+1<=c:=m;intro ac;refine a7 ?_ ?_
       ·repeat' (first|exact tv|exact rfl|exact Yy _|exact(n8 T om rfl).1|exact(n8 T om rfl).2|(simp only[rows,YK,Ym];omega)|refine bZ rfl ?_|refine YD ?_ ?_)
       refine a7 Z (a7 ⟨Z,Z,by simp[rows],Yy _,n8 T om rfl⟩ ?_);refine a1 Z (a1 (dZ (D.length+1)) ?_);refine a7 ?_ ?_
       ·repeat' (first|exact tv|exact rfl|exact Yw rfl|refine bZ rfl ?_|refine b7 nQ (lV B D) ?_|refine a7 (rF D) ?_|refine YD ?_ ?_)
       refine bZ Z ?_;refine a7 (rF D) ?_;refine a7 ?_ ?_
       ·repeat' (first|exact tv|exact rfl|exact Yw rfl|refine bZ rfl ?_|refine b7 nQ (lV B D) ?_|refine a7 (rF D) ?_|refine YD ?_ ?_)
       refine b7 nQ (lV B D) ?_;refine dq b o (b.tok o) s (b8 O) om 0 ?_ (fun F=>?_) (fun F=>?_)
       ·exact Z
       ·refine lq (B::(D++[(⟨(b.tok c).text,G,J,I,H,n,false,[],.cC⟩:FE)])) z (by simp only[Ym,Yp,Yo]<;>omega) (D.length+1+1) sm 8 ?_ ?_
        ·exact congrArg (fun x=>some (cU.row 7 x)) (wX B D (⟨(b.tok c).text,G,J,I,H,n,false,[],.cC⟩:FE))
        ·refine tW (l:=ct (·.1) (R++[((b.tok c).text,Q,false)])) (xs:=ct FE.n (B::(D++[(⟨(b.tok c).text,G,J,I,H,n,false,[],.cC⟩:FE)]))) 7 _ ((by simp:D.length+1+1=_).trans (ou (B::(D++[(⟨(b.tok c).text,G,J,I,H,n,false,[],.cC⟩:FE)])))) ?_ K.G7 ?_
         ·exact Z
         ·rw[E];simp only[y,ne_eq,not_true,if_false,f,Yt,Yn,q,v,F,if_true,PR.map]
       ·intro ad;refine eU b W [r] (by show 1<4294967296;decide) o O _ _ 0 ?_ ?_
        ·exact Z
        ·cases u:cv b [r] o with
         |bad L i=>
          intro l;refine a6 1 ?_;rw[E];simp only[y,ne_eq,not_true,if_false,f,Yt,Yn,q,v,F,u];exact⟨l,Z,Z⟩
         |ok _ l=>
          have U:=dJ W _ _ _ O u;have k:o<l:=by have:=c9 _ _ _ u;simp only[Ym,Yo]at this;omega
          refine⟨(l,R++[((b.tok c).text,Q,false)],(B::(D++[(⟨(b.tok c).text,G,J,I,H,n,false,[],.cC⟩:FE)]))),⟨by show p<=l;omega,U,by show(D++[_]).length+1<=l;simp;omega,K,z,Y,by show b.ts.length-l<=Y;omega,?_⟩,?_,?_,rfl,rfl⟩
          ·show cW P b r s _ b.ts.length [] p=cW P b r s _ Y (R++[((b.tok c).text,Q,false)]) l;rw[h,cW];simp only[y,ne_eq,not_true,if_false,f,Yt,Yn,q,v,F,u]<;>rfl
          ·show b.ts.length-l<b.ts.length-c;omega
          ·exact .pick 6 [0,1,2,3,4,5,8] ⟨Z,Z,Z,Z,tv⟩ Z Z Z Z Z dc ⟨Z,Z,Z,Z,Z,Z,EP 8 D (⟨(b.tok c).text,G,J,I,H,n,false,[],.cC⟩:FE),Z,tV R _ Q _,j2 _ _ (io _),Z,Z,xZ B D (⟨(b.tok c).text,G,J,I,H,n,false,[],.cC⟩:FE),fs _ _ _,tv⟩
      ·refine a6 1 ?_;rw[E];simp only[y,ne_eq,not_true,if_false,f,Yt,Yn,q,v];exact⟨o,Z,Z⟩
    ·refine dq b (c+1) (b.tok (c+1)) [63] (b8 X) om 0 ?_ (fun N=>?_) (fun N=>?_)
     ·exact Z
     ·have A:c+1+1<b.ts.length:=W.step X N;intro af;refine eU b W [[58]] dc (c+1+1) A _ _ 0 ?_ ?_
      ·exact Z
      cases q:cv b [[58]] (c+1+1)with
      |bad L i=>
       intro w;refine a6 1 ?_;rw[E];simp only[y,ne_eq,not_true,if_false,f,N,Yx,Yq,if_true,q];exact⟨w,Z,Z⟩
      |ok _ w=>
       have M:=dJ W _ _ _ A q;have t:=c9 _ _ _ q;have t:p<=w:=by rw[t];omega
       have j:c<w:=by have:=c9 _ _ _ q;simp only[Ym,Yo]at this;omega
       refine d.call w t M 0 _ _ ?_ (fun Q ah o v S=>?_) (fun L i o v=>?_)
       ·exact Z
       ·obtain⟨G,J,I,H,n,rfl⟩:=S.eG;obtain⟨ae,O⟩:=d.lt w Q o t M v;have K:kB (R++[((b.tok c).text,Q,true)]) ((B::D)++[(⟨(b.tok c).text,G,J,I,H,n,true,[],.cC⟩:FE)]):=g.snoc (x:=(⟨(b.tok c).text,G,J,I,H,n,true,[],.cC⟩:FE)) S;have z:(((B::D++[(⟨(b.tok c).text,G,J,I,H,n,true,[],.cC⟩:FE)]:List FE)).map FE.n).Nodup:=ov a ab f;have T:D.length+1<=c:=m;intro ac;refine a7 ?_ ?_
        ·repeat' (first|exact tv|exact rfl|exact Yy _|exact(n8 T om rfl).1|exact(n8 T om rfl).2|(simp only[rows,YK,Ym];omega)|refine bZ rfl ?_|refine YD ?_ ?_)
        refine a7 Z (a7 ⟨Z,Z,by simp[rows],Yy _,n8 T om rfl⟩ ?_);refine a1 Z (a1 (dZ (D.length+1)) ?_);refine a7 ?_ ?_
        ·repeat' (first|exact tv|exact rfl|exact Yw rfl|refine bZ rfl ?_|refine b7 nQ (lV B D) ?_|refine a7 (rF D) ?_|refine YD ?_ ?_)
        refine bZ Z ?_;refine a7 (rF D) ?_;refine a7 ?_ ?_
        ·repeat' (first|exact tv|exact rfl|exact Yw rfl|refine bZ rfl ?_|refine b7 nQ (lV B D) ?_|refine a7 (rF D) ?_|refine YD ?_ ?_)
        refine b7 nQ (lV B D) ?_;refine dq b o (b.tok o) s (b8 O) om 0 ?_ (fun F=>?_) (fun F=>?_)
        ·exact Z
        ·refine lq (B::(D++[(⟨(b.tok c).text,G,J,I,H,n,true,[],.cC⟩:FE)])) z (by simp only[Ym,Yp,Yo]<;>omega) (D.length+1+1) sm 8 ?_ ?_
         ·exact congrArg (fun x=>some (cU.row 7 x)) (wX B D (⟨(b.tok c).text,G,J,I,H,n,true,[],.cC⟩:FE))
         ·refine tW (l:=ct (·.1) (R++[((b.tok c).text,Q,true)])) (xs:=ct FE.n (B::(D++[(⟨(b.tok c).text,G,J,I,H,n,true,[],.cC⟩:FE)]))) 7 _ ((by simp:D.length+1+1=_).trans (ou (B::(D++[(⟨(b.tok c).text,G,J,I,H,n,true,[],.cC⟩:FE)])))) ?_ K.G7 ?_
          ·exact Z
          ·rw[E];simp only[y,ne_eq,not_true,if_false,f,N,Yx,Yq,if_true,q,v,F,if_true,PR.map]
        ·intro ad;refine eU b W [r] (by show 1<4294967296;decide) o O _ _ 0 ?_ ?_
         ·exact Z
         ·cases u:cv b [r] o with
          |bad L i=>
           intro l;refine a6 1 ?_;rw[E];simp only[y,ne_eq,not_true,if_false,f,N,Yx,Yq,if_true,q,v,F,u];exact⟨l,Z,Z⟩
          |ok _ l=>
           have U:=dJ W _ _ _ O u;have k:o<l:=by have:=c9 _ _ _ u;simp only[Ym,Yo]at this;omega
           refine⟨(l,R++[((b.tok c).text,Q,true)],(B::(D++[(⟨(b.tok c).text,G,J,I,H,n,true,[],.cC⟩:FE)]))),⟨by show p<=l;omega,U,by show(D++[_]).length+1<=l;simp;omega,K,z,Y,by show b.ts.length-l<=Y;omega,?_⟩,?_,?_,rfl,rfl⟩
           ·show cW P b r s _ b.ts.length [] p=cW P b r s _ Y (R++[((b.tok c).text,Q,true)]) l;rw[h,cW];simp only[y,ne_eq,not_true,if_false,f,N,Yx,Yq,if_true,q,v,F,u]<;>rfl
           ·show b.ts.length-l<b.ts.length-c;omega
           ·exact .pick 6 [0,1,2,3,4,5,8] ⟨Z,Z,Z,Z,tv⟩ Z Z Z Z Z dc ⟨Z,Z,Z,Z,Z,Z,EP 8 D (⟨(b.tok c).text,G,J,I,H,n,true,[],.cC⟩:FE),Z,tV R _ Q _,j2 _ _ (io _),Z,Z,xZ B D (⟨(b.tok c).text,G,J,I,H,n,true,[],.cC⟩:FE),fs _ _ _,tv⟩
       ·refine a6 1 ?_;rw[E];simp only[y,ne_eq,not_true,if_false,f,N,Yx,Yq,if_true,q,v];exact⟨o,Z,Z⟩
     ·have A:c+1<b.ts.length:=X;intro af;refine eU b W [[58]] dc (c+1) A _ _ 0 ?_ ?_
      ·exact Z
      cases q:cv b [[58]] (c+1)with
      |bad L i=>
       intro w;refine a6 1 ?_;rw[E];simp only[y,ne_eq,not_true,if_false,f,N,Yq,Yu,Yn,q];exact⟨w,Z,Z⟩
      |ok _ w=>
       have M:=dJ W _ _ _ A q;have t:=c9 _ _ _ q;have t:p<=w:=by rw[t];omega
       have j:c<w:=by have:=c9 _ _ _ q;simp only[Ym,Yo]at this;omega
       refine d.call w t M 0 _ _ ?_ (fun Q ah o v S=>?_) (fun L i o v=>?_)
       ·exact Z
       ·obtain⟨G,J,I,H,n,rfl⟩:=S.eG;obtain⟨ae,O⟩:=d.lt w Q o t M v;have K:kB (R++[((b.tok c).text,Q,false)]) ((B::D)++[(⟨(b.tok c).text,G,J,I,H,n,false,[],.cC⟩:FE)]):=g.snoc (x:=(⟨(b.tok c).text,G,J,I,H,n,false,[],.cC⟩:FE)) S;have z:(((B::D++[(⟨(b.tok c).text,G,J,I,H,n,false,[],.cC⟩:FE)]:List FE)).map FE.n).Nodup:=ov a ab f;have T:D.length+1<=c:=m;intro ac;refine a7 ?_ ?_
        ·repeat' (first|exact tv|exact rfl|exact Yy _|exact(n8 T om rfl).1|exact(n8 T om rfl).2|(simp only[rows,YK,Ym];omega)|refine bZ rfl ?_|refine YD ?_ ?_)
        refine a7 Z (a7 ⟨Z,Z,by simp[rows],Yy _,n8 T om rfl⟩ ?_);refine a1 Z (a1 (dZ (D.length+1)) ?_);refine a7 ?_ ?_
        ·repeat' (first|exact tv|exact rfl|exact Yw rfl|refine bZ rfl ?_|refine b7 nQ (lV B D) ?_|refine a7 (rF D) ?_|refine YD ?_ ?_)
        refine bZ Z ?_;refine a7 (rF D) ?_;refine a7 ?_ ?_
        ·repeat' (first|exact tv|exact rfl|exact Yw rfl|refine bZ rfl ?_|refine b7 nQ (lV B D) ?_|refine a7 (rF D) ?_|refine YD ?_ ?_)
        refine b7 nQ (lV B D) ?_;refine dq b o (b.tok o) s (b8 O) om 0 ?_ (fun F=>?_) (fun F=>?_)
        ·exact Z
        ·refine lq (B::(D++[(⟨(b.tok c).text,G,J,I,H,n,false,[],.cC⟩:FE)])) z (by simp only[Ym,Yp,Yo]<;>omega) (D.length+1+1) sm 8 ?_ ?_
         ·exact congrArg (fun x=>some (cU.row 7 x)) (wX B D (⟨(b.tok c).text,G,J,I,H,n,false,[],.cC⟩:FE))
         ·refine tW (l:=ct (·.1) (R++[((b.tok c).text,Q,false)])) (xs:=ct FE.n (B::(D++[(⟨(b.tok c).text,G,J,I,H,n,false,[],.cC⟩:FE)]))) 7 _ ((by simp:D.length+1+1=_).trans (ou (B::(D++[(⟨(b.tok c).text,G,J,I,H,n,false,[],.cC⟩:FE)])))) ?_ K.G7 ?_
          ·exact Z
          ·rw[E];simp only[y,ne_eq,not_true,if_false,f,N,Yq,Yu,Yn,q,v,F,if_true,PR.map]
        ·intro ad;refine eU b W [r] (by show 1<4294967296;decide) o O _ _ 0 ?_ ?_
         ·exact Z
         ·cases u:cv b [r] o with
          |bad L i=>
           intro l;refine a6 1 ?_;rw[E];simp only[y,ne_eq,not_true,if_false,f,N,Yq,Yu,Yn,q,v,F,u];exact⟨l,Z,Z⟩
          |ok _ l=>
           have U:=dJ W _ _ _ O u;have k:o<l:=by have:=c9 _ _ _ u;simp only[Ym,Yo]at this;omega
           refine⟨(l,R++[((b.tok c).text,Q,false)],(B::(D++[(⟨(b.tok c).text,G,J,I,H,n,false,[],.cC⟩:FE)]))),⟨by show p<=l;omega,U,by show(D++[_]).length+1<=l;simp;omega,K,z,Y,by show b.ts.length-l<=Y;omega,?_⟩,?_,?_,rfl,rfl⟩
           ·show cW P b r s _ b.ts.length [] p=cW P b r s _ Y (R++[((b.tok c).text,Q,false)]) l;rw[h,cW];simp only[y,ne_eq,not_true,if_false,f,N,Yq,Yu,Yn,q,v,F,u]<;>rfl
           ·show b.ts.length-l<b.ts.length-c;omega
           ·exact .pick 6 [0,1,2,3,4,5,8] ⟨Z,Z,Z,Z,tv⟩ Z Z Z Z Z dc ⟨Z,Z,Z,Z,Z,Z,EP 8 D (⟨(b.tok c).text,G,J,I,H,n,false,[],.cC⟩:FE),Z,tV R _ Q _,j2 _ _ (io _),Z,Z,xZ B D (⟨(b.tok c).text,G,J,I,H,n,false,[],.cC⟩:FE),fs _ _ _,tv⟩
       ·refine a6 1 ?_;rw[E];simp only[y,ne_eq,not_true,if_false,f,N,Yq,Yu,Yn,q,v];exact⟨o,Z,Z⟩
   ·refine a6 1 ?_;rw[E];simp only[y,ne_eq,not_true,if_false,f,if_true];exact⟨c+1,Z,Z⟩
   ·refine a6 1 ?_;rw[E];simp only[y,ne_eq,not_false_iff,if_true];exact⟨eR (b.tok c) c,Z,Z⟩
variable{a:Nat->PR Ty}
theorem fU.up{lo b:Nat}(o:fU a g lo)(q:lo<=b):fU a g b:=
 ⟨fun n r p f c l=>o.lt n r p om c l,fun n f c=>o.call n om c⟩
theorem Hg(z:g.Wf){lo:Nat}(t:∀b x n,lo<=b->b<g.ts.length->a b=.ok x n->b<n/\n<g.ts.length):
  ∀(r:Nat) (f:List Ty) (b:Nat) (y:List Ty) (n:Nat),lo<=b->b<g.ts.length->ec a g r f b=.ok y n->b<=n/\n<g.ts.length:=by
 intro r;induction r with
 |zero=>intro f b y n _ _ c;cases c
 |succ r w=>
  intro f b y n v u c;rw[ec]at c;cases o:a b with
  |bad A D=>rw[o]at c;cases c
  |ok x q=>
   rw[o]at c;obtain⟨B,p⟩:=t b x q v u o;dsimp only at c;split at c
   ·rename_i s;obtain⟨F,C⟩:=w _ _ _ _ om (z.step p s) c;exact⟨om,C⟩
   ·cases l:cv g [[93]] q with
    |bad A D=>rw[l]at c;cases c
    |ok G E=>
     rw[l]at c;cases c;have:=c9 _ _ _ l;exact⟨om,dJ z _ _ _ p l⟩
theorem wY(q:g.Wf){p:Nat}(o:∀b r e,p<=b->b<g.ts.length->a b=.ok r e->b<e/\e<g.ts.length)(c:p<g.ts.length){l:List Ty}(f:fA a g p=.ok l e):p<=e/\e<g.ts.length:=by
 rw[fA]at f;split at f
 ·rename_i n;obtain⟨t,s⟩:=Hg q o _ _ _ _ _ om (q.step c n) f;exact⟨om,s⟩
 ·cases f;exact⟨Yy _,c⟩
theorem Ct(B:g.Wf){lo:Nat}(D:∀b H p,lo<=b->b<g.ts.length->a b=.ok H p->b<p/\p<g.ts.length)(r t:List UInt8)(l:Bool):
  ∀(C:Nat) (n:List nB) (b:Nat) (I:List nB) (p:Nat),lo<=b->b<g.ts.length->cW a g r t l C n b=.ok I p->b<=p/\p<g.ts.length:=by
 intro C;induction C with
 |zero=>intro n b I p _ _ c;cases c
 |succ C G=>
  intro n b I p Q E c;rw[cW]at c;split at c
  ·cases c
  ·rename_i u;have u:(g.tok b).kind=1:=by simpa using u
   have q:b+1<g.ts.length:=B.go b _ (b8 E) om;split at c
   ·cases c
   ·have y:(if l&&cD (g.tok (b+1)) [63]then b+1+1 else b+1)<g.ts.length:=by
     split
     ·rename_i x;rw[Bool.and_eq_true]at x;exact B.step q x.2
     ·exact q
    have L:b+1<=(if l&&cD (g.tok (b+1)) [63]then b+1+1 else b+1):=by split<;>omega
    cases o:cv g [[58]] (if l&&cD (g.tok (b+1)) [63]then b+1+1 else b+1)with
    |bad J N=>rw[o]at c;cases c
    |ok S A=>
     rw[o]at c;dsimp only at c;have z:=dJ B _ _ _ y o;have K:=c9 _ _ _ o;cases s:a A with
     |bad J N=>rw[s]at c;cases c
     |ok H w=>
      rw[s]at c;dsimp only at c;obtain⟨P,v⟩:=D A H w om z s;split at c
      ·rename_i F;cases c;exact⟨om,B.step v F⟩
      ·cases f:cv g [r] w with
       |bad J N=>rw[f]at c;cases c
       |ok S O=>
        rw[f]at c;have M:=c9 _ _ _ f;obtain⟨T,R⟩:=G _ _ _ _ om (dJ B _ _ _ v f) c;exact⟨om,R⟩
variable{d j:List UInt8}
theorem o9(s:g.Wf){p:Nat}(r:∀c t e,p<=c->c<g.ts.length->a c=.ok t e->c<e/\e<g.ts.length){b:Bool}(o:p<g.ts.length){l:List nB}(n:ea a g d j b p=.ok l e):p<=e/\e<g.ts.length:=by
 rw[ea]at n;split at n
 ·rename_i q;cases n;exact⟨om,s.step o q⟩
 ·cases f:cW a g d j b g.ts.length [] p with
  |bad w x=>rw[f]at n;cases n
  |ok u v=>
   rw[f]at n;cases n;exact Ct s r d j b _ _ _ _ _ (Yy _) o f
theorem j3(A:g.Wf){p:Nat}(s:∀n w e,p<=n->n<g.ts.length->a n=.ok w e->n<e/\e<g.ts.length)(v:p<g.ts.length){l:Ty}(c:dl a g p=.ok l e):p<=e/\e<g.ts.length:=by
 rw[dl]at c;cases f:cv g [[91]] p with
 |bad x z=>rw[f]at c;cases c
 |ok D q=>
  rw[f]at c;dsimp only at c;have E:=c9 _ _ _ f;have u:=dJ A _ _ _ v f;cases o:a q with
  |bad x z=>rw[o]at c;cases c
  |ok w r=>
   rw[o]at c;dsimp only at c;obtain⟨C,t⟩:=s q w r om u o;cases b:cv g [[93]] r with
   |bad x z=>rw[b]at c;cases c
   |ok D B=>
    rw[b]at c;cases c;have y:=c9 _ _ _ b;exact⟨om,dJ A _ _ _ t b⟩
theorem tl(n:Rd)(N:n.Wf)(o:Nat->PR Ty)(b c:List UInt8)(f:Bool)(p:Nat)(L:p<n.ts.length)(H:fU o n p)(A:Nat){σ:VS}{K:cZ->VS->Prop}(z:nth σ A=some (e8 n p)) 
  (J:∀D y q,ea o n b c f p=.ok D q->eP D y->K (.ret (.d y)) (σ.set A (e8 n q))) (w:∀l v q,ea o n b c f p=.bad l v->K (.fO (fC l v)) (σ.set A (e8 n q))):b3 C cn r8 [.bp A 0,cE b,cE c,b0 f] σ K:=by
 refine b3.one (eN:=[.bp 0 0,cE b,cE c,b0 f]) (P:=fun F I=>OX n (ea o n b c f p) F [.box I]) ((EQ n N o b c f p L H).mono fun F M r=>?_) A z Z Z Z (fun F s r=>?_)
 ·have x:=r;unfold OX at r;split at r
  ·obtain⟨rfl,y,w,rfl⟩:=r;exact⟨_,Z,Z,Z,x⟩
  ·obtain⟨q,rfl,rfl⟩:=r;exact⟨_,Z,Z,Z,x⟩
 ·unfold OX at r;split at r
  ·rename_i D q v;obtain⟨t,y,E,rfl⟩:=r;have:s=xY n q:=by injection t with u;injection u
   subst this;exact J D y q v E
  ·rename_i l G v;obtain⟨q,t,rfl⟩:=r;have:s=xY n q:=by injection t with u;injection u
   subst this;exact w l G q v
theorem n9(c:Rd)(D:c.Wf)(f:Nat->PR Ty)(p:Nat)(A:p<c.ts.length)(y:fU f c p)(q:Nat){σ:VS}{K:cZ->VS->Prop}(o:nth σ q=some (e8 c p)) 
  (z:∀u s l,dl f c p=.ok u l->hU u s->K (.ret (.agg (s.map V.d))) (σ.set q (e8 c l))) (w:∀b n l,dl f c p=.bad b n->K (.fO (fC b n)) (σ.set q (e8 c l))):b3 C cn qI [.bp q 0] σ K:=by
 refine b3.one (eN:=[.bp 0 0]) (P:=zt c (dl f c p)) (Cs c D f p A y) q o Z Z Z (fun E B t=>?_);unfold zt at t;split at t
 ·rename_i u l n;obtain⟨rfl,s,v,rfl⟩:=t;exact z u s l n v
 ·rename_i b x n;obtain⟨l,rfl,rfl⟩:=t;exact w b x l n
def rG(b:List UInt8):Option Nat:=
 if b=[105,110,116]then some 2 else if b=[98,111,111,108]then some 3 else if b=[116,101,120,116]then some 4 else if b=[97,110,121]then some 0 else if b=[110,111,110,101]then some 1 else none
def kK:List qx:=[⟨cE [105,110,116],b6 2,0⟩,⟨cE [98,111,111,108],b6 3,1⟩,⟨cE [116,101,120,116],b6 4,2⟩,⟨cE [97,110,121],b6 0,3⟩,⟨cE [110,111,110,101],b6 1,4⟩]
theorem fL{b c:Nat}{f:List qx}:fR .string (cE d) (⟨cE j,k,b⟩::f) c=match decide (d=j)with
   |true=>some (some (c,k))
   |false=>fR .string (cE d) f (c+1):=rfl
theorem rH(s:List UInt8):fR .string (cE s) kK 0=some none∨∃b c,fR .string (cE s) kK 0=some (some (b,b6 c)):=by
 unfold kK;rw[fL];cases decide (s=[105,110,116])with
 |true=>exact .inr ⟨_,_,rfl⟩
 |false=>
  dsimp only;rw[fL];cases decide (s=[98,111,111,108])with
  |true=>exact .inr ⟨_,_,rfl⟩
  |false=>
   dsimp only;rw[fL];cases decide (s=[116,101,120,116])with
   |true=>exact .inr ⟨_,_,rfl⟩
   |false=>
    dsimp only;rw[fL];cases decide (s=[97,110,121])with
    |true=>exact .inr ⟨_,_,rfl⟩
    |false=>
     dsimp only;rw[fL];cases decide (s=[110,111,110,101])with
     |true=>exact .inr ⟨_,_,rfl⟩
     |false=>exact .inl rfl
theorem AS{s:List UInt8}(b:rG s=none):fR .string (cE s) kK 0=some none:=by
 unfold rG at b;have n:s≠[105,110,116]:=fun c=>by rw[if_pos c]at b;cases b
 rw[if_neg n]at b;have f:s≠[98,111,111,108]:=fun c=>by rw[if_pos c]at b;cases b
 rw[if_neg f]at b;have o:s≠[116,101,120,116]:=fun c=>by rw[if_pos c]at b;cases b
 rw[if_neg o]at b;have l:s≠[97,110,121]:=fun c=>by rw[if_pos c]at b;cases b
 rw[if_neg l]at b;have p:s≠[110,111,110,101]:=fun c=>by rw[if_pos c]at b;cases b
 unfold kK;rw[fL,decide_eq_false n,fL,decide_eq_false f,fL,decide_eq_false o,fL,decide_eq_false l,fL,decide_eq_false p];rfl
def fH(f:Nat->PR Ty)(o:Rd)(c:Nat)(b:List UInt8)(n q:Nat):PR Ty:=
 if c=5 then match rG b with
  |some v=>.ok (.mk v [] [] [] []) q
  |none=>if b=[108,105,115,116]then(dl f o q).map fun t=>.mk 5 [] [] [t] []
   else if b=[102,110]then match cv o [[40]] q with
    |.bad s r=>.bad s r
    |.ok _ l=>match ea f o [44] [41] true l with
     |.bad s r=>.bad s r
     |.ok p u=>(f u).map fun t=>.mk 8 [] [] [t] p
   else .bad n 3
 else if c=6 then
  if b=[123]then(ea f o [44] [125] false q).map fun p=>.mk 6 [] [] [] p
  else if b=[60]then(ea f o [124] [62] false q).map fun p=>.mk 7 [] [] [] p
  else .bad n 3
 else if c=2 then(fA f o q).map fun p=>.mk 10 [] b p []
 else if c=1 then match cv o [[58,58]] q with
  |.bad s r=>.bad s r
  |.ok _ l=>if(o.tok l).kind≠2 then .bad (o.tok l).off 3 else(fA f o (l+1)).map fun p=>.mk 10 b (o.tok l).text p []
 else .bad n 3
def dG(b:Rd):Nat->Nat->PR Ty
 |0,_=>.bad 0 3
 |f+1,c=>fH (dG b f) b (b.tok c).kind (b.tok c).text (b.tok c).off (c+1)
def mo:Nat->Bool:=fun b=>YJ b 37||YJ b 49||YJ b 56||YJ b 96
theorem nG{c b:Nat}(f:c≠b):decide (Yr c=Yr b)=false:=decide_eq_false (by simp only[YB];omega)
theorem Ti(l:Rd)(D:l.Wf)(f p:Nat)(F:p<l.ts.length)(E:fU (dG l f) l (p+1))(b:Nat)(c:List UInt8)(n:Nat)(q:l.ts[p]?=some ⟨b,c,n⟩)(y:dG l (f+1) p=fH (dG l f) l b c n (p+1))(w:b=5)(s:c=[105,110,116]):
  b3 C cn dI [.bp 0 0] [e8 l p] fun A u=>∃o,u=[.box o]/\cX A=true/\gC 0 o=true/\zt l (dG l (f+1) p) A o:=by
 have x:=D.len;have t:b≠0->p+1<l.ts.length:=fun z=>D.go p _ q z;have r:b≠0->eR ⟨b,c,n⟩ p=p+1:=fun z=>if_neg z;refine cy mo (fun _=>Z) ?_;refine dR l p _ q om 0 Z ?_;first|have B:p+1<l.ts.length:=t om|skip
 first|rw[r om]|skip
 subst w;subst s;have v:fR .string (cE [105,110,116]) kK 0=some (some (0,b6 2)):=rfl;repeat refine b4 ?_
 refine cA ?_;refine b7 none Z ?_;refine b7 none Z ?_;refine b7 none Z ?_;refine b7 none Z ?_;refine b7 none Z ?_;refine b7 _ v ?_;repeat refine b4 ?_
 refine a6 1 ⟨_,Z,Z,Z,?_⟩;rw[y];simp only[fH,if_true,if_false,reduceIte,Yl,PR.map];exact⟨Z,_,.mk .nil .nil,Z⟩
theorem Tj(l:Rd)(D:l.Wf)(f p:Nat)(F:p<l.ts.length)(E:fU (dG l f) l (p+1))(b:Nat)(c:List UInt8)(n:Nat)(q:l.ts[p]?=some ⟨b,c,n⟩)(y:dG l (f+1) p=fH (dG l f) l b c n (p+1))(w:b=5)(s:c=[98,111,111,108]):
  b3 C cn dI [.bp 0 0] [e8 l p] fun A u=>∃o,u=[.box o]/\cX A=true/\gC 0 o=true/\zt l (dG l (f+1) p) A o:=by
 have x:=D.len;have t:b≠0->p+1<l.ts.length:=fun z=>D.go p _ q z;have r:b≠0->eR ⟨b,c,n⟩ p=p+1:=fun z=>if_neg z;refine cy mo (fun _=>Z) ?_;refine dR l p _ q om 0 Z ?_;first|have B:p+1<l.ts.length:=t om|skip
 first|rw[r om]|skip
 subst w;subst s;have v:fR .string (cE [98,111,111,108]) kK 0=some (some (1,b6 3)):=rfl;repeat refine b4 ?_
 refine cA ?_;refine b7 none Z ?_;refine b7 none Z ?_;refine b7 none Z ?_;refine b7 none Z ?_;refine b7 none Z ?_;refine b7 _ v ?_;repeat refine b4 ?_
 refine a6 1 ⟨_,Z,Z,Z,?_⟩;rw[y];simp only[fH,if_true,if_false,reduceIte,Yl,PR.map];exact⟨Z,_,.mk .nil .nil,Z⟩
theorem Tk(l:Rd)(D:l.Wf)(f p:Nat)(F:p<l.ts.length)(E:fU (dG l f) l (p+1))(b:Nat)(c:List UInt8)(n:Nat)(q:l.ts[p]?=some ⟨b,c,n⟩)(y:dG l (f+1) p=fH (dG l f) l b c n (p+1))(w:b=5)(s:c=[116,101,120,116]):
  b3 C cn dI [.bp 0 0] [e8 l p] fun A u=>∃o,u=[.box o]/\cX A=true/\gC 0 o=true/\zt l (dG l (f+1) p) A o:=by
 have x:=D.len;have t:b≠0->p+1<l.ts.length:=fun z=>D.go p _ q z;have r:b≠0->eR ⟨b,c,n⟩ p=p+1:=fun z=>if_neg z;refine cy mo (fun _=>Z) ?_;refine dR l p _ q om 0 Z ?_;first|have B:p+1<l.ts.length:=t om|skip
 first|rw[r om]|skip
 subst w;subst s;have v:fR .string (cE [116,101,120,116]) kK 0=some (some (2,b6 4)):=rfl;repeat refine b4 ?_
 refine cA ?_;refine b7 none Z ?_;refine b7 none Z ?_;refine b7 none Z ?_;refine b7 none Z ?_;refine b7 none Z ?_;refine b7 _ v ?_;repeat refine b4 ?_
 refine a6 1 ⟨_,Z,Z,Z,?_⟩;rw[y];simp only[fH,if_true,if_false,reduceIte,Yl,PR.map];exact⟨Z,_,.mk .nil .nil,Z⟩
theorem Tl(l:Rd)(D:l.Wf)(f p:Nat)(F:p<l.ts.length)(E:fU (dG l f) l (p+1))(b:Nat)(c:List UInt8)(n:Nat)(q:l.ts[p]?=some ⟨b,c,n⟩)(y:dG l (f+1) p=fH (dG l f) l b c n (p+1))(w:b=5)(s:c=[97,110,121]):
  b3 C cn dI [.bp 0 0] [e8 l p] fun A u=>∃o,u=[.box o]/\cX A=true/\gC 0 o=true/\zt l (dG l (f+1) p) A o:=by
 have x:=D.len;have t:b≠0->p+1<l.ts.length:=fun z=>D.go p _ q z;have r:b≠0->eR ⟨b,c,n⟩ p=p+1:=fun z=>if_neg z;refine cy mo (fun _=>Z) ?_;refine dR l p _ q om 0 Z ?_;first|have B:p+1<l.ts.length:=t om|skip
 first|rw[r om]|skip
 subst w;subst s;have v:fR .string (cE [97,110,121]) kK 0=some (some (3,b6 0)):=rfl;repeat refine b4 ?_
 refine cA ?_;refine b7 none Z ?_;refine b7 none Z ?_;refine b7 none Z ?_;refine b7 none Z ?_;refine b7 none Z ?_;refine b7 _ v ?_;repeat refine b4 ?_
 refine a6 1 ⟨_,Z,Z,Z,?_⟩;rw[y];simp only[fH,if_true,if_false,reduceIte,Yl,PR.map];exact⟨Z,_,.mk .nil .nil,Z⟩
theorem Tn(l:Rd)(D:l.Wf)(f p:Nat)(F:p<l.ts.length)(E:fU (dG l f) l (p+1))(b:Nat)(c:List UInt8)(n:Nat)(q:l.ts[p]?=some ⟨b,c,n⟩)(y:dG l (f+1) p=fH (dG l f) l b c n (p+1))(w:b=5)(s:c=[110,111,110,101]):
  b3 C cn dI [.bp 0 0] [e8 l p] fun A u=>∃o,u=[.box o]/\cX A=true/\gC 0 o=true/\zt l (dG l (f+1) p) A o:=by
 have x:=D.len;have t:b≠0->p+1<l.ts.length:=fun z=>D.go p _ q z;have r:b≠0->eR ⟨b,c,n⟩ p=p+1:=fun z=>if_neg z;refine cy mo (fun _=>Z) ?_;refine dR l p _ q om 0 Z ?_;first|have B:p+1<l.ts.length:=t om|skip
 first|rw[r om]|skip
 subst w;subst s;have v:fR .string (cE [110,111,110,101]) kK 0=some (some (4,b6 1)):=rfl;repeat refine b4 ?_
 refine cA ?_;refine b7 none Z ?_;refine b7 none Z ?_;refine b7 none Z ?_;refine b7 none Z ?_;refine b7 none Z ?_;refine b7 _ v ?_;repeat refine b4 ?_
 refine a6 1 ⟨_,Z,Z,Z,?_⟩;rw[y];simp only[fH,if_true,if_false,reduceIte,Yl,PR.map];exact⟨Z,_,.mk .nil .nil,Z⟩
theorem To(l:Rd)(F:l.Wf)(f p:Nat)(I:p<l.ts.length)(A:fU (dG l f) l (p+1))(b:Nat)(c:List UInt8)(n:Nat)(q:l.ts[p]?=some ⟨b,c,n⟩)(w:dG l (f+1) p=fH (dG l f) l b c n (p+1))(B:b=5)(v:c=[108,105,115,116]):
  b3 C cn dI [.bp 0 0] [e8 l p] fun G y=>∃o,y=[.box o]/\cX G=true/\gC 0 o=true/\zt l (dG l (f+1) p) G o:=by
 have D:=F.len;have x:b≠0->p+1<l.ts.length:=fun E=>F.go p _ q E;have t:b≠0->eR ⟨b,c,n⟩ p=p+1:=fun E=>if_neg E;refine cy mo (fun _=>Z) ?_;refine dR l p _ q om 0 Z ?_;first|have u:p+1<l.ts.length:=x om|skip
 first|rw[t om]|skip
 subst B;subst v;have z:fR .string (cE [108,105,115,116]) kK 0=some none:=rfl;repeat refine b4 ?_
 refine cA ?_;refine b7 none Z ?_;refine b7 none Z ?_;refine b7 none Z ?_;refine b7 none Z ?_;refine b7 none Z ?_;refine b7 _ z ?_;repeat refine b4 ?_
 refine n9 l F (dG l f) (p+1) u A 0 ?_ (fun Q M H r s=>?_) (fun n R H r=>?_)
 ·exact Z
 ·obtain⟨L,P,N,K,J,rfl⟩:=s.eG;intro O;refine a6 1 ⟨_,Z,Z,Z,?_⟩;rw[w];simp only[fH,if_true,if_false,reduceIte,Yl,PR.map,r];exact⟨Z,_,.mk (.ps (.cons s .nil) sm) .nil,Z⟩
 ·refine a6 1 ⟨_,Z,Z,Z,?_⟩;rw[w];simp only[fH,if_true,if_false,reduceIte,Yl,PR.map,r];exact⟨H,Z,Z⟩
theorem Tp(o:Rd)(E:o.Wf)(f p:Nat)(V:p<o.ts.length)(B:fU (dG o f) o (p+1))(c:Nat)(b:List UInt8)(n:Nat)(y:o.ts[p]?=some ⟨c,b,n⟩)(v:dG o (f+1) p=fH (dG o f) o c b n (p+1))(N:c=5)(l:b=[102,110]):
  b3 C cn dI [.bp 0 0] [e8 o p] fun S J=>∃t,J=[.box t]/\cX S=true/\gC 0 t=true/\zt o (dG o (f+1) p) S t:=by
 have O:=E.len;have I:c≠0->p+1<o.ts.length:=fun Q=>E.go p _ y Q;have F:c≠0->eR ⟨c,b,n⟩ p=p+1:=fun Q=>if_neg Q;refine cy mo (fun _=>Z) ?_;refine dR o p _ y om 0 Z ?_;first|have z:p+1<o.ts.length:=I om|skip
 first|rw[F om]|skip
 subst N;have s:rG b=none:=by rw[l];rfl
 have q:b≠[108,105,115,116]:=by rw[l];decide
 have L:=AS s;repeat refine b4 ?_
 refine cA ?_;refine b7 none Z ?_;refine b7 none Z ?_;refine b7 none Z ?_;refine b7 none Z ?_;refine b7 none Z ?_;refine b7 _ L ?_;repeat refine b4 ?_
 refine a1 (decide_eq_false q) ?_;repeat refine a1 (decide_eq_false q) ?_
 refine a8 (decide_eq_true l) ?_;repeat refine a8 (decide_eq_true l) ?_
 intro g;refine eU o E [[40]] dc (p+1) z _ _ 0 ?_ ?_
 ·exact Z
 cases r:cv o [[40]] (p+1)with
 |bad n U=>
  intro P;refine a6 1 ⟨_,Z,Z,Z,?_⟩;rw[v];simp only[fH,if_true,if_false,reduceIte,Yl,PR.map,s,q,l,r];exact⟨P,Z,Z⟩
 |ok _ G=>
  have x:=dJ E _ _ _ z r;have A:p+1<=G:=by rw[c9 _ _ _ r];omega
  refine tl o E (dG o f) [44] [41] true G x (B.up A) 0 ?_ (fun j d R u M=>?_) (fun n U P u=>?_)
  ·exact Z
  ·obtain⟨T,K⟩:=o9 E (B.up A).lt x u;refine B.call R om K 0 _ _ ?_ (fun i d2 H D w=>?_) (fun n U H D=>?_)
   ·exact Z
   ·obtain⟨a,h,e,Y,W,rfl⟩:=w.eG;intro X;refine a6 1 ⟨_,Z,Z,Z,?_⟩;rw[v];simp only[fH,if_true,if_false,reduceIte,Yl,PR.map,s,q,l,r,u,D];exact⟨Z,_,.mk (.ps (.cons w .nil) sm) M,Z⟩
   ·refine a6 1 ⟨_,Z,Z,Z,?_⟩;rw[v];simp only[fH,if_true,if_false,reduceIte,Yl,PR.map,s,q,l,r,u,D];exact⟨H,Z,Z⟩
  ·refine a6 1 ⟨_,Z,Z,Z,?_⟩;rw[v];simp only[fH,if_true,if_false,reduceIte,Yl,PR.map,s,q,l,r,u];exact⟨P,Z,Z⟩
theorem Tq(l:Rd)(F:l.Wf)(f p:Nat)(H:p<l.ts.length)(G:fU (dG l f) l (p+1))(c:Nat)(b:List UInt8)(n:Nat)(r:l.ts[p]?=some ⟨c,b,n⟩)(A:dG l (f+1) p=fH (dG l f) l c b n (p+1))(y:c=5)(t:rG b=none)(s:b≠[108,105,115,116])(q:b≠[102,110]):
  b3 C cn dI [.bp 0 0] [e8 l p] fun D w=>∃o,w=[.box o]/\cX D=true/\gC 0 o=true/\zt l (dG l (f+1) p) D o:=by
 have z:=F.len;have v:c≠0->p+1<l.ts.length:=fun B=>F.go p _ r B;have u:c≠0->eR ⟨c,b,n⟩ p=p+1:=fun B=>if_neg B;refine cy mo (fun _=>Z) ?_;refine dR l p _ r om 0 Z ?_;first|have E:p+1<l.ts.length:=v om|skip
 first|rw[u om]|skip
 subst y;have x:=AS t;repeat refine b4 ?_
 refine cA ?_;refine b7 none Z ?_;refine b7 none Z ?_;refine b7 none Z ?_;refine b7 none Z ?_;refine b7 none Z ?_;refine b7 _ x ?_;repeat refine b4 ?_
 refine a1 (decide_eq_false s) ?_;repeat refine a1 (decide_eq_false s) ?_
 refine a1 (decide_eq_false q) ?_;repeat refine a1 (decide_eq_false q) ?_
 refine iR _ n 3 ?_;refine a6 1 ⟨_,Z,Z,Z,?_⟩;rw[A];simp only[fH,if_true,if_false,reduceIte,Yl,PR.map,t,s,q];exact⟨_,Z,Z⟩
theorem Ts(l:Rd)(F:l.Wf)(f p:Nat)(I:p<l.ts.length)(A:fU (dG l f) l (p+1))(b:Nat)(c:List UInt8)(n:Nat)(q:l.ts[p]?=some ⟨b,c,n⟩)(v:dG l (f+1) p=fH (dG l f) l b c n (p+1))(D:b=6)(u:c=[123]):
  b3 C cn dI [.bp 0 0] [e8 l p] fun G x=>∃o,x=[.box o]/\cX G=true/\gC 0 o=true/\zt l (dG l (f+1) p) G o:=by
 have B:=F.len;have w:b≠0->p+1<l.ts.length:=fun E=>F.go p _ q E;have s:b≠0->eR ⟨b,c,n⟩ p=p+1:=fun E=>if_neg E;refine cy mo (fun _=>Z) ?_;refine dR l p _ q om 0 Z ?_;first|have t:p+1<l.ts.length:=w om|skip
 first|rw[s om]|skip
 subst D;subst u;have y:fR .string (cE [123]) kK 0=some none:=rfl;repeat refine b4 ?_
 refine cA ?_;refine b7 none Z ?_;refine b7 none Z ?_;refine b7 none Z ?_;refine b7 none Z ?_;refine b7 none Z ?_;refine b7 _ y ?_;repeat refine b4 ?_
 refine tl l F (dG l f) [44] [125] false (p+1) t A 0 ?_ (fun L J H r z=>?_) (fun n K H r=>?_)
 ·exact Z
 ·refine a6 1 ⟨_,Z,Z,Z,?_⟩;rw[v];simp only[fH,if_true,if_false,reduceIte,Yl,PR.map,r];exact⟨Z,_,.mk .nil z,Z⟩
 ·refine a6 1 ⟨_,Z,Z,Z,?_⟩;rw[v];simp only[fH,if_true,if_false,reduceIte,Yl,PR.map,r];exact⟨H,Z,Z⟩
theorem Tt(l:Rd)(F:l.Wf)(f p:Nat)(I:p<l.ts.length)(A:fU (dG l f) l (p+1))(b:Nat)(c:List UInt8)(n:Nat)(q:l.ts[p]?=some ⟨b,c,n⟩)(v:dG l (f+1) p=fH (dG l f) l b c n (p+1))(D:b=6)(u:c=[60]):
  b3 C cn dI [.bp 0 0] [e8 l p] fun G x=>∃o,x=[.box o]/\cX G=true/\gC 0 o=true/\zt l (dG l (f+1) p) G o:=by
 have B:=F.len;have w:b≠0->p+1<l.ts.length:=fun E=>F.go p _ q E;have s:b≠0->eR ⟨b,c,n⟩ p=p+1:=fun E=>if_neg E;refine cy mo (fun _=>Z) ?_;refine dR l p _ q om 0 Z ?_;first|have t:p+1<l.ts.length:=w om|skip
 first|rw[s om]|skip
 subst D;subst u;have y:fR .string (cE [60]) kK 0=some none:=rfl;repeat refine b4 ?_
 refine cA ?_;refine b7 none Z ?_;refine b7 none Z ?_;refine b7 none Z ?_;refine b7 none Z ?_;refine b7 none Z ?_;refine b7 _ y ?_;repeat refine b4 ?_
 refine tl l F (dG l f) [124] [62] false (p+1) t A 0 ?_ (fun L J H r z=>?_) (fun n K H r=>?_)
 ·exact Z
 ·refine a6 1 ⟨_,Z,Z,Z,?_⟩;rw[v];simp only[fH,if_true,if_false,reduceIte,Yl,PR.map,r];exact⟨Z,_,.mk .nil z,Z⟩
 ·refine a6 1 ⟨_,Z,Z,Z,?_⟩;rw[v];simp only[fH,if_true,if_false,reduceIte,Yl,PR.map,r];exact⟨H,Z,Z⟩
theorem Q0(l:Rd)(E:l.Wf)(f p:Nat)(G:p<l.ts.length)(F:fU (dG l f) l (p+1))(c:Nat)(b:List UInt8)(n:Nat)(q:l.ts[p]?=some ⟨c,b,n⟩)(y:dG l (f+1) p=fH (dG l f) l c b n (p+1))(z:c=6)(s:b≠[123])(r:b≠[60])(w:fR .string (cE b) kK 0=some none):
  b3 C cn dI [.bp 0 0] [e8 l p] fun B v=>∃o,v=[.box o]/\cX B=true/\gC 0 o=true/\zt l (dG l (f+1) p) B o:=by
 have x:=E.len;have u:c≠0->p+1<l.ts.length:=fun A=>E.go p _ q A;have t:c≠0->eR ⟨c,b,n⟩ p=p+1:=fun A=>if_neg A;refine cy mo (fun _=>Z) ?_;refine dR l p _ q om 0 Z ?_;first|have D:p+1<l.ts.length:=u om|skip
 first|rw[t om]|skip
 subst z;repeat refine b4 ?_
 refine cA ?_;refine b7 none Z ?_;refine b7 none Z ?_;refine b7 none Z ?_;refine b7 none Z ?_;refine b7 none Z ?_;refine b7 _ w ?_;repeat refine b4 ?_
 refine a1 (decide_eq_false s) ?_;repeat refine a1 (decide_eq_false s) ?_
 refine a1 (decide_eq_false r) ?_;repeat refine a1 (decide_eq_false r) ?_
 refine iR _ n 3 ?_;refine a6 1 ⟨_,Z,Z,Z,?_⟩;rw[y];simp only[fH,if_true,if_false,reduceIte,Yl,PR.map,s,r];exact⟨_,Z,Z⟩
theorem Q1(l:Rd)(G:l.Wf)(f p:Nat)(I:p<l.ts.length)(H:fU (dG l f) l (p+1))(c:Nat)(b:List UInt8)(n:Nat)(q:l.ts[p]?=some ⟨c,b,n⟩)(A:dG l (f+1) p=fH (dG l f) l c b n (p+1))(B:c=6)(s:b≠[123])(r:b≠[60])(y x:Nat)(w:fR .string (cE b) kK 0=some (some (y,b6 x))):
  b3 C cn dI [.bp 0 0] [e8 l p] fun E v=>∃o,v=[.box o]/\cX E=true/\gC 0 o=true/\zt l (dG l (f+1) p) E o:=by
 have z:=G.len;have u:c≠0->p+1<l.ts.length:=fun D=>G.go p _ q D;have t:c≠0->eR ⟨c,b,n⟩ p=p+1:=fun D=>if_neg D;refine cy mo (fun _=>Z) ?_;refine dR l p _ q om 0 Z ?_;first|have F:p+1<l.ts.length:=u om|skip
 first|rw[t om]|skip
 subst B;repeat refine b4 ?_
 refine cA ?_;refine b7 none Z ?_;refine b7 none Z ?_;refine b7 none Z ?_;refine b7 none Z ?_;refine b7 none Z ?_;refine b7 _ w ?_;repeat refine b4 ?_
 refine a1 (decide_eq_false s) ?_;repeat refine a1 (decide_eq_false s) ?_
 refine a1 (decide_eq_false r) ?_;repeat refine a1 (decide_eq_false r) ?_
 refine iR _ n 3 ?_;refine a6 1 ⟨_,Z,Z,Z,?_⟩;rw[A];simp only[fH,if_true,if_false,reduceIte,Yl,PR.map,s,r];exact⟨_,Z,Z⟩
theorem Q2(l:Rd)(E:l.Wf)(f p:Nat)(H:p<l.ts.length)(A:fU (dG l f) l (p+1))(b:Nat)(c:List UInt8)(n:Nat)(q:l.ts[p]?=some ⟨b,c,n⟩)(u:dG l (f+1) p=fH (dG l f) l b c n (p+1))(z:b=2)(x:fR .string (cE c) kK 0=some none):
  b3 C cn dI [.bp 0 0] [e8 l p] fun F w=>∃o,w=[.box o]/\cX F=true/\gC 0 o=true/\zt l (dG l (f+1) p) F o:=by
 have B:=E.len;have v:b≠0->p+1<l.ts.length:=fun D=>E.go p _ q D;have s:b≠0->eR ⟨b,c,n⟩ p=p+1:=fun D=>if_neg D;refine cy mo (fun _=>Z) ?_;refine dR l p _ q om 0 Z ?_;first|have t:p+1<l.ts.length:=v om|skip
 first|rw[s om]|skip
 subst z;repeat refine b4 ?_
 refine cA ?_;refine b7 none Z ?_;refine b7 none Z ?_;refine b7 none Z ?_;refine b7 none Z ?_;refine b7 none Z ?_;refine b7 _ x ?_;repeat refine b4 ?_
 repeat refine b4 ?_
 refine ot l E (dG l f) (p+1) t A 0 ?_ (fun K I G r y=>?_) (fun n J G r=>?_)
 ·exact Z
 ·repeat refine b4 ?_
  refine a6 1 ⟨_,Z,Z,Z,?_⟩;rw[u];simp only[fH,if_true,if_false,reduceIte,Yl,PR.map,r];exact⟨Z,_,.mk y .nil,Z⟩
 ·refine a6 1 ⟨_,Z,Z,Z,?_⟩;rw[u];simp only[fH,if_true,if_false,reduceIte,Yl,PR.map,r];exact⟨G,Z,Z⟩
theorem Q3(l:Rd)(G:l.Wf)(f p:Nat)(J:p<l.ts.length)(A:fU (dG l f) l (p+1))(b:Nat)(c:List UInt8)(n:Nat)(q:l.ts[p]?=some ⟨b,c,n⟩)(u:dG l (f+1) p=fH (dG l f) l b c n (p+1))(z:b=2)(D B:Nat)(x:fR .string (cE c) kK 0=some (some (D,b6 B))):
  b3 C cn dI [.bp 0 0] [e8 l p] fun H w=>∃o,w=[.box o]/\cX H=true/\gC 0 o=true/\zt l (dG l (f+1) p) H o:=by
 have E:=G.len;have v:b≠0->p+1<l.ts.length:=fun F=>G.go p _ q F;have s:b≠0->eR ⟨b,c,n⟩ p=p+1:=fun F=>if_neg F;refine cy mo (fun _=>Z) ?_;refine dR l p _ q om 0 Z ?_;first|have t:p+1<l.ts.length:=v om|skip
 first|rw[s om]|skip
 subst z;repeat refine b4 ?_
 refine cA ?_;refine b7 none Z ?_;refine b7 none Z ?_;refine b7 none Z ?_;refine b7 none Z ?_;refine b7 none Z ?_;refine b7 _ x ?_;repeat refine b4 ?_
 repeat refine b4 ?_
 refine ot l G (dG l f) (p+1) t A 0 ?_ (fun M K I r y=>?_) (fun n L I r=>?_)
 ·exact Z
 ·repeat refine b4 ?_
  refine a6 1 ⟨_,Z,Z,Z,?_⟩;rw[u];simp only[fH,if_true,if_false,reduceIte,Yl,PR.map,r];exact⟨Z,_,.mk y .nil,Z⟩
 ·refine a6 1 ⟨_,Z,Z,Z,?_⟩;rw[u];simp only[fH,if_true,if_false,reduceIte,Yl,PR.map,r];exact⟨I,Z,Z⟩
theorem Q4(c:Rd)(y:c.Wf)(f p:Nat)(N:p<c.ts.length)(H:fU (dG c f) c (p+1))(b:Nat)(n:List UInt8)(o:Nat)(v:c.ts[p]?=some ⟨b,n,o⟩)(t:dG c (f+1) p=fH (dG c f) c b n o (p+1))(I:b=1)(E:fR .string (cE n) kK 0=some none):
  b3 C cn dI [.bp 0 0] [e8 c p] fun L B=>∃s,B=[.box s]/\cX L=true/\gC 0 s=true/\zt c (dG c (f+1) p) L s:=by
 have J:=y.len;have A:b≠0->p+1<c.ts.length:=fun K=>y.go p _ v K;have z:b≠0->eR ⟨b,n,o⟩ p=p+1:=fun K=>if_neg K;refine cy mo (fun _=>Z) ?_;refine dR c p _ v om 0 Z ?_;first|have w:p+1<c.ts.length:=A om|skip
 first|rw[z om]|skip
 subst I;repeat refine b4 ?_
 refine cA ?_;refine b7 none Z ?_;refine b7 none Z ?_;refine b7 none Z ?_;refine b7 none Z ?_;refine b7 none Z ?_;refine b7 _ E ?_;repeat refine b4 ?_
 intro Q;refine eU c y [[58,58]] dc (p+1) w _ _ 0 ?_ ?_
 ·exact Z
 cases r:cv c [[58,58]] (p+1)with
 |bad o O=>
  intro F;refine a6 1 ⟨_,Z,Z,Z,?_⟩;rw[t];simp only[fH,if_true,if_false,reduceIte,Yl,PR.map,r];exact⟨F,Z,Z⟩
 |ok _ l=>
  have u:=dJ y _ _ _ w r;have M:p+1<=l:=by rw[c9 _ _ _ r];omega
  refine rB c l 2 (c.tok l) (b8 u) om 0 ?_ (fun q=>?_) (fun q=>?_)
  ·exact Z
  ·have D:l+1<c.ts.length:=y.go l _ (b8 u) om;rw[show eR (c.tok l) l=l+1 from if_neg om];repeat refine b4 ?_
   refine ot c y (dG c f) (l+1) D (H.up om) 0 ?_ (fun R P F x G=>?_) (fun o O F x=>?_)
   ·exact Z
   ·repeat refine b4 ?_
    refine a6 1 ⟨_,Z,Z,Z,?_⟩;rw[t];simp only[fH,if_true,if_false,reduceIte,Yl,PR.map,r,q,ne_eq,not_true,x];exact⟨Z,_,.mk G .nil,Z⟩
   ·refine a6 1 ⟨_,Z,Z,Z,?_⟩;rw[t];simp only[fH,if_true,if_false,reduceIte,Yl,PR.map,r,q,ne_eq,not_true,x];exact⟨F,Z,Z⟩
  ·refine a6 1 ⟨_,Z,Z,Z,?_⟩;rw[t];simp only[fH,if_true,if_false,reduceIte,Yl,PR.map,r,q,ne_eq,not_false_iff];exact⟨_,Z,Z⟩
theorem Q5(c:Rd)(y:c.Wf)(f p:Nat)(P:p<c.ts.length)(H:fU (dG c f) c (p+1))(b:Nat)(n:List UInt8)(o:Nat)(v:c.ts[p]?=some ⟨b,n,o⟩)(t:dG c (f+1) p=fH (dG c f) c b n o (p+1))(K:b=1)(J I:Nat)(E:fR .string (cE n) kK 0=some (some (J,b6 I))):
  b3 C cn dI [.bp 0 0] [e8 c p] fun N B=>∃s,B=[.box s]/\cX N=true/\gC 0 s=true/\zt c (dG c (f+1) p) N s:=by
 have L:=y.len;have A:b≠0->p+1<c.ts.length:=fun M=>y.go p _ v M;have z:b≠0->eR ⟨b,n,o⟩ p=p+1:=fun M=>if_neg M;refine cy mo (fun _=>Z) ?_;refine dR c p _ v om 0 Z ?_;first|have w:p+1<c.ts.length:=A om|skip
 first|rw[z om]|skip
 subst K;repeat refine b4 ?_
 refine cA ?_;refine b7 none Z ?_;refine b7 none Z ?_;refine b7 none Z ?_;refine b7 none Z ?_;refine b7 none Z ?_;refine b7 _ E ?_;repeat refine b4 ?_
 intro S;refine eU c y [[58,58]] dc (p+1) w _ _ 0 ?_ ?_
 ·exact Z
 cases r:cv c [[58,58]] (p+1)with
 |bad o Q=>
  intro F;refine a6 1 ⟨_,Z,Z,Z,?_⟩;rw[t];simp only[fH,if_true,if_false,reduceIte,Yl,PR.map,r];exact⟨F,Z,Z⟩
 |ok _ l=>
  have u:=dJ y _ _ _ w r;have O:p+1<=l:=by rw[c9 _ _ _ r];omega
  refine rB c l 2 (c.tok l) (b8 u) om 0 ?_ (fun q=>?_) (fun q=>?_)
  ·exact Z
  ·have D:l+1<c.ts.length:=y.go l _ (b8 u) om;rw[show eR (c.tok l) l=l+1 from if_neg om];repeat refine b4 ?_
   refine ot c y (dG c f) (l+1) D (H.up om) 0 ?_ (fun T R F x G=>?_) (fun o Q F x=>?_)
   ·exact Z
   ·repeat refine b4 ?_
    refine a6 1 ⟨_,Z,Z,Z,?_⟩;rw[t];simp only[fH,if_true,if_false,reduceIte,Yl,PR.map,r,q,ne_eq,not_true,x];exact⟨Z,_,.mk G .nil,Z⟩
   ·refine a6 1 ⟨_,Z,Z,Z,?_⟩;rw[t];simp only[fH,if_true,if_false,reduceIte,Yl,PR.map,r,q,ne_eq,not_true,x];exact⟨F,Z,Z⟩
  ·refine a6 1 ⟨_,Z,Z,Z,?_⟩;rw[t];simp only[fH,if_true,if_false,reduceIte,Yl,PR.map,r,q,ne_eq,not_false_iff];exact⟨_,Z,Z⟩
theorem Q6(l:Rd)(F:l.Wf)(f p:Nat)(H:p<l.ts.length)(G:fU (dG l f) l (p+1))(b:Nat)(c:List UInt8)(n:Nat)(r:l.ts[p]?=some ⟨b,c,n⟩)(A:dG l (f+1) p=fH (dG l f) l b c n (p+1))(q:b≠5)(t:b≠6)(x:b≠2)(w:b≠1)(y:fR .string (cE c) kK 0=some none):
  b3 C cn dI [.bp 0 0] [e8 l p] fun D v=>∃o,v=[.box o]/\cX D=true/\gC 0 o=true/\zt l (dG l (f+1) p) D o:=by
 have z:=F.len;have u:b≠0->p+1<l.ts.length:=fun B=>F.go p _ r B;have s:b≠0->eR ⟨b,c,n⟩ p=p+1:=fun B=>if_neg B;refine cy mo (fun _=>Z) ?_;refine dR l p _ r om 0 Z ?_;first|have E:p+1<l.ts.length:=u om|skip
 first|rw[s om]|skip
 skip
 repeat refine b4 ?_
 refine cA ?_;refine b7 none Z ?_;refine b7 none Z ?_;refine b7 none Z ?_;refine b7 none Z ?_;refine b7 none Z ?_;refine b7 _ y ?_;repeat refine b4 ?_
 refine a1 (nG q) ?_;repeat refine a1 (nG q) ?_
 repeat first|refine a1 (nG q) ?_|refine a1 (nG t) ?_|refine a1 (nG x) ?_|refine a1 (nG w) ?_
 refine iR _ n 3 ?_;refine a6 1 ⟨_,Z,Z,Z,?_⟩;rw[A];simp only[fH,if_true,if_false,reduceIte,Yl,PR.map,q,t,x,w];exact⟨_,Z,Z⟩
theorem Q7(l:Rd)(H:l.Wf)(f p:Nat)(J:p<l.ts.length)(I:fU (dG l f) l (p+1))(b:Nat)(c:List UInt8)(n:Nat)(r:l.ts[p]?=some ⟨b,c,n⟩)(D:dG l (f+1) p=fH (dG l f) l b c n (p+1))(q:b≠5)(t:b≠6)(x:b≠2)(w:b≠1)(A z:Nat)(y:fR .string (cE c) kK 0=some (some (A,b6 z))):
  b3 C cn dI [.bp 0 0] [e8 l p] fun F v=>∃o,v=[.box o]/\cX F=true/\gC 0 o=true/\zt l (dG l (f+1) p) F o:=by
 have B:=H.len;have u:b≠0->p+1<l.ts.length:=fun E=>H.go p _ r E;have s:b≠0->eR ⟨b,c,n⟩ p=p+1:=fun E=>if_neg E;refine cy mo (fun _=>Z) ?_;refine dR l p _ r om 0 Z ?_;first|have G:p+1<l.ts.length:=u om|skip
 first|rw[s om]|skip
 skip
 repeat refine b4 ?_
 refine cA ?_;refine b7 none Z ?_;refine b7 none Z ?_;refine b7 none Z ?_;refine b7 none Z ?_;refine b7 none Z ?_;refine b7 _ y ?_;repeat refine b4 ?_
 refine a1 (nG q) ?_;repeat refine a1 (nG q) ?_
 repeat first|refine a1 (nG q) ?_|refine a1 (nG t) ?_|refine a1 (nG x) ?_|refine a1 (nG w) ?_
 refine iR _ n 3 ?_;refine a6 1 ⟨_,Z,Z,Z,?_⟩;rw[D];simp only[fH,if_true,if_false,reduceIte,Yl,PR.map,q,t,x,w];exact⟨_,Z,Z⟩
theorem Mw(v:Rd)(x:v.Wf)(f p:Nat)(t:p<v.ts.length)(u:fU (dG v f) v (p+1)):
  b3 C cn dI [.bp 0 0] [e8 v p] fun S J=>∃E,J=[.box E]/\cX S=true/\gC 0 E=true/\zt v (dG v (f+1) p) S E:=by
 have s:dG v (f+1) p=fH (dG v f) v (v.tok p).kind (v.tok p).text (v.tok p).off (p+1):=by rw[dG]
 have l:=b8 t;generalize v.tok p=Q at s l;obtain⟨c,b,n⟩:=Q;dsimp only at s;have cases:(c=5/\(b=[105,110,116]))∨(c=5/\b=[98,111,111,108])∨(c=5/\b=[116,101,120,116])∨(c=5/\b=[97,110,121])∨(c=5/\b=[110,111,110,101])∨(c=5/\b=[108,105,115,116])∨(c=5/\b=[102,110])∨
   (c=5/\rG b=none/\b≠[108,105,115,116]/\b≠[102,110])∨(c=6/\b=[123])∨(c=6/\b=[60])∨(c=6/\b≠[123]/\b≠[60])∨c=2∨c=1∨(c≠5/\c≠6/\c≠2/\c≠1):=by
  by_cases o:c=5
  ·by_cases h1:b=[105,110,116]
   ·exact .inl ⟨o,h1⟩
   refine .inr ?_;by_cases h2:b=[98,111,111,108]
   ·exact .inl ⟨o,h2⟩
   refine .inr ?_;by_cases I:b=[116,101,120,116]
   ·exact .inl ⟨o,I⟩
   refine .inr ?_;by_cases G:b=[97,110,121]
   ·exact .inl ⟨o,G⟩
   refine .inr ?_;by_cases w:b=[110,111,110,101]
   ·exact .inl ⟨o,w⟩
   refine .inr ?_;by_cases A:b=[108,105,115,116]
   ·exact .inl ⟨o,A⟩
   refine .inr ?_;by_cases D:b=[102,110]
   ·exact .inl ⟨o,D⟩
   refine .inr (.inl ⟨o,?_,A,D⟩);unfold rG;rw[if_neg h1,if_neg h2,if_neg I,if_neg G,if_neg w]
  ·refine .inr (.inr (.inr (.inr (.inr (.inr (.inr (.inr ?_)))))));by_cases w:c=6
   ·by_cases A:b=[123]
    ·exact .inl ⟨w,A⟩
    ·by_cases D:b=[60]
     ·exact .inr (.inl ⟨w,D⟩)
     ·exact .inr (.inr (.inl ⟨w,A,D⟩))
   ·by_cases h2:c=2
    ·exact .inr (.inr (.inr (.inl h2)))
    ·by_cases h1:c=1
     ·exact .inr (.inr (.inr (.inr (.inl h1))))
     ·exact .inr (.inr (.inr (.inr (.inr ⟨o,w,h2,h1⟩))))
 rcases cases with⟨o,r⟩|⟨o,r⟩|⟨o,r⟩|⟨o,r⟩|⟨o,r⟩|⟨o,r⟩|⟨o,r⟩|⟨o,P,R,L⟩|⟨w,B⟩|⟨w,B⟩|⟨w,O,K⟩|h2|h1|⟨F,H,N,M⟩
 ·exact Ti v x f p t u c b n l s o r
 ·exact Tj v x f p t u c b n l s o r
 ·exact Tk v x f p t u c b n l s o r
 ·exact Tl v x f p t u c b n l s o r
 ·exact Tn v x f p t u c b n l s o r
 ·exact To v x f p t u c b n l s o r
 ·exact Tp v x f p t u c b n l s o r
 ·exact Tq v x f p t u c b n l s o P R L
 ·exact Ts v x f p t u c b n l s w B
 ·exact Tt v x f p t u c b n l s w B
 ·rcases rH b with q|⟨z,y,q⟩
  ·exact Q0 v x f p t u c b n l s w O K q
  ·exact Q1 v x f p t u c b n l s w O K z y q
 ·rcases rH b with q|⟨z,y,q⟩
  ·exact Q2 v x f p t u c b n l s h2 q
  ·exact Q3 v x f p t u c b n l s h2 z y q
 ·rcases rH b with q|⟨z,y,q⟩
  ·exact Q4 v x f p t u c b n l s h1 q
  ·exact Q5 v x f p t u c b n l s h1 z y q
 ·rcases rH b with q|⟨z,y,q⟩
  ·exact Q6 v x f p t u c b n l s F H N M q
  ·exact Q7 v x f p t u c b n l s F H N M z y q
theorem fj{f c:Type}{o:f->c}{n:PR f}{b:c}(p:n.map o=.ok b e):∃l,n=.ok l e/\o l=b:=by
 cases n with
 |ok l r=>cases p;exact⟨l,rfl,rfl⟩
 |bad q s=>cases p
theorem K4(s:g.Wf){z p q:Nat}{t:Ty}(o:∀n t q,p<=n->n<g.ts.length->a n=.ok t q->n<q/\q<g.ts.length) 
  (c:e≠0->p<g.ts.length) (b:fH a g e d z p=.ok t q):p<=q/\q<g.ts.length:=by
 unfold fH at b;split at b
 ·have c:=c om;split at b
  ·cases b;exact⟨Yy _,c⟩
  ·split at b
   ·obtain⟨x,f,_⟩:=fj b;exact j3 s o c f
   ·split at b
    ·cases l:cv g [[40]] p with
     |bad F G=>rw[l]at b;cases b
     |ok H r=>
      rw[l]at b;dsimp only at b;have D:=c9 _ _ _ l;have v:=dJ s _ _ _ c l;cases w:ea a g [44] [41] true r with
      |bad F G=>rw[w]at b;cases b
      |ok J E=>
       rw[w]at b;dsimp only at b;obtain⟨C,u⟩:=o9 s (fun n t q A=>o n t q om) v w;obtain⟨x,f,_⟩:=fj b;obtain⟨I,B⟩:=o E x q om u f;exact⟨om,B⟩
    ·cases b
 ·split at b
  ·have c:=c om;split at b
   ·obtain⟨x,f,_⟩:=fj b;exact o9 s o c f
   ·split at b
    ·obtain⟨x,f,_⟩:=fj b;exact o9 s o c f
    ·cases b
  ·split at b
   ·obtain⟨x,f,_⟩:=fj b;exact wY s o (c om) f
   ·split at b
    ·have c:=c om;cases l:cv g [[58,58]] p with
     |bad F G=>rw[l]at b;cases b
     |ok H r=>
      rw[l]at b;dsimp only at b;have D:=c9 _ _ _ l;have v:=dJ s _ _ _ c l;split at b
      ·cases b
      ·rename_i y;have y:(g.tok r).kind=2:=by simpa using y
       obtain⟨x,f,_⟩:=fj b;obtain⟨C,u⟩:=wY s (fun n t q A=>o n t q om) (s.go r _ (b8 v) om) f;exact⟨om,u⟩
    ·cases b
theorem K5(u:g.Wf):∀(l b:Nat) (f:Ty) (c:Nat),b<g.ts.length->dG g l b=.ok f c->b<c/\c<g.ts.length:=by
 intro l;induction l with
 |zero=>intro b f c _ n;cases n
 |succ l q=>
  intro b f c o n;rw[dG]at n;obtain⟨w,v⟩:=K4 u (p:=b+1) (fun s f c _ t r=>q s f c t r) (fun p=>u.go b _ (b8 o) p) n;exact⟨om,v⟩
theorem ER(C:g.Wf):∀(f c:Nat),g.ts.length-c<=f->fU (dG g f) g c:=by
 intro f;induction f with
 |zero=>intro c o;exact⟨fun l t n p b=>om,fun l p b=>om⟩
 |succ f z=>
  intro c o;refine⟨fun l t n _ b x=>K5 C _ l t n b x,fun l p b F E G r u y=>?_⟩;refine b3.one (eN:=[.bp 0 0]) (P:=zt g (dG g (f+1) l)) (Mw g C f l b (z (l+1) om)) F r Z Z Z (fun H B o=>?_);unfold zt at o;split at o
  ·rename_i t n A;obtain⟨rfl,D,v,rfl⟩:=o;exact u t D n A v
  ·rename_i q w A;obtain⟨n,rfl,rfl⟩:=o;exact y q w n A
def UW(b:List UInt8)(t:Tok):Prop:=(t.kind=1->dp t.text=true)/\(t.kind=2->jH t.text=true)/\t.off<=b.length
theorem Mx{l t:List UInt8}{f n:Nat}(b:fG l=.ok f t n):f≠0/\(f=1->dp t=true)/\(f=2->jH t=true):=by
 cases l with
 |nil=>cases b
 |cons p o=>
  rw[fG]at b;split at b
  ·unfold fF at b;split at b
   ·cases b;exact⟨om,fun b=>om,fun b=>om⟩
   ·split at b
    ·rename_i c;cases b;exact⟨om,fun _=>c,fun b=>om⟩
    ·split at b
     ·rename_i c;cases b;exact⟨om,fun b=>om,fun _=>c⟩
     ·cases b
  ·split at b
   ·unfold hD at b;split at b
    ·cases b
    ·cases b;exact⟨om,fun b=>om,fun b=>om⟩
   ·split at b
    ·split at b
     ·cases b;exact⟨om,fun b=>om,fun b=>om⟩
     ·cases b
    ·split at b
     ·cases b
     ·cases b;exact⟨om,fun b=>om,fun b=>om⟩
theorem OY(s:List UInt8):∀(v b:Nat) (p:List Tok),s.length-b<v->h6 s v b=.ok p->
  p≠[]/\(∀o u,p[o]?=some u->u.kind≠0->o+1<p.length)/\p.length<=s.length-b+1/\∀u∈p,UW s u:=by
 intro v;induction v with
 |zero=>intro b p c;omega
 |succ v C=>
  intro b p I c;rw[h6]at c;split at c
  ·cases c;refine⟨by simp,fun o u n r=>?_,by simp,fun u f=>?_⟩
   ·cases o with
    |zero=>simp at n;subst n;exact absurd rfl r
    |succ o=>simp at n
   ·simp at f;subst f;exact⟨fun c=>by simp at c,fun c=>by simp at c,Yy _⟩
  ·rename_i D;cases f:fG (s.drop b)with
   |err L=>rw[f]at c;cases c
   |ok K u F=>
    rw[f]at c;dsimp only at c;obtain⟨H,A⟩:=te f;rw[List.length_drop]at A;cases t:h6 s v (b+F+dw false (s.drop (b+F)))with
    |err E G=>rw[t]at c;cases c
    |ok w=>
     rw[t]at c;cases c;obtain⟨B,x,J,z⟩:=C _ w om t;have y:0<w.length:=YN.2 B;refine⟨by simp,fun o q n r=>?_,?_,fun q l=>?_⟩
     ·cases o with
      |zero=>simp only[Ym];omega
      |succ o=>
       have:=x o q (by simpa using n) r;simp only[Ym];omega
     ·simp only[Ym];omega
     ·rcases List.mem_cons.1 l with rfl|l
      ·obtain⟨_,E,G⟩:=Mx f;exact⟨E,G,by show b<=s.length;omega⟩
      ·exact z q l
theorem K6{s:List UInt8}{l:List Tok}(b:kJ s=.ok l):s.length<=65536/\l≠[]/\(∀f c,l[f]?=some c->c.kind≠0->f+1<l.length)/\l.length<=65537/\∀c∈l,UW s c:=by
 unfold kJ at b;split at b
 ·cases b
 ·obtain⟨p,o,q,n⟩:=OY s _ _ l om b;exact⟨om,p,o,om,n⟩
theorem wZ{R:Rd}(b:kJ d=.ok R.ts):R.Wf/\0<R.ts.length:=by
 obtain⟨_,f,c,l,_⟩:=K6 b;exact⟨⟨om,c⟩,YN.2 f⟩
theorem My(s:List UInt8):∀(o b f p:Nat),h6 s o b=.err f p->p≠0:=by
 intro o;induction o with
 |zero=>intro b f p c;cases c
 |succ o q=>
  intro b f p c;rw[h6]at c;split at c
  ·cases c
  ·cases n:fG (s.drop b)with
   |err u=>rw[n]at c;cases c;exact wS n
   |ok w v r=>
    rw[n]at c;dsimp only at c;cases l:h6 s o (b+r+dw false (s.drop (b+r)))with
    |err y x=>rw[l]at c;cases c;exact q _ _ _ l
    |ok t=>rw[l]at c;cases c
theorem AT{s:List UInt8}{c:Nat}(b:kJ s=.err e c):c≠0:=by
 unfold kJ at b;split at b
 ·cases b;decide
 ·exact My s _ _ _ _ b
theorem Mz(c:List UInt8){σ:VS}{K:cZ->VS->Prop}(b:∀o,Jx (kJ c) o->K o σ):b3 C cn yw [cE c] σ K:=by
 by_cases n:c.length<4294967296
 ·exact OL c n b
 ·refine b3.closed (P:=Jx (kJ c)) ?_ Z b;refine cy Xv (fun _=>Z) ?_;refine aZ (fun l=>?_) (fun l=>absurd (dM (a:=65536) l) om);have f:=fq (a:=65536) l;refine a6 0 ⟨Z,Z,?_⟩;rw[kJ,if_pos f];rfl
end Go.Proofs.YthlkhjchcjflkaaGreatDoor
