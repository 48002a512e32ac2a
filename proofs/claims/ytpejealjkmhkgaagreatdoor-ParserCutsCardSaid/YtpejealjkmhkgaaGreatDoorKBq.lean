/- Part of the proof. -/
import Derived.Test.YtpejealjkmhkgaaGreatDoorKBp
set_option linter.all false
set_option maxHeartbeats 16000000
set_option maxRecDepth 100000
open Int renaming ofNat_eq_natCast->YL,ofNat->YN
open List renaming getElem_mem->YM,length_nil->YP,length_cons->YQ,cons_append->YT,nil_append->YV,take_of_length_le->YZ,length_append->Y0
open Bool renaming and_eq_true->YO,true_and->YX,and_true->YY
open Nat renaming pow_le_pow_right->YR,le_refl->YS,zero_le->YU,add_assoc->YW
namespace Go.Proofs.YtpejealjkmhkgaaGreatDoor
open Go.AM Go.VM
variable{i j q:D}
theorem Wp{x:List UInt8}{num:Int}{labels:List iV}(hl:fK labels j)(hlen:labels.length<4294967296)(hw:kB 9 labels):q9 9 [] [] x num i j q (fm [] 0 true 1):=by
 exact mr
theorem U0{n x:List UInt8}{num:Int}{labels:List iV}(a:cM n=true)(hl:fK labels j)(hlen:labels.length<4294967296)(hw:kB 10 labels):q9 10 [] n x num i j q (fm [110] 0 false 2):=by
 exact mr
theorem U1{x:List UInt8}{num:Int}{labels:List iV}(hl:fK labels j)(hlen:labels.length<4294967296)(hw:kB 11 labels):q9 11 [] [] x num i j q (fm [] 1 false 1):=by
 exact mr
theorem U2{x:List UInt8}{num:Int}{labels:List iV}(hl:fK labels j)(hlen:labels.length<4294967296)(hw:kB 12 labels):q9 12 [] [] x num i j q (fm [] 1 false 3):=by
 exact mr
theorem U3{x:List UInt8}{num:Int}{labels:List iV}(hl:fK labels j)(hlen:labels.length<4294967296)(hw:kB 13 labels):q9 13 [] [] x num i j q (fm [118] 1 true 1):=by
 exact mr
theorem U4{x:List UInt8}{num:Int}{labels:List iV}(hl:fK labels j)(hlen:labels.length<4294967296)(hw:kB 14 labels):q9 14 [] [] x num i j q (fm [] 1 false (-1)):=by
 exact mr
theorem U5{n x:List UInt8}{num:Int}{labels:List iV}(b:cM n=true)(a:cM x=true)(hl:fK labels j)(hlen:labels.length<4294967296)(hw:kB 15 labels):q9 15 [] n x num i j q (fm [110,120] 1 false 3):=by
 exact mr
theorem Qe{n x:List UInt8}{num:Int}{labels:List iV}(hl:fK labels j)(hlen:labels.length<4294967296)(hw:kB 16 labels):q9 16 [] n x num i j q (fm [110] 0 false (-1)):=by
 exact mr
variable{w:Nat}
theorem Bn{k:Nat}(c:k≠16)(e:k≠8){m n x s:List UInt8}{num t:Int}{l:Bool}{labels:List iV}(f:fK labels j)(o:labels.length<4294967296)(A:w<4:=by decide):
  b1 C b7 uw [V9 k m n x num i j q,fm s t l (YN w)] [] fun E a=>a=[]/\E=.ret (b3 (w+labels.length)):=by
 have B:decide (YN k=16)=false:=decide_eq_false fun g=>c (by simp only[YL]at g;omega);have F:decide (YN k=8)=false:=decide_eq_false fun g=>e (by simp only[YL]at g;omega);refine cz ?_;have p:decide (YN w<0)=false:=decide_eq_false (by simp only[YL];omega);repeat refine dX ?_
 cases f with
 |nil=>exact a7 0 ⟨rfl,congrArg (fun x=>dC.ret (V.d (D.int .i64 x))) (dg (b:=0) om)⟩
 |ps h=>
  have b:=h.len;exact a7 0 ⟨Z,congrArg (fun x=>dC.ret (V.d (D.int .i64 x))) ((dg om).trans (by rw[b]))⟩
theorem Nj{l:List iV}(h:w<l.length):y9 (l.take (w+1))=y9 (l.take w)+if l[w].vu then 1 else 0:=by
 rw[List.take_add_one,List.getElem?_eq_getElem h,y9,y9,List.filter_append,Y0];simp only[Option.toList_some,List.filter_cons,List.filter_nil];split<;>simp
theorem SD(l:List iV):y9 l<=l.length:=List.length_filter_le _ _
theorem Nk{m n x s:List UInt8}{num t:Int}{l:Bool}{g:Int}{labels:List iV}(H:fK labels j)(G:labels.length<4294967296):
  b1 C b7 uw [V9 8 m n x num i j q,fm s t l g] [] fun K A=>A=[]/\K=.ret (b3 (y9 labels+1)):=by
 refine cz ?_;cases H with
 |nil=>
  refine cl.loop ?_;exact a7 0 ⟨Z,Z⟩
 |ps h=>
  rename_i I F e f;have o:=h.len;refine cl.less (eW:=[(5,b3 1),(20,.d (.ps I F 8 e f)),(21,b3 labels.length),(22,b3 0)]) ⟨Z,Z,int_eq (by rw[o]),rfl,tv⟩ ?_;refine cl.iter (fun b:Nat=>[(5,b3 (y9 (labels.take b)+1)),(20,.d (.ps I F 8 e f)),(21,b3 labels.length),(22,b3 b)]) (fun _=>[.box (tG 8 m n x num i (.ps I F 8 e f) q),.box [cq s,.d (.int .i64 t),ct l,.d (.int .i64 g)]]) (fun b=>labels.length-b) (fun b=>b<=labels.length) ?_ 0 (YU _);intro b O;apply aZ<;>intro E
  ·have a:b<labels.length:=fF E;obtain⟨Q,J,B⟩:=h.get a;obtain⟨L,P,tn,M,N,rfl⟩:=B.di;have c:=Nj a;have k:=SD (labels.take b);rw[List.length_take]at k;refine b0 Z ?_;refine b4 _ (by rw[cv];exact J) ?_;apply aZ<;>intro p
   ·rw[p]at c;refine⟨b+1,a,by show labels.length-(b+1)<labels.length-b;omega,.drop 2 ⟨int_eq ?_,rfl,rfl,int_eq (cp om),tv⟩ rfl rfl rfl rfl rfl rfl rfl,rfl,rfl⟩;rw[c];exact cp om
   ·rw[p]at c;refine⟨b+1,a,by show labels.length-(b+1)<labels.length-b;omega,.drop 2 ⟨int_eq ?_,rfl,rfl,int_eq (cp om),tv⟩ rfl rfl rfl rfl rfl rfl rfl,rfl,rfl⟩;rw[c];rfl
  ·have a:labels.length<=b:=dR E;rw[YZ a];exact a7 0 ⟨Z,Z⟩
theorem Qf{a b:Nat}(h:a=b):(!decide (YN a=YN b))=false:=by simp[h]
variable{y:Prop}
theorem SE (h:y:=by
 rcases hl.inv with⟨_,rfl⟩|⟨b,o,c,els,rfl,WK⟩;all_goals
  rcases hk.inv with⟨YB,rfl⟩|⟨b2,o2,c2,ml,rfl,YC⟩
  ·subst YB;have TU:0=_:=TU;have hN:=Qf TU;have YK:(!decide ((0:Int)=Int.ofNat _))=false:=hN;repeat' first|(change hz _ _ _;first|refine a8 (by with_reducible assumption) ?_|refine a6 (by with_reducible assumption) ?_|refine aZ (fun _=>?_) (fun _=>?_))|refine dy (args:=[.str _,.str _]) (x:=.bool true) rfl rfl ?_|refine dy (args:=[.str _,.str _]) (x:=.bool false) rfl rfl ?_|refine fin ?_|(show b1 C b7 kj _ _ _;refine b9 ?_)
   all_goals first|exact a7 0 ⟨rfl,rfl⟩|(exact absurd TU om)
  ·have hN:=Qf (YC.len.trans TU);repeat' first|(change hz _ _ _;first|refine a8 (by with_reducible assumption) ?_|refine a6 (by with_reducible assumption) ?_|refine aZ (fun _=>?_) (fun _=>?_))|refine dy (args:=[.str _,.str _]) (x:=.bool true) rfl rfl ?_|refine dy (args:=[.str _,.str _]) (x:=.bool false) rfl rfl ?_|refine fin ?_|(show b1 C b7 kj _ _ _;refine b9 ?_)
   all_goals exact a7 0 ⟨rfl,rfl⟩):y:=h
theorem SF (h:y:=by
 refine cz ?_;repeat' first|(change hz _ _ _;first|refine a8 (by with_reducible assumption) ?_|refine a6 (by with_reducible assumption) ?_|refine aZ (fun _=>?_) (fun _=>?_))|refine dy (args:=[.str _,.str _]) (x:=.bool true) rfl rfl ?_|refine dy (args:=[.str _,.str _]) (x:=.bool false) rfl rfl ?_|refine q5 hd ?_|refine w7 hd (fun _=>?_)|(show b1 C b7 kj _ _ _;refine b9 ?_)
 all_goals exact a7 3 hk):y:=h
def Ht(k:Nat)(a b c:D)(e:List UInt8)(t:Int)(l:Bool)(f:Int):VS:=[.box (tG k [] [] [] 0 a b c),.box [cq e,.d (.int .i64 t),ct l,.d (.int .i64 f)],.box [.fn kj [] [.bp 1 0]]]
theorem Qg{labels:List iV}{kids:List Ex}(hl:fK labels i)(f:labels.length<4294967296)(g:kB 5 labels)(hk:ij kids j)(TU:kids.length=0+labels.length):fC 5 [] [] [] 0 .cn i j (fm [] 0 true 0):=by
 have fin:∀{l:dC->VS->Prop},l (.ret (ct false)) (Ht 5 .cn i j [] 0 true 0)->b1 C b7 dO [.d i,.fn kl [] [.bp 2 0]] (Ht 5 .cn i j [] 0 true 0) l:=by
  intro l m;refine li Z _ labels hl f (fun A h n hd l hk=>?_) m;have e:=g.var _ (YM h);have a:=g.ty _ (YM h);generalize labels[A]=B at e a hd;obtain⟨s,t,x,p⟩:=B;simp at e a;obtain⟨rfl,rfl⟩:=a;subst e;have hd:gK c1 n:=hd;rcases q4 hd with rfl|⟨b,o,c,rfl⟩;all_goals exact SF
 unfold fC;refine cz ?_;refine cQ (Bn (k:=5) dc dc hl f) Z Z ?_;exact SE
theorem Nl{labels:List iV}{kids:List Ex}(hl:fK labels i)(f:labels.length<4294967296)(g:kB 9 labels)(hk:ij kids j)(TU:kids.length=1+labels.length):fC 9 [] [] [] 0 .cn i j (fm [] 0 true 1):=by
 have fin:∀{l:dC->VS->Prop},l (.ret (ct false)) (Ht 9 .cn i j [] 0 true 1)->b1 C b7 dO [.d i,.fn kl [] [.bp 2 0]] (Ht 9 .cn i j [] 0 true 1) l:=by
  intro l m;refine li Z _ labels hl f (fun A h n hd l hk=>?_) m;have e:=g.var _ (YM h);have a:=g.ty _ (YM h);generalize labels[A]=B at e a hd;obtain⟨s,t,x,p⟩:=B;simp at e a;obtain⟨rfl,rfl⟩:=a;subst e;have hd:gK c1 n:=hd;rcases q4 hd with rfl|⟨b,o,c,rfl⟩;all_goals exact SF
 unfold fC;refine cz ?_;refine cQ (Bn (k:=9) dc dc hl f) Z Z ?_;exact SE
theorem Qh{t:Ty}(s:ib [t] i){labels:List iV}{kids:List Ex}(hl:fK labels j)(a:labels.length<4294967296)(l:kB 13 labels)(hk:ij kids q)(TU:kids.length=1+labels.length):fC 13 [] [] [] 0 i j q (fm [118] 1 true 1):=by
 obtain⟨h,n,g,d9,rfl⟩:=s.np;have fin:∀{p:dC->VS->Prop},p (.ret (ct false)) (Ht 13 (.ps h n 5 g [d9]) j q [118] 1 true 1)->b1 C b7 dO [.d j,.fn kl [] [.bp 2 0]] (Ht 13 (.ps h n 5 g [d9]) j q [118] 1 true 1) p:=by
  intro p x;refine li Z _ labels hl a (fun B m G hd p hk=>?_) x;have f:=l.var _ (YM m);have e:=l.ty _ (YM m);generalize labels[B]=J at f e hd;obtain⟨H,I,F,E⟩:=J;simp at f e;obtain⟨rfl,rfl⟩:=e;have A:=Sr f;have hd:gK c1 G:=hd;rcases q4 hd with rfl|⟨b,o,c,rfl⟩;all_goals exact SF
 unfold fC;refine cz ?_;refine cQ (Bn (k:=13) dc dc hl a) Z Z ?_;exact SE
theorem Nn{labels:List iV}{kids:List Ex}(hl:fK labels i)(a:labels.length<4294967296)(e:kB 8 labels)(hk:ij kids j)(TU:kids.length=y9 labels+1):fC 8 [] [] [] 0 .cn i j (fm [116,111] 0 true 1):=by
 have fin:∀{g:dC->VS->Prop},g (.ret (ct false)) (Ht 8 .cn i j [116,111] 0 true 1)->b1 C b7 dO [.d i,.fn kl [] [.bp 2 0]] (Ht 8 .cn i j [116,111] 0 true 1) g:=by
  intro g h;refine li Z _ labels hl a (fun k f B hd g hk=>?_) h;have b:=e.var _ (YM f);have c:=e.ty _ (YM f);generalize labels[k]=A at b c hd;obtain⟨s,t,n,x⟩:=A;simp at b c;subst b;obtain⟨l,p,tn,m,o,rfl⟩:=hd.di;exact SF
 unfold fC;refine cz ?_;refine cQ (Nk hl a) Z Z ?_;exact SE
def XT(k:Nat)(m n x:List UInt8)(num:Int)(b c a:D):Prop:=∃l f g h e,eN (.int .i64) (b3 k) PZ 0=some (some (l,fm f g h e))/\fC k m n x num b c a (fm f g h e)/\q9 k m n x num b c a (fm f g h e)
theorem gO(k:Nat):kB k []:=⟨by simp,List.Pairwise.nil,by simp,by simp⟩
theorem Wq{k:Nat}{m n x:List UInt8}{num:Int}{types:List Ty}{labels:List iV}{kids:List Ex}(h:gv (.mk k m n x num types labels kids))(c:ib types i)(a:fK labels j)(b:ij kids q)(e:labels.length<4294967296):XT k m n x num i j q:=by
 have g:([]:List iV).length<4294967296:=dc;cases h with
 |int=>obtain rfl:=c.cV;exact⟨0,_,_,_,_,rfl,fits_int _ a b,Wg a g (gO 0)⟩
 |text=>obtain rfl:=c.cV;exact⟨1,_,_,_,_,rfl,M1 _ a b,Wh a g (gO 1)⟩
 |bool=>obtain rfl:=c.cV;exact⟨2,_,_,_,_,rfl,fits_bool _ a b,Wi a g (gO 2)⟩
 |loc f=>obtain rfl:=c.cV;exact⟨3,_,_,_,_,rfl,P0 _ a b,Wj f a g (gO 3)⟩
 |val p f _ _=>exact⟨4,_,_,_,_,rfl,P1 _ _ _ a b,Wk p f a g (gO 4)⟩
 |UI l o=>obtain rfl:=c.cV;exact⟨5,_,_,_,_,rfl,Qg a e l b om,Wl a e l⟩
 |V7 f=>obtain rfl:=c.cV;exact⟨6,_,_,_,_,rfl,M2 _ a b,Wm f a g (gO 6)⟩
 |inj f=>obtain rfl:=c.cV;exact⟨7,_,_,_,_,rfl,P2 _ a b,Wn f a g (gO 7)⟩
 |func l o=>obtain rfl:=c.cV;exact⟨8,_,_,_,_,rfl,Nn a e l b o,Wo a e l⟩
 |call l o=>obtain rfl:=c.cV;exact⟨9,_,_,_,_,rfl,Nl a e l b om,Wp a e l⟩
 |V8 f=>obtain rfl:=c.cV;exact⟨10,_,_,_,_,rfl,Nf _ a b,U0 f a g (gO 10)⟩
 |X7 _=>exact⟨11,_,_,_,_,rfl,Qa c a b,U1 a g (gO 11)⟩
 |cond _=>exact⟨12,_,_,_,_,rfl,Nh c a b,U2 a g (gO 12)⟩
 |XO _ l o=>exact⟨13,_,_,_,_,rfl,Qh c a e l b om,U3 a e l⟩
 |X8 _=>exact⟨14,_,_,_,_,rfl,Qb c a b,U4 a g (gO 14)⟩
 |fold _ f s=>exact⟨15,_,_,_,_,rfl,Ni _ _ c a b,U5 f s a g (gO 15)⟩
 |one f=>obtain rfl:=c.cV;exact⟨16,_,_,_,_,rfl,Qc f a b,Qe a g (gO 16)⟩
 |two f=>obtain rfl:=c.cV;exact⟨16,_,_,_,_,rfl,Qd f a b,Qe a g (gO 16)⟩
theorem gv.Ss{k:Nat}{m n x:List UInt8}{num:Int}{types:List Ty}{labels:List iV}{kids:List Ex}(h:gv (.mk k m n x num types labels kids)):kB k labels:=by
 cases h<;>first|exact gO _|assumption
theorem gv.Wr{k:Nat}{m n x:List UInt8}{num:Int}{types:List Ty}{labels:List iV}{kids:List Ex}(h:gv (.mk k m n x num types labels kids))(a:k=8):types=[]:=by
 cases h<;>first|rfl|omega
variable{v:Ex}
theorem gv.all(h:gv v):∀b∈ox v,gu b:=by
 have g:∀{k:Nat} {labels:List iV},kB k labels->∀b∈(if k=8 then labels.map iV.ty else []),gu b:=fun{k labels} c b a=>by
  split at a
  ·rename_i e;obtain⟨x,l,rfl⟩:=List.mem_map.1 a;have:=c.ty x l;rwa[if_pos e]at this
  ·simp at a
 obtain⟨k,m,n,x,num,types,labels,kids⟩:=v;intro b a;rw[ox]at a;rcases List.mem_append.1 a with h1|h1
 ·cases h<;>first|(simp at h1;done)|(simp at h1;subst h1;assumption)|(rename_i f _;exact f b h1)
 ·exact g h.Ss b h1
def qf:Ex->Nat
 |.mk k m n x num types labels kids=>if 32<labels.length∨8<types.length∨65536<x.length then 7 else if k=15/\n=x then 5 else sP ((types++if k=8 then labels.map iV.ty else []).any qZ)
section
variable{k:Nat} {m n x:List UInt8} {num:Int} {types:List Ty} {labels:List iV} {kids:List Ex}
theorem tL(h:32<labels.length∨8<types.length∨65536<x.length):qf (.mk k m n x num types labels kids)=7:=by rw[qf,if_pos h]
theorem JY(h:¬(32<labels.length∨8<types.length∨65536<x.length))(a:k=15)(b:n=x):qf (.mk k m n x num types labels kids)=5:=by rw[qf,if_neg h,if_pos ⟨a,b⟩]
theorem No(h:¬(32<labels.length∨8<types.length∨65536<x.length))(a:¬(k=15/\n=x)):qf (.mk k m n x num types labels kids)=sP ((ox (.mk k m n x num types labels kids)).any qZ):=by rw[qf,if_neg h,if_neg a,ox]
end
theorem ib.inv{l:List Ty}(h:ib l i):(l=[]/\i=.cn)∨∃b e c a,i=.ps b e 5 c a/\eX l a:=by
 cases h with
 |nil=>exact .inl ⟨rfl,rfl⟩
 |ps h _=>exact .inr ⟨_,_,_,_,rfl,h⟩
def Ws:Nat->Bool:=fun a=>Nat.beq a 1000008||Nat.beq a 1000013
def E3(k:Nat)(m n x:List UInt8)(num:Int)(a b c:D)(e:List UInt8)(t:Int)(l:Bool)(f:Int):VS:=[EX,.box (tG k m n x num a b c),.box [cq e,.d (.int .i64 t),ct l,.d (.int .i64 f)]]
theorem Qi{l:List Ty}(h:w<l.length)(a:qZ l[w]=true):l.any qZ=true:=List.any_eq_true.2 ⟨_,YM h,a⟩
theorem any_none{l:List Ty}(h:∀b (a:b<l.length),qZ l[b]=false):l.any qZ=false:=by
 rw[List.any_eq_false];intro e c;obtain⟨b,a,rfl⟩:=List.mem_iff_getElem.1 c;rw[h b a];decide
theorem JZ{k:Nat}{m n x:List UInt8}{num:Int}{types:List Ty}{labels:List iV}{kids:List Ex}(h:gv (.mk k m n x num types labels kids))(E:ib types i)(F:fK labels j)(G:ij kids q)(w:types.length+labels.length<4294967296)(t:cC (ox (.mk k m n x num types labels kids))<4294967295):
  b1 C b7 wh [V9 k m n x num i j q,.map 0] [EX] fun aq ag=>ag=[EX]/\cN aq=true/\aq=.ret (b3 (qf (.mk k m n x num types labels kids))):=by
 have A:ly (.mk k m n x num types labels kids) [.int .i64 (YN k),.str m,.str n,.str x,.int .i64 num,i,j,q]:=.mk E F G;obtain⟨K,s,T,U,S,B,o,c⟩:=Wq h E F G om;have I:=h.Ss;have f:=h.all;have J:=h.Wr;refine cA Ws (fun _=>Z) ?_;refine b4 (some (K,fm s T U S)) B ?_;refine cQ o Z Z ?_;apply gh (ι:=Unit) (T:=fun _=>[(2,.bp 1 0)]) (S:=fun _=>E3 k m n x num i j q s T U S) (I:=fun _=>¬(32<labels.length∨8<types.length∨65536<x.length))
 ·intro p;rcases F.inv with⟨u,l⟩|⟨b,aj,aE,P,l,aa⟩
  ·have z:labels.length=0:=by rw[u];rfl
   rcases E.inv with⟨N,e⟩|⟨an,al,am,v,e,Q⟩
   ·have M:types.length=0:=by rw[N];rfl
    have a:=c;rw[l,e]at a;rw[l,e];repeat' first|(change hz _ _ _;first|refine a8 (by with_reducible assumption) ?_|refine a6 (by with_reducible assumption) ?_|refine aZ (fun _=>?_) (fun _=>?_))|refine cQ a rfl rfl ?_
    all_goals first
     |exact a7 1 ⟨rfl,rfl,congrArg (fun V=>dC.ret (b3 V)) (tL (by clear o c a B p f A t J I h F E G;simp only[decide_eq_true_eq,decide_eq_false_iff_not,YL]at*;omega)).symm⟩
     |exact cF (eW:=[(2,.bp 1 0)]) (ii:=E3 k m n x num i j q s T U S) (.same ⟨rfl,tv⟩ (by rw[l,e];rfl)) (p () (by clear o c a B p f A t J I h F E G;simp only[decide_eq_true_eq,decide_eq_false_iff_not,YL]at*;omega))
   ·have M:=Q.len;have a:=c;rw[l,e]at a;rw[l,e];repeat' first|(change hz _ _ _;first|refine a8 (by with_reducible assumption) ?_|refine a6 (by with_reducible assumption) ?_|refine aZ (fun _=>?_) (fun _=>?_))|refine cQ a rfl rfl ?_
    all_goals first
     |exact a7 1 ⟨rfl,rfl,congrArg (fun V=>dC.ret (b3 V)) (tL (by clear o c a B p f A t J I h F E G;simp only[decide_eq_true_eq,decide_eq_false_iff_not,YL]at*;omega)).symm⟩
     |exact cF (eW:=[(2,.bp 1 0)]) (ii:=E3 k m n x num i j q s T U S) (.same ⟨rfl,tv⟩ (by rw[l,e];rfl)) (p () (by clear o c a B p f A t J I h F E G;simp only[decide_eq_true_eq,decide_eq_false_iff_not,YL]at*;omega))
  ·have z:=aa.len;rcases E.inv with⟨N,e⟩|⟨an,al,am,v,e,Q⟩
   ·have M:types.length=0:=by rw[N];rfl
    have a:=c;rw[l,e]at a;rw[l,e];repeat' first|(change hz _ _ _;first|refine a8 (by with_reducible assumption) ?_|refine a6 (by with_reducible assumption) ?_|refine aZ (fun _=>?_) (fun _=>?_))|refine cQ a rfl rfl ?_
    all_goals first
     |exact a7 1 ⟨rfl,rfl,congrArg (fun V=>dC.ret (b3 V)) (tL (by clear o c a B p f A t J I h F E G;simp only[decide_eq_true_eq,decide_eq_false_iff_not,YL]at*;omega)).symm⟩
     |exact cF (eW:=[(2,.bp 1 0)]) (ii:=E3 k m n x num i j q s T U S) (.same ⟨rfl,tv⟩ (by rw[l,e];rfl)) (p () (by clear o c a B p f A t J I h F E G;simp only[decide_eq_true_eq,decide_eq_false_iff_not,YL]at*;omega))
   ·have M:=Q.len;have a:=c;rw[l,e]at a;rw[l,e];repeat' first|(change hz _ _ _;first|refine a8 (by with_reducible assumption) ?_|refine a6 (by with_reducible assumption) ?_|refine aZ (fun _=>?_) (fun _=>?_))|refine cQ a rfl rfl ?_
    all_goals first
     |exact a7 1 ⟨rfl,rfl,congrArg (fun V=>dC.ret (b3 V)) (tL (by clear o c a B p f A t J I h F E G;simp only[decide_eq_true_eq,decide_eq_false_iff_not,YL]at*;omega)).symm⟩
     |exact cF (eW:=[(2,.bp 1 0)]) (ii:=E3 k m n x num i j q s T U S) (.same ⟨rfl,tv⟩ (by rw[l,e];rfl)) (p () (by clear o c a B p f A t J I h F E G;simp only[decide_eq_true_eq,decide_eq_false_iff_not,YL]at*;omega))
 ·intro _ O;refine Bd _ labels F om I.VZ ?_;apply gh (ι:=Unit) (T:=fun _=>[(2,.bp 1 0)]) (S:=fun _=>E3 k m n x num i j q s T U S) (I:=fun _=>¬(k=15/\n=x))
  ·intro p;apply aZ<;>intro ae
   ·repeat refine dX ?_
    apply aZ<;>intro ab
    ·repeat refine dX ?_
     exact a7 1 ⟨Z,Z,congrArg (fun V=>dC.ret (b3 V)) (JY O (CM (b:=15) ae) (of_decide_eq_true ab)).symm⟩
    ·repeat refine dX ?_
     exact cF (eW:=[(2,.bp 1 0)]) (ii:=E3 k m n x num i j q s T U S) (.same ⟨Z,tv⟩ Z) (p () (fun y=>of_decide_eq_false ab y.2))
   ·repeat refine dX ?_
    exact cF (eW:=[(2,.bp 1 0)]) (ii:=E3 k m n x num i j q s T U S) (.same ⟨Z,tv⟩ Z) (p () (fun y=>Er (b:=15) ae y.1))
  ·intro _ W;rw[No O W];refine Hf _ _ A (fun _ _ _ _ _ _ _ _ ap=>by cases ap;exact J) om (fun _ _ _ _ _ _ _ _ ap=>by cases ap;exact w) (fun ay ah=>?_);generalize ox (.mk k m n x num types labels kids)=own at ah f t;have ar:=gN own;cases ah with
   |nil=>
    refine cl.loop ?_;exact a7 1 ⟨Z,Z,Z⟩
   |ps af=>
    rename_i b aj d P;have ad:=af.len;refine cl.less (eW:=[(65,.d (.ps b aj 5 d P)),(66,b3 own.length),(67,b3 0)]) ⟨Z,int_eq (by rw[ad]),rfl,tv⟩ ?_;refine cl.iter (fun K:Nat=>[(65,.d (.ps b aj 5 d P)),(66,b3 own.length),(67,b3 K)]) (fun _=>E3 k m n x num i j q s T U S) (fun K=>own.length-K) (fun K=>K<=own.length/\∀R (X:R<own.length),R<K->qZ own[R]=false) ?_ 0 ⟨YU _,fun R _ h=>absurd h (Nat.not_lt_zero _)⟩;rintro K ⟨aB,Y⟩;apply aZ<;>intro ai
    ·have H:K<own.length:=fF ai;obtain⟨ay,ao,r⟩:=af.get H;obtain⟨aC,ax,au,aD,f2,rfl⟩:=r.di;refine b0 Z ?_;refine b4 _ (by rw[cv];exact ao) ?_;have u:=iC (YM H);refine oe own[K] _ r (f _ (YM H)) om ?_;cases ac:qZ own[K]with
     |true=>exact a7 1 ⟨rfl,rfl,by rw[Qi H ac];rfl⟩
     |false=>
      refine⟨K+1,⟨H,fun R X av=>?_⟩,by show own.length-(K+1)<own.length-K;omega,.drop 3 ⟨rfl,rfl,int_eq (cp om),tv⟩ rfl rfl rfl rfl rfl rfl rfl,rfl,rfl⟩;rcases Nat.lt_or_ge R K with g|g
      ·exact Y R X g
      ·obtain rfl:R=K:=om;exact ac
    ·have H:own.length<=K:=dR ai;exact a7 1 ⟨Z,Z,by rw[any_none fun R X=>Y R X om];rfl⟩
theorem fS.kids{a:Ex}(h:fS a):∀x∈a.kids,fS x:=by cases h with|mk _ h=>exact h
theorem fS.node(h:fS v):gv v:=by cases h with|mk h _=>exact h
def Bo(a:Nat)(b:Ex):Nat ⊕ Empty:=.inl (a+(1+cC (ox b)))
theorem U6:∀(n:Nat) (b:Ex) (a:Nat),da b<=n->jW Bo b a=.inl (a+da b):=by
 intro n;induction n with
 |zero=>intro b a h;have:=kK b;omega
 |succ n g=>
  intro b a h;have f:=iN b;rw[ol];show fL Bo b.kids (a+(1+cC (ox b)))=_;have:∀(c:List Ex) (a:Nat),cS c<=n->fL Bo c a=.inl (a+cS c):=by
   intro c;induction c with
   |nil=>intro a _;rfl
   |cons l c e=>
    intro a k;rw[cS]at k⊢;rw[fL,g l a om];show fL Bo c (a+da l)=_;rw[e _ om,YW]
  rw[this _ _ om,f];congr 1;omega
def XU:Nat ⊕ Empty->Nat
 |.inl n=>n
 |.inr _=>0
theorem Li{k:Nat}{m n x:List UInt8}{num:Int}{types:List Ty}{labels:List iV}{kids:List Ex}(h:fS v)(e:v=.mk k m n x num types labels kids)(o:da v<4294967296):types.length+labels.length<4294967296:=by
 subst e;have c:=iN (.mk k m n x num types labels kids);have l:=q3 kids;have a:=gN (ox (.mk k m n x num types labels kids));rw[ox,Y0]at a;rw[ox]at c;rw[Ex.kids]at c;have f:=h.node;cases f
 case UI _ b=>simp only[YP];omega
 case func g b=>rw[if_pos rfl]at c a;rw[List.length_map]at a;simp only[YP]at a⊢;omega
 case call _ b=>simp only[YP];omega
 case XO _ b=>simp only[YQ,YP];omega
 all_goals simp only[YP,YQ]at a⊢;omega
variable{d:dC->VS->Prop} {r:VS}
theorem SG{b:List D}(c:ly v b)(h:fS v)(f:da v<4294967296)(e:∀b,Ob (ox v) b->d (.ret (.d b)) r):b1 C b7 qI [.agg (b.map V.d)] r d:=by
 have g:=iN v;exact Hf v b c (fun _ _ _ _ _ _ _ _ a=>by subst a;exact h.node.Wr) om (fun _ _ _ _ _ _ _ _ a=>Li h a f) e
theorem Ob.inv{l:List Ty}(h:Ob l i):(l=[]/\i=.cn)∨∃b e c a,i=.ps b e 5 c a/\eX l a:=by
 cases h with
 |nil=>exact .inl ⟨rfl,rfl⟩
 |ps h=>exact .inr ⟨_,_,_,_,rfl,h⟩
def Lj(a:jl):jl:={a with state:=.busy}
def U7(c:List V)(a:jl)(x:Nat ⊕ Empty):Wd:=⟨.box c,.box [b3 (XU x)],.box c,a⟩
variable{u:List V} {z:Wd}
theorem Wt(h:e5 0 u=true)(a:(fG 8 z.o0&&(fG 8 z.o1&&(fG 8 z.o2&&fG 8 (.loop z.L))))=true):ln 8 (W3 z++.box u::r) 8=true:=by
 simp only[YO]at a;obtain⟨e,c,b,f⟩:=a;simp only[W3,YT,YV,ln,e,c,b,f,YX,YY];rw[show fG 8 (.box u)=e5 8 u from rfl,gl 8 u h];rfl
theorem Wu{a:List V}(h:e5 0 u=true)(e:e5 0 a=true)(c:(fG 9 z.o0&&(fG 9 z.o1&&(fG 9 z.o2&&fG 9 (.loop z.L))))=true):ln 9 (W3 z++.box u:: .box a::r) 9=true:=by
 simp only[YO]at c;obtain⟨g,f,b,k⟩:=c;simp only[W3,YT,YV,ln,g,f,b,k,YX,YY];rw[show fG 9 (.box u)=e5 9 u from rfl,gl 9 u h,show fG 9 (.box a)=e5 9 a from rfl,gl 9 a e];rfl
theorem Hu(e:Ex)(v:List D)(L:ly e v)(W:fS e)(av:da e<4294967295):b1 C b7 oZ [.agg (v.map V.d)] [] fun ag R=>R=[]/\ag=.ret (b3 (da e)):=by
 obtain⟨k,m,A,E,num,F,G,B,rfl⟩:=L.eight;refine cz ?_;refine b9 ?_;refine b9 ?_;refine(UY (step:=Bo) (B:=fun n=>n) (Good:=fS) (S:=U7 (tG k m A E num F G B) ?d) (fun e h=>h.kids) ?_ ?_ ?_ ?_ _ e _ 0 (YS _) L W om).mono (fun ag R h=>?_)
 ·intro x;exact rfl
 ·intro x H N h;exact Wt h Z
 ·intro I e ar h;cases h;exact YS _
 ·intro I e v H an L W w aa M _;have z:=iN e;have aa:I+da e<4294967296:=aa;obtain⟨K,J,f,l,b,s,p,c,rfl⟩:=L.eight;refine gT.intro ?_;refine SG L W om (fun v y=>?_);have M:=M _ rfl;generalize ox e=own at y z M;have q:∀(Y:Int) (N:VS),Y=YN (I+(1+cC own))->an (.ret (ct true)) (W3 ⟨.box (tG k m A E num F G B),.box [.d (.int .i64 Y)],.box (tG k m A E num F G B),?d⟩++.box H::N):=by
   rintro _ N rfl;exact M N
  have Q:IntKind.i64.wrap (YN I+1)=YN (I+1):=cp om;rcases y.inv with⟨U,rfl⟩|⟨af,o,P,S,rfl,u⟩
  ·refine cl.loop ?_;have X:=q (IntKind.i64.wrap (YN I+1)) [.box (tG K J f l b s p c)] (by rw[Q,U,cC]);exact X
  ·have r:=u.len;have ah:=gN own;have ad:YN (I+1)=YN (I+1+cC (own.take 0)):=by rw[List.take_zero,cC]
   refine cF (eW:=[(3,.bp 1 0),(13,.d (.ps af o 5 P S)),(14,b3 own.length),(15,b3 0)]) (ii:=W3 (U7 (tG k m A E num F G B) (Lj ?d) (.inl (I+1+cC (own.take 0))))++[.box H,.box (tG K J f l b s p c)]) (.same ⟨Z,Z,int_eq (by rw[r]),rfl,tv⟩ (congrArg (fun Y=>W3 ⟨.box (tG k m A E num F G B),.box [V.d (.int .i64 Y)],.box (tG k m A E num F G B),Lj ?d⟩++[.box H,.box (tG K J f l b s p c)]) (Q.trans ad))) ?_;refine cl.iter (fun t:Nat=>[(3,.bp 1 0),(13,.d (.ps af o 5 P S)),(14,b3 own.length),(15,b3 t)]) (fun t=>W3 (U7 (tG k m A E num F G B) (Lj ?d) (.inl (I+1+cC (own.take t))))++[.box H,.box (tG K J f l b s p c)]) (fun t=>own.length-t) (fun t=>t<=own.length) ?_ 0 (YU _);have ac:e5 0 H=true:=w;intro t au;apply aZ<;>intro ab
   ·have g:t<own.length:=fF ab;obtain⟨v,hx,T⟩:=u.get g;obtain⟨ap,ao,aj,aq,f3,rfl⟩:=T.di;have O:=hx;rw[<-cv]at O;have am:=iC (YM g);have i:=yD g;have ai:=sO own (t+1);have ae:=dg (a:=I+1+cC (own.take t)) (b:=cJ own[t]) om;have j:YN (I+1+cC (own.take t)+cJ own[t])=YN (I+1+cC (own.take (t+1))):=by rw[i,<-YW]
    refine b0 Z ?_;refine b4 _ O ?_;repeat refine b6 ?_
    refine lZ own[t] _ T om ?_;repeat refine b6 ?_
    refine⟨t+1,g,by show own.length-(t+1)<own.length-t;omega,.drop 9 ⟨rfl,rfl,rfl,int_eq (cp om),tv⟩ rfl rfl ?_ rfl rfl rfl ?_,rfl,rfl⟩
    ·exact Wu ac Z Z
    ·exact congrArg (fun Y=>W3 ⟨.box (tG k m A E num F G B),.box [V.d (.int .i64 Y)],.box (tG k m A E num F G B),Lj ?d⟩++[.box H,.box (tG K J f l b s p c)]) (ae.trans j)
   ·have g:own.length<=t:=dR ab;rw[YZ g];have X:=q (YN (I+1+cC own)) [.box (tG K J f l b s p c)] (by rw[YW]);exact X
 ·obtain⟨x,hx,rfl,rfl⟩:=h;rw[U6 _ e 0 (YS _)]at hx;subst hx;exact a7 0 ⟨Z,congrArg (fun n=>dC.ret (b3 n)) (Nat.zero_add _)⟩
theorem Bp(b:Ex)(g:List D)(a:ly b g)(e:fS b)(f:da b<4294967295)(c:d (.ret (b3 (da b))) r):b1 C b7 oZ [.agg (g.map V.d)] r d:=by
 obtain⟨k,m,h,n,num,o,p,l,rfl⟩:=a.eight;exact cQ (Hu b _ a e f) Z Z c
def pD(_:Unit)(a:Ex):Unit ⊕ Nat:=if qf a=0 then .inl ()else .inr (qf a)
def Wv:Unit ⊕ Nat->Nat
 |.inl _=>0
 |.inr n=>n
def sX(a:Ex):Nat:=if 4096<da a∨32<q2 a then 7 else Wv (jW pD a ())
def YD(a:jl):Unit ⊕ Nat->jl
 |.inl _=>a
 |.inr _=>La a
def XV(c:List V)(a:jl)(x:Unit ⊕ Nat):We:=⟨.box c,.box [b3 (Wv x)],EX,.box [.map 2],.box c,YD a x⟩
theorem U8{a:We}(h:e5 0 u=true)(b:(fG 10 a.o0&&(fG 10 a.o1&&(fG 10 a.o2&&(fG 10 a.o3&&(fG 10 a.o4&&fG 10 (.loop a.L))))))=true):ln 10 (W5 a++.box u::r) 10=true:=by
 simp only[YO]at b;obtain⟨g,f,c,k,e,l⟩:=b;simp only[W5,YT,YV,ln,g,f,c,k,e,l,YX,YY];rw[show fG 10 (.box u)=e5 10 u from rfl,gl 10 u h];rfl
theorem E4(e:Ex)(U:List D)(c:ly e U)(o:fS e)(K:da e<4294967295):b1 C b7 nX [.agg (U.map V.d)] [] fun O E=>E=[]/\O=.ret (b3 (sX e)):=by
 obtain⟨k,m,P,X,num,Y,d,R,rfl⟩:=c.eight;refine cz ?_;refine Bp e _ c o K ?_;apply aZ<;>intro J
 ·repeat refine dX ?_
  exact a7 0 ⟨Z,by rw[sX,if_pos (.inl (fF (a:=4096) J))];rfl⟩
 repeat refine dX ?_
 refine He _ e _ K (YS _) c ?_;repeat refine dX ?_
 apply aZ<;>intro I
 ·repeat refine dX ?_
  exact a7 0 ⟨Z,by rw[sX,if_pos (.inr (fF (a:=32) I))];rfl⟩
 repeat refine dX ?_
 have L:sX e=Wv (jW pD e ()):=by
  have:=dR (a:=4096) J;have:=dR (a:=32) I;rw[sX,if_neg om]
 rw[L];refine b9 ?_;refine b4 none Z (b4 none Z (b4 none Z (b4 none Z (b4 none Z (b4 none Z (b4 none Z (b4 none Z ?_)))))));refine b4 none Z (b4 none Z (b4 none Z (b4 none Z (b4 none Z (b4 none Z (b4 none Z (b4 none Z (b4 none Z ?_))))))));refine b9 ?_;refine b9 ?_;refine(UZ (step:=pD) (B:=fun _=>0) (Good:=fS) (S:=XV (tG k m P X num Y d R) ?z) (fun e h=>h.kids) ?_ ?_ ?_ ?_ _ e _ () (YS _) c o om).mono (fun O E h=>?_)
 ·intro x;cases x<;>exact rfl
 ·intro x T r h;exact U8 h (by cases x<;>exact rfl)
 ·intro u e v h;exact YU _
 ·intro u e U T y c o j M N i;refine gT.intro ?_;cases c with
  |mk Q W S=>
   rename_i n f l g b types labels kids B t A;have q:=iN (.mk n f l g b types labels kids);have M:0+da (.mk n f l g b types labels kids)<4294967296:=M;have H:=JZ o.node Q W S (Li o rfl om) om;refine JH H 2 Z Z Z Z (fun O h=>?_);subst h;apply aZ<;>intro F
   ·have p:qf (.mk n f l g b types labels kids)≠0:=fun e=>by rw[e]at F;cases F
    have G:=i _ (by rw[pD,if_neg p]) [.box (tG n f l g b B t A)];exact G
   ·have p:qf (.mk n f l g b types labels kids)=0:=k6 F;have G:=N () (by rw[pD,if_pos p]) [.box (tG n f l g b B t A)];exact G
 ·obtain⟨x,hx,rfl,rfl⟩:=h;rw[hx];cases x with
  |inl ab=>exact a7 0 ⟨rfl,rfl⟩
  |inr s=>exact a7 0 ⟨rfl,rfl⟩
theorem yL(b:Ex)(g:List D)(a:ly b g)(e:fS b)(f:da b<4294967295)(c:d (.ret (b3 (sX b))) r):b1 C b7 nX [.agg (g.map V.d)] r d:=by
 obtain⟨k,m,h,n,num,o,p,l,rfl⟩:=a.eight;exact cQ (E4 b _ a e f) Z Z c
def XW(c:UInt8):Nat:=c.toNat-48
def SH(a:Nat)(l:List UInt8):Nat:=l.foldl (fun c b=>c*10+XW b) a
theorem Hv{c:UInt8}(h:isDigit c=true):48<=c.toNat/\c.toNat<=57:=by
 simp only[isDigit,YO,decide_eq_true_eq,YL]at h;omega
theorem J0:∀(b:List UInt8) (a k:Nat),b.all isDigit=true->k+b.length<=19->a<10^k->Lib.parseUintM (2^64-1) a b=.ok (SH a b)/\SH a b<10^(k+b.length):=by
 intro b;induction b with
 |nil=>intro a k _ _ h;exact⟨rfl,h⟩
 |cons s p g=>
  intro a k c f A;rw[List.all_cons,YO]at c;obtain⟨m,l⟩:=Hv c.1;rw[YQ]at f;have x:10^k<=10^18:=YR dc om;have o:a*10+(s.toNat-48)<10^(k+1):=by rw[Nat.pow_succ];omega
  have t:10^(k+1)<=10^19:=YR dc om;obtain⟨e,n⟩:=g (a*10+(s.toNat-48)) (k+1) c.2 om o;refine⟨?_,?_⟩
  ·rw[Lib.parseUintM,if_pos ⟨m,l⟩,if_neg om,if_neg om];exact e
  ·rw[YQ,show k+(p.length+1)=k+1+p.length from by omega];exact n
theorem J1{l:List UInt8}(b:l.all isDigit=true)(c:l.length<=19)(a:l≠[]):Lib.parseUintB 64 l=.ok (SH 0 l)/\SH 0 l<10^19:=by
 obtain⟨f,e⟩:=J0 l 0 0 b om dc;rw[Lib.parseUintB,if_neg a];refine⟨f,Nat.lt_of_lt_of_le e (YR dc om)⟩
def Ww(t:Tok):Prop:=t.kind=3->t.text.all isDigit=true/\t.text.length<=19/\t.text≠[]
theorem Qj{l t:List UInt8}{k n:Nat}(h:eL l=.ok k t n):k=3->t.all isDigit=true/\t.length<=19/\t≠[]:=by
 cases l with
 |nil=>cases h
 |cons f e=>
  rw[eL]at h;split at h
  ·unfold eU at h;split at h
   ·cases h;omega
   ·split at h
    ·cases h;omega
    ·split at h
     ·cases h;omega
     ·cases h
  ·split at h
   ·rename_i b;have a:=xZ isDigit (f::e);unfold gj at h;split at h
    ·cases h
    ·rename_i g;cases h;refine fun _=>⟨a,om,fun c=>?_⟩;rw[iz,if_pos b]at c;simp at c
   ·split at h
    ·split at h
     ·cases h;omega
     ·cases h
    ·split at h
     ·cases h
     ·cases h;omega
theorem Np(s:List UInt8):∀(f a:Nat) (g:List Tok),fy s f a=.ok g->∀m∈g,Ww m:=by
 intro f;induction f with
 |zero=>intro a g h;cases h;simp
 |succ f l=>
  intro a g h;rw[fy]at h;split at h
  ·cases h;intro m b;simp at b;subst b;exact fun h=>by simp at h
  ·cases b:eL (s.drop a)with
   |err A=>rw[b]at h;cases h
   |ok k m n=>
    rw[b]at h;dsimp only at h;cases e:fy s f (a+n+cZ false (s.drop (a+n)))with
    |err x t=>rw[e]at h;cases h
    |ok p=>
     rw[e]at h;cases h;intro o c;rcases List.mem_cons.1 c with rfl|c
     ·exact Qj b
     ·exact l _ _ e o c
theorem Nq{s:List UInt8}{R:Rd}(h:gk s=.ok R.ts):∀a,Ww (R.tok a):=by
 intro a;by_cases b:a<R.ts.length
 ·unfold gk at h;split at h
  ·cases h
  ·exact Np s _ _ _ h _ (List.mem_of_getElem? (bZ b))
 ·rw[Rd.tok,List.getElem?_eq_none om];exact fun h=>by simp at h
theorem Hw{b:List UInt8}{R:Rd}(h:gk b=.ok R.ts):R.Ng:=by
 intro g a;obtain⟨f,c,e⟩:=Nq h g a;exact⟨⟨_,(J1 f c e).1⟩,om⟩
section
variable{R R':Rd} (h:R.ts=R'.ts)
include h
theorem jF(p:Nat):c9 R p=c9 R' p:=by rw[c9,c9,eg h]
theorem x3(a:List et)(p:Nat):ef R a p=ef R' a p:=by rw[ef,ef,eg h]
theorem zD(a:Nat->PR Ex)(b:List UInt8)(p:Nat):eJ a R b p=eJ a R' b p:=by rw[eJ,eJ,ih h]
theorem Qk{e:Type}{step a:e->Nat->PR e}(l:∀f c,step f c=a f c)(b:List UInt8):∀(g:Nat) (f:e) (c:Nat),gS step R b g f c=gS a R' b g f c:=by
 intro g;induction g with
 |zero=>intro f c;rfl
 |succ g k=>intro f c;simp only[gS,l,eg h,ih h,k]
theorem xb{c:Type}{step a:c->Nat->PR c}(f:∀e p,step e p=a e p)(b:List UInt8)(e:c)(p:Nat):fA step R b e p=fA a R' b e p:=by
 rw[fA,fA,eg h,Qk h f,h]
theorem Ql(a:Nat->PR Ex)(b:List et)(p:Nat):ja a R b p=ja a R' b p:=by simp only[ja,x3 h,zD h]
theorem Qm(a:Nat->PR Ex)(b:List et)(p:Nat):ic a R b p=ic a R' b p:=by simp only[ic,x3 h,zD h,jF h]
theorem Qn(b:Nat->PR Ty)(a:Nat->PR Ex)(c:List et)(p:Nat):hR b a R c p=hR b a R' c p:=by simp only[hR,x3 h,ih h,eg h]
theorem Dc(b:Nat->PR Ex)(a:List UInt8)(k:Nat)(kids:List Ex)(p:Nat):gV b R a k kids p=gV b R' a k kids p:=by rw[gV,gV,xb h (Ql h b)]
theorem Lk(a p:Nat):mF a R p=mF a R' p:=by simp only[mF,eg h]
theorem SI{fn b:Nat->PR Ex}(f:∀c,fn c=b c)(a:List (List UInt8)):∀(e:Nat) (x:Ex) (c:Nat),rK fn a R e x c=rK b a R' e x c:=by
 intro e;induction e with
 |zero=>intro x c;rfl
 |succ e g=>intro x c;simp only[rK,eg h,f,g]
theorem zE{fn a:Nat->PR Ex}(c:∀p,fn p=a p)(b:List (List UInt8))(p:Nat):la fn b R p=la a b R' p:=by
 simp only[la,c,SI h c,h]
theorem Nr(a:Nat->PR Ty)(b:List UInt8)(p:Nat):gm a R b p=gm a R' b p:=by simp only[gm,eg h,jF h,Hr h]
theorem Qo(c:Nat->PR Ty)(a:Nat->PR Ex)(p:Nat):e7 c a R p=e7 c a R' p:=by
 have e:∀b f p,fA (kc a) R b f p=fA (kc a) R' b f p:=xb h fun _ _=>rfl;simp only[e7,eg h,Lk h,Nr h,Dc h,jF h,zD h,ih h,e]
theorem Qp(b:Nat->PR Ex):∀(a:Nat) (x:Ex) (c:Nat),lc b R a x c=lc b R' a x c:=by
 intro a;induction a with
 |zero=>intro x c;rfl
 |succ a e=>intro x c;simp only[lc,eg h,jF h,Dc h,e]
theorem Qq(b:Nat->PR Ty)(a:Nat->PR Ex)(p:Nat):jB b a R p=jB b a R' p:=by simp only[jB,Qo h,Qp h,h]
theorem SJ(c:Nat->PR Ty)(b:Nat->PR Ex):∀(a e:Nat),ov c b R a e=ov c b R' a e:=by
 intro a;induction a with
 |zero=>intro e;rfl
 |succ a f=>intro e;simp only[ov,eg h,Lk h,Qq h,f]
theorem SK(b:Nat->PR Ty)(a:Nat->PR Ex)(p:Nat):pd b a R p=pd b a R' p:=by
 have c:R.ts.length=R'.ts.length:=by rw[h]
 refine zE h (fun p=>?_) _ p;refine zE h (fun p=>?_) _ p;rw[c];exact SJ h b a _ p
theorem SL(c:Nat->PR Ty)(b:Nat->PR Ex):∀(a e:Nat),mm c b R a e=mm c b R' a e:=by
 intro a;induction a with
 |zero=>intro e;rfl
 |succ a f=>intro e;simp only[mm,eg h,SK h,f]
theorem U9(b:Nat->PR Ty)(a:Nat->PR Ex)(p:Nat):MB b a R p=MB b a R' p:=by
 have c:R.ts.length=R'.ts.length:=by rw[h]
 refine zE h (fun p=>?_) _ p;refine zE h (fun p=>?_) _ p;rw[c];exact SL h b a _ p
theorem Qr:∀(a:Nat),AW R a=AW R' a:=by
 intro a;induction a with
 |zero=>rfl
 |succ a b=>
  funext e;have c:de R R.ts.length=de R' R'.ts.length:=by rw[h];exact E0 h _
  rw[AW,AW,b,c];simp only[y5,eg h,qX,kH,iW,jb,funcF,jF h,zD h,yI h,ih h,xb h (Qm h _),xb h (Qn h _ _),U9 h]
end
def uF:Ex:=.mk 0 [] [] [] 0 [] [] []
theorem SM:ly uF [.int .i64 (YN 0),.str [],.str [],.str [],.int .i64 0,.cn,.cn,.cn]:=.mk .nil .nil .nil
def qg(e:List UInt8):Ex×Nat×Nat:=match gk e with
 |.err a b=>(uF,a,b)
 |.ok ts=>match AW ⟨0,0,ts⟩ ts.length 0 with
  |.bad a b=>(uF,a,b)
  |.ok x c=>if(Rd.tok ⟨0,0,ts⟩ c).kind≠0 then(uF,(Rd.tok ⟨0,0,ts⟩ c).off,3)else if sX x≠0 then(uF,0,sX x)else(x,0,0)
end Go.Proofs.YtpejealjkmhkgaaGreatDoor
