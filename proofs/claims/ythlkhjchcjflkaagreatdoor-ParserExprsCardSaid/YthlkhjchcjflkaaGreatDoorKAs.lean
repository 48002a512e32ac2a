/- Part of the proof. -/
import Derived.Test.YthlkhjchcjflkaaGreatDoorKAr
set_option linter.all false
set_option maxHeartbeats 16000000
set_option maxRecDepth 100000
open Bool renaming false_eq_true->Yl
open Nat renaming beq->Ym,le_refl->Yp,le_of_ble_eq_true->Yr,zero_le->Yx,blt->YA,ble_eq->YB,lt_of_lt_of_le->YH
open Int renaming ofNat_eq_natCast->Yn,ofNat->Yo
open List renaming getElem_mem->Yq,length_cons->Ys,map->Yt,find?->Yu,take_of_length_le->Yv,length_nil->Yw,take->Yy,drop->Yz,map_append->YC,length_map->YD,drop_zero->YF,getElem?_eq_getElem->YG,mem_singleton->YI,length_append->YJ
open And renaming intro->YE
namespace Go.Proofs.YthlkhjchcjflkaaGreatDoor
open Go.AM Go.VM
theorem qg{c b:Nat}(f:c=b):(!decide (Yo c=Yo b))=false:=by simp[f]
variable{E:Prop}
theorem Rk (f:E:=by
 rcases hl.inv with⟨_,rfl⟩|⟨b,o,c,els,rfl,V4⟩;all_goals
  rcases hk.inv with⟨X4,rfl⟩|⟨b2,o2,c2,l3,rfl,Vd⟩
  ·subst X4;have SB:0=_:=SB;have hN:=qg SB;have Yk:(!decide ((0:Int)=Int.ofNat _))=false:=hN;repeat' first|(change hT _ _ _;first|refine a8 (by with_reducible assumption) ?_|refine a1 (by with_reducible assumption) ?_|refine aZ (fun _=>?_) (fun _=>?_))|refine dV (args:=[.str _,.str _]) (x:=.bool true) rfl rfl ?_|refine dV (args:=[.str _,.str _]) (x:=.bool false) rfl rfl ?_|refine fin ?_|(show b3 C cn kS _ _ _;refine cA ?_)
   all_goals first|exact a6 0 ⟨rfl,rfl⟩|(exact absurd SB om)
  ·have hN:=qg (Vd.len.trans SB);repeat' first|(change hT _ _ _;first|refine a8 (by with_reducible assumption) ?_|refine a1 (by with_reducible assumption) ?_|refine aZ (fun _=>?_) (fun _=>?_))|refine dV (args:=[.str _,.str _]) (x:=.bool true) rfl rfl ?_|refine dV (args:=[.str _,.str _]) (x:=.bool false) rfl rfl ?_|refine fin ?_|(show b3 C cn kS _ _ _;refine cA ?_)
   all_goals exact a6 0 ⟨rfl,rfl⟩):E:=f
theorem Rl (b:E:=by
 refine cB ?_;repeat' first|(change hT _ _ _;first|refine a8 (by with_reducible assumption) ?_|refine a1 (by with_reducible assumption) ?_|refine aZ (fun _=>?_) (fun _=>?_))|refine dV (args:=[.str _,.str _]) (x:=.bool true) rfl rfl ?_|refine dV (args:=[.str _,.str _]) (x:=.bool false) rfl rfl ?_|refine E4 hd ?_|refine E5 hd (fun _=>?_)|(show b3 C cn kS _ _ _;refine cA ?_)
 all_goals exact a6 3 hk):E:=b
def Hv(k:Nat)(b c g:D)(h:List UInt8)(t:Int)(l:Bool)(f:Int):VS:=[.box (kt k [] [] [] 0 b c g),.box [cE h,.d (.int .i64 t),b0 l,.d (.int .i64 f)],.box [.fn kS [] [.bp 1 0]]]
variable{A F v:D}
theorem Pn{labels:List iB}{kids:List Ex}(hl:eV labels v)(h:labels.length<4294967296)(l:kM 5 labels)(hk:fM kids A)(SB:kids.length=0+labels.length):gy 5 [] [] [] 0 .cC v A (fm [] 0 true 0):=by
 have fin:∀{n:cZ->VS->Prop},n (.ret (b0 false)) (Hv 5 .cC v A [] 0 true 0)->b3 C cn ek [.d v,.fn kT [] [.bp 2 0]] (Hv 5 .cC v A [] 0 true 0) n:=by
  intro n p;refine ma Z _ labels hl h (fun J m s hd n hk=>?_) p;have g:=l.var _ (Yq m);have f:=l.ty _ (Yq m);generalize labels[J]=K at g f hd;obtain⟨x,H,I,t⟩:=K;simp at g f;obtain⟨rfl,rfl⟩:=f;subst g;have hd:hU eM s:=hd;rcases rR hd with rfl|⟨b,o,c,rfl⟩;all_goals exact Rl
 unfold gy;refine cB ?_;refine cN (A9 (k:=5) dc dc hl h) Z Z ?_;exact Rk
theorem MT{labels:List iB}{kids:List Ex}(hl:eV labels v)(h:labels.length<4294967296)(l:kM 9 labels)(hk:fM kids A)(SB:kids.length=1+labels.length):gy 9 [] [] [] 0 .cC v A (fm [] 0 true 1):=by
 have fin:∀{n:cZ->VS->Prop},n (.ret (b0 false)) (Hv 9 .cC v A [] 0 true 1)->b3 C cn ek [.d v,.fn kT [] [.bp 2 0]] (Hv 9 .cC v A [] 0 true 1) n:=by
  intro n p;refine ma Z _ labels hl h (fun J m s hd n hk=>?_) p;have g:=l.var _ (Yq m);have f:=l.ty _ (Yq m);generalize labels[J]=K at g f hd;obtain⟨x,H,I,t⟩:=K;simp at g f;obtain⟨rfl,rfl⟩:=f;subst g;have hd:hU eM s:=hd;rcases rR hd with rfl|⟨b,o,c,rfl⟩;all_goals exact Rl
 unfold gy;refine cB ?_;refine cN (A9 (k:=9) dc dc hl h) Z Z ?_;exact Rk
theorem Po{t:Ty}(H:fK [t] v){labels:List iB}{kids:List Ex}(hl:eV labels A)(f:labels.length<4294967296)(n:kM 13 labels)(hk:fM kids F)(SB:kids.length=1+labels.length):gy 13 [] [] [] 0 v A F (fm [118] 1 true 1):=by
 obtain⟨m,s,l,d9,rfl⟩:=H.lY;have fin:∀{x:cZ->VS->Prop},x (.ret (b0 false)) (Hv 13 (.ps m s 5 l [d9]) A F [118] 1 true 1)->b3 C cn ek [.d A,.fn kT [] [.bp 2 0]] (Hv 13 (.ps m s 5 l [d9]) A F [118] 1 true 1) x:=by
  intro x I;refine ma Z _ labels hl f (fun K p N hd x hk=>?_) I;have h:=n.var _ (Yq p);have g:=n.ty _ (Yq p);generalize labels[K]=Q at h g hd;obtain⟨O,P,M,L⟩:=Q;simp at h g;obtain⟨rfl,rfl⟩:=g;have J:=Rj h;have hd:hU eM N:=hd;rcases rR hd with rfl|⟨b,o,c,rfl⟩;all_goals exact Rl
 unfold gy;refine cB ?_;refine cN (A9 (k:=13) dc dc hl f) Z Z ?_;exact Rk
theorem MU{labels:List iB}{kids:List Ex}(hl:eV labels v)(b:labels.length<4294967296)(g:kM 8 labels)(hk:fM kids A)(SB:kids.length=xc labels+1):gy 8 [] [] [] 0 .cC v A (fm [116,111] 0 true 1):=by
 have fin:∀{k:cZ->VS->Prop},k (.ret (b0 false)) (Hv 8 .cC v A [116,111] 0 true 1)->b3 C cn ek [.d v,.fn kT [] [.bp 2 0]] (Hv 8 .cC v A [116,111] 0 true 1) k:=by
  intro k l;refine ma Z _ labels hl b (fun m h K hd k hk=>?_) l;have c:=g.var _ (Yq h);have f:=g.ty _ (Yq h);generalize labels[m]=J at c f hd;obtain⟨x,H,p,I⟩:=J;simp at c f;subst c;obtain⟨n,t,tn,o,s,rfl⟩:=hd.eG;exact Rl
 unfold gy;refine cB ?_;refine cN (MS hl b) Z Z ?_;exact Rk
def WI(k:Nat)(m n x:List UInt8)(num:Int)(c f b:D):Prop:=∃p h l o g,fR (.int .i64) (b6 k) Pc 0=some (some (p,fm h l o g))/\gy k m n x num c f b (fm h l o g)/\rS k m n x num c f b (fm h l o g)
theorem h0(k:Nat):kM k []:=⟨by simp,List.Pairwise.nil,by simp,by simp⟩
theorem Ve{k:Nat}{m n x:List UInt8}{num:Int}{types:List Ty}{labels:List iB}{kids:List Ex}(C:gh (.mk k m n x num types labels kids))(f:fK types v)(b:eV labels A)(c:fM kids F)(g:labels.length<4294967296):WI k m n x num v A F:=by
 have l:([]:List iB).length<4294967296:=dc;cases C with
 |int=>obtain rfl:=f.cT;exact⟨0,_,_,_,_,rfl,fits_int _ b c,U3 b l (h0 0)⟩
 |text=>obtain rfl:=f.cT;exact⟨1,_,_,_,_,rfl,MN _ b c,U4 b l (h0 1)⟩
 |bool=>obtain rfl:=f.cT;exact⟨2,_,_,_,_,rfl,fits_bool _ b c,U5 b l (h0 2)⟩
 |loc h=>obtain rfl:=f.cT;exact⟨3,_,_,_,_,rfl,Pe _ b c,U6 h b l (h0 3)⟩
 |val s h _ _=>exact⟨4,_,_,_,_,rfl,Pf _ _ _ b c,U7 s h b l (h0 4)⟩
 |O3 o p=>obtain rfl:=f.cT;exact⟨5,_,_,_,_,rfl,Pn b g o c om,U8 b g o⟩
 |Rh h=>obtain rfl:=f.cT;exact⟨6,_,_,_,_,rfl,MO _ b c,U9 h b l (h0 6)⟩
 |inj h=>obtain rfl:=f.cT;exact⟨7,_,_,_,_,rfl,Pg _ b c,Va h b l (h0 7)⟩
 |func o p=>obtain rfl:=f.cT;exact⟨8,_,_,_,_,rfl,MU b g o c p,Vb b g o⟩
 |call o p=>obtain rfl:=f.cT;exact⟨9,_,_,_,_,rfl,MT b g o c om,Vc b g o⟩
 |Ri h=>obtain rfl:=f.cT;exact⟨10,_,_,_,_,rfl,MP _ b c,TD h b l (h0 10)⟩
 |V9 _=>exact⟨11,_,_,_,_,rfl,Ph f b c,TE b l (h0 11)⟩
 |cond _=>exact⟨12,_,_,_,_,rfl,MQ f b c,TF b l (h0 12)⟩
 |Uu _ o p=>exact⟨13,_,_,_,_,rfl,Po f b g o c om,TG b g o⟩
 |Wa _=>exact⟨14,_,_,_,_,rfl,Pj f b c,TH b l (h0 14)⟩
 |fold _ h t=>exact⟨15,_,_,_,_,rfl,MR _ _ f b c,TJ h t b l (h0 15)⟩
 |one h=>obtain rfl:=f.cT;exact⟨16,_,_,_,_,rfl,Pk h b c,Pm b l (h0 16)⟩
 |two h=>obtain rfl:=f.cT;exact⟨16,_,_,_,_,rfl,Pl h b c,Pm b l (h0 16)⟩
theorem gh.Pp{k:Nat}{m n x:List UInt8}{num:Int}{types:List Ty}{labels:List iB}{kids:List Ex}(b:gh (.mk k m n x num types labels kids)):kM k labels:=by
 cases b<;>first|exact h0 _|assumption
theorem gh.Vf{k:Nat}{m n x:List UInt8}{num:Int}{types:List Ty}{labels:List iB}{kids:List Ex}(c:gh (.mk k m n x num types labels kids))(b:k=8):types=[]:=by
 cases c<;>first|rfl|omega
theorem gh.all{o:Ex}(s:gh o):∀c∈l4 o,j4 c:=by
 have h:∀{k:Nat} {labels:List iB},kM k labels->∀c∈(if k=8 then labels.map iB.ty else []),j4 c:=fun{k labels} f c b=>by
  split at b
  ·rename_i g;obtain⟨x,p,rfl⟩:=List.mem_map.1 b;have:=f.ty x p;rwa[if_pos g]at this
  ·simp at b
 obtain⟨k,m,n,x,num,types,labels,kids⟩:=o;intro c b;rw[l4]at b;rcases List.mem_append.1 b with h1|h1
 ·cases s<;>first|(simp at h1;done)|(simp at h1;subst h1;assumption)|(rename_i l _;exact l c h1)
 ·exact h s.Pp c h1
def nT:Ex->Nat
 |.mk k m n x num types labels kids=>if 32<labels.length∨8<types.length∨65536<x.length then 7 else if k=15/\n=x then 5 else pb ((types++if k=8 then labels.map iB.ty else []).any pk)
section
variable{k:Nat} {m n x:List UInt8} {num:Int} {types:List Ty} {labels:List iB} {kids:List Ex}
theorem qT(b:32<labels.length∨8<types.length∨65536<x.length):nT (.mk k m n x num types labels kids)=7:=by rw[nT,if_pos b]
theorem Ba(f:¬(32<labels.length∨8<types.length∨65536<x.length))(b:k=15)(c:n=x):nT (.mk k m n x num types labels kids)=5:=by rw[nT,if_neg f,if_pos ⟨b,c⟩]
theorem Di(c:¬(32<labels.length∨8<types.length∨65536<x.length))(b:¬(k=15/\n=x)):nT (.mk k m n x num types labels kids)=pb ((l4 (.mk k m n x num types labels kids)).any pk):=by rw[nT,if_neg c,if_neg b,l4]
end
theorem fK.inv{l:List Ty}(c:fK l v):(l=[]/\v=.cC)∨∃f h g b,v=.ps f h 5 g b/\eX l b:=by
 cases c with
 |nil=>exact .inl ⟨rfl,rfl⟩
 |ps c _=>exact .inr ⟨_,_,_,_,rfl,c⟩
def Vg:Nat->Bool:=fun b=>Ym b 1000008||Ym b 1000013
def E8(k:Nat)(m n x:List UInt8)(num:Int)(b c g:D)(h:List UInt8)(t:Int)(l:Bool)(f:Int):VS:=[E6,.box (kt k m n x num b c g),.box [cE h,.d (.int .i64 t),b0 l,.d (.int .i64 f)]]
variable{G q z:Nat}
theorem Hw{l:List Ty}(c:q<l.length)(b:pk l[q]=true):l.any pk=true:=List.any_eq_true.2 ⟨_,Yq c,b⟩
theorem any_none{l:List Ty}(g:∀c (b:c<l.length),pk l[c]=false):l.any pk=false:=by
 rw[List.any_eq_false];intro h f;obtain⟨c,b,rfl⟩:=List.mem_iff_getElem.1 f;rw[g c b];decide
theorem JR{k:Nat}{m n x:List UInt8}{num:Int}{types:List Ty}{labels:List iB}{kids:List Ex}(T:gh (.mk k m n x num types labels kids))(K:fK types v)(L:eV labels A)(M:fM kids F)(B:types.length+labels.length<4294967296)(H:cL (l4 (.mk k m n x num types labels kids))<4294967295):
  b3 C cn wD [Pd k m n x num v A F,.map 0] [E6] fun aq ag=>ag=[E6]/\cX aq=true/\aq=.ret (b6 (nT (.mk k m n x num types labels kids))):=by
 have I:hY (.mk k m n x num types labels kids) [.int .i64 (Yo k),.str m,.str n,.str x,.int .i64 num,v,A,F]:=.mk K L M;obtain⟨Q,s,d,e,a,J,p,f⟩:=Ve T K L M om;have O:=T.Pp;have l:=T.all;have P:=T.Vf;refine cy Vg (fun _=>Z) ?_;refine b7 (some (Q,fm s d e a)) J ?_;refine cN p Z Z ?_;apply eg (ι:=Unit) (T:=fun _=>[(2,.bp 1 0)]) (S:=fun _=>E8 k m n x num v A F s d e a) (I:=fun _=>¬(32<labels.length∨8<types.length∨65536<x.length))
 ·intro t;rcases L.inv with⟨y,o⟩|⟨b,aj,aE,W,o,aa⟩
  ·have G:labels.length=0:=by rw[y];rfl
   rcases K.inv with⟨U,h⟩|⟨an,al,am,z,h,X⟩
   ·have S:types.length=0:=by rw[U];rfl
    have c:=f;rw[o,h]at c;rw[o,h];repeat' first|(change hT _ _ _;first|refine a8 (by with_reducible assumption) ?_|refine a1 (by with_reducible assumption) ?_|refine aZ (fun _=>?_) (fun _=>?_))|refine cN c rfl rfl ?_
    all_goals first
     |exact a6 1 ⟨rfl,rfl,congrArg (fun i=>cZ.ret (b6 i)) (qT (by clear p f c J t l I H P O T L K M;simp only[decide_eq_true_eq,decide_eq_false_iff_not,Yn]at*;omega)).symm⟩
     |exact cw (eh:=[(2,.bp 1 0)]) (fN:=E8 k m n x num v A F s d e a) (.same ⟨rfl,tv⟩ (by rw[o,h];rfl)) (t () (by clear p f c J t l I H P O T L K M;simp only[decide_eq_true_eq,decide_eq_false_iff_not,Yn]at*;omega))
   ·have S:=X.len;have c:=f;rw[o,h]at c;rw[o,h];repeat' first|(change hT _ _ _;first|refine a8 (by with_reducible assumption) ?_|refine a1 (by with_reducible assumption) ?_|refine aZ (fun _=>?_) (fun _=>?_))|refine cN c rfl rfl ?_
    all_goals first
     |exact a6 1 ⟨rfl,rfl,congrArg (fun i=>cZ.ret (b6 i)) (qT (by clear p f c J t l I H P O T L K M;simp only[decide_eq_true_eq,decide_eq_false_iff_not,Yn]at*;omega)).symm⟩
     |exact cw (eh:=[(2,.bp 1 0)]) (fN:=E8 k m n x num v A F s d e a) (.same ⟨rfl,tv⟩ (by rw[o,h];rfl)) (t () (by clear p f c J t l I H P O T L K M;simp only[decide_eq_true_eq,decide_eq_false_iff_not,Yn]at*;omega))
  ·have G:=aa.len;rcases K.inv with⟨U,h⟩|⟨an,al,am,z,h,X⟩
   ·have S:types.length=0:=by rw[U];rfl
    have c:=f;rw[o,h]at c;rw[o,h];repeat' first|(change hT _ _ _;first|refine a8 (by with_reducible assumption) ?_|refine a1 (by with_reducible assumption) ?_|refine aZ (fun _=>?_) (fun _=>?_))|refine cN c rfl rfl ?_
    all_goals first
     |exact a6 1 ⟨rfl,rfl,congrArg (fun i=>cZ.ret (b6 i)) (qT (by clear p f c J t l I H P O T L K M;simp only[decide_eq_true_eq,decide_eq_false_iff_not,Yn]at*;omega)).symm⟩
     |exact cw (eh:=[(2,.bp 1 0)]) (fN:=E8 k m n x num v A F s d e a) (.same ⟨rfl,tv⟩ (by rw[o,h];rfl)) (t () (by clear p f c J t l I H P O T L K M;simp only[decide_eq_true_eq,decide_eq_false_iff_not,Yn]at*;omega))
   ·have S:=X.len;have c:=f;rw[o,h]at c;rw[o,h];repeat' first|(change hT _ _ _;first|refine a8 (by with_reducible assumption) ?_|refine a1 (by with_reducible assumption) ?_|refine aZ (fun _=>?_) (fun _=>?_))|refine cN c rfl rfl ?_
    all_goals first
     |exact a6 1 ⟨rfl,rfl,congrArg (fun i=>cZ.ret (b6 i)) (qT (by clear p f c J t l I H P O T L K M;simp only[decide_eq_true_eq,decide_eq_false_iff_not,Yn]at*;omega)).symm⟩
     |exact cw (eh:=[(2,.bp 1 0)]) (fN:=E8 k m n x num v A F s d e a) (.same ⟨rfl,tv⟩ (by rw[o,h];rfl)) (t () (by clear p f c J t l I H P O T L K M;simp only[decide_eq_true_eq,decide_eq_false_iff_not,Yn]at*;omega))
 ·intro _ V;refine A7 _ labels L om O.Q9 ?_;apply eg (ι:=Unit) (T:=fun _=>[(2,.bp 1 0)]) (S:=fun _=>E8 k m n x num v A F s d e a) (I:=fun _=>¬(k=15/\n=x))
  ·intro t;apply aZ<;>intro ae
   ·repeat refine e4 ?_
    apply aZ<;>intro ab
    ·repeat refine e4 ?_
     exact a6 1 ⟨Z,Z,congrArg (fun i=>cZ.ret (b6 i)) (Ba V (BJ (b:=15) ae) (of_decide_eq_true ab)).symm⟩
    ·repeat refine e4 ?_
     exact cw (eh:=[(2,.bp 1 0)]) (fN:=E8 k m n x num v A F s d e a) (.same ⟨Z,tv⟩ Z) (t () (fun E=>of_decide_eq_false ab E.2))
   ·repeat refine e4 ?_
    exact cw (eh:=[(2,.bp 1 0)]) (fN:=E8 k m n x num v A F s d e a) (.same ⟨Z,tv⟩ Z) (t () (fun E=>wA (b:=15) ae E.1))
  ·intro _ j;rw[Di V j];refine Hs _ _ I (fun _ _ _ _ _ _ _ _ ap=>by cases ap;exact P) om (fun _ _ _ _ _ _ _ _ ap=>by cases ap;exact B) (fun ay ah=>?_);generalize l4 (.mk k m n x num types labels kids)=own at ah l H;have ar:=fu own;cases ah with
   |nil=>
    refine b5.loop ?_;exact a6 1 ⟨Z,Z,Z⟩
   |ps af=>
    rename_i b aj u W;have ad:=af.len;refine b5.less (eh:=[(65,.d (.ps b aj 5 u W)),(66,b6 own.length),(67,b6 0)]) ⟨Z,int_eq (by rw[ad]),rfl,tv⟩ ?_;refine b5.iter (fun Q:Nat=>[(65,.d (.ps b aj 5 u W)),(66,b6 own.length),(67,b6 Q)]) (fun _=>E8 k m n x num v A F s d e a) (fun Q=>own.length-Q) (fun Q=>Q<=own.length/\∀Y (q:Y<own.length),Y<Q->pk own[Y]=false) ?_ 0 ⟨Yx _,fun Y _ T=>absurd T (Nat.not_lt_zero _)⟩;rintro Q ⟨aB,r⟩;apply aZ<;>intro ai
    ·have N:Q<own.length:=fq ai;obtain⟨ay,ao,w⟩:=af.get N;obtain⟨aC,ax,au,aD,f2,rfl⟩:=w.eG;refine bZ Z ?_;refine b7 _ (by rw[cz];exact ao) ?_;have y:=gG (Yq N);refine A1 own[Q] _ w (l _ (Yq N)) om ?_;cases ac:pk own[Q]with
     |true=>exact a6 1 ⟨rfl,rfl,by rw[Hw N ac];rfl⟩
     |false=>
      refine⟨Q+1,⟨N,fun Y q av=>?_⟩,by show own.length-(Q+1)<own.length-Q;omega,.drop 3 ⟨rfl,rfl,int_eq (cq om),tv⟩ rfl rfl rfl rfl rfl rfl rfl,rfl,rfl⟩;rcases Nat.lt_or_ge Y Q with g|g
      ·exact r Y q g
      ·obtain rfl:Y=Q:=om;exact ac
    ·have N:own.length<=Q:=dM ai;exact a6 1 ⟨Z,Z,by rw[any_none fun Y q=>r Y q om];rfl⟩
variable{u:List (List UInt8)}
theorem MV{t:Tok}(f:mv t u=none):∀b∈u,cD t b=false:=by
 intro b c;have:=List.find?_eq_none.1 f b c;simpa using this
theorem qU{t:Tok}:∀{b:List (List UInt8)} {k:List UInt8},mv t b=some k->∃l,∃h:l<b.length,b[l]=k/\cD t k=true/\∀c (m:c<b.length),c<l->cD t b[c]=false:=by
 intro b;induction b with
 |nil=>intro k f;cases f
 |cons C D n=>
  intro k f;rw[mv,List.find?_cons]at f;split at f
  ·rename_i g;cases f;exact⟨0,by simp,rfl,g,fun c _ f=>om⟩
  ·rename_i g;obtain⟨l,h,x,p,o⟩:=n f;refine⟨l+1,by simpa using h,by simpa using x,p,fun c m s=>?_⟩;cases c with
   |zero=>simpa using g
   |succ c=>exact o c (by simpa using m) om
variable{d:Rd}
theorem MW(p:q<d.ts.length)(c:List (List UInt8))(t:c.length<4294967296)(D:z<c.length)(n:cD (d.tok q) c[z]=true)(l:∀g (x:g<c.length),g<z->cD (d.tok q) c[g]=false)(g b f:Nat){σ:VS}{K:cZ->VS->Prop}(m:nth σ g=some (e8 d q))(o:K (.ret (b6 z)) σ):
  b3 C cn ku [.d (.ps b 0 1 f (jJ c)),.fn jZ [.bp g 0] []] σ K:=by
 refine cA ?_;refine b5.less (eh:=[(0,.d (.ps b 0 1 f (jJ c))),(1,.fn jZ [.bp g 0] []),(7,b6 c.length),(8,b6 0)]) ⟨Z,Z,int_eq (by simp[jJ]),rfl,tv⟩ ?_;refine b5.iter (fun k:Nat=>[(0,.d (.ps b 0 1 f (jJ c))),(1,.fn jZ [.bp g 0] []),(7,b6 c.length),(8,b6 k)]) (fun _=>σ) (fun k=>c.length-k) (fun k=>k<=z) ?_ 0 (Yx _);intro k s;have h:k<c.length:=om;refine a8 (decide_eq_true (by simp only[Yn];omega)) ?_;refine bZ Z ?_;refine b7 [.str c[k]] (by rw[cz,jJ,List.getElem?_map,YG h];rfl) ?_;refine tR d q (d.tok q) c[k] (b8 p) g m ?_;by_cases H:k=z
 ·subst H;rw[n];exact o
 ·rw[l k h om];refine⟨k+1,om,by show c.length-(k+1)<c.length-k;omega,.same ⟨rfl,rfl,rfl,int_eq (cq om),tv⟩ rfl,rfl,rfl⟩
theorem Rm(K:d.Wf){fn:Nat->PR Ex}{lo:Nat}(g:∀b x c,lo<=b->b<d.ts.length->fn b=.ok x c->b<c/\c<d.ts.length):∀(m:Nat) (x:Ex) (b:Nat) (n:Ex) (c:Nat),lo<=b->b<d.ts.length->rQ fn u d m x b=.ok n c->b<=c/\c<d.ts.length:=by
 intro m;induction m with
 |zero=>intro x b n c _ _ f;cases f
 |succ m t=>
  intro x b n c D k f;rw[rQ]at f;split at f
  ·cases f;exact⟨Yp _,k⟩
  ·rename_i M p;obtain⟨N,J,P,s,_⟩:=qU p;have h:=K.step k s;split at f
   ·cases f
   ·rename_i C l o;obtain⟨L,I⟩:=g (b+1) C l om h o;obtain⟨O,H⟩:=t _ l n c om I f;exact⟨om,H⟩
theorem xd(s:d.Wf){fn:Nat->PR Ex}{lo:Nat}(f:∀b x c,lo<=b->b<d.ts.length->fn b=.ok x c->b<c/\c<d.ts.length):∀(b:Nat) (k:Ex) (c:Nat),lo<=b->b<d.ts.length->l7 fn u d b=.ok k c->b<c/\c<d.ts.length:=by
 intro b k c m l h;rw[l7]at h;split at h
 ·cases h
 ·rename_i x g n;obtain⟨C,p⟩:=f b x g m l n;obtain⟨t,o⟩:=Rm s f _ x g k c om p h;exact⟨om,o⟩
def z8:List V:=[b6 0,cE [],cE [],cE [],b6 0,.d .cC,.d .cC,.d .cC]
def Vh:Nat->Bool:=fun b=>Ym b 27
theorem JS(J:(C.ff.get q).isSome=true)(c:List (List UInt8))(U:c.length<4294967296)(E:d.Wf){fn:Nat->PR Ex}{p:Nat}(L:na q fn d p)(S:p<d.ts.length)(b o:Nat):
  b3 C cn r9 [.bp 0 0,.fn q [.bp 0 0] [],.d (.ps b 0 1 o (jJ c))] [e8 d p] (Ip d (l7 fn c d p)):=by
 have r:=E.len;refine cy Vh (fun _=>Z) ?_;refine a8 J ?_;refine L.call p (Yp _) S 0 _ _ Z (fun x aa g e h=>?_) (fun W e g A=>?_)
 ·obtain⟨s,l⟩:=L.lt p x g (Yp _) S e;obtain⟨k,m,n,u,num,y,z,j,rfl⟩:=h.eight;refine b5.less (eh:=[(0,.bp 0 0),(1,.fn q [.bp 0 0] []),(2,.d (.ps b 0 1 o (jJ c))),(6,.bp 1 0),(7,.bp 2 0)]) ⟨Z,Z,Z,Z,Z,tv⟩ ?_;refine b5.iter (fun _:Nat×Ex×List D=>[(0,.bp 0 0),(1,.fn q [.bp 0 0] []),(2,.d (.ps b 0 1 o (jJ c))),(6,.bp 1 0),(7,.bp 2 0)]) (fun I=>[e8 d I.1,.box z8,.box (I.2.2.map V.d)]) (fun I=>d.ts.length-I.1)
   (fun I=>p<I.1/\I.1<d.ts.length/\hY I.2.1 I.2.2/\∃K,d.ts.length-I.1<K/\l7 fn c d p=rQ fn c d K I.2.1 I.1) ?_ (g,x,_) ⟨s,l,h,d.ts.length,by show d.ts.length-g<d.ts.length;omega,by rw[l7,e]⟩
  rintro⟨g,x,aa⟩ ⟨s,l,h,K,T,f⟩;have s:p<g:=s;have l:g<d.ts.length:=l;have h:hY x aa:=h;have T:d.ts.length-g<K:=T;have f:l7 fn c d p=rQ fn c d K x g:=f;obtain⟨k,m,n,u,num,y,z,j,rfl⟩:=h.eight;obtain⟨K,rfl⟩:∃v,K=v+1:=⟨K-1,om⟩;rw[rQ]at f;cases t:mv (d.tok g) c with
  |none=>
   rw[t]at f;refine Pb E l c U (MV t) 0 b o Z ?_;refine a6 1 (ei f h)
  |some ai=>
   rw[t]at f;obtain⟨i,a,rfl,P,Q⟩:=qU t;have O:=E.step l P;refine MW l c U a P Q 0 b o Z ?_;refine dR d g (d.tok g) (b8 l) om 0 Z ?_;have R:eR (d.tok g) g=g+1:=by rw[eR,if_neg (vt P)]
   rw[R];have X:nth (jJ c) i=some [.str c[i]]:=by rw[cz,jJ,List.getElem?_map,YG a];rfl
   repeat first|refine bZ rfl ?_|refine b7 _ X ?_|refine a8 J ?_
   repeat refine b4 ?_
   refine a8 J ?_;refine L.call (g+1) om O 0 _ _ ?_ (fun ab d2 H M N=>?_) (fun W e H M=>?_)
   ·exact Z
   ·obtain⟨B,Y⟩:=L.lt (g+1) ab H om O M;rw[M]at f;obtain⟨ag,ae,ah,G,w,ad,ac,F,rfl⟩:=N.eight;intro af;repeat refine b4 ?_
    refine⟨(H,.mk 16 [] c[i] [] 0 [] [] [x,ab],_),⟨by show p<H;omega,Y,.mk .nil .nil (.ps (.cons h (.cons N .nil))),K,by show d.ts.length-H<K;omega,f⟩,by show d.ts.length-H<d.ts.length-g;omega,.drop 3 ⟨rfl,rfl,rfl,rfl,rfl,tv⟩ rfl rfl rfl rfl rfl rfl rfl,rfl,rfl⟩
   ·rw[M]at f;refine a6 1 (cS f)
 ·refine a6 1 (cS (by rw[l7,A]))
def Rd.Ng(c:Rd):Prop:=∀b,(c.tok b).kind=3->(∃f,Lib.parseUintB 64 (c.tok b).text=.ok f)/\(c.tok b).text.length<281474976710656
variable{j:List UInt8}
theorem Vi(f:j.length<281474976710656)(k:Lib.parseUintB 64 j=.ok q){σ:VS}{K:cZ->VS->Prop}(c:K (.ret (.dN [.d (.int .u64 (Yo q)),.d .wa])) σ):b3 C cn uH [cE j,b6 10,b6 64] σ K:=by
 refine xU (args:=[.str j,.int .i64 (Yo 10),.int .i64 (Yo 64)]) (xs:=[.int .u64 (Yo q),.wa]) ?_ ?_ c
 ·have h:YA j.length 281474976710656=true:=by simpa [Nat.blt_eq]using f
  show(match YA j.length 281474976710656 with
   |true=>match Lib.parseUintB 64 j with
    |.ok q=>some (Value.tuple ⟨[.int .u64 (.ofNat q),.nilIface]⟩)
    |_=>none
   |false=>none)=_
  rw[h,k];rfl
 ·intro x b;simp only[List.mem_cons,List.not_mem_nil,or_false]at b;rcases b with rfl|rfl<;>rfl
theorem MX(x:d.Wf)(l:d.Ng)(b p:Nat)(k:p<d.ts.length)(n:b=9223372036854775807∨b=9223372036854775808):
  b3 C cn se [.bp 0 0,.d (.int .u64 (Yo b))] [e8 d p] (Ip d (oc b d p)):=by
 have s:=x.len;refine cB ?_;refine mL d p _ (b8 k) 0 Z ?_;refine rB d p 3 _ (b8 k) om 0 Z (fun g=>?_) (fun g=>?_)
 ·have h:eR (d.tok p) p=p+1:=by rw[eR,if_neg om]
  rw[h];obtain⟨⟨t,c⟩,o⟩:=l p g;refine Vi o c ?_;apply aZ<;>intro m
  ·repeat refine e4 ?_
   refine iR _ (d.tok p).off 2 ?_;refine a6 1 (cS (by rw[oc,if_neg om,c];dsimp only;rw[if_pos (fq m)]))
  ·repeat refine e4 ?_
   have f:¬b<t:=by have:=dM m;omega
   rcases n with rfl|rfl
   ·refine a6 1 (ei (by rw[oc,if_neg om,c];dsimp only;rw[if_neg f,if_neg om]) (.mk .nil .nil .nil))
   ·refine a6 1 (ei (by rw[oc,if_neg om,c];dsimp only;rw[if_neg f,if_pos rfl]) (.mk .nil .nil .nil))
 ·refine a6 1 (cS (by rw[oc,if_pos g]))
theorem kx(n:d.Wf)(s:List UInt8){p:Nat}(f:p<d.ts.length)(b c k:Nat){σ:VS}{K:cZ->VS->Prop}(g:nth σ k=some (e8 d p))(l:cD (d.tok p) s=true->p+1<d.ts.length->K (.ret (.dN [])) (σ.set k (e8 d (p+1))))(m:cD (d.tok p) s=false->∀o,K (.fO (fC (d.tok p).off 3)) (σ.set k (e8 d o))):
  b3 C cn uV [.bp k 0,.d (.ps b 0 1 c (jJ [s]))] σ K:=by
 refine eU d n [s] (by show 1<4294967296;decide) p f b c k g ?_;cases h:cD (d.tok p) s with
 |true=>rw[cv,if_pos h];exact l h (n.step f h)
 |false=>rw[cv,if_neg (by rw[h];decide)];exact m h
theorem p3(m:(C.ff.get q).isSome=true)(c:List (List UInt8))(M:c.length<4294967296)(Q:d.Wf){fn:Nat->PR Ex}{p:Nat}(J:na q fn d p)(L:p<d.ts.length)(b g k:Nat){σ:VS}{K:cZ->VS->Prop}(n:nth σ k=some (e8 d p)) 
  (D:∀x s h,l7 fn c d p=.ok x h->hY x s->K (.ret (.agg (s.map V.d))) (σ.set k (e8 d h))) (N:∀f l h,l7 fn c d p=.bad f l->K (.fO (fC f l)) (σ.set k (e8 d h))):
  b3 C cn r9 [.bp k 0,.fn q [.bp k 0] [],.d (.ps b 0 1 g (jJ c))] σ K:=by
 refine b3.one (eN:=[.bp 0 0,.fn q [.bp 0 0] [],.d (.ps b 0 1 g (jJ c))]) (P:=MJ d (l7 fn c d p)) (JS m c M Q J L b g) k n Z Z Z (fun R O t=>?_);unfold MJ at t;split at t
 ·rename_i P h l;obtain⟨rfl,s,H,rfl⟩:=t;exact D P s h l H
 ·rename_i f I l;obtain⟨h,rfl,rfl⟩:=t;exact N f I h l
theorem Vj(s:d.Wf){fn:Nat->PR Ex}{lo:Nat}(c:na s7 fn d lo):na wL (l7 fn [[42]] d) d lo:=by
 refine na.of (xd s (fun p x g K=>c.lt p x g K)) (fun p h f=>?_);refine cy Rg (fun _=>Z) ?_;intro t;refine p3 Z [[42]] dc s (c.up h) f t _ 0 Z (fun x L g l b=>?_) (fun o D g l=>?_)
 ·obtain⟨k,m,n,C,num,H,J,I,rfl⟩:=b.eight;refine a6 1 (ei l b)
 ·refine a6 1 (cS l)
theorem Vk(s:d.Wf){fn:Nat->PR Ex}{lo:Nat}(c:na wL fn d lo):na wK (l7 fn [[43],[45],[43,43]] d) d lo:=by
 refine na.of (xd s (fun p x g K=>c.lt p x g K)) (fun p h f=>?_);refine cy Rg (fun _=>Z) ?_;intro t;refine p3 Z [[43],[45],[43,43]] dc s (c.up h) f t _ 0 Z (fun x L g l b=>?_) (fun o D g l=>?_)
 ·obtain⟨k,m,n,C,num,H,J,I,rfl⟩:=b.eight;refine a6 1 (ei l b)
 ·refine a6 1 (cS l)
theorem Vl(s:d.Wf){fn:Nat->PR Ex}{lo:Nat}(c:na wH fn d lo):na wF (l7 fn [[97,110,100]] d) d lo:=by
 refine na.of (xd s (fun p x g K=>c.lt p x g K)) (fun p h f=>?_);refine cy Rg (fun _=>Z) ?_;intro t;refine p3 Z [[97,110,100]] dc s (c.up h) f t _ 0 Z (fun x L g l b=>?_) (fun o D g l=>?_)
 ·obtain⟨k,m,n,C,num,H,J,I,rfl⟩:=b.eight;refine a6 1 (ei l b)
 ·refine a6 1 (cS l)
theorem WJ(s:d.Wf){fn:Nat->PR Ex}{lo:Nat}(c:na wF fn d lo):na pO (l7 fn [[111,114]] d) d lo:=by
 refine na.of (xd s (fun p x g K=>c.lt p x g K)) (fun p h f=>?_);refine cy Rg (fun _=>Z) ?_;intro t;refine p3 Z [[111,114]] dc s (c.up h) f t _ 0 Z (fun x L g l b=>?_) (fun o D g l=>?_)
 ·obtain⟨k,m,n,C,num,H,J,I,rfl⟩:=b.eight;refine a6 1 (ei l b)
 ·refine a6 1 (cS l)
def Vm:Nat->Bool:=fun b=>Ym b 8||Ym b 18||Ym b 14||Ym b 24||Ym b 25
variable{a:Nat->PR Ex}
theorem MY(M:d.Wf){p:Nat}(f:na dA a d p)(H:p<d.ts.length):
  b3 C cn rn [.bp 0 0] [e8 d p] (Ip d (sn a d p)):=by
 have Q:=M.len;refine cy Vm (fun _=>Z) ?_;refine lp d p _ (b8 H) om 0 Z (fun b=>?_) (fun b=>?_)
 ·have D:p+1<d.ts.length:=M.go p _ (b8 H) om;intro X;refine kx M [61] D X _ 0 Z (fun c l=>?_) (fun c L=>?_)
  ·repeat refine b1 ?_
   refine f.call (p+1+1) om l 0 _ _ Z (fun x i L s t=>?_) (fun I N L s=>?_)
   ·obtain⟨W,K⟩:=f.lt _ _ _ om l s;obtain⟨k,m,n,R,num,S,T,P,rfl⟩:=t.eight;intro Y;repeat refine b4 ?_
    intro O;refine kx M [105,110] K O _ 0 Z (fun g J=>?_) (fun g L=>?_)
    ·repeat refine b1 ?_
     refine f.call (L+1) om J 0 _ _ Z (fun j d2 U o h=>?_) (fun I N U o=>?_)
     ·obtain⟨k,m,n,R,num,S,T,P,rfl⟩:=h.eight;intro e;repeat refine b4 ?_
      intro V;repeat refine b4 ?_
      refine a6 1 (ei (by simp only[sn,dy,b,ep,cv,c,s,g,o,ne_eq,not_true,if_false,if_true,PR.map]) (.mk .nil .nil (.ps (.cons t (.cons h .nil)))))
     ·refine a6 1 (cS (by simp only[sn,dy,b,ep,cv,c,s,g,o,ne_eq,not_true,if_false,if_true,PR.map]))
    ·refine a6 1 (cS (by simp only[sn,dy,b,ep,cv,c,s,g,ne_eq,not_true,if_false,if_true,Yl,PR.map]))
   ·refine a6 1 (cS (by simp only[sn,dy,b,ep,cv,c,s,ne_eq,not_true,if_false,if_true]))
  ·refine a6 1 (cS (by simp only[sn,dy,b,ep,cv,c,ne_eq,not_true,if_false,Yl]))
 ·refine a6 1 (cS (by simp only[sn,dy,b,ne_eq,not_false_eq_true,if_true]))
variable{r:List (List D)}
theorem Dj(k:Nat)(n:List UInt8)(c:D){types:List Ty}{kids:List Ex}(l:fK types c)(b:hh kids r):
  b3 C cn jC [.agg (jx k n c (.d .cC) (.d .cC)),kV 0 8 r,.d .cC] [kO 8 r] fun p f=>∃s,f=[s]/\gY 0 s=true/\cX p=true/\∃o,hY (iS k n types kids []) o/\p=.ret (.agg (o.map V.d)):=by
 have h:iS k n types kids []=.mk k [] n [] 0 types [] kids:=by simp[iS,ct]
 rw[h];refine cB ?_;refine cA ?_;refine cA ?_;refine b5.loop ?_;refine cA ?_;refine b5.loop ?_;refine b5.loop ?_;rcases r with _|⟨m,g⟩;all_goals
  refine b5.loop ?_;first
   |refine cR.freeze 0 (es:=8) (l:=m::g) rfl (ed _) (by repeat' (first|exact tv|exact fun _=>⟨rfl,by simp⟩|refine YE ?_ ?_)) (fun x=>?_)
   |skip
  refine cR.drop 1 Z Z Z (cR.now Z ⟨_,Z,Z,Z,_,.mk l .nil ?_,Z⟩);first|exact b.O9|exact b.UX sm
theorem Bb{f:FuncId}{eN c:List V}{o:cU}{P:cZ->cU->Prop}(t:b3 C cn f eN [o] fun g k=>∃b,k=[b]/\gY 0 b=true/\cX g=true/\P g b)(m:Nat){σ:VS}{K:cZ->VS->Prop}(l:nth σ m=some o)(n:gY 0 o=true)(h:gC 1 eN=true)(L:c=iw (jO [m] σ.length) eN)(x:∀g b,P g b->K g (σ.set m b)):
  b3 C cn f c σ K:=by
 refine t.frame [m] Z sm (fun N M p=>?_) h L (fun H D p _=>?_)
 ·cases N with
  |zero=>
   obtain rfl:m=M:=by simpa using p
   exact⟨o,Z,by rw[<-cz,l,fT _ _ n],j2 _ _ n⟩
  |succ N=>simp at p
 ·obtain⟨b,rfl,I,s,J⟩:=p;rw[lT _ _ s];simp only[List.map_cons,List.map_nil,fT _ _ I,merge,List.append_nil];exact x H b J
variable{i:Nat->Nat}
theorem Ld(l:List cV)(p:cV):some (o7 (l.map cV.n++[p.n]))=some (eC i (o7 ((l++[p]).map cV.n))):=by
 rw[fT i _ (io _),YC];rfl
theorem ub{xs:List FE}{l:List cV}{x:FE}(h:(xs.map FE.n).Nodup)(g:xs.map FE.n=l.map cV.n)(b:x.n ∉ l.map cV.n):((xs++[x]).map FE.n).Nodup:=by
 rw[YC,List.nodup_append];refine⟨h,by simp,?_⟩;intro n f m c k;simp only[List.map_cons,List.map_nil,YI]at c;subst k;subst c;exact b (g▸f)
theorem xf(x:FE)(b:i q=z):some (cU.box [V.ms z 9 0 1 1])=some (eC i (.box [kV q 9 (([]++[x]:List FE).map pe)])):=by
 subst b;rfl
theorem uc(c:FE)(b:List FE)(x:FE)(f:i q=z):some (cU.box [V.ms z 9 0 ((b.map pe).length+1+1) ((b.map pe).length+1+1)])=some (eC i (.box [kV q 9 (((c::b)++[x]).map pe)])):=by
 subst f;simp[kV,eC,iw,iv]
theorem xg(x:FE):some (cU.row 9 [(pe x).map V.d])=some (eC i (kO 9 (([]++[x]:List FE).map pe))):=vB i 9 (pe x)
theorem ud(c:FE)(b:List FE)(x:FE):some (cU.row 9 (Yy ((b.map pe).length+1) (Yz 0 (Yt (fun f=>Yt V.d f) (pe c::b.map pe)))++[(pe x).map V.d]))=some (eC i (kO 9 (((c::b)++[x]).map pe))):=by
 rw[YC];exact ua i 9 (pe c) (b.map pe) (pe x)
theorem zz{m b:Nat}(l:List (List D))(c:YA b m=true):gY m (.box [kV b 9 l])=true:=by
 show(bd m (kV b 9 l)&&true)=true;rw[w9 9 l c];rfl
def WK(k:Rd)(h:PR Ex)(f:cZ)(c:VS):Prop:=∃b g,c=[.box b,g]/\cX f=true/\gC 0 b=true/\gY 0 g=true/\MJ k h f b
variable{B:VS} {y:PR Ex}
theorem SC{x:Ex}{b:List D}{o:cU}(g:y=.ok x q)(f:hY x b)(c:gY 0 o=true):cR 2 (.ret (.agg (b.map V.d))) (e8 d q::o::B) (WK d y):=by
 subst g;exact cR.drop 2 Z (E1 Z (j2 2 _ c)) (yx 2 b) (cR.now Z ⟨_,_,Z,yx 0 b,Z,c,Z,b,f,Z⟩)
theorem Bc{o:cU}(c:y=.bad z G)(b:gY 0 o=true):cR 2 (.fO (fC z G)) (e8 d q::o::B) (WK d y):=by
 subst c;exact cR.drop 2 Z (E1 Z (j2 2 _ b)) Z (cR.now Z ⟨_,_,Z,Z,Z,b,q,Z,Z⟩)
theorem xh{m k c:Nat}{n:List UInt8}{f:V}(g:YA c m=true)(b:bd m f=true):gC m [.agg (jx k n v (.d .cC) (.d .cC)),kV c 8 r,f]=true:=by
 show(bd m (.agg (jx k n v (.d .cC) (.d .cC)))&&(bd m (kV c 8 r)&&(bd m f&&true)))=true;rw[w9 8 r g,b];rfl
theorem ue{k c i':Nat}{n:List UInt8}{f v':V}(g:i c=i')(b:v'=iv i f): [V.agg (jx k n v (.d .cC) (.d .cC)),kV i' 8 r,v']=iw i [.agg (jx k n v (.d .cC) (.d .cC)),kV c 8 r,f]:=by
 subst g b;show _=[iv i _,iv i (kV c 8 r),iv i f];rw[rO];rfl
theorem Dk(c:FE)(b:List FE)(x:FE):some (cU.row 9 (Yy ((b.map pe).length+1) (Yz 0 (Yt (fun f=>Yt V.d f) (pe c::b.map pe)))++[(pe x).map V.d]))=some (.row 9 (dz true ((c::b)++[x]))):=by
 rw[YF,Yv sm];simp[dz,wW,Function.comp_def]
theorem x6{p:Nat}(b:cD (d.tok p) j=true):cv d [j] p=.ok () (p+1):=by
 rw[cv,if_pos b];rfl
abbrev TK(f:List UInt8)(b:Nat)(c:List D):FE:=⟨f,0,[],[],.cC,.cC,false,[],.ps b 0 8 1 [c]⟩
def Hx(xs:List FE):List (List D):=xs.map pe
def SD:Nat->Bool:=fun b=>Ym b 18
def WL:Nat->Bool:=fun b=>Ym b 10||Ym b 16||Ym b 17||Ym b 21
theorem Hy(ao:d.Wf)(b:List UInt8)(k:Nat){kids:List Ex}{p:Nat}(F:na dA a d p)(av:p<d.ts.length)(ag:hh kids r)(E:kids.length<=1):
  b3 C cn s8 [.bp 0 0,.agg (jx k [] .cC (.d .cC) (.d .cC)),kV 1 8 r,cE b] [e8 d p,kO 8 r] (WK d (hZ a d b k kids p)):=by
 have az:=ao.len;refine cB ?_;refine b3.body SD (fun _=>Z) ?_;refine dq d p (d.tok p) b (b8 av) om 0 Z (fun O=>?_) (fun O=>?_)
 ·refine Bb (P:=fun U N=>gY 0 N=true/\∃S,hY (iS k [] [] kids []) S/\U=.ret (.agg (S.map V.d))) (eN:=[.agg (jx k [] .cC (.d .cC) (.d .cC)),kV 0 8 r,.d .cC]) ((Dj k [] .cC .nil ag).mono fun U G O=>by obtain⟨N,M,W,Q,X⟩:=O;exact⟨N,M,W,Q,W,X⟩) 1 rfl (gQ 8 r) (xh rfl rfl) (ue rfl rfl) (fun U N W=>?_);obtain⟨S,l,rfl⟩:=W.2;obtain⟨v,m,n,w,num,u,y,z,rfl⟩:=l.eight;exact SC (by rw[hZ,dK,if_pos O];rfl) l W.1
 ·refine b5.less (eh:=[(0,.bp 0 0),(1,cE [44]),(2,cE b),(3,.fn qO [] [.bp 2 0,.bp 7 0,.bp 5 0])]) ⟨Z,Z,Z,Z,tv⟩ ?_;refine b5.gone ?_;refine b5.iter (fun _:Nat×List cV×List FE=>[(0,.bp 0 0),(1,cE [44]),(2,cE b),(3,.fn qO [] [.bp 2 0,.bp 7 0,.bp 5 0])])
   (fun h=>[e8 d h.1,kO 8 r,.box [.bp 0 0],.box (jx k [] .cC (.d .cC) (.d .cC)),.box jz,.box [kV 8 9 (Hx h.2.2)],o7 (h.2.1.map cV.n),.box [.map 6],kO 9 (Hx h.2.2)]) (fun h=>d.ts.length-h.1)
   (fun h=>p<=h.1/\h.1<d.ts.length/\h.2.2.length<=h.1/\kr h.2.1 h.2.2/\(h.2.2.map FE.n).Nodup/\(∀ae∈h.2.1,ae.val.length<=1)/\∃P,d.ts.length-h.1<=P/\eY (fW a d) d b d.ts.length [] p=eY (fW a d) d b P h.2.1 h.1) ?_ (p,[],[]) ⟨Yp _,av,Yx _,.nil,List.nodup_nil,by simp,_,by show d.ts.length-p<=d.ts.length;omega,rfl⟩
  rintro⟨f,j,T⟩ ⟨aw,aq,ay,an,am,ak,P,ai,au⟩;have aM:p<=f:=aw;have ar:f<d.ts.length:=aq;have R:T.length<=f:=ay;have ah:kr j T:=an;have ax:(T.map FE.n).Nodup:=am;have aH:∀ae∈j,ae.val.length<=1:=ak;have aO:d.ts.length-f<=P:=ai;have H:eY (fW a d) d b d.ts.length [] p=eY (fW a d) d b P j f:=au;clear aw aq ay an am ak ai au;obtain⟨P,rfl⟩:∃aG,P=aG+1:=⟨P-1,om⟩;have aJ:=ah.names;have c:hZ a d b k kids p=(eY (fW a d) d b (P+1) j f).map (iS k [] [] kids):=by rw[hZ,dK,if_neg (by rw[O];decide),H]
  rw[eY]at c H;refine b3.body WL (fun _=>Z) ?_;refine o8 d ao f ar (j.map cV.n) 0 6 dc Z Z (fun t g=>?_) (fun t g=>?_) (fun t=>?_)
  ·have ap:f+1<d.ts.length:=ao.go f _ (b8 ar) om;intro aC;refine kx ao [58] ap aC _ 0 Z (fun M A=>?_) (fun M aB=>?_)
   ·repeat refine b1 ?_
    refine F.call (f+1+1) om A 0 _ _ ?_ (fun x S o q l=>?_) (fun aK aN o q=>?_)
    ·exact Z
    ·obtain⟨aI,B⟩:=F.lt _ _ _ om A q;obtain⟨v,m,n,w,num,u,y,z,rfl⟩:=l.eight;intro aP;repeat refine b4 ?_
     intro s;repeat refine b4 ?_
     intro aQ;have e:kr (j++[⟨(d.tok f).text,[],eM,false,[x]⟩]) (T++[TK (d.tok f).text s [.int .i64 (Yo v),.str m,.str n,.str w,.int .i64 num,u,y,z]]):=ah.snoc rfl rfl rfl (.mk .nil .nil) (.ps (.cons l .nil));have I:=ub (x:=TK (d.tok f).text s [.int .i64 (Yo v),.str m,.str n,.str w,.int .i64 num,u,y,z]) ax aJ g;have Y:∀ae∈j++[(⟨(d.tok f).text,[],eM,false,[x]⟩:cV)],ae.val.length<=1:=by
      intro ae K;rcases List.mem_append.1 K with K|K
      ·exact aH ae K
      ·simp only[YI]at K;subst K;exact Yp _
     have al:fW a d j f=.ok (j++[⟨(d.tok f).text,[],eM,false,[x]⟩]) o:=by simp only[fW,dS,t,ne_eq,not_true,if_false,g,ep,cv,M,if_true,q,PR.map]
     rw[al]at c H;dsimp only at c H;rcases T with _|⟨aa,L⟩;all_goals
      first
       |refine a7 rfl (a7 ⟨Yr rfl,Yr rfl⟩ (a1 rfl ?_))
       |refine a7 rfl (a7 ⟨rfl,rfl,by simp,Yp _,Cx (by simp only[Ys,YD]at R⊢;omega) (Yp _) (Yr rfl)⟩ (a1 rfl (a1 (vA _) ?_)))
      refine dq d o (d.tok o) b (b8 B) om 0 ?_ (fun Q=>?_) (fun Q=>?_)
      ·exact Z
      ·rw[if_pos Q]at c;first
        |refine b3.two (eN:=[.agg (jx k [] .cC (.d .cC) (.d .cC)),kV 1 8 r,.ms 0 9 0 1 1]) (P:=fun U _ N=>gY 0 N=true/\∃S,hY (iS k [] [] kids _) S/\U=.ret (.agg (S.map V.d))) ((rP k [] .cC .nil ag e I Y E 1 rfl dc).mono (fun U G O=>by obtain⟨p,N,ab,af,i,ad,ac⟩:=O;exact⟨p,N,ab,ad,af,i,i,ac⟩)) 10 1 dc rfl rfl (fs 0 9 _) (gQ 8 r) (xh rfl rfl) (ue rfl rfl) (fun U aF aE O=>?_)
        |refine b3.two (eN:=[.agg (jx k [] .cC (.d .cC) (.d .cC)),kV 1 8 r,.ms 0 9 0 ((L.map pe).length+1+1) ((L.map pe).length+1+1)]) (P:=fun U _ N=>gY 0 N=true/\∃S,hY (iS k [] [] kids _) S/\U=.ret (.agg (S.map V.d))) ((rP k [] .cC .nil ag e I Y E ((L.map pe).length+1+1) sm (by simp only[Ys,YD]at R⊢;omega)).mono (fun U G O=>by obtain⟨p,N,ab,af,i,ad,ac⟩:=O;exact⟨p,N,ab,ad,af,i,i,ac⟩)) 10 1 dc (Dk aa L (TK (d.tok f).text s _)) rfl (fs 0 9 _) (gQ 8 r) (xh rfl rfl) (ue rfl rfl) (fun U aF aE O=>?_)
       obtain⟨aA,S,l,rfl⟩:=O;obtain⟨v,m,n,w,num,u,y,z,rfl⟩:=l.eight;exact SC (by rw[c];rfl) l aA
      ·rw[if_neg (by rw[Q];decide)]at c H;intro aD;refine kx ao [44] B aD _ 0 ?_ (fun X aj=>?_) (fun X aB=>?_)
       ·exact Z
       ·rw[x6 X]at H;refine⟨(o+1,_,_),⟨by show p<=o+1;omega,aj,by simp only[YJ,Ys,Yw]at R⊢;omega,e,I,Y,P,by show d.ts.length-(o+1)<=P;omega,H⟩,by show d.ts.length-(o+1)<d.ts.length-f;omega,.pick 8 [0,1,2,3,4,5,6,7,10] ⟨rfl,rfl,rfl,rfl,tv⟩ rfl rfl rfl rfl rfl dc ⟨rfl,rfl,EY _ _ _,pd _ _ _,rfl,rfl,rfl,rfl,rfl,rfl,by first|exact xf (TK (d.tok f).text s _) rfl|exact uc aa L (TK (d.tok f).text s _) rfl,zz _ rfl,Ld j ⟨(d.tok f).text,[],eM,false,[x]⟩,j2 _ _ (io _),rfl,rfl,by first|exact xg (TK (d.tok f).text s _)|exact ud aa L (TK (d.tok f).text s _),pd _ _ _,tv⟩,rfl,rfl⟩
       ·exact Bc (by rw[c];simp only[cv,X,if_false,Yl,PR.map]) (gQ 8 r)
    ·exact Bc (by rw[c];simp only[fW,dS,t,ne_eq,not_true,if_false,g,ep,cv,M,if_true,q,PR.map]) (gQ 8 r)
   ·exact Bc (by rw[c];simp only[fW,dS,t,ne_eq,not_true,if_false,g,ep,cv,M,Yl,PR.map]) (gQ 8 r)
  ·exact Bc (by rw[c];simp only[fW,dS,t,ne_eq,not_true,if_false,g,if_true,PR.map]) (gQ 8 r)
  ·exact Bc (by rw[c];simp only[fW,dS,t,ne_eq,not_false_eq_true,if_true,PR.map]) (gQ 8 r)
def WN:Nat->Bool:=fun b=>Ym b 6||Ym b 12||Ym b 16||Ym b 22||Ym b 26||Ym b 32||Ym b 33
variable{e:Nat->PR Ty}
theorem JT(Y:d.Wf){p:Nat}(Q:fU e d p)(f:na dA a d p)(T:p<d.ts.length):
  b3 C cn jY [.bp 0 0] [e8 d p] (Ip d (l9 e a d p)):=by
 have v:=Y.len;refine cy WN (fun _=>Z) ?_;refine n9 d Y e p T Q 0 Z (fun z G O b t=>?_) (fun o K O b=>?_)
 ·obtain⟨E,J⟩:=j3 Y (fun w z O r c l=>Q.lt w z O r c l) T b;obtain⟨B,ae,tn,F,ab,rfl⟩:=t.eG;intro ai;repeat refine b1 ?_
  refine f.call O om J 0 _ _ ?_ (fun x ag S g P=>?_) (fun o K S g=>?_)
  ·exact Z
  ·obtain⟨y,M⟩:=f.lt _ _ _ om J g;obtain⟨k,m,n,U,num,H,V,R,rfl⟩:=P.eight;intro ac;repeat refine b4 ?_
   intro j;refine kx Y [116,104,101,110] M j _ 0 Z (fun c I=>?_) (fun c O=>?_)
   ·repeat refine b1 ?_
    refine f.call (S+1) om I 0 _ _ ?_ (fun ah d2 X h s=>?_) (fun o K X h=>?_)
    ·exact Z
    ·obtain⟨q,L⟩:=f.lt _ _ _ om I h;obtain⟨k,m,n,U,num,H,V,R,rfl⟩:=s.eight;intro ad;repeat refine b4 ?_
     intro i;refine kx Y [101,108,115,101] L i _ 0 Z (fun l W=>?_) (fun l O=>?_)
     ·repeat refine b1 ?_
      refine f.call (X+1) om W 0 _ _ ?_ (fun af d3 u N D=>?_) (fun o K u N=>?_)
      ·exact Z
      ·obtain⟨k,m,n,U,num,H,V,R,rfl⟩:=D.eight;intro A;repeat refine b4 ?_
       intro aa;repeat refine b4 ?_
       refine a6 1 (ei (by simp only[l9,ep,cv,PR.map,if_true,b,g,h,N,c,l]) (.mk (.ps (.cons t .nil) sm) .nil (.ps (.cons P (.cons s (.cons D .nil))))))
      ·refine a6 1 (cS (by simp only[l9,ep,cv,PR.map,if_true,b,g,h,N,c,l]))
     ·refine a6 1 (cS (by simp only[l9,ep,cv,PR.map,if_true,if_false,Yl,b,g,h,c,l]))
    ·refine a6 1 (cS (by simp only[l9,ep,cv,PR.map,if_true,b,g,h,c]))
   ·refine a6 1 (cS (by simp only[l9,ep,cv,PR.map,if_true,if_false,Yl,b,g,c]))
  ·refine a6 1 (cS (by simp only[l9,b,g]))
 ·refine a6 1 (cS (by simp only[l9,b]))
def WO:Nat->Bool:=fun b=>Ym b 6||Ym b 12||Ym b 18||Ym b 28||Ym b 38||Ym b 24||Ym b 34||Ym b 44||Ym b 45
theorem JU(J:d.Wf){p:Nat}(Y:fU e d p)(o:na dA a d p)(r:p<d.ts.length):
  b3 C cn qb [.bp 0 0] [e8 d p] (Ip d (j8 e a d p)):=by
 have F:=J.len;refine cy WO (fun _=>Z) ?_;refine n9 d J e p r Y 0 Z (fun ad aj t c L=>?_) (fun H S t c=>?_)
 ·obtain⟨ah,R⟩:=j3 J (fun ab ad t f h l=>Y.lt ab ad t f h l) r c;obtain⟨ag,am,tn,ai,al,rfl⟩:=L.eG;intro ar;refine lp d t _ (b8 R) om 0 ?_ (fun g=>?_) (fun g=>?_)
  ·exact Z
  ·have X:t+1<d.ts.length:=J.go t _ (b8 R) om;intro z;refine kx J [44] X z _ 0 Z (fun f P=>?_) (fun f t=>?_)
   ·refine lp d (t+1+1) _ (b8 P) om 0 ?_ (fun b=>?_) (fun b=>?_)
    ·exact Z
    ·have y:t+1+1+1<d.ts.length:=J.go (t+1+1) _ (b8 P) om;intro G;refine kx J [105,110] y G _ 0 Z (fun h Q=>?_) (fun h t=>?_)
     ·repeat refine b1 ?_
      refine o.call (t+1+1+1+1) om Q 0 _ _ ?_ (fun x ap q s W=>?_) (fun H S q s=>?_)
      ·exact Z
      ·obtain⟨ac,U⟩:=o.lt _ _ _ om Q s;obtain⟨k,m,n,u,num,N,v,j,rfl⟩:=W.eight;intro af;repeat refine b4 ?_
       intro aa;refine kx J [102,114,111,109] U aa _ 0 Z (fun l O=>?_) (fun l t=>?_)
       ·repeat refine b1 ?_
        refine o.call (q+1) om O 0 _ _ ?_ (fun aq d2 w D K=>?_) (fun H S w D=>?_)
        ·exact Z
        ·obtain⟨B,T⟩:=o.lt _ _ _ om O D;obtain⟨k,m,n,u,num,N,v,j,rfl⟩:=K.eight;intro ae;repeat refine b4 ?_
         intro A;refine kx J [61,62] T A _ 0 Z (fun I i=>?_) (fun I t=>?_)
         ·repeat refine b1 ?_
          refine o.call (w+1) om i 0 _ _ ?_ (fun ao d3 E V M=>?_) (fun H S E V=>?_)
          ·exact Z
          ·obtain⟨k,m,n,u,num,N,v,j,rfl⟩:=M.eight;intro ak;repeat refine b4 ?_
           intro an;repeat refine b4 ?_
           refine a6 1 (ei (by simp only[j8,dy,ep,cv,PR.map,ne_eq,not_true,if_false,if_true,c,s,D,V,g,b,f,h,l,I]) (.mk (.ps (.cons L .nil) sm) .nil (.ps (.cons W (.cons K (.cons M .nil))))))
          ·refine a6 1 (cS (by simp only[j8,dy,ep,cv,PR.map,ne_eq,not_true,if_false,if_true,c,s,D,V,g,b,f,h,l,I]))
         ·refine a6 1 (cS (by simp only[j8,dy,ep,cv,PR.map,ne_eq,not_true,if_false,if_true,Yl,c,s,D,g,b,f,h,l,I]))
        ·refine a6 1 (cS (by simp only[j8,dy,ep,cv,PR.map,ne_eq,not_true,if_false,if_true,c,s,D,g,b,f,h,l]))
       ·refine a6 1 (cS (by simp only[j8,dy,ep,cv,PR.map,ne_eq,not_true,if_false,if_true,Yl,c,s,g,b,f,h,l]))
      ·refine a6 1 (cS (by simp only[j8,dy,ep,cv,PR.map,ne_eq,not_true,if_false,if_true,c,s,g,b,f,h]))
     ·refine a6 1 (cS (by simp only[j8,dy,ep,cv,PR.map,ne_eq,not_true,if_false,if_true,Yl,c,g,b,f,h]))
    ·refine a6 1 (cS (by simp only[j8,dy,cv,ne_eq,not_true,not_false_eq_true,if_false,if_true,c,g,b,f]))
   ·refine a6 1 (cS (by simp only[j8,dy,cv,ne_eq,not_true,if_false,Yl,c,g,f]))
  ·refine a6 1 (cS (by simp only[j8,dy,ne_eq,not_false_eq_true,if_true,c,g]))
 ·refine a6 1 (cS (by simp only[j8,c]))
theorem Hz(x:d.Wf)(I:List UInt8){p:Nat}(m:fU e d p)(g:p<d.ts.length):
  b3 C cn s9 [.bp 0 0,cE I] [e8 d p] (Ip d (hF e d I p)):=by
 have H:=x.len;refine cB ?_;refine dq d p _ [58,58] (b8 g) om 0 Z (fun b=>?_) (fun b=>?_)
 ·have h:=x.step g b;refine lp d (p+1) _ (b8 h) om 0 Z (fun f=>?_) (fun f=>?_)
  ·have k:p+1+1<d.ts.length:=x.go (p+1) _ (b8 h) om;refine tR d (p+1+1) _ [91] (b8 k) 0 Z ?_;apply aZ<;>intro c
   ·refine ot d x e (p+1+1) k ⟨fun n L t K=>m.lt n L t om,fun n K=>m.call n om⟩ 0 Z (fun M J t o l=>?_) (fun s D t o=>?_)
    ·refine a6 1 (ei (by simp only[hF,dy,PR.map,b,c,f,o,ne_eq,not_true,if_false,if_true]) (.mk l .nil .nil))
    ·refine a6 1 (cS (by simp only[hF,dy,PR.map,b,c,f,o,ne_eq,not_true,if_false,if_true]))
   ·refine a6 1 (ei (by simp only[hF,dy,PR.map,b,c,f,ne_eq,not_true,if_false,if_true,Yl]) (.mk .nil .nil .nil))
  ·refine a6 1 (cS (by simp only[hF,dy,PR.map,b,f,ne_eq,not_false_eq_true,if_true]))
 ·refine tR d p _ [91] (b8 g) 0 Z ?_;apply aZ<;>intro c
  ·refine ot d x e p g m 0 Z (fun M J t o l=>?_) (fun s D t o=>?_)
   ·refine a6 1 (ei (by simp only[hF,PR.map,b,c,o,if_false,if_true,Yl]) (.mk l .nil .nil))
   ·refine a6 1 (cS (by simp only[hF,PR.map,b,c,o,if_false,if_true,Yl]))
  ·refine a6 1 (ei (by simp only[hF,b,c,if_false,Yl]) (.mk .nil .nil .nil))
theorem hG{f c:Type}{h:f->c}{x:PR f}{b:c}(k:x.map h=.ok b q):∃g,x=.ok g q/\h g=b:=by
 cases x with
 |ok g m=>cases k;exact⟨g,rfl,rfl⟩
 |bad l n=>cases k
theorem Le(K:d.Wf){lo:Nat}(l:∀b x c,lo<=b->b<d.ts.length->kL e a d b=.ok x c->b<c/\c<d.ts.length):∀(m b:Nat) (x:Ex) (c:Nat),lo<=b->b<d.ts.length->l8 e a d m b=.ok x c->b<c/\c<d.ts.length:=by
 intro m;induction m with
 |zero=>intro b x c _ _ f;cases f
 |succ m H=>
  intro b x c p g f;rw[l8]at f;split at f
  ·rename_i D;obtain⟨o,I,_⟩:=hG f;obtain⟨J,n⟩:=H (b+1) o c om (K.step g D) I;exact⟨om,n⟩
  ·split at f
   ·cases f
   ·rename_i L k t;obtain⟨J,n⟩:=l b L k p g t;split at f
    ·cases f;exact⟨J,n⟩
    ·rename_i s C;obtain⟨O,N,_,h,_⟩:=qU C;obtain⟨o,I,_⟩:=hG f;obtain⟨M,d2⟩:=l (k+1) o c om (K.step n h) I;exact⟨om,d2⟩
def WQ:Nat->Bool:=fun b=>Ym b 10||Ym b 25
theorem Vn(T:d.Wf){lo:Nat}(b:na wK (kL e a d) d lo):∀(n h O:Nat),lo<=h->d.ts.length-h<=n->d.ts.length-h<=O->na wH (l8 e a d O) d h:=by
 have W:=T.len;intro n;induction n with
 |zero=>intro h O V U Y;exact⟨fun L x t r S=>om,fun L r S=>om⟩
 |succ n i=>
  intro h O V U Y;refine na.of (fun L x t r S=>Le T b.lt O L x t om S) (fun L j P=>?_);obtain⟨O,rfl⟩:∃X,O=X+1:=⟨O-1,om⟩;refine cy WQ (fun _=>Z) ?_;refine dq d L (d.tok L) [110,111,116] (b8 P) om 0 Z (fun f=>?_) (fun f=>?_)
  ·have s:=T.step P f;refine(i (L+1) O om om om).call (L+1) (Yp _) s 0 _ _ Z (fun x v t I o=>?_) (fun D M t I=>?_)
   ·obtain⟨k,m,n,Q,num,H,R,N,rfl⟩:=o.eight;intro S;refine a6 1 (ei (by rw[l8,if_pos f,I];rfl) (.mk .nil .nil (.ps (.cons o .nil))))
   ·refine a6 1 (cS (by rw[l8,if_pos f,I];rfl))
  ·refine b.call L om P 0 _ _ Z (fun x v t I o=>?_) (fun D M t I=>?_)
   ·obtain⟨q,s⟩:=b.lt L x t om P I;obtain⟨k,m,n,Q,num,H,R,N,rfl⟩:=o.eight;refine b5.loop ?_;refine bZ Z ?_;refine a7 dc ?_;refine dq d t (d.tok t) [61,61] (b8 s) om 0 Z (fun l=>?_) (fun l=>?_)
    ·have p:=T.step s l;repeat refine b1 ?_
     refine b.call (t+1) om p 0 _ _ ?_ (fun u d2 K g c=>?_) (fun D M K g=>?_)
     ·exact Z
     ·obtain⟨k,m,n,Q,num,H,R,N,rfl⟩:=c.eight;intro S;repeat refine b1 ?_
      refine a6 1 (ei (by rw[l8,if_neg (by rw[f];decide),I];simp only[mv,Yu,l,g,PR.map]) (.mk .nil .nil (.ps (.cons o (.cons c .nil)))))
     ·refine a6 1 (cS (by rw[l8,if_neg (by rw[f];decide),I];simp only[mv,Yu,l,g,PR.map]))
    ·refine b5.loop ?_;refine bZ Z ?_;refine a7 dc ?_;refine dq d t (d.tok t) [61,61,61] (b8 s) om 0 Z (fun C=>?_) (fun C=>?_)
     ·have p:=T.step s C;repeat refine b1 ?_
      refine b.call (t+1) om p 0 _ _ ?_ (fun u d2 K g c=>?_) (fun D M K g=>?_)
      ·exact Z
      ·obtain⟨k,m,n,Q,num,H,R,N,rfl⟩:=c.eight;intro S;repeat refine b1 ?_
       refine a6 1 (ei (by rw[l8,if_neg (by rw[f];decide),I];simp only[mv,Yu,l,C,g,PR.map]) (.mk .nil .nil (.ps (.cons o (.cons c .nil)))))
      ·refine a6 1 (cS (by rw[l8,if_neg (by rw[f];decide),I];simp only[mv,Yu,l,C,g,PR.map]))
     ·refine b5.loop ?_;refine bZ Z ?_;refine a7 dc ?_;refine dq d t (d.tok t) [60] (b8 s) om 0 Z (fun J=>?_) (fun J=>?_)
      ·have p:=T.step s J;repeat refine b1 ?_
       refine b.call (t+1) om p 0 _ _ ?_ (fun u d2 K g c=>?_) (fun D M K g=>?_)
       ·exact Z
       ·obtain⟨k,m,n,Q,num,H,R,N,rfl⟩:=c.eight;intro S;repeat refine b1 ?_
        refine a6 1 (ei (by rw[l8,if_neg (by rw[f];decide),I];simp only[mv,Yu,l,C,J,g,PR.map]) (.mk .nil .nil (.ps (.cons o (.cons c .nil)))))
       ·refine a6 1 (cS (by rw[l8,if_neg (by rw[f];decide),I];simp only[mv,Yu,l,C,J,g,PR.map]))
      ·refine b5.loop ?_;refine a6 1 (ei (by rw[l8,if_neg (by rw[f];decide),I];simp only[mv,Yu,l,C,J]) o)
   ·refine a6 1 (cS (by rw[l8,if_neg (by rw[f];decide),I]))
theorem Pq(N:d.Wf)(h:d.Ng)(b p:Nat)(H:p<d.ts.length)(I:b=9223372036854775807∨b=9223372036854775808)(l:Nat){σ:VS}{K:cZ->VS->Prop}(k:nth σ l=some (e8 d p))(s:∀x n f,oc b d p=.ok x f->hY x n->K (.ret (.agg (n.map V.d))) (σ.set l (e8 d f))) 
  (J:∀c g f,oc b d p=.bad c g->K (.fO (fC c g)) (σ.set l (e8 d f))):b3 C cn se [.bp l 0,.d (.int .u64 (Yo b))] σ K:=by
 refine b3.one (eN:=[.bp 0 0,.d (.int .u64 (Yo b))]) (P:=MJ d (oc b d p)) (MX N h b p H I) l k Z Z Z (fun O L o=>?_);unfold MJ at o;split at o
 ·rename_i M f g;obtain⟨rfl,n,t,rfl⟩:=o;exact s M n f g t
 ·rename_i c D g;obtain⟨f,rfl,rfl⟩:=o;exact J c D f g
theorem Lf(h:d.Wf){c p:Nat}(g:p<d.ts.length){x:Ex}(b:oc c d p=.ok x q):p<q/\q<d.ts.length:=by
 rw[oc]at b;split at b
 ·cases b
 ·rename_i f;have f:(d.tok p).kind=3:=by simpa using f
  have:=h.go p _ (b8 g) om;split at b
  ·split at b
   ·cases b
   ·cases b;exact⟨om,this⟩
  ·cases b
theorem Lg(p:d.Wf){lo:Nat}(m:∀b x c,lo<=b->b<d.ts.length->gm e a d b=.ok x c->b<c/\c<d.ts.length):∀(k b:Nat) (x:Ex) (c:Nat),lo<=b->b<d.ts.length->nI e a d k b=.ok x c->b<c/\c<d.ts.length:=by
 intro k;induction k with
 |zero=>intro b x c _ _ f;cases f
 |succ k n=>
  intro b x c o g f;rw[nI]at f;split at f
  ·rename_i h;obtain⟨t,C,_⟩:=hG f;obtain⟨s,l⟩:=n (b+1) t c om (p.step g h) C;exact⟨om,l⟩
  ·split at f
   ·rename_i h;have:=p.step g h;obtain⟨s,l⟩:=Lf p this f;exact⟨om,l⟩
   ·exact m b x c o g f
def WR:Nat->Bool:=fun b=>Ym b 8
theorem Vo(N:d.Wf)(I:d.Ng){lo:Nat}(D:na qN (gm e a d) d lo):∀(n b p:Nat),lo<=b->d.ts.length-b<=n->d.ts.length-b<=p->na s7 (nI e a d p) d b:=by
 have R:=N.len;intro n;induction n with
 |zero=>intro b p Q P T;exact⟨fun h x C W O=>om,fun h W O=>om⟩
 |succ n U=>
  intro b p Q P T;refine na.of (fun h x C W O=>Lg N D.lt p h x C om O) (fun h V l=>?_);obtain⟨p,rfl⟩:∃S,p=S+1:=⟨p-1,om⟩;refine cy WR (fun _=>Z) ?_;refine dq d h (d.tok h) [108,101,110,103,116,104] (b8 l) om 0 Z (fun f=>?_) (fun f=>?_)
  ·have H:=N.step l f;refine(U (h+1) p om om om).call (h+1) (Yp _) H 0 _ _ Z (fun x X C o c=>?_) (fun s J C o=>?_)
   ·obtain⟨k,m,n,L,num,t,M,K,rfl⟩:=c.eight;intro O;refine a6 1 (ei (by rw[nI,if_pos f,o];rfl) (.mk .nil .nil (.ps (.cons c .nil))))
   ·refine a6 1 (cS (by rw[nI,if_pos f,o];rfl))
  ·refine dq d h (d.tok h) [45] (b8 l) om 0 Z (fun g=>?_) (fun g=>?_)
   ·have H:=N.step l g;refine Pq N I 9223372036854775808 (h+1) H (.inr Z) 0 Z (fun x X C o c=>?_) (fun s J C o=>?_)
    ·obtain⟨k,m,n,L,num,t,M,K,rfl⟩:=c.eight;refine a6 1 (ei (by rw[nI,if_neg (by rw[f];decide),if_pos g,o]) c)
    ·refine a6 1 (cS (by rw[nI,if_neg (by rw[f];decide),if_pos g,o]))
   ·refine D.call h om l 0 _ _ Z (fun x X C o c=>?_) (fun s J C o=>?_)
    ·obtain⟨k,m,n,L,num,t,M,K,rfl⟩:=c.eight;refine a6 1 (ei (by rw[nI,if_neg (by rw[f];decide),if_neg (by rw[g];decide),o]) c)
    ·refine a6 1 (cS (by rw[nI,if_neg (by rw[f];decide),if_neg (by rw[g];decide),o]))
theorem Bd(w:d.Wf)(b:List UInt8)(k:Nat){kids:List Ex}{l3:List (List D)}{p:Nat}(M:na dA a d p)(e:p<d.ts.length)(X:hh kids l3)(H:kids.length<=1)(s m:Nat)(t:s≠m){σ:VS}{K:cZ->VS->Prop}(N:nth σ s=some (e8 d p))(i:nth σ m=some (kO 8 l3)) 
  (Q:∀x P h o,hZ a d b k kids p=.ok x h->hY x P->gY 0 o=true->K (.ret (.agg (P.map V.d))) ((σ.set s (e8 d h)).set m o)) (j:∀f n h o,hZ a d b k kids p=.bad f n->gY 0 o=true->K (.fO (fC f n)) ((σ.set s (e8 d h)).set m o)):
  b3 C cn s8 [.bp s 0,.agg (jx k [] .cC (.d .cC) (.d .cC)),kV m 8 l3,cE b] σ K:=by
 refine b3.two (eN:=[.bp 0 0,.agg (jx k [] .cC (.d .cC) (.d .cC)),kV 1 8 l3,cE b]) (P:=fun S I g=>gY 0 g=true/\∃c,I=.box c/\MJ d (hZ a d b k kids p) S c)
  ((Hy w b k M e X H).mono fun S q l=>by
   obtain⟨c,o,n,Y,T,L,W⟩:=l;exact⟨_,o,n,Y,T,L,L,c,Z,W⟩) s m t N i Z (gQ 8 l3) ?_ ?_ (fun S I g l=>?_)
 ·show(bd 2 (.bp 0 0)&&gC 2 [.agg (jx k [] .cC (.d .cC) (.d .cC)),kV 1 8 l3,cE b])=true;rw[xh rfl rfl];rfl
 ·show _=iv _ (.bp 0 0)::iw _ [.agg (jx k [] .cC (.d .cC) (.d .cC)),kV 1 8 l3,cE b];rw[<-ue (i':=m) (v':=cE b) rfl rfl];rfl
 ·obtain⟨J,c,rfl,l⟩:=l;unfold MJ at l;split at l
  ·rename_i u h n;obtain⟨rfl,P,R,rfl⟩:=l;exact Q u P h g n R J
  ·rename_i f U n;obtain⟨h,rfl,rfl⟩:=l;exact j f U h g n J
theorem Pr{h:Type}(M:d.Wf){step:h->Nat->PR h}{lo:Nat}(D:∀l c b g,lo<=c->c<d.ts.length->step l c=.ok b g->c<g/\g<d.ts.length):∀(n:Nat) (l:h) (c:Nat) (b:h) (g:Nat),lo<=c->c<d.ts.length->eY step d j n l c=.ok b g->c<g/\g<d.ts.length:=by
 intro n;induction n with
 |zero=>intro l c b g _ _ f;cases f
 |succ n I=>
  intro l c b g s o f;rw[eY]at f;split at f
  ·cases f
  ·rename_i L m p;obtain⟨Q,K⟩:=D l c L m s o p;split at f
   ·rename_i C;have:=M.step K C;cases f;exact⟨om,this⟩
   ·cases k:cv d [[44]] m with
    |bad O R=>rw[k]at f;cases f
    |ok P J=>
     rw[k]at f;dsimp only at f;have H:=c9 _ _ _ k;have t:=dJ M _ _ _ K k;simp only[Ys,Yw]at H;obtain⟨x,N⟩:=I L J b g om t f;exact⟨om,N⟩
theorem xi{f:Type}(o:d.Wf){step:f->Nat->PR f}{lo:Nat}(n:∀m p c b,lo<=p->p<d.ts.length->step m p=.ok c b->p<b/\b<d.ts.length){m c:f}{p b:Nat}(l:lo<=p)(g:p<d.ts.length)(h:dK step d j m p=.ok c b):p<b/\b<d.ts.length:=by
 rw[dK]at h;split at h
 ·rename_i k;have:=o.step g k;cases h;exact⟨om,this⟩
 ·exact Pr o n _ _ _ _ _ l g h
theorem Lh(C:d.Wf){lo:Nat}(k:∀p x b,lo<=p->p<d.ts.length->a p=.ok x b->p<b/\b<d.ts.length){s:List UInt8}{p b:Nat}{x:Ex}(t:lo<=p)(l:p<d.ts.length)(h:ep a d [] p=.ok x b∨ep a d s p=.ok x b):p<b/\b<d.ts.length:=by
 have f:∀s,ep a d s p=.ok x b->p<b/\b<d.ts.length:=by
  intro s h;rw[ep]at h;cases c:cv d [s] p with
  |bad I J=>rw[c]at h;cases h
  |ok D n=>
   rw[c]at h;have g:=c9 _ _ _ c;have m:=dJ C _ _ _ l c;simp only[Ys,Yw]at g;obtain⟨H,o⟩:=k n x b om m h;exact⟨om,o⟩
 rcases h with h|h
 ·exact f _ h
 ·exact f _ h
theorem ox(k:d.Wf){f:List cV}{p g:Nat}{s:List UInt8}(h:p<d.ts.length)(b:dS d f p=.ok s g):p<g/\g<d.ts.length:=by
 rw[dS]at b;split at b
 ·cases b
 ·rename_i c;have c:(d.tok p).kind=1:=by simpa using c
  split at b
  ·cases b
  ·cases b;exact⟨om,k.go p _ (b8 h) om⟩
theorem nx(h:d.Wf){p f:Nat}{s:List UInt8}(g:p<d.ts.length)(c:dy d p=.ok s f):p<f/\f<d.ts.length:=by
 rw[dy]at c;split at c
 ·cases c
 ·rename_i b;have b:(d.tok p).kind=1:=by simpa using b
  cases c;exact⟨om,h.go p _ (b8 g) om⟩
theorem uf(n:d.Wf){lo:Nat}(l:∀p x b,lo<=p->p<d.ts.length->a p=.ok x b->p<b/\b<d.ts.length){k:Nat}{kids:List Ex}{p b:Nat}{x:Ex}(g:lo<=p)(c:p<d.ts.length)(f:hZ a d j k kids p=.ok x b):p<b/\b<d.ts.length:=by
 obtain⟨K,m,_⟩:=hG f;refine xi n (lo:=lo) (fun H p o b g c f=>?_) g c m;rw[fW]at f;split at f
 ·cases f
 ·rename_i s t h;obtain⟨J,C⟩:=ox n c h;obtain⟨I,m,_⟩:=hG f;obtain⟨D,d2⟩:=Lh n l (s:=[58]) om C (.inr m);exact⟨om,d2⟩
theorem Ps(p:d.Wf){lo:Nat}(D:∀c x f,lo<=c->c<d.ts.length->a c=.ok x f->c<f/\f<d.ts.length):∀(o:Nat) (x:Ex) (c:Nat) (m:Ex) (f:Nat),lo<=c->c<d.ts.length->jL a d o x c=.ok m f->c<=f/\f<d.ts.length:=by
 intro o;induction o with
 |zero=>intro x c m f _ _ b;cases b
 |succ o n=>
  intro x c m f I h b;rw[jL]at b;split at b
  ·rename_i g;split at b
   ·cases b
   ·rename_i s k l;obtain⟨H,C⟩:=nx p (p.step h g) l;obtain⟨J,t⟩:=n _ k m f om C b;exact⟨om,t⟩
  ·split at b
   ·rename_i g;split at b
    ·cases b
    ·rename_i K k l;obtain⟨H,C⟩:=uf p D om (p.step h g) l;obtain⟨J,t⟩:=n _ k m f om C b;exact⟨om,t⟩
   ·cases b;exact⟨Yp _,h⟩
def WS:Nat->Bool:=fun b=>Ym b 13
theorem Pt(S:d.Wf){lo:Nat}(p:na kp (fb e a d) d lo)(s:na dA a d (lo+1)):na qN (gm e a d) d lo:=by
 have A:=S.len;refine na.of (fun H B c I y v=>?_) (fun H I W=>?_)
 ·rw[gm]at v;split at v
  ·cases v
  ·rename_i x U aa;obtain⟨h,F⟩:=p.lt H x U I y aa;obtain⟨af,u⟩:=Ps S s.lt _ x U B c om F v;exact⟨om,u⟩
 ·refine cy WS (fun _=>Z) ?_;refine p.call H I W 0 _ _ Z (fun x u c w g=>?_) (fun i z c w=>?_)
  ·obtain⟨N,l⟩:=p.lt H x c I W w;obtain⟨k,m,n,Q,num,t,R,O,rfl⟩:=g.eight;refine b5.less (eh:=[(0,.bp 0 0),(2,.bp 1 0),(3,.bp 2 0)]) ⟨Z,Z,Z,tv⟩ ?_;refine b5.iter (fun _:Nat×Ex×List D=>[(0,.bp 0 0),(2,.bp 1 0),(3,.bp 2 0)]) (fun h=>[e8 d h.1,.box jz,.box (h.2.2.map V.d)]) (fun h=>d.ts.length-h.1)
    (fun h=>H<h.1/\h.1<d.ts.length/\hY h.2.1 h.2.2/\∃o,d.ts.length-h.1<o/\gm e a d H=jL a d o h.2.1 h.1) ?_ (c,x,_) ⟨N,l,g,d.ts.length,by show d.ts.length-c<d.ts.length;omega,by rw[gm,w]⟩
   rintro⟨c,x,u⟩ ⟨Y,T,r,o,X,q⟩;have N:H<c:=Y;have l:c<d.ts.length:=T;have g:hY x u:=r;have ae:d.ts.length-c<o:=X;have b:gm e a d H=jL a d o x c:=q;clear Y T r X q;obtain⟨k,m,n,Q,num,t,R,O,rfl⟩:=g.eight;obtain⟨o,rfl⟩:∃G,o=G+1:=⟨o-1,om⟩;rw[jL]at b;refine dq d c (d.tok c) [46] (b8 l) om 0 Z (fun K=>?_) (fun K=>?_)
   ·have f:=S.step l K;rw[if_pos K]at b;intro ac;repeat refine b1 ?_
    refine lp d (c+1) _ (b8 f) om 0 ?_ (fun P=>?_) (fun P=>?_)
    ·exact Z
    ·have j:c+1+1<d.ts.length:=S.go (c+1) _ (b8 f) om;simp only[dy,P,ne_eq,not_true,if_false]at b;repeat refine b1 ?_
     refine⟨(c+1+1,.mk 6 [] (d.tok (c+1)).text [] 0 [] [] [x],_),⟨by show H<c+1+1;omega,j,.mk .nil .nil (.ps (.cons g .nil)),o,by show d.ts.length-(c+1+1)<o;omega,b⟩,by show d.ts.length-(c+1+1)<d.ts.length-c;omega,.drop 3 ⟨rfl,rfl,rfl,tv⟩ rfl rfl rfl rfl rfl rfl rfl,rfl,rfl⟩
    ·refine a6 1 (cS (by rw[b];simp only[dy,P,ne_eq,not_false_eq_true,if_true]))
   ·rw[if_neg (by rw[K];decide)]at b;refine dq d c (d.tok c) [40] (b8 l) om 0 Z (fun L=>?_) (fun L=>?_)
    ·have f:=S.step l L;rw[if_pos L]at b;refine Bd S [41] 9 (kids:=[x]) (l3:=[[.int .i64 (Yo k),.str m,.str n,.str Q,.int .i64 num,t,R,O]]) (s.up om) f (.cons g .nil) (Yp _) 0 3 dc Z Z (fun B d2 C ad J M E=>?_) (fun i z C ad J E=>?_)
     ·obtain⟨h,F⟩:=uf S s.lt om f J;obtain⟨k,m,n,Q,num,t,R,O,rfl⟩:=M.eight;rw[J]at b;refine⟨(C,B,_),⟨by show H<C;omega,F,M,o,by show d.ts.length-C<o;omega,b⟩,by show d.ts.length-C<d.ts.length-c;omega,.drop 3 ⟨rfl,rfl,rfl,tv⟩ rfl rfl rfl rfl rfl rfl rfl,rfl,rfl⟩
     ·rw[J]at b;refine a6 1 (cS b)
    ·rw[if_neg (by rw[L];decide)]at b;refine a6 1 (ei b g)
  ·refine a6 1 (cS (by rw[gm,w]))
theorem cR.gone{m:Nat}{f:cZ}{σ:VS}{K:cZ->VS->Prop}(o:cR m f (σ++[.gone]) K):cR m f σ K:=by
 refine⟨fun b h n k c=>?_⟩;have g:B6 b (σ++[cU.gone]).length f:=by
  cases f with
  |ret l=>exact fJ.mono (Fz.le_refl _) vI (show fJ b σ.length l from c)
  |fO l=>exact fJ.mono (Fz.le_refl _) vI (show fJ b σ.length l from c)
 exact o.go b h n k.gone g
def uI(b:List Nat):List V:=b.map fun c=>.bp c 0
variable{w:List Nat}
theorem Pu{n:Nat}(k:∀b∈w,b<n)(c:∀b,b<n->i b=b):iw i (uI w)=uI w:=by
 induction w with
 |nil=>rfl
 |cons g w f=>
  show V.bp (i g) 0::iw i (uI w)=_;rw[c g (k g sm),f fun b h=>k b (by simp[h])];rfl
theorem Rn{n:Nat}(h:∀c∈w,c<n):gC n (uI w)=true:=by
 induction w with
 |nil=>rfl
 |cons f w b=>
  show(YA f n&&gC n (uI w))=true;rw[b fun c g=>h c (by simp[g]),show YA f n=true by rw[Nat.blt_eq];exact h f sm];rfl
def Be(n:Nat)(σ b:VS):Prop:=∃c,AB n c 0=true/\c.Nodup/\n<=b.length/\vj (jO c σ.length) b.length σ c b
theorem Be.code{n:Nat}{σ b:VS}(N:Be n σ b)(l:∀m∈w,m<n)(t:0<n){o:uw}{c:Code}{s:Tm}{f:List UInt8}{h:FuncId}{M:Ab->Tm->List gd->mg->VS->Prop}(D:o.fl=n) 
  (I:qF [(0,.bp 0 0),(1,cE j),(2,cE f),(3,.fn h [] (uI w))] s) (K:b5 C cn o c [(0,.bp 0 0),(1,cE j),(2,cE f),(3,.fn h [] (uI w))] [] .none b M):b5 C cn o c s [] .none σ M:=by
 obtain⟨g,x,J,H,L⟩:=N;have k:∀m,m<n->jO g σ.length m=m:=fun m p=>by
  have:=tP x p;rw[k7 this];omega
 refine b5.pick n g (eh:=[(0,.bp 0 0),(1,cE j),(2,cE f),(3,.fn h [] (uI w))]) ?_ ?_ (by rw[D,YB];exact Yp n) x rfl rfl J L K
 ·show qF [(0,V.bp (jO g σ.length 0) 0),(1,cE j),(2,cE f),(3,V.fn h [] (iw (jO g σ.length) (uI w)))] s;rw[k 0 t,Pu l k];exact I
 ·show(YA 0 b.length&&(true&&(true&&((true&&gC b.length (uI w))&&true))))=true;rw[Rn fun m p=>YH (l m p) H,show YA 0 b.length=true by rw[Nat.blt_eq];exact YH t H];rfl
def WT:Nat->Bool:=fun b=>Ym b 18||Ym b 1000002
theorem Dl{D M:Type}(E:d.Wf)(c:List UInt8)(step:D->Nat->PR D)(I:D->M->Nat->Prop)(S:M->VS)(o:VS)(n:Nat)(H:FuncId)(z:(C.ff.get H).isSome=true)(t:List Nat){g0:D}{a0:M}{p:Nat}(U:p<d.ts.length)(V:I g0 a0 p)(W:∀s f g,I s f g->I s f (g+1))(a:o++[.gone]=S a0)(ad:o.length+1=n)(j:∀f,n<=(S f).length+1)(w:∀aj∈t,aj<n) 
  (ac:∀s f g,I s f g->p<=g->g<d.ts.length->∀X:cZ->VS->Prop,
   (∀x m b k,step s g=.ok x b->I x m b->g<b->b<d.ts.length->Be n (e8 d b::k) (e8 d b::S m)->X (.ret (.dN [])) (e8 d b::k))->
   (∀l O b k,step s g=.bad l O->n<=k.length+1->X (.fO (fC l O)) (e8 d b::k))->b3 C cn H (uI t) (e8 d g::S f) X)
  {K:cZ->VS->Prop} (Q:∀s f g,dK step d c g0 p=.ok s g->I s f g->p<g->g<d.ts.length->K (.ret (.dN [])) (e8 d g::S f))
  (P:∀l O g k,dK step d c g0 p=.bad l O->K (.fO (fC l O)) (e8 d g::k)):
  b3 C cn Cl [.bp 0 0,cE [44],cE c,.fn H [] (uI t)] (e8 d p::o) K:=by
 have aa:=E.len;refine cy WT (fun _=>Z) ?_;refine dq d p (d.tok p) c (b8 U) om 0 Z (fun B=>?_) (fun B=>?_)
 ·refine cR.gone ?_;refine cR.now (by rw[YB];simp) ?_;show K (.ret (.dN [])) (e8 d (p+1)::(o++[.gone]));rw[a];exact Q g0 a0 (p+1) (by rw[dK,if_pos B]) (W _ _ _ V) (Nat.lt_succ_self p) (E.step U B)
 ·refine b5.less (eh:=[(0,.bp 0 0),(1,cE [44]),(2,cE c),(3,.fn H [] (uI t))]) ⟨Z,Z,Z,Z,tv⟩ ?_;refine b5.gone ?_;show b5 _ _ _ _ _ _ _ (e8 d p::(o++[.gone])) _;rw[a];refine b5.iter (fun _:Nat×D×M=>[(0,.bp 0 0),(1,cE [44]),(2,cE c),(3,.fn H [] (uI t))]) (fun f=>e8 d f.1::S f.2.2) (fun f=>d.ts.length-f.1)
   (fun f=>p<=f.1/\f.1<d.ts.length/\I f.2.1 f.2.2 f.1/\∃L,d.ts.length-f.1<=L/\dK step d c g0 p=eY step d c L f.2.1 f.1) ?_ (p,g0,a0) ⟨Yp _,U,V,_,by show d.ts.length-p<=d.ts.length;omega,by rw[dK,if_neg (by rw[B];decide)]⟩
  rintro⟨g,s,f⟩ ⟨u,i,e,L,q,r⟩;have Y:p<=g:=u;have G:g<d.ts.length:=i;have y:I s f g:=e;have ai:d.ts.length-g<=L:=q;have h:dK step d c g0 p=eY step d c L s g:=r;clear u i e q r V;obtain⟨L,rfl⟩:∃ab,L=ab+1:=⟨L-1,om⟩;rw[eY]at h;conv=>whnf
  rw[z];refine ac s f g y Y G _ (fun x m b k O R ae J v=>?_) (fun l ah b k O ag=>?_)
  ·rw[O]at h;dsimp only at h;refine v.code w om ad ⟨Z,Z,Z,Z,tv⟩ ?_;refine ft ?_;refine dq d b (d.tok b) c (b8 J) om 0 Z (fun N=>?_) (fun N=>?_)
   ·rw[if_pos N]at h;refine cR.now (by rw[YB];show o.length+1<=(S m).length+1;have:=j m;omega) ?_;exact Q x m (b+1) h (W _ _ _ R) om (E.step J N)
   ·rw[if_neg (by rw[N];decide)]at h;intro F;refine kx E [44] J F _ 0 Z (fun T A=>?_) (fun T af=>?_)
    ·rw[x6 T]at h;refine⟨(b+1,x,m),⟨by show p<=b+1;omega,A,W _ _ _ R,L,by show d.ts.length-(b+1)<=L;omega,h⟩,by show d.ts.length-(b+1)<d.ts.length-g;omega,.same ⟨rfl,rfl,rfl,rfl,tv⟩ rfl,rfl,rfl⟩
    ·refine cR.now (by rw[YB];show o.length+1<=(S m).length+1;have:=j m;omega) ?_;exact P _ _ _ _ (by rw[h];simp only[cv,T,if_false,Yl])
  ·rw[O]at h;refine cR.now (by rw[YB];show o.length+1<=k.length+1;omega) ?_;exact P _ _ _ _ h
theorem HA(es:Nat)(f:List D)(c:List (List D))(b:List D):some (cU.row es (Yy (c.length+1) (Yz 0 (Yt (fun b=>Yt V.d b) (f::c)))++[b.map V.d]))=some (.row es (((f::c)++[b]).map fun b=>b.map V.d)):=by
 rw[YF,Yv sm];simp
theorem Ro(b:FE)(c:List FE):some (kO 9 (Hx (b::c)))=some (.row 9 (dz true (b::c))):=by
 simp[kO,Hx,dz,wW,Function.comp_def]
theorem ug(b:y=.bad z G):cR 1 (.fO (fC z G)) (e8 d q::B) (Ip d y):=
 cR.drop 1 rfl (by show(gY 1 (e8 d q)&&mZ 1 B 0)=true;rw[mZ];rfl) rfl (cR.now rfl (cS b))
theorem zA{k:Nat}{n:List UInt8}{types:List Ty}{labels:List iB}{kids:List Ex}{els:List (List D)}(c b:Nat)(p:nth B c=some (.row 8 (els.map fun s=>s.map V.d)))(f:b=els.length)(l:hh kids els)(h:fK types v)(m:eV labels A)(o:y=.ok (.mk k [] n [] 0 types labels kids) q):
  cR 1 (.ret (.agg (jx k n v (.d A) (.ms (c+1) 8 0 b b)))) (e8 d q::B) (Ip d y):=by
 refine cR.freeze (c+1) (es:=8) (l:=els) p (ed els) (by repeat' (first|exact tv|exact fun _=>⟨rfl,by simp[f]⟩|refine YE ?_ ?_)) (fun g=>?_);have x:sU (c+1) g els (.ret (.agg (jx k n v (.d A) (.ms (c+1) 8 0 b b))))=.ret (.agg (([.int .i64 (Yo k),.str [],.str n,.str [],.int .i64 (Yo 0),v,A,.ps g 0 8 b els]:List D).map V.d)):=by
  show cZ.ret (.agg (jx k n v (.d A) (iW (c+1) g els (.ms (c+1) 8 0 b b))))=_;rw[iW,gE];show cZ.ret (.agg (jx k n v (.d A) (.d (.ps g (0*8) 8 b ((els.drop 0).take b)))))=_;rw[gD _ _ f];rfl
 rw[x];refine cR.drop 1 Z (by show(gY 1 (e8 d q)&&mZ 1 (B.set c .gone) 0)=true;rw[mZ];rfl) (yx 1 _) (cR.now rfl ?_);exact ei o (.mk h m (.ps l))
def WU:Nat->Bool:=fun b=>Ym b 7
def WV(l:List Ex)(b:List (List D))(c:Nat):Prop:=hh l b/\b.length<=c
def WW(tok:List D)(c:D)(b:List (List D)):VS:=[.box [.bp 0 0],.box jz,.box (tok.map V.d),.box (jx 14 [] c (.d .cC) (kV 5 8 b)),kO 8 b]
theorem JV(b:List (List D)):b.length+1<b.length+1+1:=Nat.lt_succ_self _
theorem Bf(b:List D)(c:List (List D)):nth (Yy (c.length+1) (Yz 0 (Yt (fun f=>Yt V.d f) (b::c)))++[jz]) (0+(c.length+1))=some jz:=by
 rw[cz,List.getElem?_append_right sm];simp
theorem Pv(c:List D)(f:List (List D))(b:List D):(Yy (f.length+1) (Yz 0 (Yt (fun b=>Yt V.d b) (c::f)))++[jz]).set (0+(f.length+1)) (b.map V.d)=Yt (fun b=>Yt V.d b) (c::(f++[b])):=by
 rw[YF,Yv sm,List.set_append_right _ _ sm];simp
theorem HB(tok:List D):some (cU.box (tok.map V.d))=some (eC i (.box (tok.map V.d))):=by rw[eC,OP]
theorem Li{m:Nat}(tok:List D):gY m (.box (tok.map V.d))=true:=yx m tok
theorem TL(c:D)(f:List D)(b:List (List D))(g:List D)(h:i z=q):some (cU.box (jx 14 [] c (.d .cC) (.ms q 8 0 (b.length+1+1) (b.length+1+1))))=some (eC i (.box (jx 14 [] c (.d .cC) (kV z 8 ((f::b)++[g]))))):=by
 subst h;exact w7 Z (by rw[rO];exact p1 _ 8 f b g)
theorem Rp(c:List D)(b:List (List D))(f:List D):some (cU.row 8 ((Yy (b.length+1) (Yz 0 (Yt (fun f=>Yt V.d f) (c::b)))++[jz]).set (0+(b.length+1)) (f.map V.d)))=some (eC i (kO 8 ((c::b)++[f]))):=by
 rw[Pv,A2];rfl
theorem Rq(z:d.Wf){lo:Nat}(k:na dA a d lo)(tok:List D)(N:D)(l:List Ex)(M:List (List D))(t:Nat)(u:WV l M t)(p:lo<=t)(Q:t<d.ts.length)(U:cZ->VS->Prop) 
  (V:∀e Y f J,iT a l t=.ok e f->WV e Y f->t<f->f<d.ts.length->Be 5 (e8 d f::J) (e8 d f::WW tok N Y)->U (.ret (.dN [])) (e8 d f::J))
  (i:∀h w f J,iT a l t=.bad h w->5<=J.length+1->U (.fO (fC h w)) (e8 d f::J)):b3 C cn oX (uI [4,1]) (e8 d t::WW tok N M) U:=by
 have r:=z.len;obtain⟨X,W⟩:=u;refine b3.body WU (fun _=>Z) ?_;rcases M with _|⟨H,b⟩
 ·intro q;repeat refine b1 ?_
  refine k.call t p Q 0 _ _ ?_ (fun x y s c I=>?_) (fun h j s c=>?_)
  ·exact Z
  rotate_left
  ·exact i _ _ _ _ (by simp only[iT,c,PR.map]) (by show 5<=6;omega)
  obtain⟨g,O⟩:=k.lt _ _ _ p Q c;obtain⟨R,m,n,S,num,o,T,P,rfl⟩:=I.eight;have K:iT a l t=.ok (l++[x]) s:=by simp only[iT,c,PR.map]
  have L:=X.snoc I;repeat first
   |refine bZ rfl ?_
   |refine b4 ?_
   |refine b7 jz rfl ?_
  refine V _ _ _ _ K ⟨L,by show 1<=s;omega⟩ g O ⟨[0,1,2,3,4,6],rfl,dc,by show 5<=6;omega,rfl,rfl,rfl,rfl,rfl,rfl,HB tok,Li tok,rfl,w8 rfl rfl,vB _ 8 [.int .i64 (Yo R),.str m,.str n,.str S,.int .i64 num,o,T,P],pd _ _ _,tv⟩
 ·intro q;repeat refine b1 ?_
  refine k.call t p Q 0 _ _ ?_ (fun x y s c I=>?_) (fun h j s c=>?_)
  ·exact Z
  rotate_left
  ·exact i _ _ _ _ (by simp only[iT,c,PR.map]) (by show 5<=6;omega)
  obtain⟨g,O⟩:=k.lt _ _ _ p Q c;obtain⟨R,m,n,S,num,o,T,P,rfl⟩:=I.eight;have K:iT a l t=.ok (l++[x]) s:=by simp only[iT,c,PR.map]
  have L:=X.snoc I;have v:b.length+1<=t:=W;refine a7 ?_ ?_
  ·repeat' (first|exact tv|exact rfl|exact Yp _|exact(Cx om (Yp _) (Yr rfl)).1|exact(Cx om (Yp _) (Yr rfl)).2|(simp only[YD,Ys];omega)|refine bZ rfl ?_|refine YE ?_ ?_)
  refine a7 Z (a7 ⟨Z,Z,by simp,Yp _,Cx om (Yp _) (Yr rfl)⟩ ?_);refine a1 Z (a1 (dZ (b.length+1)) ?_);refine a7 ?_ ?_
  ·repeat' (first|exact tv|exact rfl|exact Yr rfl|refine bZ rfl ?_|refine b7 jz (Bf H b) ?_|refine a7 (JV b) ?_|refine YE ?_ ?_)
  refine bZ Z ?_;refine a7 (JV b) ?_;refine a7 ?_ ?_
  ·repeat' (first|exact tv|exact rfl|exact Yr rfl|refine bZ rfl ?_|refine b7 jz (Bf H b) ?_|refine a7 (JV b) ?_|refine YE ?_ ?_)
  refine b7 jz (Bf H b) ?_;refine V _ _ _ _ K ⟨L,by simp only[YJ,Ys,Yw];omega⟩ g O ⟨[0,1,2,3,4,6],rfl,dc,by show 5<=6;omega,rfl,rfl,rfl,rfl,rfl,rfl,HB tok,Li tok,TL N H b [.int .i64 (Yo R),.str m,.str n,.str S,.int .i64 num,o,T,P] rfl,w8 rfl (w9 8 _ rfl),Rp H b [.int .i64 (Yo R),.str m,.str n,.str S,.int .i64 num,o,T,P],pd _ _ _,tv⟩
abbrev SE(b:Nat)(c:List D):D:=.ps b 0 5 1 [c]
def WX:Nat->Bool:=fun b=>Ym b 49||Ym b 55||Ym b 56||Ym b 59||Ym b 67||Ym b 70||Ym b 85||Ym b 87||Ym b 90
theorem JW(M:d.Wf)(f:List UInt8){p:Nat}(D:fU e d p)(H:p<d.ts.length)(k:Nat){σ:VS}{K:cZ->VS->Prop}(h:nth σ k=some (e8 d p))(o:∀x m c,hF e d f p=.ok x c->hY x m->K (.ret (.agg (m.map V.d))) (σ.set k (e8 d c))) 
  (I:∀b g c,hF e d f p=.bad b g->K (.fO (fC b g)) (σ.set k (e8 d c))):b3 C cn s9 [.bp k 0,cE f] σ K:=by
 refine b3.one (eN:=[.bp 0 0,cE f]) (P:=MJ d (hF e d f p)) (Hz M f D H) k h Z Z Z (fun N J n=>?_);unfold MJ at n;split at n
 ·rename_i L c g;obtain⟨rfl,m,s,rfl⟩:=n;exact o L m c g s
 ·rename_i b t g;obtain⟨c,rfl,rfl⟩:=n;exact I b t c g
theorem zB{p k:Nat}(c:(d.tok p).kind≠k):decide (Yo (d.tok p).kind=Yo k)=false:=decide_eq_false fun b=>c (by simp only[Yn]at b;omega)
theorem xj{p k:Nat}(b:(d.tok p).kind=k):decide (Yo (d.tok p).kind=Yo k)=true:=by rw[b];exact decide_eq_true rfl
def xk(h:Nat->PR Ty)(b:Nat->PR Ex)(k:Rd)(p:Nat):PR Ex:=match h p with
 |.bad f g=>.bad f g
 |.ok m l=>match cv k [[124]] l with
  |.bad f g=>.bad f g
  |.ok _ c=>(dK (iT b) k [93] [] c).map fun n=>.mk 14 [] [] [] 0 [m] [] n
theorem Bg(R:d.Wf)(ac:d.Ng){p:Nat}(W:fU e d p)(O:na dA a d (p+1))(D:p<d.ts.length):
  b3 C cn kp [.bp 0 0] [e8 d p] (Ip d (fb e a d p)):=by
 have ap:=R.len;refine cy WX (fun _=>Z) ?_;refine mL d p _ (b8 D) 0 Z ?_;by_cases b:(d.tok p).kind=3
 ·refine a8 (xj b) ?_;refine Pq R ac 9223372036854775807 p D (.inl Z) 0 Z (fun x aw L H J=>?_) (fun K T L H=>?_)
  ·obtain⟨k,m,n,q,num,V,r,u,rfl⟩:=J.eight;refine a6 1 (ei (by rw[fb,if_pos b,H]) J)
  ·refine a6 1 (cS (by rw[fb,if_pos b,H]))
 refine a1 (zB b) ?_;by_cases f:(d.tok p).kind=4
 ·refine a8 (xj f) ?_;refine dR d p _ (b8 D) om 0 Z ?_;have i:eR (d.tok p) p=p+1:=by rw[eR,if_neg om]
  rw[i];refine a6 1 (ei (by rw[fb,if_neg b,if_pos f]) (.mk .nil .nil .nil))
 refine a1 (zB f) ?_;by_cases c:(d.tok p).kind=1
 ·refine a8 (xj c) ?_;have h:p+1<d.ts.length:=R.go p _ (b8 D) om;repeat refine b1 ?_
  refine dR d p _ (b8 D) om 0 Z ?_;have i:eR (d.tok p) p=p+1:=by rw[eR,if_neg om]
  rw[i];repeat refine b1 ?_
  refine JW R (d.tok p).text ⟨fun F an L am=>W.lt F an L om,fun F am=>W.call F om⟩ h 0 Z (fun x aw L H J=>?_) (fun K T L H=>?_)
  ·obtain⟨k,m,n,q,num,V,r,u,rfl⟩:=J.eight;repeat refine b1 ?_
   refine a6 1 (ei (by rw[fb,if_neg b,if_neg f,if_pos c,H]) J)
  ·refine a6 1 (cS (by rw[fb,if_neg b,if_neg f,if_pos c,H]))
 refine a1 (zB c) ?_;refine dq d p _ [116,114,117,101] (b8 D) om 0 Z (fun l=>?_) (fun l=>?_)
 ·refine a6 1 (ei (by simp only[fb,b,f,c,l,if_false,if_true]) (.mk .nil .nil .nil))
 refine dq d p _ [102,97,108,115,101] (b8 D) om 0 Z (fun o=>?_) (fun o=>?_)
 ·refine a6 1 (ei (by simp only[fb,b,f,c,l,o,if_false,if_true,Yl]) (.mk .nil .nil .nil))
 refine dq d p _ [123] (b8 D) om 0 Z (fun s=>?_) (fun s=>?_)
 ·have h:=R.step D s;refine b3.gone ?_;refine Bd R [125] 5 (kids:=[]) (l3:=[]) O h .nil (Yx _) 0 4 dc Z Z (fun aM d2 aa aD Q y aq=>?_) (fun K T aa aD Q aq=>?_)
  ·obtain⟨k,m,n,q,num,V,r,u,rfl⟩:=y.eight;refine a6 1 (ei (by simp only[fb,b,f,c,l,o,s,if_false,if_true,Yl,Q]) y)
  ·refine a6 1 (cS (by simp only[fb,b,f,c,l,o,s,if_false,if_true,Yl,Q]))
 refine dq d p _ [60] (b8 D) om 0 Z (fun t=>?_) (fun t=>?_)
 ·have h:=R.step D t;refine lp d (p+1) _ (b8 h) om 0 Z (fun X=>?_) (fun X=>?_)
  ·have ai:p+1+1<d.ts.length:=R.go (p+1) _ (b8 h) om;intro ag;refine kx R [58] ai ag _ 0 Z (fun g w=>?_) (fun g L=>?_)
   ·repeat refine b1 ?_
    refine O.call (p+1+1+1) om w 0 _ _ Z (fun x aw L H J=>?_) (fun K T L H=>?_)
    ·obtain⟨ak,S⟩:=O.lt _ _ _ om w H;obtain⟨k,m,n,q,num,V,r,u,rfl⟩:=J.eight;intro aF;repeat refine b4 ?_
     intro Y;repeat refine b4 ?_
     intro ao;refine kx R [62] S ao _ 0 Z (fun I ah=>?_) (fun I L=>?_)
     ·refine a6 1 (ei (by simp only[fb,dy,ep,cv,PR.map,b,f,c,l,o,s,t,X,g,I,if_false,if_true,ne_eq,not_true,Yl,H]) (.mk .nil .nil (.ps (.cons J .nil))))
     ·refine a6 1 (cS (by simp only[fb,dy,ep,cv,PR.map,b,f,c,l,o,s,t,X,g,I,if_false,if_true,ne_eq,not_true,Yl,H]))
    ·refine a6 1 (cS (by simp only[fb,dy,ep,cv,PR.map,b,f,c,l,o,s,t,X,g,if_false,if_true,ne_eq,not_true,Yl,H]))
   ·refine a6 1 (cS (by simp only[fb,dy,ep,cv,PR.map,b,f,c,l,o,s,t,X,g,if_false,if_true,ne_eq,not_true,Yl]))
  ·refine a6 1 (cS (by simp only[fb,dy,b,f,c,l,o,s,t,X,if_false,if_true,ne_eq,not_false_eq_true,Yl]))
 refine dq d p _ [91] (b8 D) om 0 Z (fun M=>?_) (fun M=>?_)
 ·have h:=R.step D M;have j:fb e a d p=xk e a d (p+1):=by
   simp only[fb,b,f,c,l,o,s,t,M,if_false,if_true,Yl];rfl
  rw[j];clear j;refine W.call (p+1) om h 0 _ _ Z (fun an az aj H N=>?_) (fun K T L H=>?_)
  ·obtain⟨aC,A⟩:=W.lt _ _ _ om h H;obtain⟨z,B,tn,E,G,rfl⟩:=N.eG;intro ag;intro Y;refine kx R [124] A Y _ 0 Z (fun g U=>?_) (fun g L=>?_)
   ·have j:xk e a d (p+1)=(dK (iT a) d [93] [] (aj+1)).map fun aJ=>.mk 14 [] [] [] 0 [an] [] aJ:=by
     simp only[xk,H,cv,g,if_true]
    rw[j];clear j;have ae:na dA a d (aj+1):=O.up om;refine Dl R [93] (iT a) WV (WW [.int .i64 (Yo (d.tok p).kind),.str (d.tok p).text,.int .i64 (Yo (d.tok p).off)] (SE ag [.int .i64 (Yo z),.str B,.str tn,E,G])) (g0:=[]) (a0:=[]) [.box [.bp 0 0],.box jz,.box [b6 (d.tok p).kind,cE (d.tok p).text,b6 (d.tok p).off],.box (jx 14 [] (SE ag [.int .i64 (Yo z),.str B,.str tn,E,G]) (.d .cC) (.d .cC))] 5 oX Z [4,1] U ⟨.nil,Yx _⟩ (fun av ad L am=>⟨am.1,Nat.le_succ_of_le am.2⟩) Z Z (fun ad=>by show 5<=6;omega) dc (fun av ad L g I ar ay c au=>Rq R ae _ _ av ad L g I ar ay c au) (fun av ad L v aB _ ak=>?_) (fun K T L aK v=>?_)
    ·obtain⟨al,aH⟩:=aB;rcases ad with _|⟨aE,ax⟩
     ·cases al;refine a6 1 (ei (by rw[v];rfl) (.mk (.ps (.cons N .nil) sm) .nil .nil))
     ·exact zA 4 (ax.length+1) Z Z al (.ps (.cons N .nil) sm) .nil (by rw[v];rfl)
    ·exact ug (by rw[v];rfl)
   ·refine a6 1 (cS (by simp only[xk,H,cv,g,if_false,Yl]))
  ·refine a6 1 (cS (by simp only[xk,H]))
 refine dq d p _ [40] (b8 D) om 0 Z (fun P=>?_) (fun P=>?_)
 ·have h:=R.step D P;refine O.call (p+1) om h 0 _ _ Z (fun x aw L H J=>?_) (fun K T L H=>?_)
  ·obtain⟨ak,S⟩:=O.lt _ _ _ om h H;obtain⟨k,m,n,q,num,V,r,u,rfl⟩:=J.eight;refine dq d L _ [58] (b8 S) om 0 Z (fun g=>?_) (fun g=>?_)
   ·have U:=R.step S g;intro aG;repeat refine b1 ?_
    refine W.call (L+1) om U 0 _ _ Z (fun an az aa Q N=>?_) (fun K T aa Q=>?_)
    ·obtain⟨ah,ab⟩:=W.lt _ _ _ om U Q;obtain⟨z,B,tn,E,G,rfl⟩:=N.eG;intro ag;repeat refine b1 ?_
     intro Y;refine kx R [41] ab Y _ 0 Z (fun I af=>?_) (fun I L=>?_)
     ·refine a6 1 (ei (by simp only[fb,cv,PR.map,b,f,c,l,o,s,t,M,P,g,I,if_false,if_true,Yl,H,Q]) (.mk (.ps (.cons N .nil) sm) .nil (.ps (.cons J .nil))))
     ·refine a6 1 (cS (by simp only[fb,cv,PR.map,b,f,c,l,o,s,t,M,P,g,I,if_false,if_true,Yl,H,Q]))
    ·refine a6 1 (cS (by simp only[fb,cv,PR.map,b,f,c,l,o,s,t,M,P,g,if_false,if_true,Yl,H,Q]))
   ·intro Y;refine kx R [41] S Y _ 0 Z (fun I af=>?_) (fun I L=>?_)
    ·refine a6 1 (ei (by simp only[fb,cv,PR.map,b,f,c,l,o,s,t,M,P,g,I,if_false,if_true,Yl,H]) J)
    ·refine a6 1 (cS (by simp only[fb,cv,PR.map,b,f,c,l,o,s,t,M,P,g,I,if_false,if_true,Yl,H]))
  ·refine a6 1 (cS (by simp only[fb,b,f,c,l,o,s,t,M,P,if_false,if_true,Yl,H]))
 refine iR _ (d.tok p).off 3 ?_;refine a6 1 (cS (by simp only[fb,b,f,c,l,o,s,t,M,P,if_false,Yl]))
end Go.Proofs.YthlkhjchcjflkaaGreatDoor
