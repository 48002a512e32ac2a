/- Part of the proof. -/
import Derived.Test.YtpejealjkmhkgaaGreatDoorKAy
set_option linter.all false
set_option maxHeartbeats 16000000
set_option maxRecDepth 100000
open Int renaming ofNat_eq_natCast->YL,ofNat->YN
open List renaming getElem?_eq_getElem->YM,isPrefixOf->YO,drop_eq_getElem_cons->YP,drop_of_length_le->YQ,cons_append->YS,take_of_length_le->YV,take_add_one->YX,eq_nil_of_length_eq_zero->YY,nil_append->Y0
open Bool renaming false_and->YR,true_and->YT,false_eq_true->YW,and_false->Y1,and_true->Y3,true_or->Y4
open Nat renaming not_le_of_lt->YU,le_refl->YZ
open Option renaming toList->Y2
namespace Go.Proofs.YtpejealjkmhkgaaGreatDoor
open Go.AM Go.VM
variable{f:dC->VS->Prop} {g:VS}
theorem lk(c:UInt8)(b:f (.ret (ct (e4 c))) g):b1 C b7 sp [gq c] g f:=by
 refine b9 ?_;apply aZ<;>intro a
 ·exact a8 a (a8 a (db (by simp only[e4,a,YT]) b))
 ·exact a6 a (a6 a (db (by simp only[e4,a,YR]) b))
theorem ll(c:UInt8)(b:f (.ret (ct (dY c))) g):b1 C b7 qG [gq c] g f:=by
 refine b9 ?_;apply aZ<;>intro a
 ·exact a8 a (a8 a (db (by simp only[dY,a,YT]) b))
 ·exact a6 a (a6 a (db (by simp only[dY,a,YR]) b))
theorem hD(c:UInt8)(b:f (.ret (ct (isDigit c))) g):b1 C b7 so [gq c] g f:=by
 refine b9 ?_;apply aZ<;>intro a
 ·exact a8 a (a8 a (db (by simp only[isDigit,a,YT]) b))
 ·exact a6 a (a6 a (db (by simp only[isDigit,a,YR]) b))
theorem pj(c:UInt8)(e:f (.ret (ct (isWord c))) g):b1 C b7 tT [gq c] g f:=by
 refine b9 ?_;refine lk c ?_;apply aZ<;>intro b
 ·exact a8 b (a8 b (db (by simp only[isWord,b,Y4]) e))
 ·refine a6 b (ll c ?_);refine a6 b ?_;apply aZ<;>intro a
  ·exact a8 a (a8 a (db (by simp only[isWord,a,Y4,Bool.or_true]) e))
  ·refine a6 a (hD c ?_);refine a6 a ?_;apply aZ<;>intro d
   ·exact a8 d (a8 d (db (by simp only[isWord,d,Y4,Bool.or_true]) e))
   ·exact a6 d (a6 d (db (by simp only[isWord,b,a,d,Bool.false_or]) e))
def za(c:UInt8):Int:=match j1 c with
 |some a=>YN a
 |none=> -1
theorem q7(c:UInt8)(d:f (.ret (.d (.int .i64 (za c)))) g):b1 C b7 u4 [gq c] g f:=by
 refine b9 ?_;refine hD c ?_;apply aZ<;>intro h
 ·refine ki ?_ d;have m:=wy h;simp only[za,j1,h,if_pos];rw[CP (by simp only[YL];omega) (by simp only[YL];omega),wrap64 (by simp only[YL];omega) (by simp only[YL];omega)];simp only[YL];omega
 ·apply aZ<;>intro e
  ·have b:97<=c.toNat:=CL (a:=97) e;repeat refine a8 e ?_
   apply aZ<;>intro l
   ·have a:c.toNat<=102:=CL (b:=102) l;refine ki ?_ d;simp only[za,j1,h,decide_eq_true b,decide_eq_true a,Bool.and_self,if_pos];rw[CP (n:=YN c.toNat-97) (by simp only[YL];omega) (by simp only[YL];omega)];rw[wrap64 (n:=YN c.toNat-97) (by simp only[YL];omega) (by simp only[YL];omega)];rw[wrap64 (by simp only[YL];omega) (by simp only[YL];omega)];simp only[YL,YW,if_false];omega
   ·have a:¬c.toNat<=102:=YU (wc (b:=102) l);refine ki ?_ d;simp only[za,j1,h,decide_eq_false a,Y1,YW,if_false]
  ·have b:¬97<=c.toNat:=YU (wc (a:=97) e);repeat refine a6 e ?_
   refine ki ?_ d;simp only[za,j1,h,decide_eq_false b,YR,YW,if_false]
theorem w9(a:List UInt8)(m:a.length<4294967296)(h:f (.ret (ct (a.all isWord))) g):b1 C b7 su [cq a] g f:=by
 refine b9 ?_;refine cl.less (eW:=[(3,b3 0),(0,cq a)]) ⟨Z,Z,tv⟩ ?_;refine cl.iter (fun b:Nat=>[(3,b3 b),(0,cq a)]) (fun _=>g) (fun b=>a.length-b) (fun b=>b<=a.length/\(a.take b).all isWord=true) ?_ 0 ⟨om,by simp⟩;rintro b ⟨n,d⟩;apply aZ<;>intro e
 ·have e:b<a.length:=fF e;have c:a[b]?=some a[b]:=YM e;refine b0 Z (b4 a[b] (by rw[cv];exact c) ?_);refine pj a[b] ?_;apply aZ<;>intro l
  ·refine db ?_ h
   symm
   rw[List.all_eq_false];exact⟨a[b],List.getElem_mem e,by simpa using l⟩
  ·refine⟨b+1,⟨om,?_⟩,om,.same ⟨int_eq (cp om),Z,tv⟩ Z,Z,Z⟩;rw[YX,c];simp only[List.all_append,d,Y2,List.all_cons,List.all_nil,Y3,YT];simpa using l
 ·have e:a.length<=b:=dR e;refine db ?_ h;rw[YV om]at d;exact d.symm
def US:List (List UInt8):=[[97,110,100],[97,110,121],[97,115],[98,111,111,108],[100,101,112,114,101,99,97,116,101,100],[101,108,115,101],[101,120,112,111,114,116],[102,97,108,115,101],[102,110],[102,111,108,100],[102,114,111,109],[105,102],[105,109,112,111,114,116],[105,110],[105,110,116],[108,101,110,103,116,104],[108,101,116],[108,105,115,116],[109,97,116,99,104],[109,111,100,117,108,101],[110,111,110,101],[110,111,116],[111,114],[116,101,120,116],[116,104,101,110],[116,114,117,101],[116,121,112,101],[117,115,101]]
def rC(l:List (List UInt8)):List (List D):=l.map fun a=>[.str a]
def XP:Nat->Bool:=fun a=>Nat.beq a 1
theorem mH(a:∀b,f (.ret (.d (.ps b 0 1 28 (rC US)))) g):b1 C b7 p2 [] g f:=by
 refine b1.body XP (fun _=>Z) ?_;intro b;exact a b
theorem vn(l:List (List UInt8))(q:l.length<4294967296)(o:List UInt8)(b d:Nat)(e:f (.ret (ct (decide (o∈l)))) g):b1 C b7 u3 [.d (.ps b 0 1 d (rC l)),cq o] g f:=by
 refine b9 ?_;have m:(rC l).length=l.length:=by simp[rC]
 refine cl.less (eW:=[(5,b3 0),(0,.d (.ps b 0 1 d (rC l))),(1,cq o)]) ⟨Z,Z,Z,tv⟩ ?_;refine cl.iter (fun a:Nat=>[(5,b3 a),(0,.d (.ps b 0 1 d (rC l))),(1,cq o)]) (fun _=>g) (fun a=>l.length-a) (fun a=>a<=l.length/\o ∉ l.take a) ?_ 0 ⟨om,by simp⟩;rintro a ⟨s,n⟩;apply aZ<;>intro p
 ·have p:a<l.length:=m▸fF p;have h:l[a]?=some l[a]:=YM p;refine b0 Z (b4 [.str l[a]] (by rw[cv,rC,List.getElem?_map,h];rfl) ?_);apply aZ<;>intro c
  ·have c:l[a]=o:=of_decide_eq_true c;rw[decide_eq_true (c▸List.getElem_mem p)]at e;exact e
  ·have c:l[a]≠o:=of_decide_eq_false c;refine⟨a+1,⟨om,?_⟩,om,.same ⟨int_eq (cp om),Z,Z,tv⟩ Z,Z,Z⟩;rw[YX,h];simp only[Y2,List.mem_append,List.mem_singleton,not_or];exact⟨n,fun r=>c r.symm⟩
 ·have p:l.length<=a:=m▸dR p;rw[YV p]at n;rw[decide_eq_false n]at e;exact e
def UT:List (List UInt8)->List UInt8
 |[]=>[32]
 |w::a=>32::(w++UT a)
theorem xX(a b:List UInt8):rh a b=a.isPrefixOf b:=by
 induction a generalizing b with
 |nil=>cases b<;>rfl
 |cons d a e=>
  cases b with
  |nil=>rfl
  |cons c b=>
   simp only[rh,YO,e];rw[show(d==c)=Nat.beq d.toNat c.toNat from by rw[Bool.eq_iff_iff];simp only[beq_iff_eq,Nat.beq_eq];exact UInt8.toNat_inj.symm];cases Nat.beq d.toNat c.toNat<;>rfl
theorem P4{s a b:List UInt8}(e:32 ∉ s)(d:32 ∉ a):(s++[32]).isPrefixOf (a++32::b)=decide (s=a):=by
 induction s generalizing a with
 |nil=>
  cases a with
  |nil=>simp[YO]
  |cons h a=>
   simp only[Y0,YS,YO,Y3];have:h≠32:=fun c=>d (by simp[c]);simp[this.symm]
 |cons n s l=>
  cases a with
  |nil=>
   simp only[YS,Y0,YO];have:n≠32:=fun c=>e (by simp[c]);simp[this]
  |cons h a=>
   simp only[YS,YO];rw[l (fun m=>e (by simp[m])) (fun m=>d (by simp[m]))];by_cases c:n=h
   ·subst c;simp
   ·simp[c]
theorem P5{p c a:List UInt8}(b:32 ∉ c)(e:∃d,p=32::d):jX p (c++a)=jX p a:=by
 induction c with
 |nil=>rfl
 |cons n c h=>
  obtain⟨d,rfl⟩:=e;have l:n≠32:=fun q=>b (by simp[q]);have m:rh (32::d) (n::(c++a))=false:=by
   rw[xX,YO];simp[l.symm]
  simp only[YS,jX,m];exact h (fun o=>b (by simp[o]))
theorem P6(a:List (List UInt8)):∃b,UT a=32::b:=by
 cases a with
 |nil=>exact⟨_,rfl⟩
 |cons c a=>exact⟨_,rfl⟩
theorem Na(s:List UInt8)(n:32 ∉ s):∀a:List (List UInt8),(∀b∈a,32 ∉ b)->jX (32::(s++[32])) (UT a)=decide (s∈a):=by
 intro a;induction a with
 |nil=>
  intro _;have m:rh (32::(s++[32])) [32]=false:=by
   rw[xX];cases s<;>simp[YO]
  simp only[UT,jX,m];simp
 |cons b a d=>
  intro c;obtain⟨p,l⟩:=P6 a;have e:rh (32::(s++[32])) (32::(b++UT a))=decide (s=b):=by
   rw[xX,YO,l,P4 n (c b sm)];simp
  have d:=d (fun b o=>c b (by simp[o]));simp only[UT,jX,e];by_cases h:s=b
  ·simp[h]
  ·simp only[decide_eq_false h];rw[P5 (c b sm) ⟨_,rfl⟩,d];simp[h]
variable{i:List UInt8}
theorem Bh(b:i.all isWord=true):O9 i=decide (i∈US):=by
 have a:32 ∉ i:=fun c=>by
  have:=List.all_eq_true.1 b 32 c;revert this;decide
 have d:zs=UT US:=rfl;unfold O9;rw[d];exact Na i a US dc
theorem uC(s:List UInt8)(q:s.length<4294967296)(d:f (.ret (ct (cM s))) g):b1 C b7 rH [cq s] g f:=by
 refine b9 ?_;apply aZ<;>intro l
 ·repeat refine a8 l ?_
  cases s with
  |nil=>simp at l
  |cons h m=>
   apply aZ<;>intro c
   ·have e:(h::m).length<=32:=CL c;refine a8 c (b0 Z (b4 h Z ?_));refine a8 c (lk h ?_);refine a8 c ?_;apply aZ<;>intro b
    ·refine a8 b (w9 (h::m) om ?_);refine a8 b ?_;apply aZ<;>intro a
     ·have o:(h::m).all isWord=true:=a;refine mH (fun p=>?_);repeat refine a8 a ?_
      refine vn US dc (h::m) p 28 ?_;rw[<-Bh o];repeat refine a8 a ?_
      refine db ?_ d;have a:(h::m).all isWord=true:=a;simp only[cM,decide_eq_true e,b,a,List.head?_cons,Option.any_some];simp
     ·repeat refine a6 a ?_
      refine db ?_ d;have a:(h::m).all isWord=false:=a;simp[cM,a]
    ·repeat refine a6 b ?_
     refine db ?_ d;have b:e4 h=false:=b;simp[cM,b]
   ·repeat refine a6 c ?_
    refine db ?_ d;have e:¬(h::m).length<=32:=YU (wc c);simp only[cM,decide_eq_false e,Y1,YR]
 ·repeat refine a6 l ?_
  refine db ?_ d;have n:s=[]:=YY (by have:=wc (a:=1) l;omega);subst n;rfl
theorem uD(s:List UInt8)(n:s.length<4294967296)(d:f (.ret (ct (dB s))) g):b1 C b7 rI [cq s] g f:=by
 refine b9 ?_;apply aZ<;>intro e
 ·repeat refine a8 e ?_
  cases s with
  |nil=>simp at e
  |cons h m=>
   apply aZ<;>intro b
   ·have c:(h::m).length<=32:=CL b;refine a8 b (b0 Z (b4 h Z ?_));refine a8 b (ll h ?_);refine a8 b ?_;apply aZ<;>intro a
    ·refine a8 a (w9 (h::m) om ?_);refine a8 a ?_;refine db ?_ d;simp only[dB,decide_eq_true c,a,List.head?_cons,Option.any_some];simp
    ·repeat refine a6 a ?_
     refine db ?_ d;have a:dY h=false:=a;simp[dB,a]
   ·repeat refine a6 b ?_
    refine db ?_ d;have c:¬(h::m).length<=32:=YU (wc b);simp only[dB,decide_eq_false c,Y1,YR]
 ·repeat refine a6 e ?_
  refine db ?_ d;have l:s=[]:=YY (by have:=wc (a:=1) e;omega);subst l;rfl
variable{j:Nat}
theorem tJ{p:UInt8->Bool}(m:j<=i.length)(a:(i.take j).all p=true)(d:∀(h:j<i.length),p i[j]=false):dp p i=j:=by
 unfold dp;have l:i=i.take j++i.drop j:=(List.take_append_drop j i).symm;have c:i.takeWhile p=i.take j:=by
  conv=>lhs;rw[l]
  rw[List.takeWhile_append_of_pos (fun e b=>List.all_eq_true.1 a e b)];have:(i.drop j).takeWhile p=[]:=by
   rcases Nat.lt_or_ge j i.length with h|h
   ·rw[YP h,List.takeWhile_cons,d h];rfl
   ·rw[YQ h];rfl
  rw[this,List.append_nil]
 rw[c,List.length_take];omega
theorem Bi{p:UInt8->Bool}(c:j<i.length)(a:(i.take j).all p=true)(b:p i[j]=true):(i.take (j+1)).all p=true:=by
 rw[YX,YM c];simp only[List.all_append,a,Y2,List.all_cons,List.all_nil,Y3,YT,b]
theorem Co(b:List UInt8)(o:b.length<4294967296)(h:f (.ret (b3 (dp isDigit b))) g):b1 C b7 mN [cq b,ct true] g f:=by
 refine b9 ?_;refine cl.less (eW:=[(5,b3 0),(0,cq b),(1,ct true)]) ⟨Z,Z,Z,tv⟩ ?_;refine cl.iter (fun c:Nat=>[(5,b3 c),(0,cq b),(1,ct true)]) (fun _=>g) (fun c=>b.length-c) (fun c=>c<=b.length/\(b.take c).all isDigit=true) ?_ 0 ⟨om,by simp⟩;rintro c ⟨l,e⟩;apply aZ<;>intro a
 ·have m:c<b.length:=fF a;repeat refine a8 a ?_
  refine b0 Z (b4 b[c] (by rw[cv];exact YM m) ?_);repeat refine a8 a ?_
  refine hD b[c] ?_;repeat refine a8 a ?_
  apply aZ<;>intro d
  ·repeat first|refine a8 d ?_|refine a8 a ?_
   exact⟨c+1,⟨om,Bi m e d⟩,om,.same ⟨int_eq (cp om),Z,Z,tv⟩ Z,Z,Z⟩
  ·repeat first|refine a6 d ?_|refine a8 a ?_
   refine ki ?_ h;rw[tJ l e (fun _=>d)]
 ·have m:b.length<=c:=dR a;repeat refine a6 a ?_
  refine ki ?_ h;rw[tJ l e (fun n=>om)]
theorem JS{c:UInt8}(a:isDigit c=true):isWord c=true:=by simp[isWord,a]
theorem xa(d:List UInt8)(p:d.length<4294967296)(l:f (.ret (b3 (dp isWord d))) g):b1 C b7 mN [cq d,ct false] g f:=by
 refine b9 ?_;refine cl.less (eW:=[(5,b3 0),(0,cq d),(1,ct false)]) ⟨Z,Z,Z,tv⟩ ?_;refine cl.iter (fun c:Nat=>[(5,b3 c),(0,cq d),(1,ct false)]) (fun _=>g) (fun c=>d.length-c) (fun c=>c<=d.length/\(d.take c).all isWord=true) ?_ 0 ⟨om,by simp⟩;rintro c ⟨n,e⟩;apply aZ<;>intro a
 ·have m:c<d.length:=fF a;repeat refine a8 a ?_
  refine b0 Z (b4 d[c] (by rw[cv];exact YM m) ?_);repeat refine a8 a ?_
  refine hD d[c] ?_;repeat refine a8 a ?_
  apply aZ<;>intro b
  ·repeat first|refine a8 b ?_|refine a8 a ?_
   exact⟨c+1,⟨om,Bi m e (JS b)⟩,om,.same ⟨int_eq (cp om),Z,Z,tv⟩ Z,Z,Z⟩
  ·repeat first|refine a6 b ?_|refine a8 a ?_
   refine b0 Z (b4 d[c] (by rw[cv];exact YM m) ?_);repeat first|refine a6 b ?_|refine a8 a ?_
   refine pj d[c] ?_;repeat first|refine a6 b ?_|refine a8 a ?_
   apply aZ<;>intro h
   ·repeat first|refine a6 b ?_|refine a8 a ?_|refine a8 h ?_
    exact⟨c+1,⟨om,Bi m e h⟩,om,.same ⟨int_eq (cp om),Z,Z,tv⟩ Z,Z,Z⟩
   ·repeat first|refine a6 b ?_|refine a8 a ?_|refine a6 h ?_
    refine ki ?_ l;rw[tJ n e (fun _=>h)]
 ·have m:d.length<=c:=dR a;repeat refine a6 a ?_
  refine ki ?_ l;rw[tJ n e (fun o=>om)]
theorem bT{c d:UInt8}(a:decide (YN c.toNat=YN d.toNat)=true):c=d:=UInt8.toNat_inj.1 (CM a)
theorem bF{c d:UInt8}(b:decide (YN c.toNat=YN d.toNat)=false):c≠d:=fun a=>Er b (by rw[a])
theorem Vt{c d:UInt8}(a:(!decide (YN c.toNat=YN d.toNat))=true):c≠d:=bF (by simpa using a)
theorem Vu{c d:UInt8}(a:(!decide (YN c.toNat=YN d.toNat))=false):c=d:=bT (by simpa using a)
theorem Nb{a b:Nat}(c:a+b<9223372036854775806):IntKind.i64.wrap (IntKind.i64.wrap (YN a+YN b)+1)=YN (a+b+1):=by
 rw[dg om,cp om]
theorem Su(t:List UInt8):cZ false (47::47::t)=1+cZ true (47::t):=rfl
def XQ(c:List UInt8)(a:Nat)(b:Bool×Nat):Tm:=[(0,cq c),(1,b3 a),(5,ct b.1),(6,b3 b.2)]
variable{k:V}
theorem tK{b n:Nat}{c:Bool}{a:Tm}(o:n<4294967296)(l:fb a 5=some k)(e:k=ct c)(m:fb a 0=some (cq i))(h:fb a 1=some (b3 b))(d:fb a 6=some (.d (.int .i64 (IntKind.i64.wrap (YN n+1))))):nU (XQ i b (c,n+1)) a:=
 ⟨m,h,by rw[l,e],by rw[d,cp om];rfl,tv⟩
theorem yH(s:List UInt8)(a:Nat)(K:a<=s.length)(R:s.length<4294967296)(B:f (.ret (b3 (cZ false (s.drop a)))) g):b1 C b7 mL [cq s,b3 a] g f:=by
 refine b9 ?_;refine cl.less (eW:=XQ s a (false,0)) ⟨Z,Z,Z,Z,tv⟩ ?_;refine cl.iter (XQ s a) (fun _=>g) (fun F=>s.length-F.2) (fun F=>a+F.2<=s.length/\cZ false (s.drop a)=F.2+cZ F.1 (s.drop (a+F.2))) ?_ (false,0) ⟨K,by simp⟩;rintro⟨H,b⟩ ⟨J,c⟩;have J:a+b<=s.length:=J;have c:cZ false (s.drop a)=b+cZ H (s.drop (a+b)):=c;apply aZ<;>intro D
 ·rw[dg om]at D;have h:a+b<s.length:=fF D;have l:s.drop (a+b)=s[a+b]::s.drop (a+b+1):=YP h;have M:=dg (a:=a) (b:=b) om;refine b0 M (b4 s[a+b] (by rw[cv];exact YM h) ?_);generalize s[a+b]=G at l;cases H with
  |true=>
   refine⟨(decide (G≠10),b+1),⟨by show a+(b+1)<=s.length;omega,?_⟩,by show s.length-(b+1)<s.length-b;omega,.same (tK om rfl ?_ rfl rfl rfl) rfl,rfl,rfl⟩
   ·show cZ false (s.drop a)=b+1+cZ (decide (G≠10)) (s.drop (a+b+1));rw[c,l,cZ];omega
   ·show ct (!decide (YN G.toNat=10))=ct (decide (G≠10));congr 1;by_cases N:G=10
    ·subst N;rfl
    ·rw[decide_eq_true N,Bool.not_eq_true',decide_eq_false_iff_not];intro L;exact N (bT (d:=10) (decide_eq_true L))
  |false=>
   have y:=Nb (a:=a) (b:=b) om;apply aZ<;>intro e
   ·have d:=bT (d:=47) e;subst d;repeat refine a8 e ?_
    apply aZ<;>intro p
    ·have q:=p;rw[y]at q;have A:a+b+1<s.length:=fF q;have v:s.drop (a+b+1)=s[a+b+1]::s.drop (a+b+1+1):=YP A;repeat first|refine a8 p ?_|refine a8 e ?_
     refine b0 y (b4 s[a+b+1] (by rw[cv];exact YM A) ?_);generalize s[a+b+1]=P at v;repeat first|refine a8 p ?_|refine a8 e ?_
     apply aZ<;>intro o
     ·have d:=bT (d:=47) o;subst d;repeat first|refine a8 o ?_
      refine⟨(true,b+1),⟨by show a+(b+1)<=s.length;omega,?_⟩,by show s.length-(b+1)<s.length-b;omega,.same (tK om rfl rfl rfl rfl rfl) rfl,rfl,rfl⟩;show cZ false (s.drop a)=b+1+cZ true (s.drop (a+b+1));rw[c,l,v,Su];omega
     ·have d:=bF (d:=47) o;repeat first|refine a6 o ?_
      refine ki ?_ B;rw[c,l,v,cZ,if_neg (by rintro⟨_,h⟩;simp at h;exact d h),if_neg dc];rfl
    ·have q:=p;rw[y]at q;have A:s.length<=a+b+1:=dR q;repeat first|refine a6 p ?_|refine a8 e ?_
     refine ki ?_ B;rw[c,l,YQ A,cZ,if_neg (by rintro⟨_,h⟩;simp at h),if_neg dc];rfl
   ·have d:=bF (d:=47) e;repeat refine a6 e ?_
    have I:¬(G=47/\(s.drop (a+b+1)).head? =some 47):=fun h=>d h.1;apply aZ<;>intro n
    ·have z:=Vt (d:=32) n;repeat refine a8 n ?_
     apply aZ<;>intro t
     ·have E:=Vt (d:=9) t;repeat first|refine a8 n ?_|refine a8 t ?_
      apply aZ<;>intro m
      ·have x:=Vt (d:=10) m;repeat first|refine a8 t ?_|refine a8 m ?_
       apply aZ<;>intro r
       ·have w:=Vt (d:=13) r;repeat first|refine a8 r ?_|refine a8 m ?_
        refine ki ?_ B;rw[c,l,cZ,if_neg I,if_neg (by rintro(h|h|h|h);exact z h;exact E h;exact x h;exact w h)];rfl
       ·have w:=Vu (d:=13) r;repeat first|refine a6 r ?_|refine a8 m ?_
        exact⟨(false,b+1),⟨by show a+(b+1)<=s.length;omega,by show _=b+1+cZ false (s.drop (a+b+1));rw[c,l,kF (.inr (.inr (.inr w)))];omega⟩,by show s.length-(b+1)<s.length-b;omega,.same (tK om rfl rfl rfl rfl rfl) rfl,rfl,rfl⟩
      ·have x:=Vu (d:=10) m;repeat first|refine a6 m ?_|refine a8 t ?_
       exact⟨(false,b+1),⟨by show a+(b+1)<=s.length;omega,by show _=b+1+cZ false (s.drop (a+b+1));rw[c,l,kF (.inr (.inr (.inl x)))];omega⟩,by show s.length-(b+1)<s.length-b;omega,.same (tK om rfl rfl rfl rfl rfl) rfl,rfl,rfl⟩
     ·have E:=Vu (d:=9) t;repeat first|refine a6 t ?_|refine a8 n ?_
      exact⟨(false,b+1),⟨by show a+(b+1)<=s.length;omega,by show _=b+1+cZ false (s.drop (a+b+1));rw[c,l,kF (.inr (.inl E))];omega⟩,by show s.length-(b+1)<s.length-b;omega,.same (tK om rfl rfl rfl rfl rfl) rfl,rfl,rfl⟩
    ·have z:=Vu (d:=32) n;repeat refine a6 n ?_
     exact⟨(false,b+1),⟨by show a+(b+1)<=s.length;omega,by show _=b+1+cZ false (s.drop (a+b+1));rw[c,l,kF (.inl z)];omega⟩,by show s.length-(b+1)<s.length-b;omega,.same (tK om rfl rfl rfl rfl rfl) rfl,rfl,rfl⟩
 ·rw[dg om]at D;have h:s.length<=a+b:=dR D;refine ki ?_ B;rw[c,YQ h];simp[cZ]
def Nc:List UInt8->UInt8×Nat
 |h::b::_=>match j1 h,j1 b with
  |some a,some c=>(UInt8.ofNat (16*a+c),4)
  |_,_=>(0,0)
 |_=>(0,0)
def P7:List UInt8->UInt8×Nat
 |[]=>(0,0)
 |e::a=>if e=34∨e=92 then(e,2)else if e=110 then(10,2)else if e=120 then Nc a else(0,0)
def zb:List UInt8->UInt8×Nat
 |[]=>(0,0)
 |c::a=>if c<32∨c=34 then(0,0)else if c≠92 then(c,1)else P7 a
def XR(a:UInt8×Nat):V:=.dV [gq a.1,b3 a.2]
theorem P8:∀o:List UInt8,dD o=match o with
  |[]=>none
  |c::_=>if c=34 then some ([],1)else match zb o with
   |(_,0)=>none
   |(u,t+1)=>(dD (o.drop (t+1))).map fun s=>(u::s.1,s.2+(t+1)):=by
 intro o;cases o with
 |nil=>rw[dD.eq_def]
 |cons c w=>
  by_cases a:c=34
  ·subst a;rw[qM];rfl
  ·dsimp only;rw[if_neg a];by_cases d:c<32
   ·rw[AH a d,zb,if_pos (.inl d)]
   ·have n:¬(c<32∨c=34):=by rintro(h|h);exact d h;exact a h
    by_cases b:c≠92
    ·rw[u6 a d b,zb,if_neg n,if_pos b];rfl
    ·have b:c=92:=by simpa using b
     subst b;rw[mh,zb,if_neg n,if_neg sm];cases w with
     |nil=>rfl
     |cons p q=>
      rw[P7];dsimp only;by_cases l:p=34∨p=92
      ·rw[if_pos l,if_pos l];rfl
      ·rw[if_neg l,if_neg l];by_cases e:p=110
       ·rw[if_pos e,if_pos e];rfl
       ·rw[if_neg e,if_neg e];by_cases m:p=120
        ·rw[if_pos m,if_pos m];cases q with
         |nil=>rfl
         |cons h r=>
          cases r with
          |nil=>rfl
          |cons o v=>
           rw[Nc];dsimp only;cases j1 h with
           |none=>rfl
           |some x=>
            cases j1 o with
            |none=>rfl
            |some u=>rfl
        ·rw[if_neg m,if_neg m]
theorem Hk{c:UInt8}(b:decide (0<=za c)=true):∃a,j1 c=some a/\za c=YN a:=by
 unfold za at b⊢;cases d:j1 c with
 |some a=>exact⟨a,rfl,rfl⟩
 |none=>rw[d]at b;exact absurd b dc
theorem Hl{c:UInt8}(a:decide (0<=za c)=false):j1 c=none:=by
 unfold za at a;cases b:j1 c with
 |some d=>rw[b]at a;exact absurd (by simp:decide ((0:Int)<=YN d)=true) (by rw[a];decide)
 |none=>rfl
theorem Wa{c:UInt8}{b:Bool}(a:decide (YN c.toNat<32)=b):decide (c<32)=b:=by
 rw[<-a];exact decide_eq_decide.2 ⟨fun a=>by have:c.toNat<32:=a;simp only[YL];omega,fun a=>by show c.toNat<32;simp only[YL]at a;omega⟩
theorem P9{a b:Nat}(d:a<16)(c:b<16):IntKind.u8.wrap (IntKind.i64.wrap (IntKind.i64.wrap (16*YN a)+YN b))=YN (UInt8.ofNat (16*a+b)).toNat:=by
 simp only[YL];rw[wrap64 (n:=16*(a:Int)) om om,wrap64 om om,CP om om];rw[UInt8.toNat_ofNat',Nat.mod_eq_of_lt om];omega
theorem zB{b:V}(a:f (.ret b) g)(c:k=b):f (.ret k) g:=c▸a
theorem xY(s:List UInt8)(K:s.length<4294967296)(a:f (.ret (XR (zb s))) g):b1 C b7 px [cq s] g f:=by
 refine b9 ?_;cases s with
 |nil=>exact a
 |cons x J=>
  have A:decide ((x::J)=([]:List UInt8))=false:=by simp
  repeat refine a6 A ?_
  refine b0 Z (b4 x Z ?_);repeat refine a6 A ?_
  apply aZ<;>intro n
  ·have v:x<32:=of_decide_eq_true (Wa n);repeat refine a8 n ?_
   refine zB a ?_;rw[zb,if_pos (.inl v)];rfl
  ·have v:¬x<32:=of_decide_eq_false (Wa n);repeat refine a6 n ?_
   refine b0 Z (b4 x Z ?_);repeat refine a6 n ?_
   apply aZ<;>intro b
   ·have e:=bT (d:=34) b;repeat refine a8 b ?_
    refine zB a ?_;rw[zb,if_pos (.inr e)];rfl
   ·have e:=bF (d:=34) b;have z:¬(x<32∨x=34):=by rintro(h|h);exact v h;exact e h
    repeat refine a6 b ?_
    refine b0 Z (b4 x Z ?_);apply aZ<;>intro d
    ·have m:=Vt (d:=92) d;refine b0 Z (b4 x Z ?_);refine zB a ?_;rw[zb,if_neg z,if_pos m];rfl
    ·have m:=Vu (d:=92) d;rw[zb,if_neg z,if_neg (by simpa using m)]at a;cases J with
     |nil=>exact a
     |cons B I=>
      refine b0 Z (b4 B Z ?_);rw[P7]at a;apply aZ<;>intro b
      ·have e:=bT (d:=34) b;repeat refine a8 b ?_
       refine b0 Z (b4 B Z ?_);rw[if_pos (.inl e)]at a;exact a
      ·have e:=bF (d:=34) b;repeat refine a6 b ?_
       refine b0 Z (b4 B Z ?_);repeat refine a6 b ?_
       apply aZ<;>intro d
       ·have m:=bT (d:=92) d;repeat refine a8 d ?_
        refine b0 Z (b4 B Z ?_);rw[if_pos (.inr m)]at a;exact a
       ·have m:=bF (d:=92) d;repeat refine a6 d ?_
        refine b0 Z (b4 B Z ?_);rw[if_neg (by rintro(h|h);exact e h;exact m h)]at a;apply aZ<;>intro u
        ·have p:=bT (d:=110) u;rw[if_pos p]at a;exact a
        ·have p:=bF (d:=110) u;rw[if_neg p]at a;refine b0 Z (b4 B Z ?_);apply aZ<;>intro l
         ·have q:=bT (d:=120) l;rw[if_pos q]at a;repeat refine a8 l ?_
          cases I with
          |nil=>exact a
          |cons h G=>
           cases G with
           |nil=>exact a
           |cons D H=>
            have c:decide (4<=YN (x::B::h::D::H).length)=true:=decide_eq_true (by simp only[List.length_cons,YL];omega);rw[Nc]at a;repeat first|refine a8 c ?_|refine a8 l ?_
            refine b0 Z (b4 h Z ?_);repeat refine a8 c ?_
            refine q7 h ?_;repeat refine a8 c ?_
            apply aZ<;>intro o
            ·obtain⟨L,w,F⟩:=Hk o;repeat first|refine a8 c ?_|refine a8 o ?_
             refine b0 Z (b4 D Z ?_);repeat first|refine a8 c ?_|refine a8 o ?_
             refine q7 D ?_;repeat first|refine a8 c ?_|refine a8 o ?_
             apply aZ<;>intro r
             ·obtain⟨M,y,E⟩:=Hk r;repeat first|refine a8 c ?_|refine a8 o ?_|refine a8 r ?_
              rw[w,y]at a;repeat first
               |refine b0 rfl (b4 h rfl ?_)
               |refine b0 rfl (b4 D rfl ?_)
               |refine q7 h ?_
               |refine q7 D ?_
               |refine b8 ?_
              refine zB a ?_;show V.dV [V.d (.int .u8 (IntKind.u8.wrap (IntKind.i64.wrap (IntKind.i64.wrap (16*za h)+za D)))),b3 4]=_;rw[F,E,P9 (zt w) (zt y)];rfl
             ·have y:=Hl r;repeat first|refine a6 r ?_|refine a8 c ?_|refine a8 o ?_
              rw[w,y]at a;exact a
            ·have w:=Hl o;repeat first|refine a6 o ?_|refine a8 c ?_
             rw[w]at a;exact a
         ·have q:=bF (d:=120) l;rw[if_neg q]at a;repeat refine a6 l ?_
          exact a
def Wb:List V:=[.d (.int .i64 0),.d (.str []),.d (.int .i64 0)]
def Yy(a:List UInt8):VS:=[.box Wb,bytesRow a]
def X9(b:List UInt8)(a:Nat×List UInt8):Tm:=[(0,cq b),(2,.bp 0 0),(5,.ms 1 1 0 a.2.length a.2.length),(6,b3 a.1)]
def TT(a:Option (List UInt8×Nat)):V:=match a with
 |some (c,b)=>.dV [Ch 4 c 0,b3 (b+1),b3 0]
 |none=>.dV [Ch 0 [] 0,b3 0,b3 3]
def XS:Nat->Bool:=fun a=>Nat.beq a 32
theorem UU{c a n:Nat}(e:c<=a)(b:a<4294967296)(d:n=1:=by rfl):(c+n)*1<=eF/\c+n<=eF:=by
 unfold eF;omega
theorem UW(a:List UInt8)(b:UInt8):some (V.ms 2 1 0 (a.length+1) (a.length+1))=some (V.ms 2 1 0 (a++[b]).length (a++[b]).length):=by simp
theorem Sv{c:Nat->Nat}(a:List UInt8)(b:UInt8):some (cL.row 1 (((a.map fun d=>[gq d]).drop 0).take a.length++[[gq b]]))=some (dH c (bytesRow (a++[b]))):=by
 rw[AJ,bytesRow,List.map_append,List.drop_zero,YV sm];rfl
theorem Sw:∀a:List UInt8,(zb a).2<=a.length:=by
 intro a;cases a with
 |nil=>exact YZ _
 |cons l e=>
  rw[zb];split
  ·simp
  ·split
   ·simp
   ·cases e with
    |nil=>simp[P7]
    |cons m b=>
     rw[P7];split
     ·simp
     ·split
      ·simp
      ·split
       ·cases b with
        |nil=>simp[Nc]
        |cons h c=>
         cases c with
         |nil=>simp[Nc]
         |cons a d=>
          rw[Nc];cases j1 h<;>cases j1 a<;>simp
       ·simp
theorem EY(s:List UInt8)(y:0<s.length)(D:s.length<4294967296):b1 C b7 mM [cq s] [] fun z w=>w=[]/\z=.ret (TT (dD (s.drop 1))):=by
 refine cA XS (fun _=>Z) ?_;refine cl.less (eW:=X9 s (1,[])) ⟨Z,Z,Z,Z,tv⟩ ?_;refine cl.iter (X9 s) (fun d=>Yy d.2) (fun d=>s.length-d.1)
  (fun d=>1<=d.1/\d.1<=s.length/\d.2.length<=d.1/\dD (s.drop 1)=(dD (s.drop d.1)).map fun p=>(d.2++p.1,p.2+(d.1-1))) ?_ (1,[]) ⟨YZ _,y,Nat.zero_le _,by simp⟩
 rintro⟨b,a⟩ ⟨t,u,q,n⟩;have t:1<=b:=t;have u:b<=s.length:=u;have q:a.length<=b:=q;have n:dD (s.drop 1)=(dD (s.drop b)).map fun p=>(a++p.1,p.2+(b-1)):=n;apply aZ<;>intro e
 ·have x:b<s.length:=fF e;have r:s.drop b=s[b]::s.drop (b+1):=YP x;repeat refine a8 e ?_
  refine b0 Z (b4 s[b] (by rw[cv];exact YM x) ?_);generalize s[b]=E at r;repeat refine a8 e ?_
  apply aZ<;>intro l
  ·have o:=Vt (d:=34) l;repeat first|refine a8 l ?_|refine a8 e ?_
   refine b0 Z (a1 ⟨u,YZ _⟩ ?_);refine xY _ (by rw[List.length_drop,List.length_take];omega) ?_;rw[List.take_length];have c:=P8 (s.drop b);rw[r]at c;simp only[if_neg o]at c;rw[<-r]at c;have m:=Sw (s.drop b);rw[List.length_drop]at m;generalize zb (s.drop b)=d at c m;obtain⟨v,h⟩:=d;cases h with
   |zero=>
    have c:dD (s.drop b)=none:=c;refine a7 0 ⟨Z,?_⟩;rw[n,c];rfl
   |succ h=>
    have c:dD (s.drop b)=(dD (s.drop (b+(h+1)))).map fun d=>(v::d.1,d.2+(h+1)):=by dsimp only at c;rw[List.drop_drop]at c;exact c
    have m:h+1<=s.length-b:=m;intro A;refine a1 Z (a1 ⟨Z,Z,by simp,YZ _,UU q om⟩ ?_);refine a6 Z (a6 (fg a.length) ?_);refine⟨(b+(h+1),a++[v]),⟨by show 1<=b+(h+1);omega,by show b+(h+1)<=s.length;omega,by show(a++[v]).length<=b+(h+1);simp;omega,?_⟩,by show s.length-(b+(h+1))<s.length-b;omega,?_,rfl,rfl⟩
    ·show dD (s.drop 1)=(dD (s.drop (b+(h+1)))).map fun p=>((a++[v])++p.1,p.2+(b+(h+1)-1));rw[n,c,Option.map_map];congr 1;funext p;simp only[Function.comp,List.append_assoc,YS,Y0];rw[show p.2+(h+1)+(b-1)=p.2+(b+(h+1)-1)from by omega]
    ·exact .pick 1 [0,2] ⟨Z,Z,UW a v,int_eq (dg om),tv⟩ Z Z Z Z Z dc ⟨Z,Z,Sv a v,Gx _ _,tv⟩
  ·have o:=Vu (d:=34) l;subst o;repeat first|refine a6 l ?_|refine a8 e ?_
   refine a6 (decide_eq_false (by simp only[YL];omega)) ?_;refine Pb a Z Z (eH _ _ sm) sm ?_;refine a7 0 ⟨Z,?_⟩;rw[n,r,qM];show dC.ret (.dV [Ch 4 a 0,.d (.int .i64 (IntKind.i64.wrap (YN b+1))),b3 0])=dC.ret (.dV [Ch 4 (a++[]) 0,b3 (1+(b-1)+1),b3 0]);rw[cp om,List.append_nil,show 1+(b-1)+1=b+1 from by omega];rfl
 ·have x:s.length<=b:=dR e;repeat refine a6 e ?_
  refine a8 (decide_eq_true (by simp only[YL];omega)) ?_;refine a7 0 ⟨Z,?_⟩;rw[n,YQ x];rw[show dD []=none from by rw[dD.eq_def]];rfl
end Go.Proofs.YtpejealjkmhkgaaGreatDoor
