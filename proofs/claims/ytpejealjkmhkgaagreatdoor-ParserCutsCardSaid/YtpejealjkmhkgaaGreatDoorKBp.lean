/- Part of the proof. -/
import Derived.Test.YtpejealjkmhkgaaGreatDoorKBo
import Derived.Test.YtpejealjkmhkgaaGreatDoorKBn
set_option linter.all false
set_option maxHeartbeats 16000000
set_option maxRecDepth 100000
open Nat renaming zero_le->YL,le_add_right->YT
open List renaming getElem?_eq_getElem->YM,take_of_length_le->YN,getElem_mem->YO,drop_eq_getElem_cons->YP,find?_append->YS,length_take->YU,drop_of_length_le->YV,take_append_drop->YW,length_append->YX
open Int renaming ofNat->YQ,ofNat_eq_natCast->YR
namespace Go.Proofs.YtpejealjkmhkgaaGreatDoor
open Go.AM Go.VM
variable{i:dC->VS->Prop} {y:VS}
theorem Hm(s:List UInt8)(b:0<s.length)(c:s.length<4294967296)(a:i (.ret (TT (dD (s.drop 1)))) y):b1 C b7 mM [cq s] y i:=by
 refine cQ (EY s b c) Z ?_ a;cases dD (s.drop 1)with
 |none=>rfl
 |some d=>rfl
def ig:List (List UInt8):=[[61,61,61],[58,58],[62,58],[60,58],[61,62],[61,61],[43,43],[40],[41],[91],[93],[123],[125],[60],[62],[44],[58],[61],[46],[43],[45],[42],[124],[63],[47]]
def Wc:Nat->Bool:=fun a=>Nat.beq a 1
theorem Bj(a:∀b,i (.ret (.d (.ps b 0 1 25 (rC ig)))) y):b1 C b7 qH [] y i:=by
 refine b1.body Wc (fun _=>Z) ?_;intro b;exact a b
theorem Sx(l:List UInt8)(c:UInt8):∀a,decide (0<=indexByte l c.toNat a)=decide (c∈l):=by
 induction l with
 |nil=>intro a;rfl
 |cons e l b=>
  intro a;simp only[indexByte];by_cases d:e=c
  ·subst d;simp[Nat.beq_refl]
  ·have:Nat.beq e.toNat c.toNat=false:=by
    rw[Bool.eq_false_iff];intro f;exact d (UInt8.toNat_inj.1 (Nat.eq_of_beq_eq_true f))
   simp only[this];rw[b];simp[Ne.symm d]
theorem Hn(c:UInt8)(h:List UInt8):∀b:List UInt8,(b.map fun a=>[a]).find? (c3 (c::h))=if c∈b then some [c]else none:=by
 intro b;induction b with
 |nil=>rfl
 |cons a b d=>
  simp only[List.map_cons,List.find?_cons];have f:c3 (c::h) [a]=decide (a=c):=by
   simp only[c3,List.isPrefixOf,Bool.and_true];rw[Bool.eq_iff_iff];simp
  rw[f];by_cases e:a=c
  ·subst e;simp
  ·simp only[decide_eq_false e,d,List.mem_cons,Ne.symm e,false_or]
theorem JT(c:UInt8)(b:List UInt8):fN (c::b)=(ig.find? (c3 (c::b))).getD []:=by
 have e:ig=n4++wz.map fun d=>[d]:=rfl;rw[e,YS,Hn];unfold fN;cases n4.find? (c3 (c::b))with
 |some d=>rfl
 |none=>
  dsimp only;have:=Sx wz c 0;by_cases a:c∈wz
  ·rw[decide_eq_true a]at this;rw[if_pos (of_decide_eq_true this),if_pos a];rfl
  ·rw[decide_eq_false a]at this;rw[if_neg (of_decide_eq_false this),if_neg a];rfl
def Bk(a:Gz):V:=match a with
 |.ok d c b=>.dV [Ch d c 0,b3 b,b3 0]
 |.err e=>.dV [Ch 0 [] 0,b3 0,b3 e]
theorem EZ{c:UInt8}(d:isDigit c=true):(e4 c||dY c)=false:=by
 have:=wy d;have a:e4 c=false:=by
  unfold e4;rw[decide_eq_false (by simp only[YR];omega)];rfl
 have b:dY c=false:=by
  unfold dY;rw[decide_eq_false (by simp only[YR];omega)];rfl
 rw[a,b];rfl
theorem xZ(p:UInt8->Bool)(l:List UInt8):(l.take (dp p l)).all p=true:=by
 unfold dp;have b:l=l.takeWhile p++l.dropWhile p:=List.takeWhile_append_dropWhile.symm;have a:l.take (l.takeWhile p).length=l.takeWhile p:=by
  conv=>lhs;rw[b]
  conv=>lhs;arg 1;rw[<-b]
  rw[List.take_left'];rfl
 rw[a];exact List.all_takeWhile
theorem dF{c d:UInt8}(b:c≠d):decide (YQ c.toNat=YQ d.toNat)=false:=decide_eq_false fun a=>b (UInt8.toNat_inj.1 (by simp only[YR]at a;omega))
theorem JU(s:List UInt8)(c:UInt8)(o:List UInt8)(b:s=c::o)(j:s.length<4294967296)(a:decide (YQ c.toNat=YQ (34:UInt8).toNat)=true):b1 C b7 ez [cq s] [] fun t f=>f=[]/\t=.ret (Bk (eL s)):=by
 have h:nth s 0=some c:=by rw[b];rfl
 refine cz ?_;refine b0 Z (b4 c h ?_);refine a8 a ?_;have e:=bT (d:=34) a;subst e;refine Hm s (by rw[b];simp) j ?_;have d:eL s=match dD (s.drop 1)with
  |some (p,n)=>.ok 4 p (n+1)
  |none=>.err 3:=by rw[b];rfl
 generalize dD (s.drop 1)=l at d;cases l with
 |none=>
  refine cP.drop 0 ?_ ?_ ?_ ?_
  ·exact Z
  ·exact Z
  ·exact Z
  refine cP.now Z ⟨Z,?_⟩;rw[d];rfl
 |some l=>
  refine cP.drop 0 ?_ ?_ ?_ ?_
  ·exact Z
  ·exact Z
  ·exact Z
  refine cP.now Z ⟨Z,?_⟩;rw[d];rfl
theorem Ho(s:List UInt8)(c:UInt8)(O:List UInt8)(I:s=c::O)(M:s.length<4294967296)(K:c≠34)(x:isDigit c=true):b1 C b7 ez [cq s] [] fun P J=>J=[]/\P=.ret (Bk (eL s)):=by
 have G:nth s 0=some c:=by rw[I];rfl
 refine cz ?_;refine b0 Z (b4 c G ?_);refine a6 (dF (d:=34) K) ?_;refine b0 Z (b4 c G ?_);refine hD c ?_;refine a8 x ?_;refine Co s M ?_;have p:=n3 isDigit s;have e:eL s=gj s (s.take (dp isDigit s)) (dp isDigit s) c:=by
  rw[I,eL,if_neg (by rw[EZ x];decide),if_pos x]
 have H:0<dp isDigit s:=by rw[I,iz,if_pos x];omega
 generalize dp isDigit s=b at p e H;have f:(s.take b).length=b:=by rw[YU];omega
 apply aZ<;>intro n
 ·have E:=fF (a:=19) n;repeat refine a8 n ?_
  have a:19<b∨(1<b/\c=48)∨(s.drop b).head?.any isWord=true:=.inl E;have d:eL s=.err 3:=by rw[e,gj,f,if_pos a]
  refine cP.drop 0 ?_ ?_ ?_ ?_
  ·exact Z
  ·exact Z
  ·exact Z
  refine cP.now Z ⟨Z,?_⟩;rw[d];rfl
 ·have E:=dR (a:=19) n;repeat refine a6 n ?_
  apply aZ<;>intro A
  ·have F:=fF (a:=1) A;repeat first|refine a6 n ?_|refine a8 A ?_
   refine b0 Z (b4 c G ?_);repeat first|refine a6 n ?_|refine a8 A ?_
   apply aZ<;>intro j
   ·have z:=bT (d:=48) j;repeat first|refine a6 n ?_|refine a8 A ?_|refine a8 j ?_
    have a:19<b∨(1<b/\c=48)∨(s.drop b).head?.any isWord=true:=.inr (.inl ⟨F,z⟩);have d:eL s=.err 3:=by rw[e,gj,f,if_pos a]
    refine cP.drop 0 ?_ ?_ ?_ ?_
    ·exact Z
    ·exact Z
    ·exact Z
    refine cP.now Z ⟨Z,?_⟩;rw[d];rfl
   ·have z:=bF (d:=48) j;repeat first|refine a6 n ?_|refine a8 A ?_|refine a6 j ?_
    apply aZ<;>intro o
    ·have l:b<s.length:=fF o;have t:s.drop b=s[b]::s.drop (b+1):=YP l;repeat first|refine a6 j ?_|refine a8 o ?_
     refine b0 Z (b4 s[b] (by rw[cv];exact YM l) ?_);generalize s[b]=D at t;repeat first|refine a6 j ?_|refine a8 o ?_
     refine pj D ?_;cases B:isWord D;rotate_left
     ·repeat first|refine a6 j ?_|refine a8 o ?_
      have a:19<b∨(1<b/\c=48)∨(s.drop b).head?.any isWord=true:=by rw[t];exact .inr (.inr B)
      have d:eL s=.err 3:=by rw[e,gj,f,if_pos a]
      refine cP.drop 0 ?_ ?_ ?_ ?_
      ·exact Z
      ·exact Z
      ·exact Z
      refine cP.now Z ⟨Z,?_⟩;rw[d];rfl
     ·repeat first|refine a6 j ?_|refine a8 o ?_
      refine b0 Z (a1 ⟨YL _,p⟩ ?_);have a:¬(19<b∨(1<b/\c=48)∨(s.drop b).head?.any isWord=true):=by rw[t];rintro(h|h|h);exact absurd h om;exact z h.2;exact absurd h (by simp[B])
      have d:eL s=.ok 3 (s.take b) b:=by rw[e,gj,f,if_neg a]
      refine cP.drop 0 ?_ ?_ ?_ ?_
      ·exact Z
      ·exact Z
      ·exact Z
      refine cP.now Z ⟨Z,?_⟩;rw[d];rfl
    ·have l:s.length<=b:=dR o;repeat first|refine a6 j ?_|refine a6 o ?_
     refine b0 Z (a1 ⟨YL _,p⟩ ?_);have a:¬(19<b∨(1<b/\c=48)∨(s.drop b).head?.any isWord=true):=by rw[YV l];rintro(h|h|h);exact absurd h om;exact z h.2;exact absurd h sm
     have d:eL s=.ok 3 (s.take b) b:=by rw[e,gj,f,if_neg a]
     refine cP.drop 0 ?_ ?_ ?_ ?_
     ·exact Z
     ·exact Z
     ·exact Z
     refine cP.now Z ⟨Z,?_⟩;rw[d];rfl
  ·have F:=dR (a:=1) A;repeat refine dX ?_
   apply aZ<;>intro o
   ·have l:b<s.length:=fF o;have t:s.drop b=s[b]::s.drop (b+1):=YP l;repeat refine dX ?_
    refine b0 Z (b4 s[b] (by rw[cv];exact YM l) ?_);generalize s[b]=D at t;repeat refine dX ?_
    refine pj D ?_;cases B:isWord D;rotate_left
    ·repeat refine dX ?_
     have a:19<b∨(1<b/\c=48)∨(s.drop b).head?.any isWord=true:=by rw[t];exact .inr (.inr B)
     have d:eL s=.err 3:=by rw[e,gj,f,if_pos a]
     refine cP.drop 0 ?_ ?_ ?_ ?_
     ·exact Z
     ·exact Z
     ·exact Z
     refine cP.now Z ⟨Z,?_⟩;rw[d];rfl
    ·repeat refine dX ?_
     refine b0 Z (a1 ⟨YL _,p⟩ ?_);have a:¬(19<b∨(1<b/\c=48)∨(s.drop b).head?.any isWord=true):=by rw[t];rintro(h|h|h);exact absurd h om;exact absurd h.1 om;exact absurd h (by simp[B])
     have d:eL s=.ok 3 (s.take b) b:=by rw[e,gj,f,if_neg a]
     refine cP.drop 0 ?_ ?_ ?_ ?_
     ·exact Z
     ·exact Z
     ·exact Z
     refine cP.now Z ⟨Z,?_⟩;rw[d];rfl
   ·have l:s.length<=b:=dR o;repeat refine dX ?_
    refine b0 Z (a1 ⟨YL _,p⟩ ?_);have a:¬(19<b∨(1<b/\c=48)∨(s.drop b).head?.any isWord=true):=by rw[YV l];rintro(h|h|h);exact absurd h om;exact absurd h.1 om;exact absurd h sm
    have d:eL s=.ok 3 (s.take b) b:=by rw[e,gj,f,if_neg a]
    refine cP.drop 0 ?_ ?_ ?_ ?_
    ·exact Z
    ·exact Z
    ·exact Z
    refine cP.now Z ⟨Z,?_⟩;rw[d];rfl
theorem Hp(b:List UInt8)(c:UInt8)(D:List UInt8)(A:b=c::D)(B:b.length<4294967296)(z:c≠34)(t:isDigit c=false)(o:e4 c=true):b1 C b7 ez [cq b] [] fun E x=>x=[]/\E=.ret (Bk (eL b)):=by
 have s:nth b 0=some c:=by rw[A];rfl
 refine cz ?_;refine b0 Z (b4 c s ?_);refine a6 (dF (d:=34) z) ?_;refine b0 Z (b4 c s ?_);refine hD c ?_;refine a6 t ?_;refine b0 Z (b4 c s ?_);refine lk c ?_;repeat refine a8 o ?_
 refine xa b B ?_;have a:=n3 isWord b;have j:=xZ isWord b;have e:eL b=eU (b.take (dp isWord b)) (dp isWord b):=by
  rw[A,eL,if_pos (by rw[show e4 c=true from o];rfl)]
 generalize dp isWord b=f at a e j;have n:(b.take f).length<4294967296:=by rw[YU];omega
 repeat first|refine b0 rfl (a1 ⟨YL _,a⟩ ?_)|refine b8 ?_
 refine mH (fun F=>?_);repeat first|refine b0 rfl (a1 ⟨YL _,a⟩ ?_)|refine b8 ?_
 refine vn US dc _ F 28 ?_;rw[List.drop_zero,<-Bh j];repeat refine b8 ?_
 apply aZ<;>intro l
 ·have d:eL b=.ok 5 (b.take f) f:=by rw[e,eU,if_pos l]
  refine b0 Z (a1 ⟨YL _,a⟩ ?_);refine a7 0 ⟨Z,by rw[d];rfl⟩
 ·refine b0 Z (a1 ⟨YL _,a⟩ ?_);refine uC (b.take f) n ?_;apply aZ<;>intro h
  ·have d:eL b=.ok 1 (b.take f) f:=by rw[e,eU,if_neg (by rw[l];decide),if_pos h]
   refine b0 Z (a1 ⟨YL _,a⟩ ?_);refine a7 0 ⟨Z,by rw[d];rfl⟩
  ·refine b0 Z (a1 ⟨YL _,a⟩ ?_);refine uD (b.take f) n ?_;apply aZ<;>intro p
   ·have d:eL b=.ok 2 (b.take f) f:=by rw[e,eU,if_neg (by rw[l];decide),if_neg (by rw[show cM (b.take f)=false from h];decide),if_pos p]
    refine b0 Z (a1 ⟨YL _,a⟩ ?_);refine a7 0 ⟨Z,by rw[d];rfl⟩
   ·have d:eL b=.err 4:=by rw[e,eU,if_neg (by rw[l];decide),if_neg (by rw[show cM (b.take f)=false from h];decide),if_neg (by rw[show dB (b.take f)=false from p];decide)]
    refine a7 0 ⟨Z,by rw[d];rfl⟩
theorem Cp(b:List UInt8)(c:UInt8)(E:List UInt8)(B:b=c::E)(D:b.length<4294967296)(A:c≠34)(x:isDigit c=false)(f:e4 c=false)(p:dY c=true):b1 C b7 ez [cq b] [] fun F z=>z=[]/\F=.ret (Bk (eL b)):=by
 have n:nth b 0=some c:=by rw[B];rfl
 refine cz ?_;refine b0 Z (b4 c n ?_);refine a6 (dF (d:=34) A) ?_;refine b0 Z (b4 c n ?_);refine hD c ?_;refine a6 x ?_;refine b0 Z (b4 c n ?_);refine lk c ?_;repeat refine a6 f ?_
 refine b0 Z (b4 c n ?_);repeat refine a6 f ?_
 refine ll c ?_;repeat refine a6 f ?_
 repeat first|refine a8 p ?_|refine a6 f ?_
 refine xa b D ?_;have a:=n3 isWord b;have l:=xZ isWord b;have e:eL b=eU (b.take (dp isWord b)) (dp isWord b):=by
  rw[B,eL,if_pos (by rw[show dY c=true from p,Bool.or_true])]
 generalize dp isWord b=h at a e l;have s:(b.take h).length<4294967296:=by rw[YU];omega
 repeat first|refine b0 rfl (a1 ⟨YL _,a⟩ ?_)|refine b8 ?_
 refine mH (fun G=>?_);repeat first|refine b0 rfl (a1 ⟨YL _,a⟩ ?_)|refine b8 ?_
 refine vn US dc _ G 28 ?_;rw[List.drop_zero,<-Bh l];repeat refine b8 ?_
 apply aZ<;>intro o
 ·have d:eL b=.ok 5 (b.take h) h:=by rw[e,eU,if_pos o]
  refine b0 Z (a1 ⟨YL _,a⟩ ?_);refine a7 0 ⟨Z,by rw[d];rfl⟩
 ·refine b0 Z (a1 ⟨YL _,a⟩ ?_);refine uC (b.take h) s ?_;apply aZ<;>intro j
  ·have d:eL b=.ok 1 (b.take h) h:=by rw[e,eU,if_neg (by rw[o];decide),if_pos j]
   refine b0 Z (a1 ⟨YL _,a⟩ ?_);refine a7 0 ⟨Z,by rw[d];rfl⟩
  ·refine b0 Z (a1 ⟨YL _,a⟩ ?_);refine uD (b.take h) s ?_;apply aZ<;>intro t
   ·have d:eL b=.ok 2 (b.take h) h:=by rw[e,eU,if_neg (by rw[o];decide),if_neg (by rw[show cM (b.take h)=false from j];decide),if_pos t]
    refine b0 Z (a1 ⟨YL _,a⟩ ?_);refine a7 0 ⟨Z,by rw[d];rfl⟩
   ·have d:eL b=.err 4:=by rw[e,eU,if_neg (by rw[o];decide),if_neg (by rw[show cM (b.take h)=false from j];decide),if_neg (by rw[show dB (b.take h)=false from t];decide)]
    refine a7 0 ⟨Z,by rw[d];rfl⟩
theorem Nd(s:List UInt8)(c:UInt8)(L:List UInt8)(D:s=c::L)(P:s.length<4294967296)(B:c≠34)(A:isDigit c=false)(f:e4 c=false)(x:dY c=false):b1 C b7 ez [cq s] [] fun O I=>I=[]/\O=.ret (Bk (eL s)):=by
 have p:nth s 0=some c:=by rw[D];rfl
 refine cz ?_;refine b0 Z (b4 c p ?_);refine a6 (dF (d:=34) B) ?_;refine b0 Z (b4 c p ?_);refine hD c ?_;refine a6 A ?_;refine b0 Z (b4 c p ?_);refine lk c ?_;repeat refine a6 f ?_
 refine b0 Z (b4 c p ?_);repeat refine a6 f ?_
 refine ll c ?_;repeat refine a6 f ?_
 repeat first|refine a6 x ?_|refine a6 f ?_
 refine Bj (fun N=>?_);have d:eL s=if fN (c::L)=[]then .err 3 else .ok 6 (fN (c::L)) (fN (c::L)).length:=by
  rw[D,eL,if_neg (by rw[show e4 c=false from f,show dY c=false from x];decide),if_neg (by rw[A];decide),if_neg (B)]
 rw[JT,<-D]at d;refine cl.less (eW:=[(0,cq s),(2,.bp 0 0),(3,b3 0),(4,b3 0),(7,.d (.ps N 0 1 25 (rC ig))),(8,b3 0)]) ⟨Z,Z,Z,Z,Z,Z,tv⟩ ?_;have M:ig.length=25:=rfl;refine cl.iter (fun a:Nat=>[(0,cq s),(2,.bp 0 0),(3,b3 0),(4,b3 0),(7,.d (.ps N 0 1 25 (rC ig))),(8,b3 a)]) (fun _=>[.box Wb]) (fun a=>25-a) (fun a=>a<=25/\(ig.take a).find? (c3 s)=none) ?_ 0 ⟨om,Z⟩;rintro a ⟨Q,t⟩;apply aZ<;>intro K
 ·have h:a<ig.length:=fF K;have z:ig[a]?=some ig[a]:=YM h;have F:ig[a]≠[]:=by have:=YO h;exact(show ∀E∈ig,E≠[]by decide) _ this
  have J:ig=ig.take a++ig[a]::ig.drop (a+1):=by rw[<-YP h,YW]
  have l:(ig.take (a+1)).find? (c3 s)=none∨c3 s ig[a]=true:=by
   cases b:c3 s ig[a]with
   |true=>exact .inr rfl
   |false=>left;rw[List.take_add_one,z,YS,t];simp[b]
  have o:c3 s ig[a]=true->eL s=.ok 6 ig[a] ig[a].length:=fun b=>by
   have:ig.find? (c3 s)=some ig[a]:=(congrArg (List.find? (c3 s)) J).trans (by rw[YS,t,List.find?_cons,b];rfl);rw[d,this];exact if_neg F
  have n:nth (rC ig) a=some [.str ig[a]]:=by rw[cv,rC,List.getElem?_map,z];rfl
  generalize ig[a]=E at l o n;refine b0 Z (b4 _ n ?_);apply aZ<;>intro j
  ·have e:E.length<=s.length:=CL j;repeat first
    |refine a8 j ?_
    |refine b0 rfl (b4 _ n ?_)
    |refine b0 rfl (a1 ⟨YL _,e⟩ ?_)
    |refine b8 ?_
   apply aZ<;>intro H
   ·have b:c3 s E=true:=by rw[<-u5 e];exact H
    have G:=o b;repeat first
     |refine a8 j ?_
     |refine b0 rfl (b4 _ n ?_)
     |refine b0 rfl (a1 ⟨YL _,e⟩ ?_)
     |refine b8 ?_
    refine a7 0 ⟨Z,by rw[G];rfl⟩
   ·have b:c3 s E=false:=by rw[<-u5 e];exact H
    refine⟨a+1,⟨om,?_⟩,by show 25-(a+1)<25-a;omega,.same ⟨rfl,rfl,rfl,rfl,rfl,int_eq (cp om),tv⟩ rfl,rfl,rfl⟩;rcases l with h|h
    ·exact h
    ·rw[b]at h;cases h
  ·have b:c3 s E=false:=CO (wc j);repeat first
    |refine a6 j ?_
    |refine b0 rfl (b4 _ n ?_)
    |refine b8 ?_
   refine⟨a+1,⟨om,?_⟩,by show 25-(a+1)<25-a;omega,.same ⟨rfl,rfl,rfl,rfl,rfl,int_eq (cp om),tv⟩ rfl,rfl,rfl⟩;rcases l with h|h
   ·exact h
   ·rw[b]at h;cases h
 ·have h:25<=a:=dR K;rw[YN h]at t;rw[t]at d;refine a7 0 ⟨Z,by rw[d];rfl⟩
theorem Cq(s:List UInt8)(c:UInt8)(j:List UInt8)(d:s=c::j)(f:s.length<4294967296):b1 C b7 ez [cq s] [] fun n l=>l=[]/\n=.ret (Bk (eL s)):=by
 cases a:decide (YQ c.toNat=YQ (34:UInt8).toNat)with
 |true=>exact JU s c j d f a
 |false=>
  have a:=bF a;cases b:isDigit c with
  |true=>exact Ho s c j d f a b
  |false=>
   cases e:e4 c with
   |true=>exact Hp s c j d f a b e
   |false=>
    cases h:dY c with
    |true=>exact Cp s c j d f a b e h
    |false=>exact Nd s c j d f a b e h
theorem eg{R R':Rd}(a:R.ts=R'.ts)(p:Nat):R.tok p=R'.tok p:=by unfold Rd.tok;rw[a]
variable{u v:Rd}
theorem ih(d:u.ts=v.ts):∀(a:List (List UInt8)) (b:Nat),cu u a b=cu v a b:=by
 intro a;induction a with
 |nil=>intro b;rfl
 |cons e a c=>intro b;rw[cu,cu,eg d,c]
theorem Hq(f:u.ts=v.ts)(b:Nat->PR Ty):∀(c:Nat) (a:List Ty) (d:Nat),dE b u c a d=dE b v c a d:=by
 intro c;induction c with
 |zero=>intro a d;rfl
 |succ c e=>
  intro a d;rw[dE,dE];cases b d with
  |bad n h=>rfl
  |ok l j=>dsimp only;rw[eg f,e,ih f]
theorem Hr(b:u.ts=v.ts)(a:Nat->PR Ty)(p:Nat):hQ a u p=hQ a v p:=by
 rw[hQ,hQ,eg b,Hq b,b]
theorem yI(b:u.ts=v.ts)(a:Nat->PR Ty)(p:Nat):dv a u p=dv a v p:=by
 rw[dv,dv,ih b];cases cu v [[91]] p with
 |bad e f=>rfl
 |ok h c=>
  dsimp only;cases a c with
  |bad e f=>rfl
  |ok j d=>dsimp only;rw[ih b]
theorem Cr(j:u.ts=v.ts)(f:Nat->PR Ty)(b d:List UInt8)(c:Bool):∀(h:Nat) (a:List mT) (e:Nat),cO f u b d c h a e=cO f v b d c h a e:=by
 intro h;induction h with
 |zero=>intro a e;rfl
 |succ h l=>
  intro a e;rw[cO,cO,eg j,eg j (e+1),ih j];split
  ·rfl
  ·split
   ·rfl
   ·cases cu v [[58]] (if(c&&c0 (v.tok (e+1)) [63])=true then e+1+1 else e+1)with
    |bad p s=>rfl
    |ok t o=>
     dsimp only;cases f o with
     |bad p s=>rfl
     |ok z n=>
      dsimp only;rw[eg j,ih j];split
      ·rfl
      ·cases cu v [b] n with
       |bad p s=>rfl
       |ok t x=>exact l _ _
theorem JV(e:u.ts=v.ts)(d:Nat->PR Ty)(a c:List UInt8)(b:Bool)(p:Nat):ey d u a c b p=ey d v a c b p:=by
 rw[ey,ey,eg e,Cr e,e]
theorem Sy(f:u.ts=v.ts)(a:Nat->PR Ty)(d:Nat)(c:List UInt8)(e s:Nat):eR a u d c e s=eR a v d c e s:=by
 have j:∀b,dv a u b=dv a v b:=yI f a;have o:∀z b,cu u z b=cu v z b:=ih f;have l:∀x t p b,ey a u x t p b=ey a v x t p b:=JV f a;have n:∀b,hQ a u b=hQ a v b:=Hr f a;have h:∀b,u.tok b=v.tok b:=eg f;unfold eR;simp only[j,o,l,n,h]
theorem E0{R R':Rd}(c:R.ts=R'.ts):∀(a:Nat),de R a=de R' a:=by
 intro a;induction a with
 |zero=>rfl
 |succ a b=>
  funext d;rw[de,de,b,eg c,Sy c]
def PR.E{b:Type}(d:PR b):Prop:=∀a c,d=.bad a c->c≠0
theorem PR.E.ok{a:Type}{e:a}{c:Nat}:(PR.ok e c).E:=fun b f d=>by cases d
theorem PR.E.bad{c:Type}{a d:Nat}(e:d≠0):(PR.bad a d:PR c).E:=fun _ _ b=>by cases b;exact e
variable{w:Nat}
theorem PR.E.get{a:Type}{b:Nat}(c:(PR.bad w b:PR a).E):b≠0:=c w b rfl
theorem PR.E.map{a b:Type}{d:a->b}{c:PR a}(e:c.E):(c.map d).E:=by
 cases c with
 |ok h f=>exact .ok
 |bad j l=>exact .bad e.get
theorem hE(d:Rd):∀(a:List (List UInt8)) (c:Nat),(cu d a c).E:=by
 intro a;induction a with
 |nil=>intro c;exact .ok
 |cons e a b=>
  intro c;rw[cu];split
  ·exact b _
  ·exact .bad dc
variable{g:Nat->PR Ty}
theorem JW(j:∀b,(g b).E)(l:Rd):∀(e:Nat) (a:List Ty) (b:Nat),(dE g l e a b).E:=by
 intro e;induction e with
 |zero=>intro a b;exact .bad dc
 |succ e f=>
  intro a b;rw[dE];have d:=j b;cases n:g b with
  |bad s p=>rw[n]at d;exact .bad d.get
  |ok z o=>
   dsimp only;split
   ·exact f _ _
   ·have c:=hE l [[93]] o;cases h:cu l [[93]] o with
    |ok x t=>exact .ok
    |bad s p=>rw[h]at c;exact .bad c.get
theorem E1(a:∀p,(g p).E)(b:Rd)(p:Nat):(hQ g b p).E:=by
 rw[hQ];split
 ·exact JW a b _ _ _
 ·exact .ok
theorem q8(h:∀p,(g p).E)(e:Rd)(p:Nat):(dv g e p).E:=by
 rw[dv];have c:=hE e [[91]] p;cases j:cu e [[91]] p with
 |bad o s=>rw[j]at c;exact .bad c.get
 |ok t n=>
  dsimp only;have a:=h n;cases f:g n with
  |bad o s=>rw[f]at a;exact .bad a.get
  |ok z b=>
   dsimp only;have d:=hE e [[93]] b;cases l:cu e [[93]] b with
   |bad o s=>rw[l]at d;exact .bad d.get
   |ok t x=>exact .ok
theorem E2(t:∀E,(g E).E)(d:Rd)(a j:List UInt8)(c:Bool):∀(s:Nat) (b:List mT) (e:Nat),(cO g d a j c s b e).E:=by
 intro s;induction s with
 |zero=>intro b e;exact .bad dc
 |succ s B=>
  intro b e;rw[cO];split
  ·exact .bad dc
  ·split
   ·exact .bad dc
   ·generalize (if(c&&c0 (d.tok (e+1)) [63])=true then e+1+1 else e+1)=f;have n:=hE d [[58]] f;cases A:cu d [[58]] f with
    |bad C D=>rw[A]at n;exact .bad n.get
    |ok G p=>
     dsimp only;have h:=t p;cases z:g p with
     |bad C D=>rw[z]at h;exact .bad h.get
     |ok H l=>
      dsimp only;split
      ·exact .ok
      ·have o:=hE d [a] l;cases x:cu d [a] l with
       |bad C D=>rw[x]at o;exact .bad o.get
       |ok G F=>exact B _ _
theorem x0(d:∀p,(g p).E)(e:Rd)(a c:List UInt8)(b:Bool)(p:Nat):(ey g e a c b p).E:=by
 rw[ey];split
 ·exact .ok
 ·exact(E2 d e a c b _ _ _).map
theorem UX(a:∀z,(g z).E)(b:Rd)(n:Nat)(j:List UInt8)(d h:Nat):(eR g b n j d h).E:=by
 have l:(PR.bad d 3:PR Ty).E:=.bad dc;unfold eR;split
 ·split
  ·exact .ok
  ·split
   ·exact(q8 a b h).map
   ·split
    ·have c:=hE b [[40]] h;cases f:cu b [[40]] h with
     |bad t x=>rw[f]at c;exact .bad c.get
     |ok A e=>
      dsimp only;have o:=x0 a b [44] [41] true e;cases p:ey g b [44] [41] true e with
      |bad t x=>rw[p]at o;exact .bad o.get
      |ok B s=>exact(a s).map
    ·exact l
 ·split
  ·split
   ·exact(x0 a b _ _ _ _).map
   ·split
    ·exact(x0 a b _ _ _ _).map
    ·exact l
  ·split
   ·exact(E1 a b h).map
   ·split
    ·have c:=hE b [[58,58]] h;cases f:cu b [[58,58]] h with
     |bad t x=>rw[f]at c;exact .bad c.get
     |ok A e=>
      dsimp only;split
      ·exact .bad dc
      ·exact(E1 a b _).map
    ·exact l
theorem JX(d:Rd):∀(a b:Nat),(de d a b).E:=by
 intro a;induction a with
 |zero=>intro b;exact .bad dc
 |succ a c=>intro b;rw[de];exact UX c d _ _ _ _
def uE:Ty:=.mk 0 [] [] [] []
theorem Sz:gK uE [.int .i64 (YQ 0),.str [],.str [],.cn,.cn]:=.mk .nil .nil
def l4(f:List UInt8):Ty×Nat×Nat:=match gk f with
 |.err a c=>(uE,a,c)
 |.ok b=>match de ⟨0,0,b⟩ b.length 0 with
  |.bad a c=>(uE,a,c)
  |.ok e d=>if(Rd.tok ⟨0,0,b⟩ d).kind≠0 then(uE,(Rd.tok ⟨0,0,b⟩ d).off,3)else if qZ e=true then(uE,0,7)else(e,0,0)
section
variable{γ δ:Type} (step:γ->Ex->γ ⊕ δ)
mutual
def jW:Ex->γ->γ ⊕ δ
 |.mk k m n x num types labels kids,g=>match step g (.mk k m n x num types labels kids)with
  |.inr s=>.inr s
  |.inl g'=>fL kids g'
def fL:List Ex->γ->γ ⊕ δ
 |[],g=>.inl g
 |e::l,g=>match jW e g with
  |.inr s=>.inr s
  |.inl g'=>fL l g'
end
theorem ol(a:Ex)(c:γ):jW step a c=match step c a with
  |.inr s=>.inr s
  |.inl b=>fL step a.kids b:=by cases a;rw[jW];rfl
theorem Bl(d b:List Ex)(c:γ):fL step (d++b) c=match fL step d c with
  |.inr s=>.inr s
  |.inl a=>fL step b a:=by
 induction d generalizing c with
 |nil=>rfl
 |cons f d e=>
  simp only[List.cons_append,fL];cases jW step f c with
  |inr s=>rfl
  |inl a=>exact e a
theorem yJ{l:List Ex}{b a:γ}(d:w<l.length)(c:fL step (l.take w) b=.inl a):fL step (l.take (w+1)) b=jW step l[w] a:=by
 rw[List.take_add_one,YM d,Bl,c];simp only[Option.toList_some,fL];cases jW step l[w] a<;>rfl
theorem yK{l:List Ex}{a:γ}{c:δ}(b:fL step (l.take w) a=.inr c):fL step l a=.inr c:=by
 have:=Bl step (l.take w) (l.drop w) a;rw[YW,b]at this;exact this
variable{step}
theorem Lh{e:γ->Nat}(B:∀c d a,step c d=.inl a->e a<=e c+(1+cC (ox d))):∀(d:Ex) (c a:γ),jW step d c=.inl a->e a<=e c+da d:=by
 have o:∀(p:Nat) (d:Ex) (c a:γ),da d<=p->jW step d c=.inl a->e a<=e c+da d:=by
  intro p;induction p with
  |zero=>intro d c a z;have:=kK d;omega
  |succ p A=>
   intro d c a z b;have D:=iN d;rw[ol]at b;cases f:step c d with
   |inr s=>rw[f]at b;cases b
   |inl t=>
    rw[f]at b;have G:=B _ _ _ f;have:∀(j:List Ex) (c a:γ),cS j<=p->fL step j c=.inl a->e a<=e c+cS j:=by
     intro j;induction j with
     |nil=>intro c a _ z;cases z;exact Nat.le_refl _
     |cons C j n=>
      intro c a x b;rw[fL]at b;rw[cS]at x⊢;cases h:jW step C c with
      |inr s=>rw[h]at b;cases b
      |inl l=>
       rw[h]at b;have E:=A C c l om h;have H:=n l a om b;omega
    have F:=this d.kids t a om b;omega
 intro d c a;exact o _ d c a (Nat.le_refl _)
end
theorem zC(n:Nat)(a:VS)(b:VS)(c:a.length=n):Nat.ble n (a++b).length=true:=by
 rw[Nat.ble_eq,YX,c];exact YT _ _
theorem Hs(n:Nat)(a:VS)(o:cL)(b:VS)(c:a.length+1=n):Nat.ble n (a++o::b).length=true:=by
 rw[Nat.ble_eq,YX,List.length_cons];omega
theorem Db(a:VS)(o:cL)(b:VS){n:Nat}(c:a.length+1=n):(a++o::b).take n=a++[o]:=by
 subst c;rw[List.take_append,YN om];simp
theorem SA:∀{c:Nat} {a b:VS},a.length=c->ln w (a++b) c=ln w a c:=by
 intro c;induction c with
 |zero=>intro a b _;rw[ln,ln]
 |succ c d=>
  intro a b e;cases a with
  |nil=>cases e
  |cons f a=>
   simp only[List.cons_append,ln];rw[d (by simpa using e)]
theorem sW{c n:Nat}{a:VS}(d:ln c y n=true)(b:y.length=n):ln c (y++a) n=true:=by rw[SA b,d]
structure Wd where
 (o0 o1 o2:cL)
 L:jl
def W3(a:Wd):VS:=[a.o0,a.o1,a.o2,.eG false,.loop a.L,.box [.rN 4],.box [.fn eB [] [.bp 5 0,.bp 6 0]]]
theorem SB{γ δ:Type}{step:γ->Ex->γ ⊕ δ}{F:γ->Nat}{Good:Ex->Prop}{E:γ ⊕ δ->Wd} 
  (v:∀e,Good e->∀t∈e.kids,Good t) (B:∀t,ln 7 (W3 (E t)) 7=true) (T:∀t x p,e5 0 x=true->ln 8 (W3 (E t)++.box x::p) 8=true)
  (ae:∀f e H,step f e=.inl H->F H<=F f+(1+cC (ox e)))
  (ap:∀(f:γ) (e:Ex) (L:List D) (x:List V) (am:dC->VS->Prop),ly e L->Good e->e5 0 x=true->F f+da e<4294967296->(∀H,step f e=.inl H->∀p,am (.ret (ct true)) (W3 (E (.inl H))++.box x::p))->(∀s,step f e=.inr s->∀p,am (.ret (ct false)) (W3 (E (.inr s))++.box x::p))->
   gT C b7 4 [.agg (L.map V.d)] (W3 (E (.inl f))++[.box x]) am) (n:Nat)
  (ar:∀(e:Ex) (L:List D) (f:γ),da e<=n->ly e L->Good e->F f+da e<4294967296->b1 C b7 eB [.agg (L.map V.d),.bp 5 0,.bp 6 0] (W3 (E (.inl f))) fun ai A=>∃t,jW step e f=t/\A=W3 (E t)/\ai=.ret (ct t.isLeft))
  (e:Ex) (L:List D) (f:γ) (aC:da e<=n+1) (W:ly e L) (Q:Good e) (m:F f+da e<4294967296):
  b1 C b7 eB [.agg (L.map V.d),.bp 5 0,.bp 6 0] (W3 (E (.inl f))) fun ai A=>∃t,jW step e f=t/\A=W3 (E t)/\ai=.ret (ct t.isLeft):=by
 obtain⟨aj,ak,K,M,z,N,P,ao,rfl⟩:=W.eight;have ax:=iN e;refine cz ?_;refine ap f e _ (tG aj ak K M z N P ao) _ W Q Z m (fun d O p=>?_) (fun s O p=>?_)
 ·have u:=W.UR.1;have av:=ae f e d O;have I:=v e Q;have af:jW step e f=fL step e.kids d:=by rw[ol,O]
  rw[af];have i:cS e.kids<=n:=om;have ab:F d+cS e.kids<4294967296:=om;generalize e.kids=b at u i ab I;have au:=q3 b;cases u with
  |nil=>
   refine cl.loop ?_;refine cP.drop 7 (zC 7 _ _ Z) (sW (B _) Z) Z ?_;exact cP.now Z ⟨_,Z,Z,Z⟩
  |ps al=>
   rename_i y o h l;have r:=al.len;refine cF (eW:=[(12,.d (.ps y o 8 h l)),(13,b3 b.length),(14,b3 0),(2,.bp 6 0)]) (ii:=W3 (E (.inl d))++[.box (tG aj ak K M z N P (.ps y o 8 h l))]) (.drop 8 ⟨Z,int_eq (by rw[r]),rfl,rfl,tv⟩ (Hs 8 _ _ _ rfl) rfl (T _ _ _ rfl) rfl rfl rfl (by exact Db _ _ _ rfl)) ?_;refine cl.iter (fun a:Nat×γ=>[(12,.d (.ps y o 8 h l)),(13,b3 b.length),(14,b3 a.1),(2,.bp 6 0)]) (fun a=>W3 (E (.inl a.2))++[.box (tG aj ak K M z N P (.ps y o 8 h l))]) (fun a=>b.length-a.1) (fun a=>a.1<=b.length/\fL step (b.take a.1) d=.inl a.2/\F a.2<=F d+cS (b.take a.1)) ?_ (0,d) ⟨YL _,by rw[List.take_zero];rfl,YT _ _⟩;rintro⟨J,X⟩ ⟨aa,j,S⟩;have aa:J<=b.length:=aa;have j:fL step (b.take J) d=.inl X:=j;have S:F X<=F d+cS (b.take J):=S;apply aZ<;>intro ag
   ·have c:J<b.length:=fF ag;obtain⟨L,hx,U⟩:=al.get c;refine b0 Z ?_;obtain⟨aq,an,q,w,Y,ad,ac,g,rfl⟩:=U.eight;refine b4 _ (by rw[cv];exact hx) ?_;have aA:=vl (YO c);have k:=yF c;have aw:=sV b (J+1);refine(ar b[J] _ X om U (I _ (YO c)) om).pre [.box (tG aj ak K M z N P (.ps y o 8 h l)),.box (tG aq an q w Y ad ac g)] (B _) Z (fun ai A al=>?_);obtain⟨t,R,rfl,rfl⟩:=al;refine⟨Z,B _,Z,?_⟩;have G:=yJ step c j;rw[R]at G;cases t with
    |inl ah=>
     have aB:=Lh ae _ _ _ R;refine⟨(J+1,ah),⟨c,G,by show F ah<=_;rw[k];omega⟩,by show b.length-(J+1)<b.length-J;omega,.drop 8 ⟨rfl,rfl,int_eq (cp om),rfl,tv⟩ rfl rfl (T _ _ _ rfl) rfl rfl rfl rfl,rfl,rfl⟩
    |inr s=>
     refine cP.drop 7 Z (sW (B _) Z) Z ?_;refine cP.now Z ⟨.inr s,?_,Z,Z⟩;exact yK step G
   ·have c:b.length<=J:=dR ag;rw[YN c]at j;refine cP.drop 7 Z (sW (B _) Z) Z ?_;exact cP.now Z ⟨_,j,Z,Z⟩
 ·refine cP.drop 7 (zC 7 _ _ Z) (sW (B _) Z) Z ?_;exact cP.now Z ⟨.inr s,by rw[ol,O],rfl,rfl⟩
theorem UY{γ δ:Type}{step:γ->Ex->γ ⊕ δ}{B:γ->Nat}{Good:Ex->Prop}{S:γ ⊕ δ->Wd} 
  (j:∀e,Good e->∀f∈e.kids,Good f) (t:∀f,ln 7 (W3 (S f)) 7=true) (o:∀f a c,e5 0 a=true->ln 8 (W3 (S f)++.box a::c) 8=true)
  (G:∀b e d,step b e=.inl d->B d<=B b+(1+cC (ox e)))
  (A:∀(b:γ) (e:Ex) (h:List D) (a:List V) (p:dC->VS->Prop),ly e h->Good e->e5 0 a=true->B b+da e<4294967296->(∀d,step b e=.inl d->∀c,p (.ret (ct true)) (W3 (S (.inl d))++.box a::c))->(∀H,step b e=.inr H->∀c,p (.ret (ct false)) (W3 (S (.inr H))++.box a::c))->
   gT C b7 4 [.agg (h.map V.d)] (W3 (S (.inl b))++[.box a]) p):
  ∀(l:Nat) (e:Ex) (h:List D) (b:γ),da e<=l->ly e h->Good e->B b+da e<4294967296->b1 C b7 eB [.agg (h.map V.d),.bp 5 0,.bp 6 0] (W3 (S (.inl b))) fun I n=>∃f,jW step e b=f/\n=W3 (S f)/\I=.ret (ct f.isLeft):=by
 intro l;induction l with
 |zero=>intro e h b J;have:=kK e;omega
 |succ l F=>intro e h b z s E x;exact SB j t o G A l F e h b z s E x
structure We where
 (o0 o1 o2 o3 o4:cL)
 L:jl
def W5(a:We):VS:=[a.o0,a.o1,a.o2,a.o3,a.o4,.eG false,.loop a.L,.box [.rN 6],.box [.fn eB [] [.bp 7 0,.bp 8 0]]]
theorem SC{γ δ:Type}{step:γ->Ex->γ ⊕ δ}{F:γ->Nat}{Good:Ex->Prop}{E:γ ⊕ δ->We} 
  (v:∀e,Good e->∀t∈e.kids,Good t) (B:∀t,ln 9 (W5 (E t)) 9=true) (T:∀t x p,e5 0 x=true->ln 10 (W5 (E t)++.box x::p) 10=true)
  (ae:∀f e H,step f e=.inl H->F H<=F f+(1+cC (ox e)))
  (ap:∀(f:γ) (e:Ex) (L:List D) (x:List V) (am:dC->VS->Prop),ly e L->Good e->e5 0 x=true->F f+da e<4294967296->(∀H,step f e=.inl H->∀p,am (.ret (ct true)) (W5 (E (.inl H))++.box x::p))->(∀s,step f e=.inr s->∀p,am (.ret (ct false)) (W5 (E (.inr s))++.box x::p))->
   gT C b7 6 [.agg (L.map V.d)] (W5 (E (.inl f))++[.box x]) am) (n:Nat)
  (ar:∀(e:Ex) (L:List D) (f:γ),da e<=n->ly e L->Good e->F f+da e<4294967296->b1 C b7 eB [.agg (L.map V.d),.bp 7 0,.bp 8 0] (W5 (E (.inl f))) fun ai A=>∃t,jW step e f=t/\A=W5 (E t)/\ai=.ret (ct t.isLeft))
  (e:Ex) (L:List D) (f:γ) (aC:da e<=n+1) (W:ly e L) (Q:Good e) (m:F f+da e<4294967296):
  b1 C b7 eB [.agg (L.map V.d),.bp 7 0,.bp 8 0] (W5 (E (.inl f))) fun ai A=>∃t,jW step e f=t/\A=W5 (E t)/\ai=.ret (ct t.isLeft):=by
 obtain⟨aj,ak,K,M,z,N,P,ao,rfl⟩:=W.eight;have ax:=iN e;refine cz ?_;refine ap f e _ (tG aj ak K M z N P ao) _ W Q Z m (fun d O p=>?_) (fun s O p=>?_)
 ·have u:=W.UR.1;have av:=ae f e d O;have I:=v e Q;have af:jW step e f=fL step e.kids d:=by rw[ol,O]
  rw[af];have i:cS e.kids<=n:=om;have ab:F d+cS e.kids<4294967296:=om;generalize e.kids=b at u i ab I;have au:=q3 b;cases u with
  |nil=>
   refine cl.loop ?_;refine cP.drop 9 (zC 9 _ _ Z) (sW (B _) Z) Z ?_;exact cP.now Z ⟨_,Z,Z,Z⟩
  |ps al=>
   rename_i y o h l;have r:=al.len;refine cF (eW:=[(12,.d (.ps y o 8 h l)),(13,b3 b.length),(14,b3 0),(2,.bp 8 0)]) (ii:=W5 (E (.inl d))++[.box (tG aj ak K M z N P (.ps y o 8 h l))]) (.drop 10 ⟨Z,int_eq (by rw[r]),rfl,rfl,tv⟩ (Hs 10 _ _ _ rfl) rfl (T _ _ _ rfl) rfl rfl rfl (by exact Db _ _ _ rfl)) ?_;refine cl.iter (fun a:Nat×γ=>[(12,.d (.ps y o 8 h l)),(13,b3 b.length),(14,b3 a.1),(2,.bp 8 0)]) (fun a=>W5 (E (.inl a.2))++[.box (tG aj ak K M z N P (.ps y o 8 h l))]) (fun a=>b.length-a.1) (fun a=>a.1<=b.length/\fL step (b.take a.1) d=.inl a.2/\F a.2<=F d+cS (b.take a.1)) ?_ (0,d) ⟨YL _,by rw[List.take_zero];rfl,YT _ _⟩;rintro⟨J,X⟩ ⟨aa,j,S⟩;have aa:J<=b.length:=aa;have j:fL step (b.take J) d=.inl X:=j;have S:F X<=F d+cS (b.take J):=S;apply aZ<;>intro ag
   ·have c:J<b.length:=fF ag;obtain⟨L,hx,U⟩:=al.get c;refine b0 Z ?_;obtain⟨aq,an,q,w,Y,ad,ac,g,rfl⟩:=U.eight;refine b4 _ (by rw[cv];exact hx) ?_;have aA:=vl (YO c);have k:=yF c;have aw:=sV b (J+1);refine(ar b[J] _ X om U (I _ (YO c)) om).pre [.box (tG aj ak K M z N P (.ps y o 8 h l)),.box (tG aq an q w Y ad ac g)] (B _) Z (fun ai A al=>?_);obtain⟨t,R,rfl,rfl⟩:=al;refine⟨Z,B _,Z,?_⟩;have G:=yJ step c j;rw[R]at G;cases t with
    |inl ah=>
     have aB:=Lh ae _ _ _ R;refine⟨(J+1,ah),⟨c,G,by show F ah<=_;rw[k];omega⟩,by show b.length-(J+1)<b.length-J;omega,.drop 10 ⟨rfl,rfl,int_eq (cp om),rfl,tv⟩ rfl rfl (T _ _ _ rfl) rfl rfl rfl rfl,rfl,rfl⟩
    |inr s=>
     refine cP.drop 9 Z (sW (B _) Z) Z ?_;refine cP.now Z ⟨.inr s,?_,Z,Z⟩;exact yK step G
   ·have c:b.length<=J:=dR ag;rw[YN c]at j;refine cP.drop 9 Z (sW (B _) Z) Z ?_;exact cP.now Z ⟨_,j,Z,Z⟩
 ·refine cP.drop 9 (zC 9 _ _ Z) (sW (B _) Z) Z ?_;exact cP.now Z ⟨.inr s,by rw[ol,O],rfl,rfl⟩
theorem UZ{γ δ:Type}{step:γ->Ex->γ ⊕ δ}{B:γ->Nat}{Good:Ex->Prop}{S:γ ⊕ δ->We} 
  (j:∀e,Good e->∀f∈e.kids,Good f) (t:∀f,ln 9 (W5 (S f)) 9=true) (o:∀f a c,e5 0 a=true->ln 10 (W5 (S f)++.box a::c) 10=true)
  (G:∀b e d,step b e=.inl d->B d<=B b+(1+cC (ox e)))
  (A:∀(b:γ) (e:Ex) (h:List D) (a:List V) (p:dC->VS->Prop),ly e h->Good e->e5 0 a=true->B b+da e<4294967296->(∀d,step b e=.inl d->∀c,p (.ret (ct true)) (W5 (S (.inl d))++.box a::c))->(∀H,step b e=.inr H->∀c,p (.ret (ct false)) (W5 (S (.inr H))++.box a::c))->
   gT C b7 6 [.agg (h.map V.d)] (W5 (S (.inl b))++[.box a]) p):
  ∀(l:Nat) (e:Ex) (h:List D) (b:γ),da e<=l->ly e h->Good e->B b+da e<4294967296->b1 C b7 eB [.agg (h.map V.d),.bp 7 0,.bp 8 0] (W5 (S (.inl b))) fun I n=>∃f,jW step e b=f/\n=W5 (S f)/\I=.ret (ct f.isLeft):=by
 intro l;induction l with
 |zero=>intro e h b J;have:=kK e;omega
 |succ l F=>intro e h b z s E x;exact SC j t o G A l F e h b z s E x
variable{k q r:D}
theorem Nf(n:List UInt8){x c:Ex}(b:fK [] k)(a:ij [x,c] q):fC 10 [] n [] 0 .cn k q (fm [110] 0 false 2):=by
 unfold fC;rcases b.cV with rfl|⟨e,l,j,rfl⟩<;>obtain⟨f,h,d,d1,d2,rfl⟩:=a.two<;>exact fitAll
theorem Qa{t:Ty}(c:ib [t] k){x:Ex}(b:fK [] q)(a:ij [x] r):fC 11 [] [] [] 0 k q r (fm [] 1 false 1):=by
 unfold fC;rcases b.cV with rfl|⟨e,p,o,rfl⟩<;>obtain⟨j,n,d,d1,rfl⟩:=a.one<;>obtain⟨l,f,h,d0,rfl⟩:=c.np<;>exact fitAll
theorem Nh{t:Ty}(b:ib [t] k){x d f:Ex}(a:fK [] q)(c:ij [x,d,f] r):fC 12 [] [] [] 0 k q r (fm [] 1 false 3):=by
 unfold fC;rcases a.cV with rfl|⟨h,z,s,rfl⟩<;>obtain⟨n,p,e,d1,d2,d3,rfl⟩:=c.three<;>obtain⟨o,j,l,d0,rfl⟩:=b.np<;>exact fitAll
theorem Qb{t:Ty}(c:ib [t] k){a:List Ex}(b:fK [] q)(d:ij a r):fC 14 [] [] [] 0 k q r (fm [] 1 false (-1)):=by
 unfold fC;rcases b.cV with rfl|⟨e,n,l,rfl⟩<;>obtain⟨j,f,h,d0,rfl⟩:=c.np<;>exact fitAll
theorem Ni{t:Ty}(n o:List UInt8)(b:ib [t] k){x d f:Ex}(a:fK [] q)(c:ij [x,d,f] r):fC 15 [] n o 0 k q r (fm [110,120] 1 false 3):=by
 unfold fC;rcases a.cV with rfl|⟨h,B,A,rfl⟩<;>obtain⟨p,z,e,d1,d2,d3,rfl⟩:=c.three<;>obtain⟨s,j,l,d0,rfl⟩:=b.np<;>exact fitAll
theorem Qc{n:List UInt8}(j:n∈M0){x:Ex}(b:fK [] k)(a:ij [x] q):fC 16 [] n [] 0 .cn k q (fm [110] 0 false (-1)):=by
 unfold fC;rcases b.cV with rfl|⟨d,l,f,rfl⟩<;>obtain⟨e,h,c,d1,rfl⟩:=a.one<;>exact fitAll
theorem Qd{n:List UInt8}(l:n∈Be){x c:Ex}(b:fK [] k)(a:ij [x,c] q):fC 16 [] n [] 0 .cn k q (fm [110] 0 false (-1)):=by
 unfold fC;rcases b.cV with rfl|⟨e,o,h,rfl⟩<;>obtain⟨f,j,d,d1,d2,rfl⟩:=a.two<;>exact fitAll
theorem Bm{b:List UInt8}(c:cM b=true)(a:i (.ret (ct true)) y):b1 C b7 sr [cq b] y i:=
 fV b (w2 c) (by rw[c];exact a)
def q9(l:Nat)(o n h:List UInt8)(a:Int)(d e c:D)(f:V):Prop:=b1 C b7 wk [V9 l o n h a d e c,f] [] fun j b=>b=[]/\j=.ret (ct false)
theorem mr {a:Prop} (b:a:=by
 have mI:=hw.name;have Yz:=hw.var;unfold q9;refine cz ?_;repeat' first|(change hz _ _ _;first|refine a8 (by with_reducible assumption) ?_|refine a6 (by with_reducible assumption) ?_)|refine dy (args:=[.str _,.str _]) (x:=.bool true) rfl rfl ?_|refine dy (args:=[.str _,.str _]) (x:=.bool false) rfl rfl ?_|refine Bm (by assumption) ?_|refine hC _ (by assumption) ?_|(show b1 C b7 mR _ _ _;refine b9 ?_)
 refine li Z _ labels hl hlen (fun j hj d hd K hk=>?_) ?_
 ·obtain⟨tk,tm,tn,ta,tf,rfl⟩:=hd.di;have YJ:=mI _ (List.getElem_mem hj);have YA:=Yz _ (List.getElem_mem hj);simp at YA;refine cz ?_;repeat' first|(change hz _ _ _;first|refine a8 (by with_reducible assumption) ?_|refine a6 (by with_reducible assumption) ?_)|refine dy (args:=[.str _,.str _]) (x:=.bool true) rfl rfl ?_|refine dy (args:=[.str _,.str _]) (x:=.bool false) rfl rfl ?_|refine Bm (by assumption) ?_|refine hC _ (by assumption) ?_|(show b1 C b7 mR _ _ _;refine b9 ?_)
  exact a7 3 hk
 ·exact a7 0 ⟨Z,Z⟩):a:=b
variable{m:Int}
theorem Wg{x:List UInt8}{labels:List iV}(hl:fK labels q)(hlen:labels.length<4294967296)(hw:kB 0 labels):q9 0 [] [] x m k q r (fm [98] 0 false 0):=by
 exact mr
theorem Wh{x:List UInt8}{labels:List iV}(hl:fK labels q)(hlen:labels.length<4294967296)(hw:kB 1 labels):q9 1 [] [] x m k q r (fm [120] 0 false 0):=by
 exact mr
theorem Wi{x:List UInt8}{labels:List iV}(hl:fK labels q)(hlen:labels.length<4294967296)(hw:kB 2 labels):q9 2 [] [] x m k q r (fm [98] 0 false 0):=by
 exact mr
theorem Wj{n x:List UInt8}{labels:List iV}(a:cM n=true)(hl:fK labels q)(hlen:labels.length<4294967296)(hw:kB 3 labels):q9 3 [] n x m k q r (fm [110] 0 false 0):=by
 exact mr
theorem Wk{a n x:List UInt8}{labels:List iV}(b:a=[]∨cM a=true)(c:cM n=true)(hl:fK labels q)(hlen:labels.length<4294967296)(hw:kB 4 labels):q9 4 a n x m k q r (fm [109,110] (-1) false 0):=by
 exact mr
theorem Wl{x:List UInt8}{labels:List iV}(hl:fK labels q)(hlen:labels.length<4294967296)(hw:kB 5 labels):q9 5 [] [] x m k q r (fm [] 0 true 0):=by
 exact mr
theorem Wm{n x:List UInt8}{labels:List iV}(a:cM n=true)(hl:fK labels q)(hlen:labels.length<4294967296)(hw:kB 6 labels):q9 6 [] n x m k q r (fm [110] 0 false 1):=by
 exact mr
theorem Wn{n x:List UInt8}{labels:List iV}(a:cM n=true)(hl:fK labels q)(hlen:labels.length<4294967296)(hw:kB 7 labels):q9 7 [] n x m k q r (fm [110] 0 false 1):=by
 exact mr
theorem Wo{x:List UInt8}{labels:List iV}(hl:fK labels q)(hlen:labels.length<4294967296)(hw:kB 8 labels):q9 8 [] [] x m k q r (fm [116,111] 0 true 1):=by
 exact mr
end Go.Proofs.YtpejealjkmhkgaaGreatDoor
