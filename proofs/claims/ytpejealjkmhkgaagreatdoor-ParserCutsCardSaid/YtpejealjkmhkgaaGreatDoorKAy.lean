/- Part of the proof. -/
import Derived.Test.YtpejealjkmhkgaaGreatDoorKAx
set_option linter.all false
set_option maxHeartbeats 16000000
set_option maxRecDepth 100000
open Nat renaming le_of_ble_eq_true->YL,le_refl->YP,not_lt_zero->YS,beq->YX
open Int renaming ofNat->YM
open List renaming length_drop->YN,drop_eq_getElem_cons->YO,getElem?_eq_getElem->YQ,drop_of_length_le->YR,drop_drop->YT,length_cons->YU,isPrefixOf_iff_prefix->YW,take_of_length_le->YY,map_congr_left->YZ
open Bool renaming and_eq_true->YV
namespace Go.Proofs.YtpejealjkmhkgaaGreatDoor
open Go.AM Go.VM
def dD:List UInt8->Option (List UInt8×Nat)
 |[]=>none
 |c::f=>
  if c=34 then some ([],1)
  else if c<32 then none
  else if c≠92 then(dD f).map fun a=>(c::a.1,a.2+1)
  else match f with
   |[]=>none
   |e::b=>
    if e=34∨e=92 then(dD b).map fun a=>(e::a.1,a.2+2)
    else if e=110 then(dD b).map fun a=>(10::a.1,a.2+2)
    else if e=120 then match b with
     |h::j::d=>match j1 h,j1 j with
      |some i,some g=>(dD d).map fun a=>(UInt8.ofNat (16*i+g)::a.1,a.2+4)
      |_,_=>none
     |_=>none
    else none
theorem qM(a:List UInt8):dD (34::a)=some ([],1):=by rw[dD.eq_def];rfl
theorem AH{c:UInt8}{d:List UInt8}(a:c≠34)(b:c<32):dD (c::d)=none:=by
 rw[dD.eq_def];simp only[if_neg a,if_pos b]
theorem u6{c:UInt8}{f:List UInt8}(b:c≠34)(a:¬c<32)(d:c≠92):dD (c::f)=(dD f).map fun e=>(c::e.1,e.2+1):=by
 rw[dD.eq_def];simp only[if_neg b,if_neg a,if_pos d]
theorem mh(d:List UInt8):dD (92::d)=match d with
   |[]=>none
   |e::b=>
    if e=34∨e=92 then(dD b).map fun a=>(e::a.1,a.2+2)
    else if e=110 then(dD b).map fun a=>(10::a.1,a.2+2)
    else if e=120 then match b with
     |h::i::c=>match j1 h,j1 i with
      |some g,some f=>(dD c).map fun a=>(UInt8.ofNat (16*g+f)::a.1,a.2+4)
      |_,_=>none
     |_=>none
    else none:=by
 conv=>lhs;rw[dD.eq_def]
 simp only[show ¬((92:UInt8)=34)from dc,show ¬((92:UInt8)<32)from dc,if_false,ne_eq,not_true_eq_false]
def AI(c:Option (List UInt8×Nat))(a:Nat):V:=match c with
 |some (d,b)=>.dV [cq d,b3 (a+b),ct true]
 |none=>.dV [cq [],b3 0,ct false]
def bytesRow(a:List UInt8):cL:=.row 1 (a.map fun b=>[gq b])
def RW:List UInt8->V
 |[]=>.d .cn
 |c::a=>.ms 0 1 0 (a.length+1) (a.length+1)
def RX:List UInt8->VS
 |[]=>[]
 |c::a=>[bytesRow (c::a)]
theorem AJ(b:Nat->Nat)(a:List UInt8):dH b (bytesRow a)=bytesRow a:=by
 simp only[bytesRow,dH];congr 1;rw[List.map_map];exact YZ fun c _=>Z
theorem Gx(b:Nat)(a:List UInt8):fG b (bytesRow a)=true:=by
 simp only[bytesRow,fG,List.all_map];exact List.all_eq_true.2 fun c _=>Z
theorem I7(a:List UInt8)(n:Nat)(b:n=a.length)(c:UInt8):some (cL.row 1 (((a.map fun c=>[gq c]).drop 0).take n++[[gq c]]))=some (dH (jg [1] 2) (bytesRow (a++[c]))):=by
 rw[AJ,bytesRow,List.map_append,List.drop_zero,YY (by simp;omega)];rfl
def Yo:Nat->Bool:=fun a=>YX a 40||YX a 60||YX a 66||YX a 99
def Pa(c:List UInt8)(a:Nat)(b:Nat×List UInt8):Prop:=
 b.1<=c.length/\a<=b.1/\b.2.length<=b.1/\dD (c.drop a)=(dD (c.drop b.1)).map fun d=>(b.2++d.1,d.2+(b.1-a))
theorem Pb{b:Type}{p g i t h:b->Prop}(a:b)(j:p a)(e:g a)(c:i a)(f:t a)(d:h a):∃a,p a/\g a/\i a/\t a/\h a:=⟨a,j,e,c,f,d⟩
theorem eH{a:Type}(l:List a)(n:Nat)(b:n=l.length):(l.drop 0).take n=l:=by
 rw[List.drop_zero,YY om]
theorem Ew{b c:V}(e:b=c):cP 0 (.ret b) [] fun d a=>a=[]/\d=.ret c:=.now rfl ⟨rfl,by rw[e]⟩
theorem Gy{b d:V}{o:cL}(f:b=d)(c:bd 0 b=true):cP 0 (.ret b) [o] fun e a=>a=[]/\e=.ret d:=.drop 0 rfl rfl c (Ew f)
theorem n5{c g:V}(a:List UInt8)(f:c=g)(d:bd 0 c=true):cP 0 (.ret c) (RX a) fun e b=>b=[]/\e=.ret g:=by
 cases a with
 |nil=>exact Ew f
 |cons h e=>exact Gy f d
theorem wA{j:List UInt8}{k:Nat}{f c:UInt8}{a:List UInt8}{b:Tm}{d:VS}(g:fb b 1=some (b3 k))(h:fb b 7=some (.ms 1 1 0 (a.length+1+1) (a.length+1+1)))(i:fb b 0=some (cq j)) 
  (e:d=[.gone,.row 1 ((((f::a).map fun c=>[gq c]).drop 0).take (a.length+1)++[[gq c]])]):
  N9 0 [(1,b3 k),(7,RW (f::a++[c])),(0,cq j)] (RX (f::a++[c])) [] .none b d:=by
 subst e;refine .pick 0 [1] ⟨g,?_,i,tv⟩ Z Z Z Z Z sm ⟨I7 (f::a) (a.length+1) Z c,Gx _ _,tv⟩;rw[h];show _=some (V.ms 1 1 0 ((a++[c]).length+1) ((a++[c]).length+1));simp
theorem sC{h:List UInt8}{i:Nat}{c:UInt8}{a:Tm}{b:VS}(e:fb a 1=some (b3 i))(f:fb a 7=some (.ms 0 1 0 1 1))(g:fb a 0=some (cq h)) 
  (d:b=[.row 1 [[gq c]]]):N9 0 [(1,b3 i),(7,RW ([]++[c])),(0,cq h)] (RX ([]++[c])) [] .none a b:=.same ⟨e,f,g,tv⟩ d
theorem sD{e:List UInt8}{a d k:Nat}{b:List UInt8}{c:UInt8}(n:0<k)(g:d+k<=e.length)(m:a+1<=d)(l:b.length<=d) 
  (h:dD (e.drop (a+1))=(dD (e.drop d)).map fun f=>(b++f.1,f.2+(d-(a+1)))) (i:dD (e.drop d)=(dD (e.drop (d+k))).map fun j=>(c::j.1,j.2+k)):
  Pa e (a+1) (d+k,b++[c])/\e.length-(d+k)<e.length-d:=by
 refine⟨⟨g,by show a+1<=d+k;omega,by show(b++[c]).length<=d+k;simp;omega,?_⟩,om⟩;show dD (e.drop (a+1))=(dD (e.drop (d+k))).map fun f=>((b++[c])++f.1,f.2+(d+k-(a+1)));rw[h,i,Option.map_map];congr 1;funext f;simp only[Function.comp,List.append_assoc,List.cons_append,List.nil_append];rw[show f.2+k+(d-(a+1))=f.2+(d+k-(a+1))from by omega]
theorem wB{b n:Nat}{a:List UInt8}{e:UInt8}(d:(e::a).length<=b)(c:b<4294967296)(f:n=1):(a.length+1+n)*1<=eF/\a.length+1+n<=eF:=by
 simp only[YU]at d;unfold eF;omega
theorem fg(n:Nat):Nat.ble (n+1) n=false:=by rw[KI];exact decide_eq_false om
theorem RY{l:List UInt8}{a:UInt8}(b:c3 l [a]=true):∃c,l=a::c:=by
 rw[c3,YW]at b;obtain⟨d,e⟩:=b;exact⟨d,e.symm⟩
theorem wC{l d:List UInt8}{b c:UInt8}(e:c3 l [b]=false)(a:l=c::d):c≠b:=by
 rintro rfl;subst a;simp[c3]at e
theorem to{s c:List UInt8}{a:Nat}{d:UInt8}(b:s.drop a=d::c):s.drop (a+1)=c/\a<s.length:=by
 constructor
 ·rw[<-YT,b];rfl
 ·rcases Nat.lt_or_ge a s.length with h1|h1
  ·exact h1
  ·rw[YR h1]at b;cases b
theorem zt{c:UInt8}{d:Nat}(b:j1 c=some d):d<16:=by
 unfold j1 at b;split at b
 ·rename_i a;have:=wy a;cases b;omega
 ·split at b
  ·rename_i a;rw[YV,decide_eq_true_eq,decide_eq_true_eq]at a;cases b;omega
  ·cases b
theorem Mu:∀a b:Fin 16,IntKind.u8.wrap ((BitVec.ofInt IntKind.u8.bits (IntKind.u8.wrap (YM a.1*2^(min 4 IntKind.u8.bits)))|||BitVec.ofInt IntKind.u8.bits (YM b.1)).toNat)=YM (UInt8.ofNat (16*a.1+b.1)).toNat:=dc
theorem Pc{a b:Nat}(c:a<16)(d:b<16):IntKind.u8.wrap ((BitVec.ofInt IntKind.u8.bits (IntKind.u8.wrap (YM a*2^(min 4 IntKind.u8.bits)))|||BitVec.ofInt IntKind.u8.bits (YM b)).toNat)=YM (UInt8.ofNat (16*a+b)).toNat:=Mu ⟨a,c⟩ ⟨b,d⟩
theorem n6{c:List UInt8}{a e:Nat}{b:List UInt8}(d:dD (c.drop (a+1))=(dD (c.drop e)).map fun f=>(b++f.1,f.2+(e-(a+1))))(g:dD (c.drop e)=none):V.dV [cq [],b3 0,ct false]=AI (dD (c.drop (a+1))) (a+1):=by
 rw[d,g];rfl
theorem Ey(s:List UInt8)(d:Nat)(ai:d<s.length)(aj:s.length<4294967296){W:VS}{ah:dC->VS->Prop}(ad:ah (.ret (AI (dD (s.drop (d+1))) (d+1))) W):
  b1 C b7 y0 [cq s,b3 d] W ah:=by
 refine cQ (v:=AI (dD (s.drop (d+1))) (d+1)) ?_ Z ?_ ad
 ·refine cA Yo (fun _=>Z) ?_;refine cl.less (eW:=[(1,b3 (d+1)),(7,RW []),(0,cq s)]) ⟨int_eq (cp om),Z,Z,tv⟩ ?_;refine cl.iter (fun l:Nat×List UInt8=>[(1,b3 l.1),(7,RW l.2),(0,cq s)]) (fun l=>RX l.2) (fun l=>s.length-l.1) (Pa s (d+1)) ?_ (d+1,[]) ⟨om,YP _,by simp,by simp⟩;rintro⟨a,e⟩ ⟨U,n,g,i⟩;have U:a<=s.length:=U;have n:d+1<=a:=n;have g:e.length<=a:=g;have i:dD (s.drop (d+1))=(dD (s.drop a)).map fun K=>(e++K.1,K.2+(a-(d+1))):=i;apply aZ<;>intro ab
  ·have B:a<s.length:=fF ab;have P:s[a]?=some s[a]:=YQ B;have o:s.drop a=s[a]::s.drop (a+1):=YO B;refine b0 Z (b4 s[a] (by rw[cv];exact P) ?_);apply aZ<;>intro Q
   ·
    have F:s[a]=34:=UInt8.toNat_inj.1 (CM (b:=34) Q);have f:dD (s.drop a)=some ([],1):=by rw[o,F];exact qM _
    have z:V.dV [cq e,V.d (.int .i64 (IntKind.i64.wrap (YM a+1))),ct true]=AI (dD (s.drop (d+1))) (d+1):=by
     rw[i,f,cp om];simp only[Option.map_some,AI,List.append_nil,b3];rw[show d+1+(1+(a-(d+1)))=a+1 from by omega]
    cases e with
    |nil=>exact Ew z
    |cons u r=>
     refine Pb (u::r) Z Z (eH _ _ sm) sm ?_;exact Gy z Z
   ·have F:s[a]≠34:=fun O=>Er (b:=34) Q (by rw[O];rfl);apply aZ<;>intro T
    ·have L:s[a]<32:=UInt8.lt_iff_toNat_lt.2 (fF (b:=32) T);have f:dD (s.drop a)=none:=by rw[o];exact AH F L
     exact n5 e (n6 i f) Z
    ·have L:¬s[a]<32:=fun O=>Nat.not_lt_of_le (dR (b:=32) T) (UInt8.lt_iff_toNat_lt.1 O);apply aZ<;>intro J
     ·
      have t:s[a]≠92:=fun O=>by rw[O]at J;cases J
      have f:dD (s.drop a)=(dD (s.drop (a+1))).map fun l=>(s[a]::l.1,l.2+1):=by rw[o];exact u6 F L t
      obtain⟨k,j⟩:=sD (k:=1) om om n g i f;intro b;cases e with
      |nil=>
       refine a1 Z (a1 ⟨YL Z,YL Z⟩ ?_);exact⟨(a+1,[]++[s[a]]),k,j,sC (int_eq (cp om)) Z Z Z,Z,Z⟩
      |cons u r=>
       refine a1 Z (a1 ⟨Z,Z,by simp,YP _,wB g om rfl⟩ ?_);refine a6 Z (a6 (fg (r.length+1)) ?_);exact⟨(a+1,(u::r)++[s[a]]),k,j,wA (int_eq (cp om)) Z Z Z,Z,Z⟩
     ·
      have t:s[a]=92:=UInt8.toNat_inj.1 (CM (b:=92) (by simpa using J));have q:IntKind.i64.wrap (YM a+1)=YM (a+1):=cp om;have I:min (IntKind.i64.wrap (YM a+1)) (YM s.length)=YM (a+1):=by rw[q];simp only[Int.ofNat_eq_natCast];omega
      refine b0 I (a1 ⟨om,YP _⟩ ?_);rw[List.take_length];refine ed (s.drop (a+1)) [34] ?_;apply aZ<;>intro y
      ·obtain⟨A,c⟩:=RY y;obtain⟨h,w⟩:=to c;have f:dD (s.drop a)=(dD (s.drop (a+2))).map fun l=>(34::l.1,l.2+2):=by
        rw[o,t,c,mh,h];rfl
       repeat refine a8 y ?_
       refine b0 (m:=0) Z (b4 34 (by rw[c];rfl) ?_);obtain⟨k,j⟩:=sD (k:=2) om om n g i f;intro b;cases e with
       |nil=>
        refine a1 Z (a1 ⟨YL Z,YL Z⟩ ?_);exact⟨(a+2,[]++[34]),k,j,sC (int_eq (by show IntKind.i64.wrap (IntKind.i64.wrap (YM a+1)+1)=_;rw[q];exact cp om)) rfl rfl rfl,rfl,rfl⟩
       |cons u r=>
        refine a1 Z (a1 ⟨Z,Z,by simp,YP _,wB g om rfl⟩ ?_);refine a6 Z (a6 (fg (r.length+1)) ?_);exact⟨(a+2,(u::r)++[34]),k,j,wA (int_eq (by show IntKind.i64.wrap (IntKind.i64.wrap (YM a+1)+1)=_;rw[q];exact cp om)) rfl rfl rfl,rfl,rfl⟩
      ·repeat refine a6 y ?_
       refine ed (s.drop (a+1)) [92] ?_;repeat refine a6 y ?_
       apply aZ<;>intro X
       ·obtain⟨A,c⟩:=RY X;obtain⟨h,w⟩:=to c;have f:dD (s.drop a)=(dD (s.drop (a+2))).map fun l=>(92::l.1,l.2+2):=by
         rw[o,t,c,mh,h];rfl
        refine b0 (m:=0) Z (b4 92 (by rw[c];rfl) ?_);obtain⟨k,j⟩:=sD (k:=2) om om n g i f;intro b;cases e with
        |nil=>
         refine a1 Z (a1 ⟨YL Z,YL Z⟩ ?_);exact⟨(a+2,[]++[92]),k,j,sC (int_eq (by show IntKind.i64.wrap (IntKind.i64.wrap (YM a+1)+1)=_;rw[q];exact cp om)) rfl rfl rfl,rfl,rfl⟩
        |cons u r=>
         refine a1 Z (a1 ⟨Z,Z,by simp,YP _,wB g om rfl⟩ ?_);refine a6 Z (a6 (fg (r.length+1)) ?_);exact⟨(a+2,(u::r)++[92]),k,j,wA (int_eq (by show IntKind.i64.wrap (IntKind.i64.wrap (YM a+1)+1)=_;rw[q];exact cp om)) rfl rfl rfl,rfl,rfl⟩
       ·refine ed (s.drop (a+1)) [110] ?_;apply aZ<;>intro R
        ·obtain⟨A,c⟩:=RY R;obtain⟨h,w⟩:=to c;have f:dD (s.drop a)=(dD (s.drop (a+2))).map fun l=>(10::l.1,l.2+2):=by
          rw[o,t,c,mh,h];rfl
         obtain⟨k,j⟩:=sD (k:=2) om om n g i f;intro b;cases e with
         |nil=>
          refine a1 Z (a1 ⟨YL Z,YL Z⟩ ?_);exact⟨(a+2,[]++[10]),k,j,sC (int_eq (by show IntKind.i64.wrap (IntKind.i64.wrap (YM a+1)+1)=_;rw[q];exact cp om)) rfl rfl rfl,rfl,rfl⟩
         |cons u r=>
          refine a1 Z (a1 ⟨Z,Z,by simp,YP _,wB g om rfl⟩ ?_);refine a6 Z (a6 (fg (r.length+1)) ?_);exact⟨(a+2,(u::r)++[10]),k,j,wA (int_eq (by show IntKind.i64.wrap (IntKind.i64.wrap (YM a+1)+1)=_;rw[q];exact cp om)) rfl rfl rfl,rfl,rfl⟩
        ·refine ed (s.drop (a+1)) [120] ?_;apply aZ<;>intro G
         ·obtain⟨A,c⟩:=RY G;obtain⟨h,w⟩:=to c;repeat refine a8 G ?_
          apply aZ<;>intro Y
          ·have p:2<(s.drop (a+1)).length:=fF (a:=2) Y;rw[YN]at p;have E:s.drop (a+2)=s[a+2]::s.drop (a+3):=YO om;have M:s.drop (a+3)=s[a+3]::s.drop (a+4):=YO om;have x:dD (s.drop a)=match j1 s[a+2],j1 s[a+3]with
             |some u,some b=>(dD (s.drop (a+4))).map fun l=>(UInt8.ofNat (16*u+b)::l.1,l.2+4)
             |_,_=>none:=by
            rw[o,t,c,mh,<-h,E,M];rfl
           refine b0 (m:=1) Z (b4 s[a+2] (by rw[c,<-h,E];rfl) ?_);refine AG s[a+2] ?_;cases v:j1 s[a+2]with
           |none=>
            rw[show js s[a+2]=V.dV [.d (.int .u8 0),ct false]from by simp only[js,v]];refine b0 (m:=2) Z (b4 s[a+3] (by rw[c,<-h,E,M];rfl) ?_);refine AG s[a+3] ?_;have f:dD (s.drop a)=none:=by rw[x,v]
            cases m:j1 s[a+3]with
            |none=>
             rw[show js s[a+3]=V.dV [.d (.int .u8 0),ct false]from by simp only[js,m]];exact n5 e (n6 i f) Z
            |some b=>
             rw[show js s[a+3]=V.dV [.d (.int .u8 (YM b)),ct true]from by simp only[js,m]];exact n5 e (n6 i f) Z
           |some l=>
            rw[show js s[a+2]=V.dV [.d (.int .u8 (YM l)),ct true]from by simp only[js,v]];refine b0 (m:=2) Z (b4 s[a+3] (by rw[c,<-h,E,M];rfl) ?_);refine AG s[a+3] ?_;cases m:j1 s[a+3]with
            |none=>
             have f:dD (s.drop a)=none:=by rw[x,v,m]
             rw[show js s[a+3]=V.dV [.d (.int .u8 0),ct false]from by simp only[js,m]];exact n5 e (n6 i f) Z
            |some K=>
             have f:dD (s.drop a)=(dD (s.drop (a+4))).map fun N=>(UInt8.ofNat (16*l+K)::N.1,N.2+4):=by rw[x,v,m]
             have H:=Pc (zt v) (zt m);rw[show js s[a+3]=V.dV [.d (.int .u8 (YM K)),ct true]from by simp only[js,m]];refine b0 (m:=4) Z ?_;obtain⟨k,j⟩:=sD (k:=4) om om n g i f;intro b;cases e with
             |nil=>
              refine a1 Z (a1 ⟨YL Z,YL Z⟩ ?_);exact⟨(a+4,[]++[UInt8.ofNat (16*l+K)]),k,j,sC (int_eq (by show IntKind.i64.wrap (IntKind.i64.wrap (IntKind.i64.wrap (YM a+1)+2)+1)=_;rw[q,show IntKind.i64.wrap (YM (a+1)+2)=YM (a+3)from dg (b:=2) om];exact cp om)) rfl rfl (congrArg (fun N=>[cL.row 1 [[V.d (.int .u8 N)]]]) H),rfl,rfl⟩
             |cons u r=>
              refine a1 Z (a1 ⟨Z,Z,by simp,YP _,wB g om rfl⟩ ?_);refine a6 Z (a6 (fg (r.length+1)) ?_);exact⟨(a+4,(u::r)++[UInt8.ofNat (16*l+K)]),k,j,wA (int_eq (by show IntKind.i64.wrap (IntKind.i64.wrap (IntKind.i64.wrap (YM a+1)+2)+1)=_;rw[q,show IntKind.i64.wrap (YM (a+1)+2)=YM (a+3)from dg (b:=2) om];exact cp om)) rfl rfl (congrArg (fun N=>[cL.gone,cL.row 1 ((((u::r).map fun ak=>[gq ak]).drop 0).take (r.length+1)++[[V.d (.int .u8 N)]])]) H),rfl,rfl⟩
          ·have p:(s.drop (a+1)).length<=2:=dR (a:=2) Y;have f:dD (s.drop a)=none:=by
            rw[c]at p;rw[o,t,c,mh]
            match A,p with
            |[],_=>rfl
            |[_],_=>rfl
            |_::_::_,ab=>simp at ab
           exact n5 e (n6 i f) Z
         ·repeat refine a6 G ?_
          have f:dD (s.drop a)=none:=by
           rw[o,t,mh];cases D:s.drop (a+1)with
           |nil=>rfl
           |cons O A=>
            have ac:=wC y D;have ae:=wC X D;have af:=wC R D;have ag:=wC G D;simp only[ac,ae,af,ag,or_self,if_false]
          exact n5 e (n6 i f) Z
  ·have B:s.length<=a:=dR ab;have f:dD (s.drop a)=none:=by rw[YR B];rfl
   exact n5 e (n6 i f) Z
 ·cases dD (s.drop (d+1))with
  |none=>rfl
  |some l=>rfl
inductive Gz where
 |ok (kind:Nat) (text:List UInt8) (n:Nat)
 |err (e:Nat)
def eU(t:List UInt8)(n:Nat):Gz:=if O9 t then .ok 5 t n else if cM t then .ok 1 t n else if dB t then .ok 2 t n else .err 4
def gj(l t:List UInt8)(n:Nat)(c:UInt8):Gz:=if 19<t.length∨(1<t.length/\c=48)∨(l.drop n).head?.any isWord=true then .err 3 else .ok 3 t n
def eL:List UInt8->Gz
 |[]=>.err 3
 |c::a=>
  if e4 c||dY c then eU ((c::a).take (dp isWord (c::a))) (dp isWord (c::a))
  else if isDigit c then gj (c::a) ((c::a).take (dp isDigit (c::a))) (dp isDigit (c::a)) c
  else if c=34 then match dD a with
   |some (d,b)=>.ok 4 d (b+1)
   |none=>.err 3
  else if fN (c::a)=[]then .err 3 else .ok 6 (fN (c::a)) (fN (c::a)).length
def Ch(b:Nat)(t:List UInt8)(a:Nat):V:=.agg [b3 b,cq t,b3 a]
def GA(a:Nat)(e:Gz)(d:dC):Prop:=match e with
 |.ok c b f=>d=.ret (.dV [Ch c b a,b3 (a+f),b3 0])
 |.err g=>∃c b,d=.ret (.dV [Ch c b a,b3 a,b3 g])
theorem e2{a:Nat}{g:Gz}{d:V}{f e:cL}(i:GA a g (.ret d))(b:bd 0 d=true):cP 0 (.ret d) [f,e] fun h c=>c=[]/\cN h=true/\GA a g h:=
 .drop 0 rfl rfl b (.now rfl ⟨rfl,b,i⟩)
theorem Mv(l:List UInt8):(fN l).length<=3:=by
 unfold fN;split
 ·rename_i b a;have:=List.mem_of_find?_eq_some a;simp only[n4,List.mem_cons,List.not_mem_nil,or_false]at this;rcases this with rfl|rfl|rfl|rfl|rfl|rfl|rfl<;>simp
 ·split
  ·simp
  ·split<;>simp
theorem CS(s:List UInt8)(a:Nat)(B:a<s.length)(v:s.length<4294967296){J:VS}{Q:dC->VS->Prop}(M:∀R,GA a (eL (s.drop a)) R->Q R J):
  b1 C b7 Eu [cq s,b3 a] J Q:=by
 refine b1.closed (P:=GA a (eL (s.drop a))) ?_ Z M;have A:s.drop a=s[a]::s.drop (a+1):=YO B;refine cz ?_;refine b0 Z (b4 s[a] (by rw[cv];exact YQ B) ?_);have r:(e4 s[a]||dY s[a])=true->eL (s.drop a)=eU ((s.drop a).take (dp isWord (s.drop a))) (dp isWord (s.drop a)):=fun h=>by
  rw[A];simp only[eL,h,if_true]
 have w:(s.take (a+dp isWord (s.drop a))).drop a=(s.drop a).take (dp isWord (s.drop a)):=by rw[List.drop_take];congr 1;omega
 have z:a+dp isWord (s.drop a)<=s.length:=by have:=n3 isWord (s.drop a);rw[YN]at this;omega
 have m:((s.drop a).take (dp isWord (s.drop a))).length<4294967296:=by rw[List.length_take,YN];omega
 refine qJ s[a] ?_;apply aZ<;>intro q
 ·have c:=r (by rw[q];rfl);repeat refine a8 q ?_
  refine xM zr s a om v ?_;refine b0 Z (b0 Z (a1 ⟨om,z⟩ ?_));rw[w];refine qL _ m ?_;apply aZ<;>intro f
  ·refine e2 ?_ Z;rw[c,eU,if_pos f];rfl
  ·refine fV _ m ?_;apply aZ<;>intro k
   ·refine e2 ?_ Z;rw[c,eU,if_neg (by rw[f];simp),if_pos k];rfl
   ·refine fk _ m ?_;apply aZ<;>intro o
    ·refine e2 ?_ Z;rw[c,eU,if_neg (by rw[f];simp),if_neg (by rw[k];simp),if_pos o];rfl
    ·refine e2 ?_ Z;rw[c,eU,if_neg (by rw[f];simp),if_neg (by rw[k];simp),if_neg (by rw[o];simp)];exact⟨0,_,Z⟩
 ·repeat refine a6 q ?_
  refine qK s[a] ?_;repeat refine a6 q ?_
  apply aZ<;>intro y
  ·have c:=r (by rw[y];simp);refine xM zr s a om v ?_;refine b0 Z (b0 Z (a1 ⟨om,z⟩ ?_));rw[w];refine qL _ m ?_;apply aZ<;>intro f
   ·refine e2 ?_ Z;rw[c,eU,if_pos f];rfl
   ·refine fV _ m ?_;apply aZ<;>intro k
    ·refine e2 ?_ Z;rw[c,eU,if_neg (by rw[f];simp),if_pos k];rfl
    ·refine fk _ m ?_;apply aZ<;>intro o
     ·refine e2 ?_ Z;rw[c,eU,if_neg (by rw[f];simp),if_neg (by rw[k];simp),if_pos o];rfl
     ·refine e2 ?_ Z;rw[c,eU,if_neg (by rw[f];simp),if_neg (by rw[k];simp),if_neg (by rw[o];simp)];exact⟨0,_,Z⟩
  ·have x:(e4 s[a]||dY s[a])=false:=by rw[q,y];rfl
   refine n1 s[a] ?_;apply aZ<;>intro f
   ·have c:eL (s.drop a)=gj (s.drop a) ((s.drop a).take (dp isDigit (s.drop a))) (dp isDigit (s.drop a)) s[a]:=by
     rw[A];simp only[eL,x,f,if_true];rfl
    have D:(s.take (a+dp isDigit (s.drop a))).drop a=(s.drop a).take (dp isDigit (s.drop a)):=by rw[List.drop_take];congr 1;omega
    have E:a+dp isDigit (s.drop a)<=s.length:=by have:=n3 isDigit (s.drop a);rw[YN]at this;omega
    refine xM AF s a om v ?_;refine b0 Z (b0 Z (a1 ⟨om,E⟩ ?_));refine b8 ?_;refine b8 ?_;refine b8 ?_;rw[<-D]at c;have N:∀{P:Prop} [Decidable P],P->(if P then Gz.err 3 else Gz.ok 3 ((s.take (a+dp isDigit (s.drop a))).drop a) (dp isDigit (s.drop a)))=.err 3:=fun h=>if_pos h;have fe:∀{S:V},(∃W X,dC.ret S=.ret (.dV [Ch W X a,b3 a,b3 3]))->eL (s.drop a)=.err 3->GA a (eL (s.drop a)) (.ret S):=fun q f=>by rw[f];exact q
    apply aZ<;>intro e
    ·repeat refine a8 e ?_
     refine e2 (fe ⟨3,_,Z⟩ ?_) Z;rw[c,gj,if_pos (.inl (fF (a:=19) e))]
    ·have Y:=dR (a:=19) e;repeat refine a6 e ?_
     apply aZ<;>intro l
     ·have K:=fF (a:=1) l;repeat (first|refine a8 l ?_|refine a6 e ?_)
      apply aZ<;>intro j
      ·have u:s[a]=48:=UInt8.toNat_inj.1 (CM (b:=48) j);repeat (first|refine a8 j ?_|refine a6 e ?_)
       refine e2 (fe ⟨3,_,Z⟩ ?_) Z;rw[c,gj,if_pos (.inr (.inl ⟨K,u⟩))]
      ·have u:s[a]≠48:=fun O=>Er (b:=48) j (by rw[O];rfl);repeat (first|refine a6 j ?_|refine a6 e ?_)
       apply aZ<;>intro g
       ·have n:a+dp isDigit (s.drop a)<s.length:=fF g;have p:(s.drop a).drop (dp isDigit (s.drop a))=s[a+dp isDigit (s.drop a)]::s.drop (a+dp isDigit (s.drop a)+1):=by rw[YT];exact YO n
        repeat (first|refine a8 g ?_|refine a6 e ?_|refine a6 j ?_)
        refine b0 Z (b4 s[a+dp isDigit (s.drop a)] (by rw[cv];exact YQ n) ?_);repeat (first|refine a8 g ?_|refine a6 e ?_|refine a6 j ?_)
        refine xL s[a+dp isDigit (s.drop a)] ?_;repeat (first|refine a8 g ?_|refine a6 e ?_|refine a6 j ?_)
        apply aZ<;>intro i
        ·repeat (first|refine a8 i ?_|refine a6 e ?_|refine a6 j ?_)
         refine e2 (fe ⟨3,_,Z⟩ ?_) Z;rw[c,gj,if_pos (.inr (.inr (by rw[p];exact i)))]
        ·repeat (first|refine a6 i ?_|refine a6 e ?_|refine a6 j ?_)
         refine e2 ?_ Z;rw[c,gj,if_neg]
         ·rfl
         ·rintro(h|⟨h,t⟩|h)
          ·omega
          ·exact u t
          ·rw[p]at h;have i:isWord s[a+dp isDigit (s.drop a)]=false:=i;simp only[List.head?_cons,Option.any_some,i]at h;cases h
       ·have n:s.length<=a+dp isDigit (s.drop a):=dR g;repeat (first|refine a6 g ?_|refine a6 e ?_|refine a6 j ?_)
        refine e2 ?_ Z;rw[c,gj,if_neg]
        ·rfl
        ·rintro(h|⟨h,t⟩|h)
         ·omega
         ·exact u t
         ·rw[YT,YR n]at h;cases h
     ·have K:=dR (a:=1) l;repeat (first|refine a6 l ?_|refine a6 e ?_)
      apply aZ<;>intro g
      ·have n:a+dp isDigit (s.drop a)<s.length:=fF g;have p:(s.drop a).drop (dp isDigit (s.drop a))=s[a+dp isDigit (s.drop a)]::s.drop (a+dp isDigit (s.drop a)+1):=by rw[YT];exact YO n
       repeat (first|refine a8 g ?_|refine a6 e ?_|refine a6 l ?_)
       refine b0 Z (b4 s[a+dp isDigit (s.drop a)] (by rw[cv];exact YQ n) ?_);repeat (first|refine a8 g ?_|refine a6 e ?_|refine a6 l ?_)
       refine xL s[a+dp isDigit (s.drop a)] ?_;repeat (first|refine a8 g ?_|refine a6 e ?_|refine a6 l ?_)
       apply aZ<;>intro i
       ·repeat (first|refine a8 i ?_|refine a6 e ?_|refine a6 l ?_)
        refine e2 (fe ⟨3,_,Z⟩ ?_) Z;rw[c,gj,if_pos (.inr (.inr (by rw[p];exact i)))]
       ·repeat (first|refine a6 i ?_|refine a6 e ?_|refine a6 l ?_)
        refine e2 ?_ Z;rw[c,gj,if_neg]
        ·rfl
        ·rintro(h|⟨h,t⟩|h)
         ·omega
         ·omega
         ·rw[p]at h;have i:isWord s[a+dp isDigit (s.drop a)]=false:=i;simp only[List.head?_cons,Option.any_some,i]at h;cases h
      ·have n:s.length<=a+dp isDigit (s.drop a):=dR g;repeat (first|refine a6 g ?_|refine a6 e ?_|refine a6 l ?_)
       refine e2 ?_ Z;rw[c,gj,if_neg]
       ·rfl
       ·rintro(h|⟨h,t⟩|h)
        ·omega
        ·omega
        ·rw[YT,YR n]at h;cases h
   ·have d:eL (s.drop a)=if s[a]=34 then(match dD (s.drop (a+1))with
      |some (b,H)=>.ok 4 b (H+1)
      |none=>.err 3)else if fN (s.drop a)=[]then .err 3 else .ok 6 (fN (s.drop a)) (fN (s.drop a)).length:=by
     rw[A];simp only[eL,x,f];rfl
    apply aZ<;>intro k
    ·have F:s[a]=34:=UInt8.toNat_inj.1 (CM (b:=34) k);rw[if_pos F]at d;refine Ey s a B v ?_;cases I:dD (s.drop (a+1))with
     |none=>
      rw[I]at d;refine e2 ?_ Z;rw[d];exact⟨0,[],Z⟩
     |some U=>
      obtain⟨b,H⟩:=U;rw[I]at d;refine e2 ?_ Z;rw[d];show dC.ret _=dC.ret (.dV [_,b3 (a+(H+1)),_]);rw[show a+(H+1)=a+1+H from by omega];rfl
    ·have F:s[a]≠34:=fun O=>Er (b:=34) k (by rw[O];rfl);rw[if_neg F]at d;refine b0 Z (a1 ⟨om,YP _⟩ ?_);rw[List.take_length];refine Gw (s.drop a) ?_;apply aZ<;>intro o
     ·have G:fN (s.drop a)=[]:=of_decide_eq_true o;refine e2 ?_ Z;rw[d,if_pos G];exact⟨6,_,Z⟩
     ·have G:fN (s.drop a)≠[]:=of_decide_eq_false o;refine b8 ?_;refine b8 ?_;refine b8 ?_;refine b8 ?_;refine e2 ?_ Z;rw[d,if_neg G];have T:(fN (s.drop a)).length<=3:=Mv _;show dC.ret (.dV [_,V.d (.int .i64 (IntKind.i64.wrap (YM a+YM (fN (s.drop a)).length))),_])=dC.ret (.dV [_,b3 (a+(fN (s.drop a)).length),_]);rw[dg om];rfl
structure Tok where
 kind:Nat
 text:List UInt8
 off:Nat
def n7(t:Tok):List D:=[.int .i64 (YM t.kind),.str t.text,.int .i64 (YM t.off)]
inductive xN where
 |ok (l:List Tok)
 |err (off e:Nat)
def xN.cons(t:Tok):xN->xN
 |.ok c=>.ok (t::c)
 |.err a b=>.err a b
def xN.KR(b:List Tok):xN->xN
 |.ok d=>.ok (b++d)
 |.err a c=>.err a c
theorem wD(a:xN):a.KR []=a:=by cases a<;>rfl
theorem Ci(b:List Tok)(t:Tok)(a:xN):(a.cons t).KR b=a.KR (b++[t]):=by cases a<;>simp[xN.cons,xN.KR]
def fy(b:List UInt8):Nat->Nat->xN
 |0,_=>.ok []
 |f+1,a=>
  if b.length<=a then .ok [⟨0,[],b.length⟩]
  else match eL (b.drop a)with
   |.err g=>.err a g
   |.ok e d c=>(fy b f (a+c+cZ false (b.drop (a+c)))).cons ⟨e,d,a⟩
def gk(a:List UInt8):xN:=if 65536<a.length then .err 0 7 else fy a (a.length+1) (cZ false a)
theorem AK:∀(h:Nat) (j:List UInt8),j.length<=h->∀p f,dD j=some (p,f)->1<=f/\f<=j.length:=by
 intro h;induction h with
 |zero=>
  intro j i p f a;cases j with
  |nil=>rw[dD.eq_def]at a;cases a
  |cons _ _=>simp at i
 |succ h v=>
  intro j i p f a;cases j with
  |nil=>rw[dD.eq_def]at a;cases a
  |cons o l=>
   have n:l.length<=h:=by simpa using i
   have step:∀(k:List UInt8) (t:Nat) (s:UInt8),k.length+t<=l.length+1->k.length<=h->((dD k).map fun w=>(s::w.1,w.2+t))=some (p,f)->1<=f/\f<=(o::l).length:=by
    intro k t s d c b;cases g:dD k with
    |none=>rw[g]at b;cases b
    |some u=>
     rw[g]at b;cases b;have:=v k c u.1 u.2 g;simp only[YU];omega
   by_cases d:o=34
   ·subst d;rw[qM]at a;cases a;simp
   ·by_cases c:o<32
    ·rw[AH d c]at a;cases a
    ·by_cases b:o=92
     ·subst b;rw[mh]at a;cases l with
      |nil=>cases a
      |cons x e=>
       have m:e.length+1<=h:=by simpa using n
       simp only at a;split at a
       ·exact step e 2 _ sm om a
       ·split at a
        ·exact step e 2 _ sm om a
        ·split at a
         ·cases e with
          |nil=>cases a
          |cons s q=>
           cases q with
           |nil=>cases a
           |cons u r=>
            simp only at a;split at a
            ·exact step r 4 _ sm (by simp at m;omega) a
            ·cases a
         ·cases a
     ·rw[u6 d c b]at a;exact step l 1 o om n a
theorem Pd(l:List UInt8):(fN l).length<=l.length:=by
 unfold fN;split
 ·rename_i b a;have:=List.find?_some a;have:c3 l b=true:=this;rw[c3,YW]at this;exact this.length_le
 ·split
  ·simp
  ·split<;>simp
theorem I8{c:UInt8}(a:(e4 c||dY c)=true):isWord c=true:=by
 simp only[isWord];rw[a];rfl
theorem mi{l:List UInt8}{j n:Nat}{t:List UInt8}(a:eL l=.ok j t n):0<n/\n<=l.length:=by
 cases l with
 |nil=>cases a
 |cons h g=>
  simp only[eL]at a;have c:=n3 isWord (h::g);have f:=n3 isDigit (h::g);split at a
  ·rename_i d;have b:0<dp isWord (h::g):=by rw[iz,if_pos (I8 d)];omega
   unfold eU at a;split at a
   ·cases a;exact⟨b,c⟩
   ·split at a
    ·cases a;exact⟨b,c⟩
    ·split at a
     ·cases a;exact⟨b,c⟩
     ·cases a
  ·split at a
   ·rename_i d;have b:0<dp isDigit (h::g):=by rw[iz,if_pos d];omega
    unfold gj at a;split at a
    ·cases a
    ·cases a;exact⟨b,f⟩
   ·split at a
    ·split at a
     ·rename_i k m i;cases a;have:=AK _ _ (YP _) _ _ i;simp only[YU];omega
     ·cases a
    ·split at a
     ·cases a
     ·rename_i e;cases a;exact⟨List.length_pos_iff.2 e,Pd _⟩
def I9(d:xN)(c:dC):Prop:=match d with
 |.ok g=>∃e b,c=.ret (.dV [.d (.ps e 0 3 b (g.map n7)),b3 0,b3 0])
 |.err a f=>c=.ret (.dV [.d .cn,b3 a,b3 f])
def X3:Nat->Bool:=fun a=>YX a 22
def jt(a:List Tok):cL:=.row 3 (a.map fun b=>(n7 b).map V.d)
def W7(d:List UInt8)(b:jl):List Tok->VS
 |[]=>[.box [.d .cn],.box [.d (.int .i64 0)],.box [.d (.int .i64 0)],.box [.d .cn],.box [cq d],.eG false,.loop b]
 |c::a=>[.box [.d .cn],.box [.d (.int .i64 0)],.box [.d (.int .i64 0)],.box [.ms 7 3 0 (a.length+1) (a.length+1)],.box [cq d],.eG false,.loop b,jt (c::a)]
def Ja(b:List UInt8)(a:Nat×List Tok):Prop:=
 a.1<=b.length/\a.2.length<=a.1/\∃c,b.length-a.1<c/\fy b (b.length+1) (cZ false b)=(fy b c a.1).KR a.2
theorem AL{b:List UInt8}{a f g n:Nat}{t:List UInt8}{acc:List Tok}(k:a<b.length)(j:b.length-a<f+1)(i:acc.length<=a)(d:eL (b.drop a)=.ok g t n) 
  (e:fy b (b.length+1) (cZ false b)=(fy b (f+1) a).KR acc):Ja b (a+n+cZ false (b.drop (a+n)),acc++[⟨g,t,a⟩]):=by
 have h:=mi d;rw[YN]at h;have c:=j9 false (b.drop (a+n));rw[YN]at c;refine⟨by show a+n+cZ false (b.drop (a+n))<=b.length;omega,by show(acc++[_]).length<=a+n+cZ false (b.drop (a+n));simp;omega,f,by show b.length-(a+n+cZ false (b.drop (a+n)))<f;omega,?_⟩;rw[e];show _=(fy b f (a+n+cZ false (b.drop (a+n)))).KR (acc++[⟨g,t,a⟩]);rw[<-Ci];congr 1;rw[fy,if_neg om,d]
theorem wE{l:List UInt8}{b:Nat}(a:eL l=.err b):b≠0:=by
 cases l with
 |nil=>cases a;decide
 |cons c d=>
  simp only[eL,eU,gj]at a;repeat' split at a
  all_goals first|(cases a;decide)|cases a
theorem Ez{a:List UInt8}{c f g:Nat}{b:List Tok}(i:a.length<=65536)(h:c<a.length)(e:eL (a.drop c)=.err g) 
  (d:fy a (a.length+1) (cZ false a)=(fy a (f+1) c).KR b):gk a=.err c g:=by
 rw[gk,if_neg om,d,fy,if_neg om,e];rfl
theorem Jb{a:List UInt8}{e f:Nat}{b:List Tok}(g:a.length<=65536)(d:a.length<=e) 
  (c:fy a (a.length+1) (cZ false a)=(fy a (f+1) e).KR b):gk a=.ok (b++[⟨0,[],a.length⟩]):=by
 rw[gk,if_neg om,c,fy,if_pos d];rfl
theorem k6{a:Nat}(b:(!decide (YM a=0))=false):a=0:=by
 rw[Bool.not_eq_false']at b;exact CM (b:=0) b
theorem CT(b:Nat->Nat)(a:List Tok):dH b (jt a)=jt a:=by
 simp only[jt,dH];congr 1;rw[List.map_map];exact YZ fun c _=>Z
theorem KS(b:Nat)(a:List Tok):fG b (jt a)=true:=by
 simp only[jt,fG,List.all_map];exact List.all_eq_true.2 fun c _=>Z
theorem Jc(a:List Tok):oK (a.map fun b=>(n7 b).map V.d)=some (a.map n7):=by
 induction a with
 |nil=>rfl
 |cons b d c=>
  show(match some (n7 b),oK (d.map fun b=>(n7 b).map V.d)with
   |some e,some f=>some (e::f)
   |_,_=>none)=_
  rw[c];rfl
theorem jQ(n:Nat):YX n n=true:=Nat.beq_refl n
theorem EA{c:VS}(b:Nat)(a:List Tok)(n:Nat)(f:n=a.length)(h:nth c b=some (jt a)):
  cP 0 (.ret (.dV [.ms b 3 0 n n,b3 0,b3 0])) c fun g e=>e=[]/\cN g=true/\I9 (.ok a) g:=by
 refine cP.freeze b h (Jc a) ⟨fun _=>⟨Z,by simp[f]⟩,tv,tv,tv⟩ (fun d=>?_);refine cP.drop 0 (by cases c.set b cL.gone<;>rfl) (by rw[ln]) ?_ ?_
 ·show O0 0 (.ret (.dV [nf b d (a.map n7) (.ms b 3 0 n n),b3 0,b3 0]))=true;rw[nf,jQ];rfl
 ·refine cP.now Z ⟨Z,?_,d,n,?_⟩
  ·show cN (.ret (.dV [nf b d (a.map n7) (.ms b 3 0 n n),b3 0,b3 0]))=true;rw[nf,jQ];rfl
  ·show dC.ret (.dV [nf b d (a.map n7) (.ms b 3 0 n n),b3 0,b3 0])=_;rw[nf,jQ];show dC.ret (.dV [.d (.ps d (0*3) 3 n (((a.map n7).drop 0).take n)),b3 0,b3 0])=_;rw[eH _ _ (by simp[f])]
theorem u7(a:List Tok)(n:Nat)(b:n=a.length)(t:Tok):some (cL.row 3 (((a.map fun t=>(n7 t).map V.d).drop 0).take n++[(n7 t).map V.d]))=some (jt (a++[t])):=by
 rw[jt,List.map_append,eH _ _ (by simp[b])];rfl
theorem Mw{b:Nat->Nat}(a:List Tok)(n:Nat)(c:n=a.length)(t:Tok):some (cL.row 3 (((a.map fun t=>(n7 t).map V.d).drop 0).take n++[(n7 t).map V.d]))=some (dH b (jt (a++[t]))):=by
 rw[CT,u7 a n c t]
theorem RZ(a:List Tok)(t:Tok):some (cL.box [.ms 10 3 0 (a.length+1+1) (a.length+1+1)])=some (cL.box [.ms 10 3 0 ((a++[t]).length+1) ((a++[t]).length+1)]):=by simp
theorem KT{b n:Nat}{a:List Tok}{e:Tok}(d:(e::a).length<=b)(c:b<=65536)(f:n=1):(a.length+1+n)*32<=eF/\a.length+1+n<=eF:=by
 simp only[YU]at d;unfold eF;omega
theorem Pe(s:List UInt8)(E:s.length<4294967296){y:VS}{B:dC->VS->Prop}(z:∀g,I9 (gk s) g->B g y):b1 C b7 ys [cq s] y B:=by
 refine b1.closed (P:=I9 (gk s)) ?_ Z z;refine cA X3 (fun _=>Z) ?_;apply aZ<;>intro n
 ·have j:=fF (a:=65536) n;refine a7 0 ⟨Z,Z,?_⟩;rw[gk,if_pos j];rfl
 ·have j:=dR (a:=65536) n;refine b9 ?_;refine b9 ?_;refine sB s 0 om om ?_;have u:=j9 false s;refine cl.less (eW:=[(3,b3 (cZ false s)),(0,.rN 6),(1,.bp 4 0)]) ⟨int_eq (by rw[Nat.zero_add];rfl),rfl,rfl,tv⟩ ?_;refine cl.iter (fun v:Nat×List Tok=>[(3,b3 v.1),(0,.rN 6),(1,.bp 4 0)]) (fun v=>W7 s _ v.2) (fun v=>s.length-v.1) (Ja s) ?_ (cZ false s,[]) ⟨u,Nat.zero_le _,s.length+1,om,(wD _).symm⟩;rintro⟨a,i⟩ ⟨x,d,w,m,f⟩;have x:a<=s.length:=x;have d:i.length<=a:=d;have m:s.length-a<w:=m;have f:fy s (s.length+1) (cZ false s)=(fy s w a).KR i:=f;obtain⟨w,rfl⟩:∃l,w=l+1:=⟨w-1,om⟩;cases i with
  |nil=>
   apply aZ<;>intro n
   ·have c:a<s.length:=fF n;refine CS s a c om (fun g e=>?_);cases b:eL (s.drop a)with
    |ok l r k=>
     rw[b]at e;obtain rfl:g=_:=e;refine gT.intro ?_;have o:=mi b;rw[YN]at o;intro A;refine a1 Z (a1 ⟨YL Z,YL Z⟩ ?_);refine sB s (a+k) om om ?_;have h:=j9 false (s.drop (a+k));rw[YN]at h;refine⟨(a+k+cZ false (s.drop (a+k)),[]++[⟨l,r,a⟩]),?_,?_,?_,Z,Z⟩
     ·exact AL (acc:=[]) c m d b f
     ·show s.length-(a+k+cZ false (s.drop (a+k)))<s.length-a;omega
     ·exact .pick 7 [0,1,2,3,4,5,6,9] ⟨Z,Z,Z,tv⟩ Z Z Z Z Z dc ⟨Z,Z,Z,Z,Z,Z,Z,Z,Z,Z,Z,Z,Z,Z,Z,Z,tv⟩
    |err F=>
     rw[b]at e;obtain⟨l,r,rfl⟩:=e;refine gT.intro ?_;have q:=wE b;apply aZ<;>intro p
     ·repeat refine b8 ?_
      refine a7 0 ⟨Z,Z,?_⟩;rw[Ez j c b f];rfl
     ·exact absurd (k6 p) q
   ·have c:s.length<=a:=dR n;refine gT.intro ?_;intro A;refine a1 Z (a1 ⟨YL Z,YL Z⟩ ?_);rw[Jb j c f];exact EA 8 [⟨0,[],s.length⟩] 1 Z Z
  |cons t g=>
   apply aZ<;>intro n
   ·have c:a<s.length:=fF n;refine CS s a c om (fun D e=>?_);cases b:eL (s.drop a)with
    |ok l r k=>
     rw[b]at e;obtain rfl:D=_:=e;refine gT.intro ?_;have o:=mi b;rw[YN]at o;intro A;refine a1 Z (a1 ⟨Z,Z,by simp[jt],YP _,KT d om rfl⟩ ?_);refine a6 Z (a6 (fg (g.length+1)) ?_);refine sB s (a+k) om om ?_;have h:=j9 false (s.drop (a+k));rw[YN]at h;refine⟨(a+k+cZ false (s.drop (a+k)),(t::g)++[⟨l,r,a⟩]),?_,?_,?_,Z,Z⟩
     ·exact AL c m d b f
     ·show s.length-(a+k+cZ false (s.drop (a+k)))<s.length-a;omega
     ·refine .pick 7 [0,1,2,3,4,5,6,10] ⟨Z,Z,Z,tv⟩ Z Z Z Z Z dc ⟨Z,Z,Z,Z,Z,Z,?_,Z,Z,Z,Z,Z,Z,Z,?_,KS _ _,tv⟩
      ·exact RZ g ⟨l,r,a⟩
      ·exact Mw (t::g) (g.length+1) Z ⟨l,r,a⟩
    |err F=>
     rw[b]at e;obtain⟨l,r,rfl⟩:=e;refine gT.intro ?_;have q:=wE b;apply aZ<;>intro p
     ·repeat refine b8 ?_
      refine a7 0 ⟨Z,Z,?_⟩;rw[Ez j c b f];rfl
     ·exact absurd (k6 p) q
   ·have c:s.length<=a:=dR n;refine gT.intro ?_;intro A;refine a1 Z (a1 ⟨Z,Z,by simp[jt],YP _,KT d om rfl⟩ ?_);refine a6 Z (a6 (fg (g.length+1)) ?_);rw[Jb j c f];refine EA 9 (t::g++[⟨0,[],s.length⟩]) (g.length+1+1) sm ?_;exact u7 (t::g) (g.length+1) Z ⟨0,[],s.length⟩
end Go.Proofs.YtpejealjkmhkgaaGreatDoor
namespace Go.VM
open Go.AM
section
variable{C:dU} {cD:FuncId->List Value->Option Value}
theorem k7(b:Nat->Nat)(a:dC)(d:cN a=true):mf b a=a:=by
 cases a with
 |ret c=>simp only[mf];rw[jp _ c d]
 |eE c=>simp only[mf];rw[jp _ c d]
mutual
theorem KU:∀(k:Nat) (v:V),bd 0 v=true->bd k v=true
 |_,.d _,_=>by simp only[bd]
 |_,.bp _ _,h=>by simp only[bd]at h;exact absurd (gi h) (YS _)
 |_,.ptr _ _ _ _,h=>by simp only[bd]at h;exact absurd (gi h) (YS _)
 |_,.fp _ _ _,_=>by simp only[bd]
 |_,.ms _ _ _ _ _,h=>by simp only[bd]at h;exact absurd (gi h) (YS _)
 |_,.map _,h=>by simp only[bd]at h;exact absurd (gi h) (YS _)
 |k,.fn _ a c,h=>by simp only[bd,YV]at h⊢;exact⟨gl k a h.1,gl k c h.2⟩
 |_,.rN _,h=>by simp only[bd]at h;exact absurd (gi h) (YS _)
 |k,.iface _ v,h=>by simp only[bd]at h⊢;exact KU k v h
 |k,.agg l,h=>by simp only[bd]at h⊢;exact gl k l h
 |k,.dV l,h=>by simp only[bd]at h⊢;exact gl k l h
theorem gl:∀(k:Nat) (l:List V),e5 0 l=true->e5 k l=true
 |_,[],_=>by simp only[e5]
 |k,v::l,h=>by simp only[e5,YV]at h⊢;exact⟨KU k v h.1,gl k l h.2⟩
end
theorem b1.one{f:FuncId}{dN c b:List V}{P:dC->List V->Prop}(n:b1 C cD f dN [.box b] fun e h=>∃a,h=[.box a]/\cN e=true/\e5 0 a=true/\P e a) 
  (j:Nat) {d:VS} {v:dC->VS->Prop} (i:nth d j=some (.box b)) (k:e5 0 b=true) (g:e5 1 dN=true) (t:c=gU (jg [j] d.length) dN) (o:∀e a,P e a->v e (d.set j (.box a))):
  b1 C cD f c d v:=by
 refine n.frame [j] Z sm (fun w u l=>?_) g t (fun r p l _=>?_)
 ·cases w with
  |zero=>
   obtain rfl:j=u:=by simpa using l
   refine⟨.box b,Z,?_,gl 1 b k⟩;rw[<-cv,i];simp only[dH,fj _ b k]
  |succ w=>simp at l
 ·obtain⟨a,rfl,m,s,q⟩:=l;rw[k7 _ _ m];simp only[List.map_cons,List.map_nil,dH,fj _ a s,merge,List.append_nil];exact o r a q
theorem sE{a:VS}{e:Nat}{o:cL}(d:nth a e=some o):a.set e o=a:=by
 rw[cv]at d;obtain⟨c,b⟩:=List.getElem?_eq_some_iff.1 d;rw[<-b];exact List.set_getElem_self c
end
end Go.VM
namespace Go.Proofs.YtpejealjkmhkgaaGreatDoor
open Go.AM Go.VM
structure Rd where
 b:Nat
 cap:Nat
 ts:List Tok
def ub(a:Rd)(p:Nat):List V:=[.d (.ps a.b 0 3 a.cap (a.ts.map n7)),b3 p]
def dq(a:Rd)(p:Nat):cL:=.box (ub a p)
def R0(t:Tok):V:=Ch t.kind t.text t.off
theorem EB{b:Rd}{p:Nat}{t:Tok}(a:b.ts[p]?=some t):nth (b.ts.map n7) p=some (n7 t):=by
 rw[cv,List.getElem?_map,a];rfl
theorem ei(d:Rd)(p:Nat)(t:Tok)(c:d.ts[p]?=some t)(e:Nat){a:VS}{g:dC->VS->Prop}(b:nth a e=some (dq d p))(f:g (.ret (R0 t)) a):b1 C b7 B5 [.bp e 0] a g:=by
 refine b1.one (dN:=[.bp 0 0]) (P:=fun i h=>i=.ret (R0 t)/\h=ub d p) ?_ e b Z Z Z (fun i k j=>by rw[j.1,j.2];show g _ (a.set e (dq d p));rw[sE b];exact f);refine cz ?_;refine b0 Z ?_;refine b4 (n7 t) (EB c) ?_;repeat refine a1 (by repeat' (first|exact tv|exact rfl|refine b0 rfl ?_|refine b4 (n7 t) (EB c) ?_|refine And.intro ?_ ?_)) ?_
 refine a7 1 ⟨ub d p,Z,Z,Z,Z,Z⟩
def dW(t:Tok)(p:Nat):Nat:=if t.kind=0 then p else p+1
theorem dr(d:Rd)(p:Nat)(t:Tok)(g:d.ts[p]?=some t)(n:p<4294967296)(h:Nat){b:VS}{k:dC->VS->Prop}(f:nth b h=some (dq d p))(i:k (.ret (R0 t)) (b.set h (dq d (dW t p)))):b1 C b7 Ca [.bp h 0] b k:=by
 refine b1.one (dN:=[.bp 0 0]) (P:=fun l j=>l=.ret (R0 t)/\j=ub d (dW t p)) ?_ h f Z Z Z (fun l m c=>by rw[c.1,c.2];exact i);refine cz ?_;refine b0 Z ?_;refine b4 (n7 t) (EB g) ?_;repeat refine a1 (by repeat' (first|exact tv|exact rfl|refine b0 rfl ?_|refine b4 (n7 t) (EB g) ?_|refine And.intro ?_ ?_)) ?_
 apply aZ<;>intro c
 ·have a:t.kind≠0:=fun e=>by rw[e]at c;cases c
  refine a7 1 ⟨ub d (p+1),?_,Z,Z,Z,?_⟩
  ·show [cL.box [_,V.d (.int .i64 (IntKind.i64.wrap (YM p+1)))]]=_;rw[cp om];rfl
  ·rw[dW,if_neg a]
 ·have a:t.kind=0:=k6 c;refine a7 1 ⟨ub d p,Z,Z,Z,Z,?_⟩;rw[dW,if_pos a]
def dt(a b:Nat):V:=.iface RV (.agg [b3 a,b3 b])
theorem eO(f:V)(a e:Nat){b:VS}{d:dC->VS->Prop}(c:d (.eE (dt a e)) b):b1 C b7 B6 [f,b3 a,b3 e] b d:=by
 refine b9 ?_;exact c
end Go.Proofs.YtpejealjkmhkgaaGreatDoor
