/- Part of the proof. -/
import Derived.Test.YthlkhjchcjflkaaGreatDoorKAj
import Derived.Test.YthlkhjchcjflkaaGreatDoorKAi
set_option linter.all false
set_option maxHeartbeats 16000000
set_option maxRecDepth 100000
open Int renaming ofNat->Yl,ofNat_eq_natCast->Yp
open Nat renaming le_of_ble_eq_true->Ym,le_refl->Yt,not_lt_zero->Yx,not_le_of_lt->YD,beq->YJ,zero_add->YN,zero_le->YQ
open List renaming drop_eq_getElem_cons->Yn,getElem?_eq_getElem->Yo,length_drop->Yq,drop_of_length_le->Yr,length_cons->Ys,isPrefixOf_iff_prefix->Yv,find?_cons->Yw,all_eq_true->Yy,drop_drop->Yz,map_congr_left->YB,take_length->YE,take_of_length_le->YF,head?_cons->YH,drop_zero->YI,append_nil->YK,map_cons->YM,map_nil->YO
open Bool renaming and_eq_true->Yu,false_and->YA,true_and->YC,and_false->YL,true_or->YP,not_eq_false'->YR
open Option renaming any_some->YG
namespace Go.Proofs.YthlkhjchcjflkaaGreatDoor
open Go.AM Go.VM
abbrev oS:FuncId:=3
abbrev uU:FuncId:=5
abbrev kz:FuncId:=6
abbrev h8:FuncId:=7
abbrev rm:FuncId:=10
abbrev dA:FuncId:=11
abbrev oT:FuncId:=12
abbrev sV:FuncId:=13
abbrev dP:FuncId:=14
abbrev oU:FuncId:=15
abbrev uy:FuncId:=16
abbrev qa:FuncId:=17
abbrev nl:FuncId:=18
abbrev gq:FuncId:=19
abbrev dI:FuncId:=21
abbrev oV:FuncId:=22
abbrev yw:FuncId:=27
abbrev Cg:FuncId:=29
abbrev Ch:FuncId:=30
abbrev rn:FuncId:=31
abbrev jY:FuncId:=32
abbrev oW:FuncId:=33
abbrev qb:FuncId:=34
abbrev lP:FuncId:=35
abbrev Ci:FuncId:=36
abbrev pO:FuncId:=37
abbrev pP:FuncId:=38
abbrev k8:FuncId:=39
abbrev wD:FuncId:=42
abbrev vl:FuncId:=43
abbrev wE:FuncId:=44
abbrev uz:FuncId:=45
abbrev uA:FuncId:=46
abbrev sh:FuncId:=47
abbrev iz:FuncId:=48
abbrev uB:FuncId:=49
abbrev ji:FuncId:=50
abbrev dd:FuncId:=51
abbrev si:FuncId:=52
abbrev sW:FuncId:=53
abbrev iN:FuncId:=54
abbrev gJ:FuncId:=55
abbrev iO:FuncId:=56
abbrev qI:FuncId:=59
abbrev uV:FuncId:=60
abbrev r8:FuncId:=61
abbrev uW:FuncId:=62
abbrev AD:FuncId:=63
abbrev pQ:FuncId:=64
abbrev k9:FuncId:=65
abbrev pR:FuncId:=67
abbrev Cj:FuncId:=70
abbrev Ck:FuncId:=71
abbrev Cl:FuncId:=76
abbrev qJ:FuncId:=77
abbrev AE:FuncId:=78
abbrev jC:FuncId:=79
abbrev nL:FuncId:=80
abbrev r9:FuncId:=81
abbrev wF:FuncId:=82
abbrev rp:FuncId:=83
abbrev e5:FuncId:=85
abbrev Cm:FuncId:=86
abbrev wG:FuncId:=87
abbrev n6:FuncId:=88
abbrev iH:FuncId:=89
abbrev nM:FuncId:=90
abbrev e6:FuncId:=91
abbrev du:FuncId:=92
abbrev sX:FuncId:=93
abbrev gr:FuncId:=94
abbrev il:FuncId:=95
abbrev qc:FuncId:=96
abbrev nn:FuncId:=97
abbrev iP:FuncId:=98
abbrev lj:FuncId:=99
abbrev pS:FuncId:=100
abbrev sa:FuncId:=101
abbrev jZ:FuncId:=102
abbrev sb:FuncId:=104
abbrev sY:FuncId:=105
abbrev e7:FuncId:=107
abbrev sc:FuncId:=108
abbrev yW:FuncId:=110
abbrev AF:FuncId:=111
abbrev mi:FuncId:=112
abbrev uC:FuncId:=113
abbrev sZ:FuncId:=114
abbrev n7:FuncId:=115
abbrev iI:FuncId:=116
abbrev AH:FuncId:=129
abbrev EA:FuncId:=130
abbrev kG:FuncId:=131
abbrev sd:FuncId:=132
abbrev pT:FuncId:=133
abbrev ku:FuncId:=134
abbrev wH:FuncId:=135
abbrev kS:FuncId:=137
abbrev F.strings_Contains:FuncId:=138
abbrev uX:FuncId:=139
abbrev ek:FuncId:=140
abbrev kT:FuncId:=141
abbrev pU:FuncId:=142
abbrev nN:FuncId:=143
abbrev nO:FuncId:=145
abbrev s0:FuncId:=146
abbrev nP:FuncId:=147
abbrev uD:FuncId:=148
abbrev s3:FuncId:=149
abbrev rq:FuncId:=150
abbrev vm:FuncId:=151
abbrev qK:FuncId:=152
abbrev sj:FuncId:=153
abbrev sk:FuncId:=154
abbrev rr:FuncId:=155
abbrev jG:FuncId:=156
abbrev gZ:FuncId:=157
abbrev rs:FuncId:=158
abbrev fh:FuncId:=159
abbrev np:FuncId:=160
abbrev mm:FuncId:=161
abbrev lQ:FuncId:=162
abbrev sl:FuncId:=163
abbrev pj:FuncId:=164
abbrev kH:FuncId:=165
abbrev lz:FuncId:=166
abbrev pV:FuncId:=167
abbrev wI:FuncId:=168
abbrev yX:FuncId:=169
abbrev GU:FuncId:=170
abbrev wJ:FuncId:=171
abbrev nE:FuncId:=172
abbrev Cn:FuncId:=173
abbrev yY:FuncId:=174
abbrev uE:FuncId:=189
abbrev uF:FuncId:=190
abbrev EB:FuncId:=191
abbrev uY:FuncId:=192
abbrev yZ:FuncId:=193
abbrev AI:FuncId:=194
abbrev la:FuncId:=195
abbrev wK:FuncId:=197
abbrev pW:FuncId:=199
abbrev nF:FuncId:=200
abbrev qd:FuncId:=201
abbrev s4:FuncId:=202
abbrev kv:FuncId:=203
abbrev mn:FuncId:=204
abbrev jj:FuncId:=205
abbrev s5:FuncId:=206
abbrev qe:FuncId:=207
abbrev lk:FuncId:=208
abbrev iA:FuncId:=210
abbrev iQ:FuncId:=211
abbrev lR:FuncId:=212
abbrev qL:FuncId:=220
abbrev qM:FuncId:=221
abbrev GV:FuncId:=222
abbrev jv:FuncId:=223
abbrev kA:FuncId:=224
abbrev eJ:FuncId:=225
abbrev wL:FuncId:=226
abbrev vn:FuncId:=228
abbrev s6:FuncId:=229
abbrev uG:FuncId:=230
abbrev ll:FuncId:=232
abbrev jN:FuncId:=233
abbrev lc:FuncId:=234
abbrev kw:FuncId:=240
abbrev ld:FuncId:=241
abbrev s7:FuncId:=242
abbrev lS:FuncId:=250
abbrev ko:FuncId:=254
abbrev se:FuncId:=255
abbrev qN:FuncId:=256
abbrev kI:FuncId:=258
abbrev uH:FuncId:=262
abbrev kp:FuncId:=263
abbrev s8:FuncId:=264
abbrev s9:FuncId:=268
abbrev oX:FuncId:=269
abbrev qO:FuncId:=270
abbrev QT:TypeId:=80
def gg(c:UInt8):Bool:=decide (97<=Yl c.toNat)&&decide (Yl c.toNat<=122)
def eH(c:UInt8):Bool:=decide (65<=Yl c.toNat)&&decide (Yl c.toNat<=90)
def isDigit(c:UInt8):Bool:=decide (48<=Yl c.toNat)&&decide (Yl c.toNat<=57)
def isWord(c:UInt8):Bool:=gg c||eH c||isDigit c||decide (Yl c.toNat=95)
theorem vo(c:UInt8){σ:VS}{K:cZ->VS->Prop}(b:K (.ret (b0 (gg c))) σ):b3 C cn Cn [hK c] σ K:=by
 refine cA ?_;apply aZ<;>intro a
 ·exact a8 a (a8 a (dB (by simp only[gg,a,YC]) b))
 ·exact a1 a (a1 a (dB (by simp only[gg,a,YA]) b))
theorem ru(c:UInt8){σ:VS}{K:cZ->VS->Prop}(b:K (.ret (b0 (eH c))) σ):b3 C cn yX [hK c] σ K:=by
 refine cA ?_;apply aZ<;>intro a
 ·exact a8 a (a8 a (dB (by simp only[eH,a,YC]) b))
 ·exact a1 a (a1 a (dB (by simp only[eH,a,YA]) b))
theorem rv(c:UInt8){σ:VS}{K:cZ->VS->Prop}(b:K (.ret (b0 (isDigit c))) σ):b3 C cn uY [hK c] σ K:=by
 refine cA ?_;apply aZ<;>intro a
 ·exact a8 a (a8 a (dB (by simp only[isDigit,a,YC]) b))
 ·exact a1 a (a1 a (dB (by simp only[isDigit,a,YA]) b))
theorem xV(c:UInt8){σ:VS}{K:cZ->VS->Prop}(e:K (.ret (b0 (isWord c))) σ):b3 C cn wJ [hK c] σ K:=by
 refine cA ?_;refine vo c ?_;apply aZ<;>intro a
 ·exact a8 a (a8 a (dB (by simp only[isWord,a,YP]) e))
 ·refine a1 a (ru c ?_);refine a1 a ?_;apply aZ<;>intro d
  ·exact a8 d (a8 d (dB (by simp only[isWord,d,YP,Bool.or_true]) e))
  ·refine a1 d (rv c ?_);refine a1 d ?_;apply aZ<;>intro b
   ·exact a8 b (a8 b (dB (by simp only[isWord,b,YP,Bool.or_true]) e))
   ·exact a1 b (a1 b (dB (by simp only[isWord,a,d,b,Bool.false_or]) e))
structure EC (g:Nat) (p:UInt8->Bool):Prop where
 is:(C.ff.get g).isSome=true
 spec:∀(c:UInt8) {σ:VS} {K:cZ->VS->Prop},K (.ret (b0 (p c))) σ->b3 C cn g [hK c] σ K
theorem zq:EC wJ isWord:=⟨rfl,xV⟩
theorem OE:EC uY isDigit:=⟨rfl,rv⟩
theorem GW{i:Nat}{p:UInt8->Bool}(h:EC i p)(a:List UInt8)(j:a.length<4294967296){σ:VS}{K:cZ->VS->Prop}(f:K (.ret (b0 (a.all p))) σ):b3 C cn GU [cE a,.fn i [] []] σ K:=by
 refine cA ?_;refine b5.less (eh:=[(8,b6 0),(7,b6 a.length),(4,b0 false),(1,.fn i [] []),(0,cE a)]) ⟨Z,Z,Z,Z,Z,tv⟩ ?_;refine b5.iter (fun b:Nat=>[(8,b6 b),(7,b6 a.length),(4,b0 false),(1,.fn i [] []),(0,cE a)]) (fun _=>σ) (fun b=>a.length-b) (fun b=>b<=a.length/\(a.take b).all p=true) ?_ 0 ⟨om,by simp⟩;rintro b ⟨k,d⟩;apply aZ<;>intro e
 ·have e:b<a.length:=by simpa using e
  have c:a[b]?=some a[b]:=Yo e;refine bZ Z (b7 a[b] (by rw[cz];exact c) ?_);refine a8 h.is ?_;refine h.spec a[b] ?_;apply aZ<;>intro g
  ·refine dB ?_ f
   symm
   rw[List.all_eq_false];exact⟨a[b],List.getElem_mem e,by simpa using g⟩
  ·refine⟨b+1,⟨om,?_⟩,om,.same ⟨int_eq ?_,Z,Z,Z,Z,tv⟩ Z,Z,Z⟩
   ·rw[List.take_add_one,c];simp only[List.all_append,d,Option.toList,List.all_cons,List.all_nil,Bool.and_true,YC];simpa using g
   ·exact cq om
 ·have e:¬b<a.length:=by simpa using e
  refine dB ?_ f;rw[YF om]at d;exact d.symm
theorem Co(a t:List UInt8)(d:a.length<4294967281){σ:VS}{K:cZ->VS->Prop}(b:K (.ret (b0 (ky t a))) σ):b3 C cn F.strings_Contains [cE a,cE t] σ K:=by
 refine dV (args:=[.str a,.str t]) (x:=.bool (ky t a)) ?_ Z b;have:Nat.blt a.length 4294967281=true:=by rw[pG];exact decide_eq_true d
 simp only[cn,GR,YM,YO,cH];show(match Nat.blt a.length 4294967281 with|true=>_|false=>_)=_;rw[this]
def zr:List UInt8:=[32,97,110,100,32,97,110,121,32,97,115,32,98,111,111,108,32,100,101,112,114,101,99,97,116,101,100,32,101,108,115,101,32,101,120,112,111,114,116,32,102,97,108,115,101,32,102,110,32,102,111,108,100,32,102,114,111,109,32,105,102,32,105,109,112,111,114,116,32,105,110,32,105,110,116,32,108,101,110,103,116,104,32,108,101,116,32,108,105,115,116,32,109,97,116,99,104,32,109,111,100,117,108,101,32,110,111,110,101,32,110,111,116,32,111,114,32,116,101,120,116,32,116,104,101,110,32,116,114,117,101,32,116,121,112,101,32,117,115,101,32]
def OF(a:List UInt8):Bool:=ky (([32]++a)++[32]) zr
theorem ry(a:List UInt8)(c:a.length<4294967296){σ:VS}{K:cZ->VS->Prop}(b:K (.ret (b0 (OF a))) σ):b3 C cn yY [cE a] σ K:=by
 refine cA ?_;refine a7 ?_ ?_
 ·show 1+a.length<=_;omega
 refine a7 ?_ ?_
 ·show(_::a).length+1<=_;simp only[Ys];omega
 refine Co zr (([32]++a)++[32]) (by simp only[zr,Ys,List.length_nil];omega) ?_;exact b
def dp(a:List UInt8):Bool:=decide (a≠[])&&decide (a.length<=32)&&(a.head?.any gg)&&a.all isWord&& !(OF a)
def jH(a:List UInt8):Bool:=decide (a≠[])&&decide (a.length<=32)&&(a.head?.any eH)&&a.all isWord
theorem nq(s:List UInt8)(j:s.length<4294967296){σ:VS}{K:cZ->VS->Prop}(d:K (.ret (b0 (dp s))) σ):b3 C cn sZ [cE s] σ K:=by
 refine cA ?_;apply aZ<;>intro f
 ·repeat refine a8 f ?_
  cases s with
  |nil=>simp at f
  |cons g h=>
   apply aZ<;>intro c
   ·have e:(g::h).length<=32:=C3 c;refine a8 c (bZ Z (b7 g Z ?_));refine a8 c (vo g ?_);refine a8 c ?_;apply aZ<;>intro b
    ·refine a8 b (GW zq (g::h) om ?_);refine a8 b ?_;apply aZ<;>intro a
     ·refine a8 a (ry (g::h) om ?_);refine a8 a ?_;refine a8 a ?_;refine dB ?_ d;have a:(g::h).all isWord=true:=a;simp only[dp,decide_eq_true e,b,a,YH,YG];simp
     ·repeat refine a1 a ?_
      refine dB ?_ d;have a:(g::h).all isWord=false:=a;simp[dp,a]
    ·repeat refine a1 b ?_
     refine dB ?_ d;have b:gg g=false:=b;simp[dp,b]
   ·repeat refine a1 c ?_
    refine dB ?_ d;have e:¬(g::h).length<=32:=YD (wz c);simp only[dp,decide_eq_false e,YL,YA]
 ·repeat refine a1 f ?_
  refine dB ?_ d;have i:s=[]:=by simpa using f
  subst i;rfl
theorem lm(s:List UInt8)(i:s.length<4294967296){σ:VS}{K:cZ->VS->Prop}(d:K (.ret (b0 (jH s))) σ):b3 C cn AF [cE s] σ K:=by
 refine cA ?_;apply aZ<;>intro e
 ·repeat refine a8 e ?_
  cases s with
  |nil=>simp at e
  |cons f h=>
   apply aZ<;>intro b
   ·have c:(f::h).length<=32:=C3 b;refine a8 b (bZ Z (b7 f Z ?_));refine a8 b (ru f ?_);refine a8 b ?_;apply aZ<;>intro a
    ·refine a8 a (GW zq (f::h) om ?_);refine a8 a ?_;refine dB ?_ d;simp only[jH,decide_eq_true c,a,YH,YG];simp
    ·repeat refine a1 a ?_
     refine dB ?_ d;have a:eH f=false:=a;simp[jH,a]
   ·repeat refine a1 b ?_
    refine dB ?_ d;have c:¬(f::h).length<=32:=YD (wz b);simp only[jH,decide_eq_false c,YL,YA]
 ·repeat refine a1 e ?_
  refine dB ?_ d;have g:s=[]:=by simpa using e
  subst g;rfl
theorem Mo(b:List UInt8)(c:UInt8):C.ext kw ([D.str b,uR c].map cH)=some (cH (.int .i64 (indexByte b c.toNat 0))):=by
 have a:Nat.blt c.toNat 256=true:=by rw[pG];exact decide_eq_true c.toNat_lt
 show ext kw [.string ⟨⟨b⟩⟩,.int .u8 (Yl c.toNat)]=_;simp only[ext,a];rfl
theorem y0(a:List UInt8)(c:UInt8){σ:VS}{K:cZ->VS->Prop}(b:K (.ret (.d (.int .i64 (indexByte a c.toNat 0)))) σ):b3 C cn qL [cE a,hK c] σ K:=by
 refine cA ?_;refine Js (.int .i64 (indexByte a c.toNat 0)) (Mo a c) Z ?_;exact b
theorem oY(b:List UInt8)(c:UInt8){σ:VS}{K:cZ->VS->Prop}(a:K (.ret (.d (.int .i64 (indexByte b c.toNat 0)))) σ):b3 C cn uE [cE b,hK c] σ K:=by
 refine cA ?_;refine y0 b c ?_;exact a
def dQ(a p:List UInt8):Bool:=p.isPrefixOf a
theorem vp{a p:List UInt8}(c:p.length<=a.length):decide ((a.take p.length).drop 0=p)=dQ a p:=by
 rw[YI,dQ,Bool.eq_iff_iff,decide_eq_true_eq,Yv];exact⟨fun b=>⟨a.drop p.length,by have:=List.take_append_drop p.length a;rw[b]at this;exact this⟩,fun⟨d,b⟩=>by rw[<-b];simp⟩
theorem C5{b p:List UInt8}(c:b.length<p.length):dQ b p=false:=by
 rw[dQ,Bool.eq_false_iff];intro a;rw[Yv]at a;have:=a.length_le;omega
theorem y3(c p:List UInt8){σ:VS}{K:cZ->VS->Prop}(b:K (.ret (b0 (dQ c p))) σ):b3 C cn qM [cE c,cE p] σ K:=by
 refine cA ?_;apply aZ<;>intro a
 ·repeat refine a8 a ?_
  refine bZ Z ?_;refine a7 ⟨YQ _,C3 a⟩ ?_;repeat refine a8 a ?_
  exact dB (vp (C3 a)) b
 ·repeat refine a1 a ?_
  exact dB (C5 (wz a)).symm b
theorem eQ(b p:List UInt8){σ:VS}{K:cZ->VS->Prop}(a:K (.ret (b0 (dQ b p))) σ):b3 C cn uF [cE b,cE p] σ K:=by
 refine cA ?_;refine y3 b p ?_;exact a
def dX(p:UInt8->Bool)(l:List UInt8):Nat:=(l.takeWhile p).length
theorem mJ(p:UInt8->Bool)(c:UInt8)(l:List UInt8):dX p (c::l)=if p c then dX p l+1 else 0:=by
 simp only[dX,List.takeWhile_cons];split<;>simp_all
theorem oZ(p:UInt8->Bool)(l:List UInt8):dX p l<=l.length:=by
 induction l with
 |nil=>simp[dX]
 |cons b l a=>rw[mJ];split<;>simp<;>omega
theorem xW{k:Nat}{p:UInt8->Bool}(j:EC k p)(b:List UInt8)(a:Nat)(m:a<=b.length)(n:b.length<4294967296){σ:VS}{K:cZ->VS->Prop}(g:K (.ret (b6 (a+dX p (b.drop a)))) σ):
  b3 C cn EB [cE b,b6 a,.fn k [] []] σ K:=by
 refine cA ?_;refine b5.less (eh:=[(1,b6 a),(6,b6 0),(2,.fn k [] []),(0,cE b)]) ⟨Z,Z,Z,Z,tv⟩ ?_;refine b5.iter (fun c:Nat=>[(1,b6 c),(6,b6 0),(2,.fn k [] []),(0,cE b)]) (fun _=>σ) (fun c=>b.length-c) (fun c=>c<=b.length/\c+dX p (b.drop c)=a+dX p (b.drop a)) ?_ a ⟨m,Z⟩;rintro c ⟨o,d⟩;apply aZ<;>intro f
 ·have e:=fq f;have h:b[c]?=some b[c]:=Yo e;have l:b.drop c=b[c]::b.drop (c+1):=Yn e;rw[l,mJ]at d;repeat refine a8 f ?_
  refine bZ Z (b7 b[c] (by rw[cz];exact h) ?_);refine a8 f ?_;refine a8 j.is ?_;refine j.spec b[c] ?_;refine a8 f ?_;apply aZ<;>intro i
  ·rw[if_pos i]at d;exact⟨c+1,⟨om,om⟩,om,.same ⟨int_eq (cq om),Z,Z,Z,tv⟩ Z,Z,Z⟩
  ·rw[if_neg (by rw[i];simp)]at d;exact jF (show _=b6 (a+dX p (b.drop a))by rw[<-d];rfl) g
 ·have e:=dM f;rw[Yr e]at d;simp only[dX,List.takeWhile_nil,List.length_nil]at d;repeat refine a1 f ?_
  exact jF (show _=b6 (a+dX p (b.drop a))by simp only[dX];rw[<-d];rfl) g
theorem C6{n:Int}(b:0<=n)(a:n<256):IntKind.u8.wrap n=n:=by
 have:IntKind.u8.wrap n=n%256:=rfl;rw[this];omega
def lf(c:UInt8):Option Nat:=if isDigit c then some (c.toNat-48)else if decide (97<=c.toNat)&&decide (c.toNat<=102)then some (c.toNat-87)else none
def j0(c:UInt8):V:=match lf c with
 |some a=>.dN [.d (.int .u8 (Yl a)),b0 true]
 |none=>.dN [.d (.int .u8 0),b0 false]
theorem wM{c:UInt8}(a:isDigit c=true):48<=c.toNat/\c.toNat<=57:=by
 simp only[isDigit,Yu]at a;exact⟨C3 (a:=48) a.1,C3 (b:=57) a.2⟩
theorem AJ(c:UInt8){σ:VS}{K:cZ->VS->Prop}(d:K (.ret (j0 c)) σ):b3 C cn GV [hK c] σ K:=by
 refine cA ?_;refine rv c ?_;apply aZ<;>intro f
 ·refine jF ?_ d;have h:=wM f;simp only[j0,lf,f,if_pos];show V.dN [V.d (.int .u8 (IntKind.u8.wrap (Yl c.toNat-48))),_]=_;rw[C6 (by simp only[Yp];omega) (by simp only[Yp];omega)];have:Yl c.toNat-48=Yl (c.toNat-48):=by simp only[Yp];omega
  rw[this];rfl
 ·apply aZ<;>intro e
  ·have b:97<=c.toNat:=C3 (a:=97) e;repeat refine a8 e ?_
   apply aZ<;>intro g
   ·have a:c.toNat<=102:=C3 (b:=102) g;refine jF ?_ d;simp only[j0,lf,f,decide_eq_true b,decide_eq_true a,Bool.and_self,if_pos];show V.dN [V.d (.int .u8 (IntKind.u8.wrap (IntKind.u8.wrap (Yl c.toNat-97)+10))),_]=_;rw[C6 (n:=Yl c.toNat-97) (by simp only[Yp];omega) (by simp only[Yp];omega)];rw[C6 (by simp only[Yp];omega) (by simp only[Yp];omega)];have:Yl c.toNat-97+10=Yl (c.toNat-87):=by simp only[Yp];omega
    rw[this];rfl
   ·have a:¬c.toNat<=102:=YD (wz (b:=102) g);refine jF ?_ d;simp only[j0,lf,f,decide_eq_false a,YL];rfl
  ·have b:¬97<=c.toNat:=YD (wz (a:=97) e);repeat refine a1 e ?_
   refine jF ?_ d;simp only[j0,lf,f,decide_eq_false b,YA];rfl
def qP:List (List UInt8):=[[61,61,61],[58,58],[62,58],[60,58],[61,62],[61,61],[43,43]]
def wN:List UInt8:=[40,41,91,93,123,125,60,62,44,58,61,46,43,45,42,124,63,47]
def hM(a:List UInt8):List UInt8:=match qP.find? (dQ a)with
 |some b=>b
 |none=>match a with
  |[]=>[]
  |c::_=>if 0<=indexByte wN c.toNat 0 then [c]else []
theorem GX(s:List UInt8){σ:VS}{K:cZ->VS->Prop}(b:K (.ret (cE (hM s))) σ):b3 C cn AI [cE s] σ K:=by
 refine cA ?_;refine b5.loop ?_;refine bZ (m:=0) Z (a7 dc ?_);refine eQ s [61,61,61] ?_;refine aZ (fun a=>?_) (fun d=>?_)
 ·refine jF ?_ b;have a:dQ s [61,61,61]=true:=a;simp only[hM,qP,Yw,a];rfl
 have d:dQ s [61,61,61]=false:=d;refine b5.loop ?_;refine bZ (m:=1) Z (a7 dc ?_);refine eQ s [58,58] ?_;refine aZ (fun a=>?_) (fun e=>?_)
 ·refine jF ?_ b;have a:dQ s [58,58]=true:=a;simp only[hM,qP,Yw,d,a];rfl
 have e:dQ s [58,58]=false:=e;refine b5.loop ?_;refine bZ (m:=2) Z (a7 dc ?_);refine eQ s [62,58] ?_;refine aZ (fun a=>?_) (fun c=>?_)
 ·refine jF ?_ b;have a:dQ s [62,58]=true:=a;simp only[hM,qP,Yw,d,e,a];rfl
 have c:dQ s [62,58]=false:=c;refine b5.loop ?_;refine bZ (m:=3) Z (a7 dc ?_);refine eQ s [60,58] ?_;refine aZ (fun a=>?_) (fun f=>?_)
 ·refine jF ?_ b;have a:dQ s [60,58]=true:=a;simp only[hM,qP,Yw,d,e,c,a];rfl
 have f:dQ s [60,58]=false:=f;refine b5.loop ?_;refine bZ (m:=4) Z (a7 dc ?_);refine eQ s [61,62] ?_;refine aZ (fun a=>?_) (fun g=>?_)
 ·refine jF ?_ b;have a:dQ s [61,62]=true:=a;simp only[hM,qP,Yw,d,e,c,f,a];rfl
 have g:dQ s [61,62]=false:=g;refine b5.loop ?_;refine bZ (m:=5) Z (a7 dc ?_);refine eQ s [61,61] ?_;refine aZ (fun a=>?_) (fun h=>?_)
 ·refine jF ?_ b;have a:dQ s [61,61]=true:=a;simp only[hM,qP,Yw,d,e,c,f,g,a];rfl
 have h:dQ s [61,61]=false:=h;refine b5.loop ?_;refine bZ (m:=6) Z (a7 dc ?_);refine eQ s [43,43] ?_;refine aZ (fun a=>?_) (fun j=>?_)
 ·refine jF ?_ b;have a:dQ s [43,43]=true:=a;simp only[hM,qP,Yw,d,e,c,f,g,h,a];rfl
 have j:dQ s [43,43]=false:=j;have k:qP.find? (dQ s)=none:=by simp only[qP,Yw,d,e,c,f,g,h,j,List.find?_nil]
 refine b5.loop ?_;apply aZ<;>intro a
 ·repeat refine a8 a ?_
  cases s with
  |nil=>simp at a
  |cons m n=>
   refine bZ (m:=0) Z (b7 m Z ?_);refine oY wN m ?_;apply aZ<;>intro c
   ·refine bZ (m:=1) Z (a7 ⟨om,by simp⟩ ?_);refine jF ?_ b;simp only[hM,k];rw[if_pos (of_decide_eq_true c)];rfl
   ·refine jF ?_ b;simp only[hM,k];rw[if_neg (of_decide_eq_false c)];rfl
 ·repeat refine a1 a ?_
  have l:s=[]:=by simpa using a
  subst l;exact jF Z b
def dw:Bool->List UInt8->Nat
 |_,[]=>0
 |true,a::b=>1+dw (decide (a≠10)) b
 |false,a::b=>if a=47/\b.head? =some 47 then 1+dw true b else if a=32∨a=9∨a=10∨a=13 then 1+dw false b else 0
theorem qQ(b:Bool)(l:List UInt8):dw b l<=l.length:=by
 induction l generalizing b with
 |nil=>cases b<;>simp[dw]
 |cons c d a=>
  cases b with
  |true=>simp only[dw,Ys];have:=a (decide (c≠10));omega
  |false=>
   simp only[dw,Ys];split
   ·have:=a true;omega
   ·split
    ·have:=a false;omega
    ·omega
def pX(c:UInt8):Prop:=c=32∨c=9∨c=10∨c=13
instance (c:UInt8):Decidable (pX c):=by unfold pX;infer_instance
theorem C8(c:UInt8):decide (0<=indexByte [32,9,10,13] c.toNat 0)=decide (pX c):=by
 have h:∀f:UInt8,YJ f.toNat c.toNat=decide (c=f):=fun f=>by
  rw[KQ];exact decide_eq_decide.2 ⟨fun g=>(UInt8.toNat_inj.1 g).symm,fun g=>by rw[g]⟩
 simp only[indexByte,h,pX];by_cases a:c=32
 ·simp[a]
 ·by_cases b:c=9
  ·simp[a,b]
  ·by_cases d:c=10
   ·simp[a,b,d]
   ·by_cases e:c=13
    ·simp[a,b,d,e]
    ·simp[a,b,d,e]
theorem ln{c:UInt8}{b:List UInt8}(d:pX c):dw false (c::b)=1+dw false b:=by
 have a:¬(c=47/\b.head? =some 47):=by
  rintro⟨rfl,_⟩;revert d;decide
 simp only[dw,if_neg a];exact if_pos d
theorem Ju{c:UInt8}{b:List UInt8}(f:¬pX c)(e:dQ (c::b) [47,47]=false):dw false (c::b)=0:=by
 have d:¬(c=47/\b.head? =some 47):=by
  rintro⟨rfl,a⟩;cases b with
  |nil=>cases a
  |cons g b=>simp at a;subst a;simp[dQ]at e
 simp only[dw,if_neg d];exact if_neg f
theorem Cp{l:List UInt8}(a:dQ l [47,47]=true):dw false l=dw true l:=by
 rw[dQ,Yv]at a;obtain⟨b,rfl⟩:=a;show dw false (47::47::b)=dw true (47::47::b);rfl
theorem UP:∀(b:List UInt8) (a:Nat),(indexByte b 10 a= -1/\dw true b=b.length)∨∃d,d<b.length/\indexByte b 10 a=Yl (a+d)/\b[d]?=some 10/\dw true b=d+dw false (b.drop d):=by
 intro b;induction b with
 |nil=>intro a;exact .inl ⟨rfl,rfl⟩
 |cons j i k=>
  intro a;by_cases e:j=10
  ·subst e;refine .inr ⟨0,by simp,by simp[indexByte],rfl,?_⟩;rw[YI,ln dc];simp[dw]
  ·have n:YJ j.toNat 10=false:=oO fun o=>e (UInt8.toNat_inj.1 o);have f:indexByte (j::i) 10 a=indexByte i 10 (a+1):=by simp only[indexByte,n]
   have h:dw true (j::i)=1+dw true i:=by simp only[dw,ne_eq,e,not_false_eq_true,decide_true]
   rcases k (a+1)with⟨g,c⟩|⟨d,g,c,l,m⟩
   ·exact .inl ⟨by rw[f,g],by rw[h,c,Ys];omega⟩
   ·refine .inr ⟨d+1,by simp;omega,by rw[f,c];congr 1;omega,by simpa using l,by rw[h,m,List.drop_succ_cons];omega⟩
theorem tb(b:List UInt8)(a:Nat)(p:a<=b.length)(v:b.length<4294967296){σ:VS}{K:cZ->VS->Prop}(m:K (.ret (b6 (a+dw false (b.drop a)))) σ):
  b3 C cn AH [cE b,b6 a] σ K:=by
 refine cA ?_;refine b5.less (eh:=[(1,b6 a),(4,b6 0),(0,cE b)]) ⟨Z,Z,Z,tv⟩ ?_;refine b5.iter (fun c:Nat=>[(1,b6 c),(4,b6 0),(0,cE b)]) (fun _=>σ) (fun c=>b.length-c) (fun c=>c<=b.length/\c+dw false (b.drop c)=a+dw false (b.drop a)) ?_ a ⟨p,Z⟩;rintro c ⟨w,d⟩;apply aZ<;>intro u
 ·have h:=fq u;have i:b[c]?=some b[c]:=Yo h;have j:b.drop c=b[c]::b.drop (c+1):=Yn h;refine bZ Z (b7 b[c] (by rw[cz];exact i) ?_);refine oY [32,9,10,13] b[c] ?_;apply aZ<;>intro l
  ·have g:pX b[c]:=by
    have:decide (0<=indexByte [32,9,10,13] b[c].toNat 0)=true:=l;rw[C8]at this;exact of_decide_eq_true this
   rw[j,ln g]at d;exact⟨c+1,⟨om,om⟩,om,.same ⟨int_eq (cq om),Z,Z,tv⟩ Z,Z,Z⟩
  ·have g:¬pX b[c]:=by
    have:decide (0<=indexByte [32,9,10,13] b[c].toNat 0)=false:=l;rw[C8]at this;exact of_decide_eq_false this
   refine bZ Z (a7 ⟨om,Yt _⟩ ?_);refine eQ _ [47,47] ?_;rw[YE];apply aZ<;>intro o
   ·have f:dQ (b.drop c) [47,47]=true:=o;rw[Cp f]at d;refine bZ Z (a7 ⟨om,Yt _⟩ ?_);refine oY _ 10 ?_;rw[YE];rcases UP (b.drop c) 0 with⟨k,e⟩|⟨t,k,e,n,r⟩
    ·refine a1 (by show decide (0<=indexByte (b.drop c) 10 0)=false;rw[k];rfl) ?_;rw[e,Yq]at d;exact⟨b.length,⟨Yt _,by rw[Yr (Yt _)];simp only[dw];omega⟩,om,.same ⟨rfl,rfl,rfl,tv⟩ rfl,rfl,rfl⟩
    ·rw[YN]at e;refine a8 (by show decide (0<=indexByte (b.drop c) 10 0)=true;rw[e];exact decide_eq_true sm) ?_;rw[r,Yz]at d;rw[Yq]at k;have s:t≠0:=fun x=>by
      subst x;rw[List.getElem?_drop,Nat.add_zero,i]at n;injection n with q;exact g (.inr (.inr (.inl q)))
     exact⟨c+t,⟨om,om⟩,om,.same ⟨int_eq (by show IntKind.i64.wrap (Yl c+indexByte (b.drop c) 10 0)=_;rw[e];exact eb om),rfl,rfl,tv⟩ rfl,rfl,rfl⟩
   ·have f:dQ (b[c]::b.drop (c+1)) [47,47]=false:=by rw[<-j];exact o
    rw[j,Ju g f]at d;exact jF (show _=b6 (a+dw false (b.drop a))by rw[<-d];rfl) m
 ·have h:=dM u;rw[Yr h]at d;simp only[dw]at d;exact jF (show _=b6 (a+dw false (b.drop a))by rw[<-d];rfl) m
def eF:List UInt8->Option (List UInt8×Nat)
 |[]=>none
 |c::f=>
  if c=34 then some ([],1)
  else if c<32 then none
  else if c≠92 then(eF f).map fun a=>(c::a.1,a.2+1)
  else match f with
   |[]=>none
   |e::b=>
    if e=34∨e=92 then(eF b).map fun a=>(e::a.1,a.2+2)
    else if e=110 then(eF b).map fun a=>(10::a.1,a.2+2)
    else if e=120 then match b with
     |h::j::d=>match lf h,lf j with
      |some i,some g=>(eF d).map fun a=>(UInt8.ofNat (16*i+g)::a.1,a.2+4)
      |_,_=>none
     |_=>none
    else none
theorem rz(a:List UInt8):eF (34::a)=some ([],1):=by rw[eF.eq_def];rfl
theorem AK{c:UInt8}{d:List UInt8}(a:c≠34)(b:c<32):eF (c::d)=none:=by
 rw[eF.eq_def];simp only[if_neg a,if_pos b]
theorem vq{c:UInt8}{f:List UInt8}(b:c≠34)(a:¬c<32)(d:c≠92):eF (c::f)=(eF f).map fun e=>(c::e.1,e.2+1):=by
 rw[eF.eq_def];simp only[if_neg b,if_neg a,if_pos d]
theorem nr(d:List UInt8):eF (92::d)=match d with
   |[]=>none
   |e::b=>
    if e=34∨e=92 then(eF b).map fun a=>(e::a.1,a.2+2)
    else if e=110 then(eF b).map fun a=>(10::a.1,a.2+2)
    else if e=120 then match b with
     |h::i::c=>match lf h,lf i with
      |some g,some f=>(eF c).map fun a=>(UInt8.ofNat (16*g+f)::a.1,a.2+4)
      |_,_=>none
     |_=>none
    else none:=by
 conv=>lhs;rw[eF.eq_def]
 simp only[show ¬((92:UInt8)=34)from dc,show ¬((92:UInt8)<32)from dc,if_false,ne_eq,not_true_eq_false]
def AL(c:Option (List UInt8×Nat))(a:Nat):V:=match c with
 |some (d,b)=>.dN [cE d,b6 (a+b),b0 true]
 |none=>.dN [cE [],b6 0,b0 false]
def bytesRow(a:List UInt8):cU:=.row 1 (a.map fun b=>[hK b])
def QU:List UInt8->V
 |[]=>.d .cC
 |c::a=>.ms 0 1 0 (a.length+1) (a.length+1)
def QV:List UInt8->VS
 |[]=>[]
 |c::a=>[bytesRow (c::a)]
theorem AN(b:Nat->Nat)(a:List UInt8):eC b (bytesRow a)=bytesRow a:=by
 simp only[bytesRow,eC];congr 1;rw[List.map_map];exact YB fun c _=>Z
theorem GY(b:Nat)(a:List UInt8):gY b (bytesRow a)=true:=by
 simp only[bytesRow,gY,List.all_map];exact Yy.2 fun c _=>Z
theorem Jv(a:List UInt8)(n:Nat)(b:n=a.length)(c:UInt8):some (cU.row 1 (((a.map fun c=>[hK c]).drop 0).take n++[[hK c]]))=some (eC (jO [1] 2) (bytesRow (a++[c]))):=by
 rw[AN,bytesRow,List.map_append,YI,YF (by simp;omega)];rfl
def XS:Nat->Bool:=fun a=>YJ a 40||YJ a 60||YJ a 66||YJ a 99
def OG(c:List UInt8)(a:Nat)(b:Nat×List UInt8):Prop:=
 b.1<=c.length/\a<=b.1/\b.2.length<=b.1/\eF (c.drop a)=(eF (c.drop b.1)).map fun d=>(b.2++d.1,d.2+(b.1-a))
theorem OH{b:Type}{p g i t h:b->Prop}(a:b)(j:p a)(e:g a)(c:i a)(f:t a)(d:h a):∃a,p a/\g a/\i a/\t a/\h a:=⟨a,j,e,c,f,d⟩
theorem gD{a:Type}(l:List a)(n:Nat)(b:n=l.length):(l.drop 0).take n=l:=by
 rw[YI,YF om]
theorem ED{b c:V}(e:b=c):cR 0 (.ret b) [] fun d a=>a=[]/\d=.ret c:=.now rfl ⟨rfl,by rw[e]⟩
theorem GZ{b d:V}{o:cU}(f:b=d)(c:bd 0 b=true):cR 0 (.ret b) [o] fun e a=>a=[]/\e=.ret d:=.drop 0 rfl rfl c (ED f)
theorem o5{c g:V}(a:List UInt8)(f:c=g)(d:bd 0 c=true):cR 0 (.ret c) (QV a) fun e b=>b=[]/\e=.ret g:=by
 cases a with
 |nil=>exact ED f
 |cons h e=>exact GZ f d
theorem wO{j:List UInt8}{k:Nat}{f c:UInt8}{a:List UInt8}{b:Tm}{d:VS}(g:gf b 1=some (b6 k))(h:gf b 7=some (.ms 1 1 0 (a.length+1+1) (a.length+1+1)))(i:gf b 0=some (cE j)) 
  (e:d=[.gone,.row 1 ((((f::a).map fun c=>[hK c]).drop 0).take (a.length+1)++[[hK c]])]):
  KI 0 [(1,b6 k),(7,QU (f::a++[c])),(0,cE j)] (QV (f::a++[c])) [] .none b d:=by
 subst e;refine .pick 0 [1] ⟨g,?_,i,tv⟩ Z Z Z Z Z sm ⟨Jv (f::a) (a.length+1) Z c,GY _ _,tv⟩;rw[h];show _=some (V.ms 1 1 0 ((a++[c]).length+1) ((a++[c]).length+1));simp
theorem tc{h:List UInt8}{i:Nat}{c:UInt8}{a:Tm}{b:VS}(e:gf a 1=some (b6 i))(f:gf a 7=some (.ms 0 1 0 1 1))(g:gf a 0=some (cE h)) 
  (d:b=[.row 1 [[hK c]]]):KI 0 [(1,b6 i),(7,QU ([]++[c])),(0,cE h)] (QV ([]++[c])) [] .none a b:=.same ⟨e,f,g,tv⟩ d
theorem td{e:List UInt8}{a d k:Nat}{b:List UInt8}{c:UInt8}(n:0<k)(g:d+k<=e.length)(m:a+1<=d)(l:b.length<=d) 
  (h:eF (e.drop (a+1))=(eF (e.drop d)).map fun f=>(b++f.1,f.2+(d-(a+1)))) (i:eF (e.drop d)=(eF (e.drop (d+k))).map fun j=>(c::j.1,j.2+k)):
  OG e (a+1) (d+k,b++[c])/\e.length-(d+k)<e.length-d:=by
 refine⟨⟨g,by show a+1<=d+k;omega,by show(b++[c]).length<=d+k;simp;omega,?_⟩,om⟩;show eF (e.drop (a+1))=(eF (e.drop (d+k))).map fun f=>((b++[c])++f.1,f.2+(d+k-(a+1)));rw[h,i,Option.map_map];congr 1;funext f;simp only[Function.comp,List.append_assoc,List.cons_append,List.nil_append];rw[show f.2+k+(d-(a+1))=f.2+(d+k-(a+1))from by omega]
theorem wP{b n:Nat}{a:List UInt8}{e:UInt8}(d:(e::a).length<=b)(c:b<4294967296)(f:n=1):(a.length+1+n)*1<=eE/\a.length+1+n<=eE:=by
 simp only[Ys]at d;unfold eE;omega
theorem dZ(n:Nat):Nat.ble (n+1) n=false:=by rw[KP];exact decide_eq_false om
theorem QW{l:List UInt8}{a:UInt8}(b:dQ l [a]=true):∃c,l=a::c:=by
 rw[dQ,Yv]at b;obtain⟨d,e⟩:=b;exact⟨d,e.symm⟩
theorem wQ{l d:List UInt8}{b c:UInt8}(e:dQ l [b]=false)(a:l=c::d):c≠b:=by
 rintro rfl;subst a;simp[dQ]at e
theorem tQ{s c:List UInt8}{a:Nat}{d:UInt8}(b:s.drop a=d::c):s.drop (a+1)=c/\a<s.length:=by
 constructor
 ·rw[<-Yz,b];rfl
 ·rcases Nat.lt_or_ge a s.length with h1|h1
  ·exact h1
  ·rw[Yr h1]at b;cases b
theorem zs{c:UInt8}{d:Nat}(b:lf c=some d):d<16:=by
 unfold lf at b;split at b
 ·rename_i a;have:=wM a;cases b;omega
 ·split at b
  ·rename_i a;rw[Yu,decide_eq_true_eq,decide_eq_true_eq]at a;cases b;omega
  ·cases b
theorem Mq:∀a b:Fin 16,IntKind.u8.wrap ((BitVec.ofInt IntKind.u8.bits (IntKind.u8.wrap (Yl a.1*2^(min 4 IntKind.u8.bits)))|||BitVec.ofInt IntKind.u8.bits (Yl b.1)).toNat)=Yl (UInt8.ofNat (16*a.1+b.1)).toNat:=dc
theorem OI{a b:Nat}(c:a<16)(d:b<16):IntKind.u8.wrap ((BitVec.ofInt IntKind.u8.bits (IntKind.u8.wrap (Yl a*2^(min 4 IntKind.u8.bits)))|||BitVec.ofInt IntKind.u8.bits (Yl b)).toNat)=Yl (UInt8.ofNat (16*a+b)).toNat:=Mq ⟨a,c⟩ ⟨b,d⟩
theorem o6{c:List UInt8}{a e:Nat}{b:List UInt8}(d:eF (c.drop (a+1))=(eF (c.drop e)).map fun f=>(b++f.1,f.2+(e-(a+1))))(g:eF (c.drop e)=none):V.dN [cE [],b6 0,b0 false]=AL (eF (c.drop (a+1))) (a+1):=by
 rw[d,g];rfl
theorem EE(s:List UInt8)(d:Nat)(ah:d<s.length)(ai:s.length<4294967296){σ:VS}{K:cZ->VS->Prop}(ad:K (.ret (AL (eF (s.drop (d+1))) (d+1))) σ):
  b3 C cn yZ [cE s,b6 d] σ K:=by
 refine cN (v:=AL (eF (s.drop (d+1))) (d+1)) ?_ Z ?_ ad
 ·refine cy XS (fun _=>Z) ?_;refine b5.less (eh:=[(1,b6 (d+1)),(7,QU []),(0,cE s)]) ⟨int_eq (cq om),Z,Z,tv⟩ ?_;refine b5.iter (fun l:Nat×List UInt8=>[(1,b6 l.1),(7,QU l.2),(0,cE s)]) (fun l=>QV l.2) (fun l=>s.length-l.1) (OG s (d+1)) ?_ (d+1,[]) ⟨om,Yt _,by simp,by simp⟩;rintro⟨a,e⟩ ⟨W,n,g,i⟩;have W:a<=s.length:=W;have n:d+1<=a:=n;have g:e.length<=a:=g;have i:eF (s.drop (d+1))=(eF (s.drop a)).map fun L=>(e++L.1,L.2+(a-(d+1))):=i;apply aZ<;>intro ab
  ·have B:a<s.length:=fq ab;have Q:s[a]?=some s[a]:=Yo B;have o:s.drop a=s[a]::s.drop (a+1):=Yn B;refine bZ Z (b7 s[a] (by rw[cz];exact Q) ?_);apply aZ<;>intro R
   ·
    have F:s[a]=34:=UInt8.toNat_inj.1 (BJ (b:=34) R);have f:eF (s.drop a)=some ([],1):=by rw[o,F];exact rz _
    have z:V.dN [cE e,V.d (.int .i64 (IntKind.i64.wrap (Yl a+1))),b0 true]=AL (eF (s.drop (d+1))) (d+1):=by
     rw[i,f,cq om];simp only[Option.map_some,AL,YK,b6];rw[show d+1+(1+(a-(d+1)))=a+1 from by omega]
    cases e with
    |nil=>exact ED z
    |cons u r=>
     refine OH (u::r) Z Z (gD _ _ sm) sm ?_;exact GZ z Z
   ·have F:s[a]≠34:=fun P=>wA (b:=34) R (by rw[P];rfl);apply aZ<;>intro U
    ·have M:s[a]<32:=UInt8.lt_iff_toNat_lt.2 (fq (b:=32) U);have f:eF (s.drop a)=none:=by rw[o];exact AK F M
     exact o5 e (o6 i f) Z
    ·have M:¬s[a]<32:=fun P=>Nat.not_lt_of_le (dM (b:=32) U) (UInt8.lt_iff_toNat_lt.1 P);apply aZ<;>intro J
     ·
      have t:s[a]≠92:=fun P=>by rw[P]at J;cases J
      have f:eF (s.drop a)=(eF (s.drop (a+1))).map fun l=>(s[a]::l.1,l.2+1):=by rw[o];exact vq F M t
      obtain⟨k,j⟩:=td (k:=1) om om n g i f;intro b;cases e with
      |nil=>
       refine a7 Z (a7 ⟨Ym Z,Ym Z⟩ ?_);exact⟨(a+1,[]++[s[a]]),k,j,tc (int_eq (cq om)) Z Z Z,Z,Z⟩
      |cons u r=>
       refine a7 Z (a7 ⟨Z,Z,by simp,Yt _,wP g om rfl⟩ ?_);refine a1 Z (a1 (dZ (r.length+1)) ?_);exact⟨(a+1,(u::r)++[s[a]]),k,j,wO (int_eq (cq om)) Z Z Z,Z,Z⟩
     ·
      have t:s[a]=92:=UInt8.toNat_inj.1 (BJ (b:=92) (by simpa using J));have q:IntKind.i64.wrap (Yl a+1)=Yl (a+1):=cq om;have I:min (IntKind.i64.wrap (Yl a+1)) (Yl s.length)=Yl (a+1):=by rw[q];simp only[Yp];omega
      refine bZ I (a7 ⟨om,Yt _⟩ ?_);rw[YE];refine eQ (s.drop (a+1)) [34] ?_;apply aZ<;>intro y
      ·obtain⟨A,c⟩:=QW y;obtain⟨h,w⟩:=tQ c;have f:eF (s.drop a)=(eF (s.drop (a+2))).map fun l=>(34::l.1,l.2+2):=by
        rw[o,t,c,nr,h];rfl
       repeat refine a8 y ?_
       refine bZ (m:=0) Z (b7 34 (by rw[c];rfl) ?_);obtain⟨k,j⟩:=td (k:=2) om om n g i f;intro b;cases e with
       |nil=>
        refine a7 Z (a7 ⟨Ym Z,Ym Z⟩ ?_);exact⟨(a+2,[]++[34]),k,j,tc (int_eq (by show IntKind.i64.wrap (IntKind.i64.wrap (Yl a+1)+1)=_;rw[q];exact cq om)) rfl rfl rfl,rfl,rfl⟩
       |cons u r=>
        refine a7 Z (a7 ⟨Z,Z,by simp,Yt _,wP g om rfl⟩ ?_);refine a1 Z (a1 (dZ (r.length+1)) ?_);exact⟨(a+2,(u::r)++[34]),k,j,wO (int_eq (by show IntKind.i64.wrap (IntKind.i64.wrap (Yl a+1)+1)=_;rw[q];exact cq om)) rfl rfl rfl,rfl,rfl⟩
      ·repeat refine a1 y ?_
       refine eQ (s.drop (a+1)) [92] ?_;repeat refine a1 y ?_
       apply aZ<;>intro X
       ·obtain⟨A,c⟩:=QW X;obtain⟨h,w⟩:=tQ c;have f:eF (s.drop a)=(eF (s.drop (a+2))).map fun l=>(92::l.1,l.2+2):=by
         rw[o,t,c,nr,h];rfl
        refine bZ (m:=0) Z (b7 92 (by rw[c];rfl) ?_);obtain⟨k,j⟩:=td (k:=2) om om n g i f;intro b;cases e with
        |nil=>
         refine a7 Z (a7 ⟨Ym Z,Ym Z⟩ ?_);exact⟨(a+2,[]++[92]),k,j,tc (int_eq (by show IntKind.i64.wrap (IntKind.i64.wrap (Yl a+1)+1)=_;rw[q];exact cq om)) rfl rfl rfl,rfl,rfl⟩
        |cons u r=>
         refine a7 Z (a7 ⟨Z,Z,by simp,Yt _,wP g om rfl⟩ ?_);refine a1 Z (a1 (dZ (r.length+1)) ?_);exact⟨(a+2,(u::r)++[92]),k,j,wO (int_eq (by show IntKind.i64.wrap (IntKind.i64.wrap (Yl a+1)+1)=_;rw[q];exact cq om)) rfl rfl rfl,rfl,rfl⟩
       ·refine eQ (s.drop (a+1)) [110] ?_;apply aZ<;>intro S
        ·obtain⟨A,c⟩:=QW S;obtain⟨h,w⟩:=tQ c;have f:eF (s.drop a)=(eF (s.drop (a+2))).map fun l=>(10::l.1,l.2+2):=by
          rw[o,t,c,nr,h];rfl
         obtain⟨k,j⟩:=td (k:=2) om om n g i f;intro b;cases e with
         |nil=>
          refine a7 Z (a7 ⟨Ym Z,Ym Z⟩ ?_);exact⟨(a+2,[]++[10]),k,j,tc (int_eq (by show IntKind.i64.wrap (IntKind.i64.wrap (Yl a+1)+1)=_;rw[q];exact cq om)) rfl rfl rfl,rfl,rfl⟩
         |cons u r=>
          refine a7 Z (a7 ⟨Z,Z,by simp,Yt _,wP g om rfl⟩ ?_);refine a1 Z (a1 (dZ (r.length+1)) ?_);exact⟨(a+2,(u::r)++[10]),k,j,wO (int_eq (by show IntKind.i64.wrap (IntKind.i64.wrap (Yl a+1)+1)=_;rw[q];exact cq om)) rfl rfl rfl,rfl,rfl⟩
        ·refine eQ (s.drop (a+1)) [120] ?_;apply aZ<;>intro G
         ·obtain⟨A,c⟩:=QW G;obtain⟨h,w⟩:=tQ c;repeat refine a8 G ?_
          apply aZ<;>intro Y
          ·have p:2<(s.drop (a+1)).length:=fq (a:=2) Y;rw[Yq]at p;have E:s.drop (a+2)=s[a+2]::s.drop (a+3):=Yn om;have N:s.drop (a+3)=s[a+3]::s.drop (a+4):=Yn om;have x:eF (s.drop a)=match lf s[a+2],lf s[a+3]with
             |some u,some b=>(eF (s.drop (a+4))).map fun l=>(UInt8.ofNat (16*u+b)::l.1,l.2+4)
             |_,_=>none:=by
            rw[o,t,c,nr,<-h,E,N];rfl
           refine bZ (m:=1) Z (b7 s[a+2] (by rw[c,<-h,E];rfl) ?_);refine AJ s[a+2] ?_;cases v:lf s[a+2]with
           |none=>
            rw[show j0 s[a+2]=V.dN [.d (.int .u8 0),b0 false]from by simp only[j0,v]];refine bZ (m:=2) Z (b7 s[a+3] (by rw[c,<-h,E,N];rfl) ?_);refine AJ s[a+3] ?_;have f:eF (s.drop a)=none:=by rw[x,v]
            cases m:lf s[a+3]with
            |none=>
             rw[show j0 s[a+3]=V.dN [.d (.int .u8 0),b0 false]from by simp only[j0,m]];exact o5 e (o6 i f) Z
            |some b=>
             rw[show j0 s[a+3]=V.dN [.d (.int .u8 (Yl b)),b0 true]from by simp only[j0,m]];exact o5 e (o6 i f) Z
           |some l=>
            rw[show j0 s[a+2]=V.dN [.d (.int .u8 (Yl l)),b0 true]from by simp only[j0,v]];refine bZ (m:=2) Z (b7 s[a+3] (by rw[c,<-h,E,N];rfl) ?_);refine AJ s[a+3] ?_;cases m:lf s[a+3]with
            |none=>
             have f:eF (s.drop a)=none:=by rw[x,v,m]
             rw[show j0 s[a+3]=V.dN [.d (.int .u8 0),b0 false]from by simp only[j0,m]];exact o5 e (o6 i f) Z
            |some L=>
             have f:eF (s.drop a)=(eF (s.drop (a+4))).map fun O=>(UInt8.ofNat (16*l+L)::O.1,O.2+4):=by rw[x,v,m]
             have H:=OI (zs v) (zs m);rw[show j0 s[a+3]=V.dN [.d (.int .u8 (Yl L)),b0 true]from by simp only[j0,m]];refine bZ (m:=4) Z ?_;obtain⟨k,j⟩:=td (k:=4) om om n g i f;intro b;cases e with
             |nil=>
              refine a7 Z (a7 ⟨Ym Z,Ym Z⟩ ?_);exact⟨(a+4,[]++[UInt8.ofNat (16*l+L)]),k,j,tc (int_eq (by show IntKind.i64.wrap (IntKind.i64.wrap (IntKind.i64.wrap (Yl a+1)+2)+1)=_;rw[q,show IntKind.i64.wrap (Yl (a+1)+2)=Yl (a+3)from eb (b:=2) om];exact cq om)) rfl rfl (congrArg (fun O=>[cU.row 1 [[V.d (.int .u8 O)]]]) H),rfl,rfl⟩
             |cons u r=>
              refine a7 Z (a7 ⟨Z,Z,by simp,Yt _,wP g om rfl⟩ ?_);refine a1 Z (a1 (dZ (r.length+1)) ?_);exact⟨(a+4,(u::r)++[UInt8.ofNat (16*l+L)]),k,j,wO (int_eq (by show IntKind.i64.wrap (IntKind.i64.wrap (IntKind.i64.wrap (Yl a+1)+2)+1)=_;rw[q,show IntKind.i64.wrap (Yl (a+1)+2)=Yl (a+3)from eb (b:=2) om];exact cq om)) rfl rfl (congrArg (fun O=>[cU.gone,cU.row 1 ((((u::r).map fun aj=>[hK aj]).drop 0).take (r.length+1)++[[V.d (.int .u8 O)]])]) H),rfl,rfl⟩
          ·have p:(s.drop (a+1)).length<=2:=dM (a:=2) Y;have f:eF (s.drop a)=none:=by
            rw[c]at p;rw[o,t,c,nr]
            match A,p with
            |[],_=>rfl
            |[_],_=>rfl
            |_::_::_,ab=>simp at ab
           exact o5 e (o6 i f) Z
         ·repeat refine a1 G ?_
          have f:eF (s.drop a)=none:=by
           rw[o,t,nr];cases D:s.drop (a+1)with
           |nil=>rfl
           |cons P A=>
            have ac:=wQ y D;have ae:=wQ X D;have af:=wQ S D;have ag:=wQ G D;simp only[ac,ae,af,ag,or_self,if_false]
          exact o5 e (o6 i f) Z
  ·have B:s.length<=a:=dM ab;have f:eF (s.drop a)=none:=by rw[Yr B];rfl
   exact o5 e (o6 i f) Z
 ·cases eF (s.drop (d+1))with
  |none=>rfl
  |some l=>rfl
inductive G0 where
 |ok (kind:Nat) (text:List UInt8) (n:Nat)
 |err (e:Nat)
def fF(t:List UInt8)(n:Nat):G0:=if OF t then .ok 5 t n else if dp t then .ok 1 t n else if jH t then .ok 2 t n else .err 4
def hD(l t:List UInt8)(n:Nat)(c:UInt8):G0:=if 19<t.length∨(1<t.length/\c=48)∨(l.drop n).head?.any isWord=true then .err 3 else .ok 3 t n
def fG:List UInt8->G0
 |[]=>.err 3
 |c::a=>
  if gg c||eH c then fF ((c::a).take (dX isWord (c::a))) (dX isWord (c::a))
  else if isDigit c then hD (c::a) ((c::a).take (dX isDigit (c::a))) (dX isDigit (c::a)) c
  else if c=34 then match eF a with
   |some (d,b)=>.ok 4 d (b+1)
   |none=>.err 3
  else if hM (c::a)=[]then .err 3 else .ok 6 (hM (c::a)) (hM (c::a)).length
def Cq(b:Nat)(t:List UInt8)(a:Nat):V:=.agg [b6 b,cE t,b6 a]
def G1(a:Nat)(e:G0)(d:cZ):Prop:=match e with
 |.ok c b f=>d=.ret (.dN [Cq c b a,b6 (a+f),b6 0])
 |.err g=>∃c b,d=.ret (.dN [Cq c b a,b6 a,b6 g])
theorem fS{a:Nat}{g:G0}{d:V}{f e:cU}(i:G1 a g (.ret d))(b:bd 0 d=true):cR 0 (.ret d) [f,e] fun h c=>c=[]/\cX h=true/\G1 a g h:=
 .drop 0 rfl rfl b (.now rfl ⟨rfl,b,i⟩)
theorem Mr(l:List UInt8):(hM l).length<=3:=by
 unfold hM;split
 ·rename_i b a;have:=List.mem_of_find?_eq_some a;simp only[qP,List.mem_cons,List.not_mem_nil,or_false]at this;rcases this with rfl|rfl|rfl|rfl|rfl|rfl|rfl<;>simp
 ·split
  ·simp
  ·split<;>simp
theorem C9(s:List UInt8)(a:Nat)(B:a<s.length)(v:s.length<4294967296){σ:VS}{K:cZ->VS->Prop}(M:∀Q,G1 a (fG (s.drop a)) Q->K Q σ):
  b3 C cn EA [cE s,b6 a] σ K:=by
 refine b3.closed (P:=G1 a (fG (s.drop a))) ?_ Z M;have A:s.drop a=s[a]::s.drop (a+1):=Yn B;refine cB ?_;refine bZ Z (b7 s[a] (by rw[cz];exact Yo B) ?_);have r:(gg s[a]||eH s[a])=true->fG (s.drop a)=fF ((s.drop a).take (dX isWord (s.drop a))) (dX isWord (s.drop a)):=fun h=>by
  rw[A];simp only[fG,h,if_true]
 have w:(s.take (a+dX isWord (s.drop a))).drop a=(s.drop a).take (dX isWord (s.drop a)):=by rw[List.drop_take];congr 1;omega
 have z:a+dX isWord (s.drop a)<=s.length:=by have:=oZ isWord (s.drop a);rw[Yq]at this;omega
 have m:((s.drop a).take (dX isWord (s.drop a))).length<4294967296:=by rw[List.length_take,Yq];omega
 refine vo s[a] ?_;apply aZ<;>intro q
 ·have c:=r (by rw[q];rfl);repeat refine a8 q ?_
  refine xW zq s a om v ?_;refine bZ Z (bZ Z (a7 ⟨om,z⟩ ?_));rw[w];refine ry _ m ?_;apply aZ<;>intro f
  ·refine fS ?_ Z;rw[c,fF,if_pos f];rfl
  ·refine nq _ m ?_;apply aZ<;>intro k
   ·refine fS ?_ Z;rw[c,fF,if_neg (by rw[f];simp),if_pos k];rfl
   ·refine lm _ m ?_;apply aZ<;>intro o
    ·refine fS ?_ Z;rw[c,fF,if_neg (by rw[f];simp),if_neg (by rw[k];simp),if_pos o];rfl
    ·refine fS ?_ Z;rw[c,fF,if_neg (by rw[f];simp),if_neg (by rw[k];simp),if_neg (by rw[o];simp)];exact⟨0,_,Z⟩
 ·repeat refine a1 q ?_
  refine ru s[a] ?_;repeat refine a1 q ?_
  apply aZ<;>intro y
  ·have c:=r (by rw[y];simp);refine xW zq s a om v ?_;refine bZ Z (bZ Z (a7 ⟨om,z⟩ ?_));rw[w];refine ry _ m ?_;apply aZ<;>intro f
   ·refine fS ?_ Z;rw[c,fF,if_pos f];rfl
   ·refine nq _ m ?_;apply aZ<;>intro k
    ·refine fS ?_ Z;rw[c,fF,if_neg (by rw[f];simp),if_pos k];rfl
    ·refine lm _ m ?_;apply aZ<;>intro o
     ·refine fS ?_ Z;rw[c,fF,if_neg (by rw[f];simp),if_neg (by rw[k];simp),if_pos o];rfl
     ·refine fS ?_ Z;rw[c,fF,if_neg (by rw[f];simp),if_neg (by rw[k];simp),if_neg (by rw[o];simp)];exact⟨0,_,Z⟩
  ·have x:(gg s[a]||eH s[a])=false:=by rw[q,y];rfl
   refine rv s[a] ?_;apply aZ<;>intro f
   ·have c:fG (s.drop a)=hD (s.drop a) ((s.drop a).take (dX isDigit (s.drop a))) (dX isDigit (s.drop a)) s[a]:=by
     rw[A];simp only[fG,x,f,if_true];rfl
    have D:(s.take (a+dX isDigit (s.drop a))).drop a=(s.drop a).take (dX isDigit (s.drop a)):=by rw[List.drop_take];congr 1;omega
    have E:a+dX isDigit (s.drop a)<=s.length:=by have:=oZ isDigit (s.drop a);rw[Yq]at this;omega
    refine xW OE s a om v ?_;refine bZ Z (bZ Z (a7 ⟨om,E⟩ ?_));refine b4 ?_;refine b4 ?_;refine b4 ?_;rw[<-D]at c;have N:∀{P:Prop} [Decidable P],P->(if P then G0.err 3 else G0.ok 3 ((s.take (a+dX isDigit (s.drop a))).drop a) (dX isDigit (s.drop a)))=.err 3:=fun h=>if_pos h;have fe:∀{R:V},(∃U W,cZ.ret R=.ret (.dN [Cq U W a,b6 a,b6 3]))->fG (s.drop a)=.err 3->G1 a (fG (s.drop a)) (.ret R):=fun q f=>by rw[f];exact q
    apply aZ<;>intro e
    ·repeat refine a8 e ?_
     refine fS (fe ⟨3,_,Z⟩ ?_) Z;rw[c,hD,if_pos (.inl (fq (a:=19) e))]
    ·have X:=dM (a:=19) e;repeat refine a1 e ?_
     apply aZ<;>intro l
     ·have J:=fq (a:=1) l;repeat (first|refine a8 l ?_|refine a1 e ?_)
      apply aZ<;>intro j
      ·have u:s[a]=48:=UInt8.toNat_inj.1 (BJ (b:=48) j);repeat (first|refine a8 j ?_|refine a1 e ?_)
       refine fS (fe ⟨3,_,Z⟩ ?_) Z;rw[c,hD,if_pos (.inr (.inl ⟨J,u⟩))]
      ·have u:s[a]≠48:=fun O=>wA (b:=48) j (by rw[O];rfl);repeat (first|refine a1 j ?_|refine a1 e ?_)
       apply aZ<;>intro g
       ·have n:a+dX isDigit (s.drop a)<s.length:=fq g;have p:(s.drop a).drop (dX isDigit (s.drop a))=s[a+dX isDigit (s.drop a)]::s.drop (a+dX isDigit (s.drop a)+1):=by rw[Yz];exact Yn n
        repeat (first|refine a8 g ?_|refine a1 e ?_|refine a1 j ?_)
        refine bZ Z (b7 s[a+dX isDigit (s.drop a)] (by rw[cz];exact Yo n) ?_);repeat (first|refine a8 g ?_|refine a1 e ?_|refine a1 j ?_)
        refine xV s[a+dX isDigit (s.drop a)] ?_;repeat (first|refine a8 g ?_|refine a1 e ?_|refine a1 j ?_)
        apply aZ<;>intro i
        ·repeat (first|refine a8 i ?_|refine a1 e ?_|refine a1 j ?_)
         refine fS (fe ⟨3,_,Z⟩ ?_) Z;rw[c,hD,if_pos (.inr (.inr (by rw[p];exact i)))]
        ·repeat (first|refine a1 i ?_|refine a1 e ?_|refine a1 j ?_)
         refine fS ?_ Z;rw[c,hD,if_neg]
         ·rfl
         ·rintro(h|⟨h,t⟩|h)
          ·omega
          ·exact u t
          ·rw[p]at h;have i:isWord s[a+dX isDigit (s.drop a)]=false:=i;simp only[YH,YG,i]at h;cases h
       ·have n:s.length<=a+dX isDigit (s.drop a):=dM g;repeat (first|refine a1 g ?_|refine a1 e ?_|refine a1 j ?_)
        refine fS ?_ Z;rw[c,hD,if_neg]
        ·rfl
        ·rintro(h|⟨h,t⟩|h)
         ·omega
         ·exact u t
         ·rw[Yz,Yr n]at h;cases h
     ·have J:=dM (a:=1) l;repeat (first|refine a1 l ?_|refine a1 e ?_)
      apply aZ<;>intro g
      ·have n:a+dX isDigit (s.drop a)<s.length:=fq g;have p:(s.drop a).drop (dX isDigit (s.drop a))=s[a+dX isDigit (s.drop a)]::s.drop (a+dX isDigit (s.drop a)+1):=by rw[Yz];exact Yn n
       repeat (first|refine a8 g ?_|refine a1 e ?_|refine a1 l ?_)
       refine bZ Z (b7 s[a+dX isDigit (s.drop a)] (by rw[cz];exact Yo n) ?_);repeat (first|refine a8 g ?_|refine a1 e ?_|refine a1 l ?_)
       refine xV s[a+dX isDigit (s.drop a)] ?_;repeat (first|refine a8 g ?_|refine a1 e ?_|refine a1 l ?_)
       apply aZ<;>intro i
       ·repeat (first|refine a8 i ?_|refine a1 e ?_|refine a1 l ?_)
        refine fS (fe ⟨3,_,Z⟩ ?_) Z;rw[c,hD,if_pos (.inr (.inr (by rw[p];exact i)))]
       ·repeat (first|refine a1 i ?_|refine a1 e ?_|refine a1 l ?_)
        refine fS ?_ Z;rw[c,hD,if_neg]
        ·rfl
        ·rintro(h|⟨h,t⟩|h)
         ·omega
         ·omega
         ·rw[p]at h;have i:isWord s[a+dX isDigit (s.drop a)]=false:=i;simp only[YH,YG,i]at h;cases h
      ·have n:s.length<=a+dX isDigit (s.drop a):=dM g;repeat (first|refine a1 g ?_|refine a1 e ?_|refine a1 l ?_)
       refine fS ?_ Z;rw[c,hD,if_neg]
       ·rfl
       ·rintro(h|⟨h,t⟩|h)
        ·omega
        ·omega
        ·rw[Yz,Yr n]at h;cases h
   ·have d:fG (s.drop a)=if s[a]=34 then(match eF (s.drop (a+1))with
      |some (b,H)=>.ok 4 b (H+1)
      |none=>.err 3)else if hM (s.drop a)=[]then .err 3 else .ok 6 (hM (s.drop a)) (hM (s.drop a)).length:=by
     rw[A];simp only[fG,x,f];rfl
    apply aZ<;>intro k
    ·have F:s[a]=34:=UInt8.toNat_inj.1 (BJ (b:=34) k);rw[if_pos F]at d;refine EE s a B v ?_;cases I:eF (s.drop (a+1))with
     |none=>
      rw[I]at d;refine fS ?_ Z;rw[d];exact⟨0,[],Z⟩
     |some T=>
      obtain⟨b,H⟩:=T;rw[I]at d;refine fS ?_ Z;rw[d];show cZ.ret _=cZ.ret (.dN [_,b6 (a+(H+1)),_]);rw[show a+(H+1)=a+1+H from by omega];rfl
    ·have F:s[a]≠34:=fun O=>wA (b:=34) k (by rw[O];rfl);rw[if_neg F]at d;refine bZ Z (a7 ⟨om,Yt _⟩ ?_);rw[YE];refine GX (s.drop a) ?_;apply aZ<;>intro o
     ·have G:hM (s.drop a)=[]:=of_decide_eq_true o;refine fS ?_ Z;rw[d,if_pos G];exact⟨6,_,Z⟩
     ·have G:hM (s.drop a)≠[]:=of_decide_eq_false o;refine b4 ?_;refine b4 ?_;refine b4 ?_;refine b4 ?_;refine fS ?_ Z;rw[d,if_neg G];have S:(hM (s.drop a)).length<=3:=Mr _;show cZ.ret (.dN [_,V.d (.int .i64 (IntKind.i64.wrap (Yl a+Yl (hM (s.drop a)).length))),_])=cZ.ret (.dN [_,b6 (a+(hM (s.drop a)).length),_]);rw[eb om];rfl
structure Tok where
 kind:Nat
 text:List UInt8
 off:Nat
def mK(t:Tok):List D:=[.int .i64 (Yl t.kind),.str t.text,.int .i64 (Yl t.off)]
inductive xX where
 |ok (l:List Tok)
 |err (off e:Nat)
def xX.cons(t:Tok):xX->xX
 |.ok c=>.ok (t::c)
 |.err a b=>.err a b
def xX.KY(b:List Tok):xX->xX
 |.ok d=>.ok (b++d)
 |.err a c=>.err a c
theorem wR(a:xX):a.KY []=a:=by cases a<;>rfl
theorem Cr(b:List Tok)(t:Tok)(a:xX):(a.cons t).KY b=a.KY (b++[t]):=by cases a<;>simp[xX.cons,xX.KY]
def h6(b:List UInt8):Nat->Nat->xX
 |0,_=>.ok []
 |f+1,a=>
  if b.length<=a then .ok [⟨0,[],b.length⟩]
  else match fG (b.drop a)with
   |.err g=>.err a g
   |.ok e d c=>(h6 b f (a+c+dw false (b.drop (a+c)))).cons ⟨e,d,a⟩
def kJ(a:List UInt8):xX:=if 65536<a.length then .err 0 7 else h6 a (a.length+1) (dw false a)
theorem OJ:∀(h:Nat) (j:List UInt8),j.length<=h->∀p f,eF j=some (p,f)->1<=f/\f<=j.length:=by
 intro h;induction h with
 |zero=>
  intro j i p f a;cases j with
  |nil=>rw[eF.eq_def]at a;cases a
  |cons _ _=>simp at i
 |succ h v=>
  intro j i p f a;cases j with
  |nil=>rw[eF.eq_def]at a;cases a
  |cons o l=>
   have n:l.length<=h:=by simpa using i
   have step:∀(k:List UInt8) (t:Nat) (s:UInt8),k.length+t<=l.length+1->k.length<=h->((eF k).map fun w=>(s::w.1,w.2+t))=some (p,f)->1<=f/\f<=(o::l).length:=by
    intro k t s d c b;cases g:eF k with
    |none=>rw[g]at b;cases b
    |some u=>
     rw[g]at b;cases b;have:=v k c u.1 u.2 g;simp only[Ys];omega
   by_cases d:o=34
   ·subst d;rw[rz]at a;cases a;simp
   ·by_cases c:o<32
    ·rw[AK d c]at a;cases a
    ·by_cases b:o=92
     ·subst b;rw[nr]at a;cases l with
      |nil=>cases a
      |cons x e=>
       have m:e.length+1<=h:=by simpa using n
       simp only at a;split at a
       ·exact step e 2 _ sm om a
       ·split at a
        ·exact step e 2 _ sm om a
        ·split at a
         ·cases e with
          |nil=>cases a
          |cons s q=>
           cases q with
           |nil=>cases a
           |cons u r=>
            simp only at a;split at a
            ·exact step r 4 _ sm (by simp at m;omega) a
            ·cases a
         ·cases a
     ·rw[vq d c b]at a;exact step l 1 o om n a
theorem OK(l:List UInt8):(hM l).length<=l.length:=by
 unfold hM;split
 ·rename_i b a;have:=List.find?_some a;have:dQ l b=true:=this;rw[dQ,Yv]at this;exact this.length_le
 ·split
  ·simp
  ·split<;>simp
theorem Jw{c:UInt8}(a:(gg c||eH c)=true):isWord c=true:=by
 simp only[isWord];rw[a];rfl
theorem te{l:List UInt8}{j n:Nat}{t:List UInt8}(a:fG l=.ok j t n):0<n/\n<=l.length:=by
 cases l with
 |nil=>cases a
 |cons h g=>
  simp only[fG]at a;have c:=oZ isWord (h::g);have f:=oZ isDigit (h::g);split at a
  ·rename_i d;have b:0<dX isWord (h::g):=by rw[mJ,if_pos (Jw d)];omega
   unfold fF at a;split at a
   ·cases a;exact⟨b,c⟩
   ·split at a
    ·cases a;exact⟨b,c⟩
    ·split at a
     ·cases a;exact⟨b,c⟩
     ·cases a
  ·split at a
   ·rename_i d;have b:0<dX isDigit (h::g):=by rw[mJ,if_pos d];omega
    unfold hD at a;split at a
    ·cases a
    ·cases a;exact⟨b,f⟩
   ·split at a
    ·split at a
     ·rename_i k m i;cases a;have:=OJ _ _ (Yt _) _ _ i;simp only[Ys];omega
     ·cases a
    ·split at a
     ·cases a
     ·rename_i e;cases a;exact⟨List.length_pos_iff.2 e,OK _⟩
def Jx(d:xX)(c:cZ):Prop:=match d with
 |.ok g=>∃e b,c=.ret (.dN [.d (.ps e 0 3 b (g.map mK)),b6 0,b6 0])
 |.err a f=>c=.ret (.dN [.d .cC,b6 a,b6 f])
def Xv:Nat->Bool:=fun a=>YJ a 22
def j1(a:List Tok):cU:=.row 3 (a.map fun b=>(mK b).map V.d)
def Wu(d:List UInt8)(b:jT):List Tok->VS
 |[]=>[.box [.d .cC],.box [.d (.int .i64 0)],.box [.d (.int .i64 0)],.box [.d .cC],.box [cE d],.fg false,.loop b]
 |c::a=>[.box [.d .cC],.box [.d (.int .i64 0)],.box [.d (.int .i64 0)],.box [.ms 7 3 0 (a.length+1) (a.length+1)],.box [cE d],.fg false,.loop b,j1 (c::a)]
def Jy(b:List UInt8)(a:Nat×List Tok):Prop:=
 a.1<=b.length/\a.2.length<=a.1/\∃c,b.length-a.1<c/\h6 b (b.length+1) (dw false b)=(h6 b c a.1).KY a.2
theorem AO{b:List UInt8}{a f g n:Nat}{t:List UInt8}{acc:List Tok}(k:a<b.length)(j:b.length-a<f+1)(i:acc.length<=a)(d:fG (b.drop a)=.ok g t n) 
  (e:h6 b (b.length+1) (dw false b)=(h6 b (f+1) a).KY acc):Jy b (a+n+dw false (b.drop (a+n)),acc++[⟨g,t,a⟩]):=by
 have h:=te d;rw[Yq]at h;have c:=qQ false (b.drop (a+n));rw[Yq]at c;refine⟨by show a+n+dw false (b.drop (a+n))<=b.length;omega,by show(acc++[_]).length<=a+n+dw false (b.drop (a+n));simp;omega,f,by show b.length-(a+n+dw false (b.drop (a+n)))<f;omega,?_⟩;rw[e];show _=(h6 b f (a+n+dw false (b.drop (a+n)))).KY (acc++[⟨g,t,a⟩]);rw[<-Cr];congr 1;rw[h6,if_neg om,d]
theorem wS{l:List UInt8}{b:Nat}(a:fG l=.err b):b≠0:=by
 cases l with
 |nil=>cases a;decide
 |cons c d=>
  simp only[fG,fF,hD]at a;repeat' split at a
  all_goals first|(cases a;decide)|cases a
theorem EF{a:List UInt8}{c f g:Nat}{b:List Tok}(i:a.length<=65536)(h:c<a.length)(e:fG (a.drop c)=.err g) 
  (d:h6 a (a.length+1) (dw false a)=(h6 a (f+1) c).KY b):kJ a=.err c g:=by
 rw[kJ,if_neg om,d,h6,if_neg om,e];rfl
theorem Jz{a:List UInt8}{e f:Nat}{b:List Tok}(g:a.length<=65536)(d:a.length<=e) 
  (c:h6 a (a.length+1) (dw false a)=(h6 a (f+1) e).KY b):kJ a=.ok (b++[⟨0,[],a.length⟩]):=by
 rw[kJ,if_neg om,c,h6,if_pos d];rfl
theorem iZ{a:Nat}(b:(!decide (Yl a=0))=false):a=0:=by
 rw[YR]at b;exact BJ (b:=0) b
theorem Da(b:Nat->Nat)(a:List Tok):eC b (j1 a)=j1 a:=by
 simp only[j1,eC];congr 1;rw[List.map_map];exact YB fun c _=>Z
theorem KZ(b:Nat)(a:List Tok):gY b (j1 a)=true:=by
 simp only[j1,gY,List.all_map];exact Yy.2 fun c _=>Z
theorem JA(a:List Tok):pC (a.map fun b=>(mK b).map V.d)=some (a.map mK):=by
 induction a with
 |nil=>rfl
 |cons b d c=>
  show(match some (mK b),pC (d.map fun b=>(mK b).map V.d)with
   |some e,some f=>some (e::f)
   |_,_=>none)=_
  rw[c];rfl
theorem gE(n:Nat):YJ n n=true:=Nat.beq_refl n
theorem EG{σ:VS}(b:Nat)(a:List Tok)(n:Nat)(e:n=a.length)(g:nth σ b=some (j1 a)):
  cR 0 (.ret (.dN [.ms b 3 0 n n,b6 0,b6 0])) σ fun f d=>d=[]/\cX f=true/\Jx (.ok a) f:=by
 refine cR.freeze b g (JA a) ⟨fun _=>⟨Z,by simp[e]⟩,tv,tv,tv⟩ (fun c=>?_);refine cR.drop 0 (by cases σ.set b cU.gone<;>rfl) (by rw[mZ]) ?_ ?_
 ·show Ov 0 (.ret (.dN [iW b c (a.map mK) (.ms b 3 0 n n),b6 0,b6 0]))=true;rw[iW,gE];rfl
 ·refine cR.now Z ⟨Z,?_,c,n,?_⟩
  ·show cX (.ret (.dN [iW b c (a.map mK) (.ms b 3 0 n n),b6 0,b6 0]))=true;rw[iW,gE];rfl
  ·show cZ.ret (.dN [iW b c (a.map mK) (.ms b 3 0 n n),b6 0,b6 0])=_;rw[iW,gE];show cZ.ret (.dN [.d (.ps c (0*3) 3 n (((a.map mK).drop 0).take n)),b6 0,b6 0])=_;rw[gD _ _ (by simp[e])]
theorem vr(a:List Tok)(n:Nat)(b:n=a.length)(t:Tok):some (cU.row 3 (((a.map fun t=>(mK t).map V.d).drop 0).take n++[(mK t).map V.d]))=some (j1 (a++[t])):=by
 rw[j1,List.map_append,gD _ _ (by simp[b])];rfl
theorem Ms{b:Nat->Nat}(a:List Tok)(n:Nat)(c:n=a.length)(t:Tok):some (cU.row 3 (((a.map fun t=>(mK t).map V.d).drop 0).take n++[(mK t).map V.d]))=some (eC b (j1 (a++[t]))):=by
 rw[Da,vr a n c t]
theorem QX(a:List Tok)(t:Tok):some (cU.box [.ms 10 3 0 (a.length+1+1) (a.length+1+1)])=some (cU.box [.ms 10 3 0 ((a++[t]).length+1) ((a++[t]).length+1)]):=by simp
theorem K0{b n:Nat}{a:List Tok}{e:Tok}(d:(e::a).length<=b)(c:b<=65536)(f:n=1):(a.length+1+n)*32<=eE/\a.length+1+n<=eE:=by
 simp only[Ys]at d;unfold eE;omega
theorem OL(s:List UInt8)(B:s.length<4294967296){σ:VS}{K:cZ->VS->Prop}(y:∀g,Jx (kJ s) g->K g σ):b3 C cn yw [cE s] σ K:=by
 refine b3.closed (P:=Jx (kJ s)) ?_ Z y;refine cy Xv (fun _=>Z) ?_;apply aZ<;>intro n
 ·have j:=fq (a:=65536) n;refine a6 0 ⟨Z,Z,?_⟩;rw[kJ,if_pos j];rfl
 ·have j:=dM (a:=65536) n;refine cA ?_;refine cA ?_;refine tb s 0 om om ?_;have u:=qQ false s;refine b5.less (eh:=[(3,b6 (dw false s)),(0,.so 6),(1,.bp 4 0)]) ⟨int_eq (by rw[YN];rfl),rfl,rfl,tv⟩ ?_;refine b5.iter (fun v:Nat×List Tok=>[(3,b6 v.1),(0,.so 6),(1,.bp 4 0)]) (fun v=>Wu s _ v.2) (fun v=>s.length-v.1) (Jy s) ?_ (dw false s,[]) ⟨u,YQ _,s.length+1,om,(wR _).symm⟩;rintro⟨a,i⟩ ⟨x,d,w,m,f⟩;have x:a<=s.length:=x;have d:i.length<=a:=d;have m:s.length-a<w:=m;have f:h6 s (s.length+1) (dw false s)=(h6 s w a).KY i:=f;obtain⟨w,rfl⟩:∃l,w=l+1:=⟨w-1,om⟩;cases i with
  |nil=>
   apply aZ<;>intro n
   ·have c:a<s.length:=fq n;refine C9 s a c om (fun g e=>?_);cases b:fG (s.drop a)with
    |ok l r k=>
     rw[b]at e;obtain rfl:g=_:=e;refine h7.intro ?_;have o:=te b;rw[Yq]at o;intro z;refine a7 Z (a7 ⟨Ym Z,Ym Z⟩ ?_);refine tb s (a+k) om om ?_;have h:=qQ false (s.drop (a+k));rw[Yq]at h;refine⟨(a+k+dw false (s.drop (a+k)),[]++[⟨l,r,a⟩]),?_,?_,?_,Z,Z⟩
     ·exact AO (acc:=[]) c m d b f
     ·show s.length-(a+k+dw false (s.drop (a+k)))<s.length-a;omega
     ·exact .pick 7 [0,1,2,3,4,5,6,9] ⟨Z,Z,Z,tv⟩ Z Z Z Z Z dc ⟨Z,Z,Z,Z,Z,Z,Z,Z,Z,Z,Z,Z,Z,Z,Z,Z,tv⟩
    |err D=>
     rw[b]at e;obtain⟨l,r,rfl⟩:=e;refine h7.intro ?_;have q:=wS b;apply aZ<;>intro p
     ·repeat refine b4 ?_
      refine a6 0 ⟨Z,Z,?_⟩;rw[EF j c b f];rfl
     ·exact absurd (iZ p) q
   ·have c:s.length<=a:=dM n;refine h7.intro ?_;intro z;refine a7 Z (a7 ⟨Ym Z,Ym Z⟩ ?_);rw[Jz j c f];exact EG 8 [⟨0,[],s.length⟩] 1 Z Z
  |cons t g=>
   apply aZ<;>intro n
   ·have c:a<s.length:=fq n;refine C9 s a c om (fun A e=>?_);cases b:fG (s.drop a)with
    |ok l r k=>
     rw[b]at e;obtain rfl:A=_:=e;refine h7.intro ?_;have o:=te b;rw[Yq]at o;intro z;refine a7 Z (a7 ⟨Z,Z,by simp[j1],Yt _,K0 d om rfl⟩ ?_);refine a1 Z (a1 (dZ (g.length+1)) ?_);refine tb s (a+k) om om ?_;have h:=qQ false (s.drop (a+k));rw[Yq]at h;refine⟨(a+k+dw false (s.drop (a+k)),(t::g)++[⟨l,r,a⟩]),?_,?_,?_,Z,Z⟩
     ·exact AO c m d b f
     ·show s.length-(a+k+dw false (s.drop (a+k)))<s.length-a;omega
     ·refine .pick 7 [0,1,2,3,4,5,6,10] ⟨Z,Z,Z,tv⟩ Z Z Z Z Z dc ⟨Z,Z,Z,Z,Z,Z,?_,Z,Z,Z,Z,Z,Z,Z,?_,KZ _ _,tv⟩
      ·exact QX g ⟨l,r,a⟩
      ·exact Ms (t::g) (g.length+1) Z ⟨l,r,a⟩
    |err D=>
     rw[b]at e;obtain⟨l,r,rfl⟩:=e;refine h7.intro ?_;have q:=wS b;apply aZ<;>intro p
     ·repeat refine b4 ?_
      refine a6 0 ⟨Z,Z,?_⟩;rw[EF j c b f];rfl
     ·exact absurd (iZ p) q
   ·have c:s.length<=a:=dM n;refine h7.intro ?_;intro z;refine a7 Z (a7 ⟨Z,Z,by simp[j1],Yt _,K0 d om rfl⟩ ?_);refine a1 Z (a1 (dZ (g.length+1)) ?_);rw[Jz j c f];refine EG 9 (t::g++[⟨0,[],s.length⟩]) (g.length+1+1) sm ?_;exact vr (t::g) (g.length+1) Z ⟨0,[],s.length⟩
end Go.Proofs.YthlkhjchcjflkaaGreatDoor
namespace Go.VM
open Go.AM
section
variable{C:eD} {cO:FuncId->List Value->Option Value}
theorem lT(b:Nat->Nat)(a:cZ)(d:cX a=true):nj b a=a:=by
 cases a with
 |ret c=>simp only[nj];rw[jh _ c d]
 |fO c=>simp only[nj];rw[jh _ c d]
mutual
theorem K1:∀(k:Nat) (v:V),bd 0 v=true->bd k v=true
 |_,.d _,_=>by simp only[bd]
 |_,.bp _ _,h=>by simp only[bd]at h;exact absurd (gV h) (Yx _)
 |_,.ptr _ _ _ _,h=>by simp only[bd]at h;exact absurd (gV h) (Yx _)
 |_,.fp _ _ _,_=>by simp only[bd]
 |_,.ms _ _ _ _ _,h=>by simp only[bd]at h;exact absurd (gV h) (Yx _)
 |_,.map _,h=>by simp only[bd]at h;exact absurd (gV h) (Yx _)
 |k,.fn _ a c,h=>by simp only[bd,Yu]at h⊢;exact⟨hE k a h.1,hE k c h.2⟩
 |_,.so _,h=>by simp only[bd]at h;exact absurd (gV h) (Yx _)
 |k,.iface _ v,h=>by simp only[bd]at h⊢;exact K1 k v h
 |k,.agg l,h=>by simp only[bd]at h⊢;exact hE k l h
 |k,.dN l,h=>by simp only[bd]at h⊢;exact hE k l h
theorem hE:∀(k:Nat) (l:List V),gC 0 l=true->gC k l=true
 |_,[],_=>by simp only[gC]
 |k,v::l,h=>by simp only[gC,Yu]at h⊢;exact⟨K1 k v h.1,hE k l h.2⟩
end
theorem b3.one{f:FuncId}{eN c b:List V}{P:cZ->List V->Prop}(m:b3 C cO f eN [.box b] fun d g=>∃a,g=[.box a]/\cX d=true/\gC 0 a=true/\P d a) 
  (i:Nat) {σ:VS} {K:cZ->VS->Prop} (h:nth σ i=some (.box b)) (j:gC 0 b=true) (e:gC 1 eN=true) (s:c=iw (jO [i] σ.length) eN) (n:∀d a,P d a->K d (σ.set i (.box a))):
  b3 C cO f c σ K:=by
 refine m.frame [i] Z sm (fun u t k=>?_) e s (fun q o k _=>?_)
 ·cases u with
  |zero=>
   obtain rfl:i=t:=by simpa using k
   refine⟨.box b,Z,?_,hE 1 b j⟩;rw[<-cz,h];simp only[eC,gk _ b j]
  |succ u=>simp at k
 ·obtain⟨a,rfl,l,r,p⟩:=k;rw[lT _ _ l];simp only[YM,YO,eC,gk _ a r,merge,YK];exact n q a p
theorem tg{σ:VS}{d:Nat}{o:cU}(c:nth σ d=some o):σ.set d o=σ:=by
 rw[cz]at c;obtain⟨a,b⟩:=List.getElem?_eq_some_iff.1 c;rw[<-b];exact List.set_getElem_self a
end
end Go.VM
namespace Go.Proofs.YthlkhjchcjflkaaGreatDoor
open Go.AM Go.VM
structure Rd where
 b:Nat
 cap:Nat
 ts:List Tok
def xY(a:Rd)(p:Nat):List V:=[.d (.ps a.b 0 3 a.cap (a.ts.map mK)),b6 p]
def e8(a:Rd)(p:Nat):cU:=.box (xY a p)
def QY(t:Tok):V:=Cq t.kind t.text t.off
theorem rA{b:Rd}{p:Nat}{t:Tok}(a:b.ts[p]?=some t):nth (b.ts.map mK) p=some (mK t):=by
 rw[cz,List.getElem?_map,a];rfl
theorem mL(c:Rd)(p:Nat)(t:Tok)(b:c.ts[p]?=some t)(e:Nat){σ:VS}{K:cZ->VS->Prop}(a:nth σ e=some (e8 c p))(f:K (.ret (QY t)) σ):b3 C cn Cg [.bp e 0] σ K:=by
 refine b3.one (eN:=[.bp 0 0]) (P:=fun h g=>h=.ret (QY t)/\g=xY c p) ?_ e a Z Z Z (fun h j i=>by rw[i.1,i.2];show K _ (σ.set e (e8 c p));rw[tg a];exact f);refine cB ?_;refine bZ Z ?_;refine b7 (mK t) (rA b) ?_;repeat refine a7 (by repeat' (first|exact tv|exact rfl|refine bZ rfl ?_|refine b7 (mK t) (rA b) ?_|refine And.intro ?_ ?_)) ?_
 refine a6 1 ⟨xY c p,Z,Z,Z,Z,Z⟩
def eR(t:Tok)(p:Nat):Nat:=if t.kind=0 then p else p+1
theorem dR(c:Rd)(p:Nat)(t:Tok)(e:c.ts[p]?=some t)(l:p<4294967296)(g:Nat){σ:VS}{K:cZ->VS->Prop}(d:nth σ g=some (e8 c p))(h:K (.ret (QY t)) (σ.set g (e8 c (eR t p)))):b3 C cn Ci [.bp g 0] σ K:=by
 refine b3.one (eN:=[.bp 0 0]) (P:=fun j i=>j=.ret (QY t)/\i=xY c (eR t p)) ?_ g d Z Z Z (fun j k b=>by rw[b.1,b.2];exact h);refine cB ?_;refine bZ Z ?_;refine b7 (mK t) (rA e) ?_;repeat refine a7 (by repeat' (first|exact tv|exact rfl|refine bZ rfl ?_|refine b7 (mK t) (rA e) ?_|refine And.intro ?_ ?_)) ?_
 apply aZ<;>intro b
 ·have a:t.kind≠0:=fun m=>by rw[m]at b;cases b
  refine a6 1 ⟨xY c (p+1),?_,Z,Z,Z,?_⟩
  ·show [cU.box [_,V.d (.int .i64 (IntKind.i64.wrap (Yl p+1)))]]=_;rw[cq om];rfl
  ·rw[eR,if_neg a]
 ·have a:t.kind=0:=iZ b;refine a6 1 ⟨xY c p,Z,Z,Z,Z,?_⟩;rw[eR,if_pos a]
def fC(a b:Nat):V:=.iface QT (.agg [b6 a,b6 b])
theorem iR(d:V)(a c:Nat){σ:VS}{K:cZ->VS->Prop}(b:K (.fO (fC a c)) σ):b3 C cn Ch [d,b6 a,b6 c] σ K:=by
 refine cA ?_;exact b
def cD(t:Tok)(a:List UInt8):Bool:=decide (t.text=a)&&(decide (t.kind=5)||decide (t.kind=6))
theorem JB{c:Rd}{p:Nat}{e:Bool}{f:Bool}{o:cU}(g:e=f):cR 1 (.ret (b0 e)) [.box (xY c p),o] fun d b=>∃a,b=[.box a]/\cX d=true/\gC 0 a=true/\(d=.ret (b0 f)/\a=xY c p):=
 .drop 1 rfl rfl rfl (.now rfl ⟨xY c p,rfl,rfl,rfl,by rw[g],rfl⟩)
theorem tR(d:Rd)(p:Nat)(t:Tok)(e:List UInt8)(j:d.ts[p]?=some t)(g:Nat){σ:VS}{K:cZ->VS->Prop}(c:nth σ g=some (e8 d p))(h:K (.ret (b0 (cD t e))) σ):b3 C cn jZ [.bp g 0,cE e] σ K:=by
 refine b3.one (eN:=[.bp 0 0,cE e]) (P:=fun k i=>k=.ret (b0 (cD t e))/\i=xY d p) ?_ g c Z Z Z (fun k l a=>by rw[a.1,a.2];show K _ (σ.set g (e8 d p));rw[tg c];exact h);refine cB ?_;refine mL d p t j 0 Z ?_;apply aZ<;>intro a
 ·repeat refine a8 a ?_
  apply aZ<;>intro b
  ·repeat first|refine a8 b ?_|refine a8 a ?_
   refine JB ?_;rw[cD,a,show t.kind=5 from BJ (b:=5) b];rfl
  ·repeat first|refine a1 b ?_|refine a8 a ?_
   refine JB ?_;have:t.kind≠5:=wA (b:=5) b;rw[cD,a,decide_eq_false this,YC,Bool.false_or];exact decide_eq_decide.2 (by simp only[Yp];omega)
 ·repeat refine a1 a ?_
  refine JB ?_;rw[cD,a];rfl
theorem vt{t:Tok}{b:List UInt8}(a:cD t b=true):t.kind≠0:=by
 simp only[cD,Yu,Bool.or_eq_true,decide_eq_true_eq]at a;omega
theorem dq(f:Rd)(p:Nat)(t:Tok)(b:List UInt8)(e:f.ts[p]?=some t)(g:p<4294967296)(d:Nat){σ:VS}{K:cZ->VS->Prop}(a:nth σ d=some (e8 f p)) 
  (h:cD t b=true->K (.ret (b0 true)) (σ.set d (e8 f (p+1)))) (i:cD t b=false->K (.ret (b0 false)) σ):b3 C cn Cj [.bp d 0,cE b] σ K:=by
 refine cA ?_;refine tR f p t b e d a ?_;apply aZ<;>intro j
 ·exact i (by simpa using j)
 ·have c:cD t b=true:=by simpa using j
  refine dR f p t e g d a ?_;have k:eR t p=p+1:=by rw[eR,if_neg (vt c)]
  rw[k];exact h c
theorem rB(c:Rd)(p b:Nat)(t:Tok)(l:c.ts[p]?=some t)(i:p<4294967296)(f:Nat){σ:VS}{K:cZ->VS->Prop}(e:nth σ f=some (e8 c p)) 
  (k:t.kind=b->K (.ret (cE t.text)) (σ.set f (e8 c (eR t p)))) (m:t.kind≠b->K (.fO (fC t.off 3)) (σ.set f (e8 c (eR t p)))):b3 C cn AD [.bp f 0,b6 b] σ K:=by
 refine b3.one (eN:=[.bp 0 0,b6 b]) (P:=fun j g=>g=xY c (eR t p)/\((t.kind=b/\j=.ret (cE t.text))∨(t.kind≠b/\j=.fO (fC t.off 3)))) ?_ f e Z Z Z ?_
 ·refine cB ?_;refine dR c p t l i 0 Z ?_;apply aZ<;>intro a
  ·have d:t.kind≠b:=fun n=>by
    rw[n]at a;rw[Bool.not_eq_true',decide_eq_false_iff_not]at a;exact a Z
   refine iR _ t.off 3 ?_;exact a6 1 ⟨xY c (eR t p),Z,Z,Z,Z,.inr ⟨d,Z⟩⟩
  ·have d:t.kind=b:=by
    rw[YR]at a;exact BJ a
   exact a6 1 ⟨xY c (eR t p),Z,Z,Z,Z,.inl ⟨d,Z⟩⟩
 ·rintro j g ⟨rfl,⟨a,rfl⟩|⟨a,rfl⟩⟩
  ·exact k a
  ·exact m a
theorem lp(c:Rd)(p:Nat)(t:Tok)(g:c.ts[p]?=some t)(d:p<4294967296)(b:Nat){σ:VS}{K:cZ->VS->Prop}(a:nth σ b=some (e8 c p)) 
  (f:t.kind=1->K (.ret (cE t.text)) (σ.set b (e8 c (p+1)))) (h:t.kind≠1->K (.fO (fC t.off 3)) (σ.set b (e8 c (eR t p)))):b3 C cn Ck [.bp b 0] σ K:=by
 refine cA ?_;refine rB c p 1 t g d b a (fun e=>?_) (fun e=>?_)
 ·have i:eR t p=p+1:=by rw[eR,if_neg om]
  rw[i];exact f e
 ·exact h e
inductive PR (α:Type)where
 |ok (a:α) (p:Nat)
 |bad (off e:Nat)
structure Rd.Wf (R:Rd):Prop where
 len:R.ts.length<4294967296
 go:∀p t,R.ts[p]?=some t->t.kind≠0->p+1<R.ts.length
def Rd.tok(a:Rd)(p:Nat):Tok:=(a.ts[p]?).getD ⟨0,[],0⟩
theorem b8{a:Rd}{p:Nat}(b:p<a.ts.length):a.ts[p]?=some (a.tok p):=by
 rw[Rd.tok,Yo b];rfl
theorem Rd.Wf.step{a:Rd}(e:a.Wf){p:Nat}{c:List UInt8}(d:p<a.ts.length)(b:cD (a.tok p) c=true):p+1<a.ts.length:=e.go p _ (b8 d) (vt b)
theorem Rd.Wf.eR{a:Rd}(c:a.Wf){p:Nat}(b:p<a.ts.length):eR (a.tok p) p<a.ts.length:=by
 unfold YthlkhjchcjflkaaGreatDoor.eR;split
 ·exact b
 ·exact c.go p _ (b8 b) (by assumption)
def cv(b:Rd):List (List UInt8)->Nat->PR Unit
 |[],a=>.ok () a
 |s::c,a=>if cD (b.tok a) s then cv b c (a+1)else .bad (b.tok a).off 3
theorem dJ{c:Rd}(h:c.Wf):∀(e:List (List UInt8)) (d a:Nat),d<c.ts.length->cv c e d=.ok () a->a<c.ts.length:=by
 intro e;induction e with
 |nil=>intro d a f b;cases b;exact f
 |cons s e g=>
  intro d a f b;rw[cv]at b;split at b
  ·exact g _ _ (h.step f (by assumption)) b
  ·cases b
def XT{b:Type}(e:Rd)(d:Nat)(σ:VS)(K:cZ->VS->Prop)(val:b->V):PR b->Prop
 |.ok f c=>K (.ret (val f)) (σ.set d (e8 e c))
 |.bad a g=>∀c,K (.fO (fC a g)) (σ.set d (e8 e c))
def jJ(l:List (List UInt8)):List (List D):=l.map fun a=>[.str a]
theorem eU(a:Rd)(B:a.Wf)(l:List (List UInt8))(D:l.length<4294967296)(p:Nat)(z:p<a.ts.length)(b c w:Nat){σ:VS}{K:cZ->VS->Prop}(t:nth σ w=some (e8 a p)) 
  (m:XT a w σ K (fun _=>.dN []) (cv a l p)):b3 C cn uV [.bp w 0,.d (.ps b 0 1 c (jJ l))] σ K:=by
 refine b3.one (eN:=[.bp 0 0,.d (.ps b 0 1 c (jJ l))]) (P:=fun x o=>match cv a l p with
  |.ok _ e=>x=.ret (.dN [])/\o=xY a e
  |.bad n A=>x=.fO (fC n A)/\∃e,o=xY a e) ?_ w t rfl rfl rfl ?_
 ·refine cA ?_;refine b5.less (eh:=[(8,b6 0),(7,b6 l.length),(6,.d (.ps b 0 1 c (jJ l))),(0,.bp 0 0)]) ⟨Z,int_eq (by simp[jJ]),rfl,rfl,tv⟩ ?_;refine b5.iter (fun j:Nat×Nat=>[(8,b6 j.1),(7,b6 l.length),(6,.d (.ps b 0 1 c (jJ l))),(0,.bp 0 0)]) (fun j=>[.box (xY a j.2)]) (fun j=>l.length-j.1)
   (fun j=>j.1<=l.length/\j.2<a.ts.length/\cv a l p=cv a (l.drop j.1) j.2) ?_ (0,p) ⟨YQ _,z,rfl⟩
  rintro⟨d,f⟩ ⟨u,h,i⟩;have u:d<=l.length:=u;have h:f<a.ts.length:=h;have i:cv a l p=cv a (l.drop d) f:=i;have y:=B.len;apply aZ<;>intro q
  ·have g:d<l.length:=fq q;refine bZ Z ?_;refine b7 [.str l[d]] (by rw[cz,jJ,List.getElem?_map,Yo g];rfl) ?_;have r:l.drop d=l[d]::l.drop (d+1):=Yn g;refine dq a f (a.tok f) l[d] (b8 h) om 0 Z (fun k=>?_) (fun k=>?_)
   ·refine⟨(d+1,f+1),⟨g,B.step h k,?_⟩,?_,.same ⟨int_eq (cq om),Z,Z,Z,tv⟩ Z,Z,Z⟩
    ·show cv a l p=cv a (l.drop (d+1)) (f+1);rw[i,r,cv,if_pos k]
    ·show l.length-(d+1)<l.length-d;omega
   ·refine mL a f (a.tok f) (b8 h) 0 Z ?_;refine iR _ (a.tok f).off 3 ?_;refine⟨xY a f,Z,Z,Z,?_⟩;rw[i,r,cv,if_neg (by rw[k];decide)];exact⟨Z,f,Z⟩
  ·have g:l.length<=d:=dM q;refine⟨xY a f,Z,Z,Z,?_⟩;rw[i,Yr g];exact⟨Z,Z⟩
 ·intro x o q;cases s:cv a l p with
  |ok E e=>rw[s]at q m;obtain⟨rfl,rfl⟩:=q;exact m
  |bad n A=>rw[s]at q m;obtain⟨rfl,e,rfl⟩:=q;exact m e
end Go.Proofs.YthlkhjchcjflkaaGreatDoor
namespace Go.VM
open Go.AM
section
variable{C:eD} {cO:FuncId->List Value->Option Value}
theorem fT(f:Nat->Nat)(o:cU)(a:gY 0 o=true):eC f o=o:=by
 cases o with
 |box g=>simp only[eC];rw[gk _ g a]
 |row d c=>
  simp only[eC];congr 1;simp only[gY,Yy]at a;conv=>rhs;rw[<-List.map_id c]
  exact YB fun e b=>gk _ e (a e b)
 |map d m=>
  simp only[eC];congr 1;simp only[gY,Yy,Yu]at a;conv=>rhs;rw[<-List.map_id d]
  exact YB fun e b=>by
   obtain⟨h,i,k⟩:=e;have:=a _ b;simp only[Jp,jh _ h this.1,jh _ i this.2,id]
 |loop l=>simp only[gY,Yu]at a;exact absurd (gV a.2) (Yx _)
 |fg j=>rfl
 |gone=>rfl
theorem j2(c:Nat)(o:cU)(b:gY 0 o=true):gY c o=true:=by
 cases o with
 |box e=>exact hE c e b
 |row f g=>simp only[gY,Yy]at b⊢;exact fun d a=>hE c d (b d a)
 |map f j=>simp only[gY,Yy,Yu]at b⊢;exact fun d a=>⟨K1 c _ (b d a).1,K1 c _ (b d a).2⟩
 |loop i=>simp only[gY,Yu]at b;exact absurd (gV b.2) (Yx _)
 |fg h=>rfl
 |gone=>rfl
theorem b3.two{f:FuncId}{eN c:List V}{e d:cU}{P:cZ->cU->cU->Prop}(r:b3 C cO f eN [e,d] fun j o=>∃b a,o=[b,a]/\cX j=true/\gY 0 b=true/\gY 0 a=true/\P j b a) 
  (i h:Nat) (k:i≠h) {σ:VS} {K:cZ->VS->Prop} (v:nth σ i=some e) (q:nth σ h=some d) (m:gY 0 e=true) (n:gY 0 d=true) (l:gC 2 eN=true) (y:c=iw (jO [i,h] σ.length) eN)
  (s:∀j b a,P j b a->K j ((σ.set i b).set h a)):b3 C cO f c σ K:=by
 refine r.frame [i,h] Z (by simp[k]) (fun B p g=>?_) l y (fun u t g _=>?_)
 ·match B,g with
  |0,g=>
   obtain rfl:i=p:=by simpa using g
   exact⟨e,Z,by rw[<-cz,v,fT _ _ m],j2 _ _ m⟩
  |1,g=>
   obtain rfl:h=p:=by simpa using g
   exact⟨d,Z,by rw[<-cz,q,fT _ _ n],j2 _ _ n⟩
  |B+2,g=>simp at g
 ·obtain⟨b,a,rfl,z,A,w,x⟩:=g;rw[lT _ _ z];simp only[YM,YO,fT _ _ A,fT _ _ w,merge,YK];exact s u b a x
end
end Go.VM
namespace Go.Proofs.YthlkhjchcjflkaaGreatDoor
open Go.AM Go.VM
def im:Nat->List (List UInt8)->List qx
 |_,[]=>[]
 |k,a::b=>⟨cE a,b0 true,k⟩::im (k+1) b
theorem OM(l:List (List UInt8))(b:List UInt8):∀a,im a (l++[b])=im a l++[⟨cE b,b0 true,a+l.length⟩]:=by
 induction l with
 |nil=>intro a;rfl
 |cons d l c=>
  intro a;show _::im (a+1) (l++[b])=_;rw[c];simp only[im,List.cons_append,Ys];rw[show a+1+l.length=a+(l.length+1)from by omega]
def o7(a:List (List UInt8)):cU:=.map (im 0 a) a.length
theorem ON(a:List (List UInt8))(b:List UInt8):o7 (a++[b])=.map (im 0 a++[⟨cE b,b0 true,a.length⟩]) (a.length+1):=by
 rw[o7,OM,YN,List.length_append];rfl
theorem io(a:List (List UInt8)):gY 0 (o7 a)=true:=by
 have:∀(b:List (List UInt8)) (d:Nat),(im d b).all (fun e=>bd 0 e.key&&bd 0 e.val)=true:=by
  intro b;induction b with
  |nil=>intro d;rfl
  |cons f b c=>intro d;simp only[im,List.all_cons,c];rfl
 exact this a 0
theorem Db{c:List UInt8}:∀{a:List (List UInt8)} {d b:Nat},c ∉ a->fR .string (cE c) (im d a) b=some none:=by
 intro a;induction a with
 |nil=>intro d b _;rfl
 |cons h i e=>
  intro d b g;show(match decide (c=h)with
   |true=>some (some (b,b0 true))
   |false=>fR .string (cE c) (im (d+1) i) (b+1))=_
  rw[decide_eq_false (fun f=>g (by simp[f]))];exact e (fun f=>g (by simp[f]))
theorem Mt{b:List UInt8}:∀{a:List (List UInt8)} {k i:Nat},b∈a->∃f,fR .string (cE b) (im k a) i=some (some (f,b0 true)):=by
 intro a;induction a with
 |nil=>intro k i c;simp at c
 |cons g j d=>
  intro k i c;by_cases h:b=g
  ·refine⟨i,?_⟩;show(match decide (b=g)with
    |true=>some (some (i,b0 true))
    |false=>fR .string (cE b) (im (k+1) j) (i+1))=_
   rw[decide_eq_true h]
  ·obtain⟨f,e⟩:=d (k:=k+1) (i:=i+1) (by simpa [h]using c);refine⟨f,?_⟩;show(match decide (b=g)with
    |true=>some (some (i,b0 true))
    |false=>fR .string (cE b) (im (k+1) j) (i+1))=_
   rw[decide_eq_false h];exact e
theorem o8(b:Rd)(x:b.Wf)(p:Nat)(k:p<b.ts.length)(a:List (List UInt8))(g h:Nat)(i:g≠h){σ:VS}{K:cZ->VS->Prop}(l:nth σ g=some (e8 b p))(u:nth σ h=some (o7 a)) 
  (q:(b.tok p).kind=1->(b.tok p).text ∉ a->K (.ret (cE (b.tok p).text)) ((σ.set g (e8 b (p+1))).set h (o7 (a++[(b.tok p).text]))))
  (o:(b.tok p).kind=1->(b.tok p).text∈a->K (.fO (fC (b.tok p).off 5)) ((σ.set g (e8 b (p+1))).set h (o7 a)))
  (t:(b.tok p).kind≠1->K (.fO (fC (b.tok p).off 3)) ((σ.set g (e8 b (eR (b.tok p) p))).set h (o7 a))):b3 C cn AE [.bp g 0,.map h] σ K:=by
 refine b3.two (eN:=[.bp 0 0,.map 1]) (P:=fun n f e=>
  ((b.tok p).kind=1/\(b.tok p).text ∉ a/\n=.ret (cE (b.tok p).text)/\f=e8 b (p+1)/\e=o7 (a++[(b.tok p).text]))∨
  ((b.tok p).kind=1/\(b.tok p).text∈a/\n=.fO (fC (b.tok p).off 5)/\f=e8 b (p+1)/\e=o7 a)∨
  ((b.tok p).kind≠1/\n=.fO (fC (b.tok p).off 3)/\f=e8 b (eR (b.tok p) p)/\e=o7 a)) ?_ g h i l u rfl (io a) rfl rfl ?_
 ·have r:=x.len;refine cA ?_;refine mL b p (b.tok p) (b8 k) 0 Z ?_;refine lp b p (b.tok p) (b8 k) om 0 Z (fun d=>?_) (fun d=>?_)
  ·by_cases c:(b.tok p).text∈a
   ·obtain⟨w,v⟩:=Mt (k:=0) (i:=0) c;refine b7 (some (w,b0 true)) v ?_;refine iR _ (b.tok p).off 5 ?_;exact⟨_,_,Z,Z,Z,io a,.inr (.inl ⟨d,c,Z,Z,Z⟩)⟩
   ·refine b7 none (Db c) ?_;refine b7 none (Db c) ?_;refine⟨e8 b (p+1),o7 (a++[(b.tok p).text]),?_,Z,Z,io _,.inl ⟨d,c,Z,Z,Z⟩⟩;rw[ON];rfl
  ·exact⟨_,_,Z,Z,Z,io a,.inr (.inr ⟨d,Z,Z,Z⟩)⟩
 ·rintro n f e (⟨j,s,rfl,rfl,rfl⟩|⟨j,s,rfl,rfl,rfl⟩|⟨j,rfl,rfl,rfl⟩)
  ·exact q j s
  ·exact o j s
  ·exact t j
end Go.Proofs.YthlkhjchcjflkaaGreatDoor
