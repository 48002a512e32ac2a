/- Part of the proof. -/
import Derived.Test.YtpejealjkmhkgaaGreatDoorKAt
import Derived.Test.YtpejealjkmhkgaaGreatDoorKAs
set_option linter.all false
set_option maxHeartbeats 16000000
set_option maxRecDepth 100000
open Int renaming ofNat->abK,ofNat_eq_natCast->aet
open Nat renaming le_of_ble_eq_true->abL,le_refl->aeM,beq->aeV
open List renaming drop_eq_getElem_cons->aeu,find?_cons->aev,drop_of_length_le->aeN,isPrefixOf_iff_prefix->aeO,getElem?_eq_getElem->aeP,length_cons->aeQ,take_of_length_le->aeR,drop_zero->aeS,take_length->aeT,length_drop->aeU
namespace Go.Proofs.YtpejealjkmhkgaaGreatDoor
open Go.AM Go.VM
abbrev pQ:FuncId:=4
abbrev tj:FuncId:=8
abbrev wO:FuncId:=11
abbrev wP:FuncId:=12
abbrev kU:FuncId:=13
abbrev hV:FuncId:=14
abbrev rl:FuncId:=15
abbrev hW:FuncId:=16
abbrev pR:FuncId:=17
abbrev fN:FuncId:=22
abbrev kW:FuncId:=23
abbrev mm:FuncId:=24
abbrev to:FuncId:=25
abbrev uI:FuncId:=26
abbrev sC:FuncId:=36
abbrev dj:FuncId:=37
abbrev pS:FuncId:=38
abbrev sD:FuncId:=39
abbrev cR:FuncId:=40
abbrev pT:FuncId:=41
abbrev iX:FuncId:=42
abbrev iF:FuncId:=43
abbrev iY:FuncId:=44
abbrev F.strings_Contains:FuncId:=45
abbrev n7:FuncId:=46
abbrev iZ:FuncId:=47
abbrev gj:FuncId:=48
abbrev ja:FuncId:=49
abbrev n8:FuncId:=50
abbrev tK:FuncId:=51
abbrev hY:FuncId:=52
abbrev sE:FuncId:=53
abbrev pU:FuncId:=54
abbrev gn:FuncId:=61
abbrev dT:FuncId:=62
abbrev A6:FuncId:=63
abbrev EF:FuncId:=65
abbrev EG:FuncId:=66
abbrev wQ:FuncId:=67
abbrev EH:FuncId:=68
abbrev EI:FuncId:=69
abbrev wR:FuncId:=70
abbrev wS:FuncId:=71
abbrev EJ:FuncId:=72
abbrev wT:FuncId:=73
abbrev EK:FuncId:=83
abbrev rX:FuncId:=85
abbrev tp:FuncId:=86
abbrev wU:FuncId:=87
abbrev uJ:FuncId:=88
abbrev qL:FuncId:=89
abbrev lB:FuncId:=90
abbrev qM:FuncId:=92
abbrev sF:FuncId:=94
abbrev kn:FuncId:=95
abbrev pV:FuncId:=96
abbrev rm:FuncId:=97
abbrev mn:FuncId:=98
abbrev qN:FuncId:=99
abbrev qO:FuncId:=100
abbrev lC:FuncId:=101
abbrev yP:FuncId:=104
abbrev lK:FuncId:=105
abbrev By:FuncId:=106
abbrev lL:FuncId:=107
abbrev uK:FuncId:=108
abbrev pW:FuncId:=109
abbrev tL:FuncId:=110
abbrev mo:FuncId:=111
abbrev n9:FuncId:=112
abbrev uL:FuncId:=114
abbrev wu:FuncId:=116
abbrev uM:FuncId:=117
abbrev sG:FuncId:=118
abbrev xG:FuncId:=119
abbrev rY:FuncId:=120
abbrev tM:FuncId:=121
abbrev uN:FuncId:=125
abbrev ko:FuncId:=126
abbrev yQ:FuncId:=127
abbrev Al:FuncId:=128
abbrev Am:FuncId:=129
abbrev oN:FuncId:=130
abbrev uO:FuncId:=131
abbrev ir:FuncId:=132
abbrev jB:FuncId:=133
abbrev qP:FuncId:=134
abbrev Bz:FuncId:=135
abbrev jb:FuncId:=136
abbrev jC:FuncId:=137
abbrev EL:FuncId:=145
abbrev qQ:FuncId:=146
abbrev C8:FuncId:=147
abbrev tq:FuncId:=148
abbrev EM:FuncId:=149
abbrev tr:FuncId:=150
abbrev uP:FuncId:=151
abbrev ez:FuncId:=153
abbrev tu:FuncId:=154
abbrev BA:FuncId:=156
abbrev C9:FuncId:=157
abbrev mL:FuncId:=158
abbrev wv:FuncId:=159
abbrev pc:FuncId:=160
abbrev iQ:FuncId:=161
abbrev rZ:FuncId:=162
abbrev jL:FuncId:=163
abbrev oP:FuncId:=164
abbrev tw:FuncId:=165
abbrev yR:FuncId:=166
abbrev sH:FuncId:=167
abbrev eA:FuncId:=169
abbrev EN:FuncId:=170
abbrev yS:FuncId:=171
abbrev pd:FuncId:=172
abbrev iR:FuncId:=173
abbrev tN:FuncId:=175
abbrev qh:FuncId:=176
abbrev mQ:FuncId:=178
abbrev mq:FuncId:=179
abbrev lM:FuncId:=180
abbrev sI:FuncId:=181
abbrev uQ:FuncId:=182
abbrev uR:FuncId:=183
abbrev uS:FuncId:=184
abbrev Da:FuncId:=188
abbrev Hp:FuncId:=189
abbrev oQ:FuncId:=191
abbrev kK:FuncId:=192
abbrev kN:FuncId:=193
abbrev pX:FuncId:=194
abbrev BB:FuncId:=195
abbrev uT:FuncId:=196
abbrev EO:FuncId:=197
abbrev JE:FuncId:=198
abbrev yT:FuncId:=199
abbrev BC:FuncId:=200
abbrev iI:FuncId:=202
abbrev ww:FuncId:=203
abbrev jU:FuncId:=204
abbrev wx:FuncId:=205
abbrev yU:FuncId:=206
abbrev wy:FuncId:=207
abbrev yV:FuncId:=208
abbrev lV:FuncId:=215
abbrev qR:FuncId:=216
abbrev qS:FuncId:=217
abbrev yW:FuncId:=219
abbrev BD:FuncId:=220
abbrev oB:FuncId:=221
abbrev kX:FuncId:=222
abbrev tx:FuncId:=223
abbrev yX:FuncId:=224
abbrev lg:FuncId:=225
abbrev wV:FuncId:=226
abbrev dN:FuncId:=227
abbrev lh:FuncId:=228
abbrev oR:FuncId:=229
abbrev r3:FuncId:=231
abbrev rn:FuncId:=235
abbrev lN:FuncId:=236
abbrev wz:FuncId:=238
abbrev wA:FuncId:=239
abbrev Hq:FuncId:=240
abbrev wW:FuncId:=241
abbrev BE:FuncId:=242
abbrev Db:FuncId:=243
abbrev tz:FuncId:=244
abbrev tA:FuncId:=245
abbrev tB:FuncId:=246
abbrev gz:FuncId:=249
abbrev mr:FuncId:=253
abbrev lD:FuncId:=255
abbrev yY:FuncId:=256
abbrev qT:FuncId:=257
abbrev oC:FuncId:=258
abbrev kL:FuncId:=259
abbrev r4:FuncId:=261
abbrev JF:FuncId:=262
abbrev oS:FuncId:=264
abbrev pf:FuncId:=265
abbrev oD:FuncId:=266
abbrev hJ:FuncId:=267
abbrev j5:FuncId:=271
abbrev lE:FuncId:=272
abbrev fg:FuncId:=273
abbrev jD:FuncId:=274
abbrev kP:FuncId:=275
abbrev yZ:FuncId:=276
abbrev mu:FuncId:=282
abbrev lF:FuncId:=283
abbrev uU:FuncId:=284
abbrev tO:FuncId:=287
abbrev kY:FuncId:=288
abbrev kG:FuncId:=289
abbrev tC:FuncId:=290
abbrev r5:FuncId:=291
abbrev wB:FuncId:=293
abbrev nw:FuncId:=294
abbrev uV:FuncId:=295
abbrev uW:FuncId:=298
abbrev pY:FuncId:=299
abbrev r6:FuncId:=300
abbrev We:TypeId:=124
def k9(c:UInt8):Bool:=decide (97<=abK c.toNat)&&decide (abK c.toNat<=122)
def iT(c:UInt8):Bool:=decide (65<=abK c.toNat)&&decide (abK c.toNat<=90)
def isDigit(c:UInt8):Bool:=decide (48<=abK c.toNat)&&decide (abK c.toNat<=57)
def isWord(c:UInt8):Bool:=k9 c||iT c||isDigit c||decide (abK c.toNat=95)
theorem sJ(c:UInt8){σ:VS}{K:cO->VS->Prop}(hk:K (.ret (bX (k9 c))) σ):bV C ca EO [io c] σ K:=by
 exact YM
theorem sK(c:UInt8){σ:VS}{K:cO->VS->Prop}(hk:K (.ret (bX (iT c))) σ):bV C ca BD [io c] σ K:=by
 exact YJ
theorem pZ(c:UInt8){σ:VS}{K:cO->VS->Prop}(hk:K (.ret (bX (isDigit c))) σ):bV C ca wW [io c] σ K:=by
 exact YL
theorem An(c:UInt8){σ:VS}{K:cO->VS->Prop}(hk:K (.ret (bX (isWord c))) σ):bV C ca yT [io c] σ K:=by
 refine cj ?_;refine sJ c ?_;apply aZ<;>intro h1
 ·exact aeL
 ·refine a7 h1 (sK c ?_);refine a7 h1 ?_;apply aZ<;>intro h2
  ·exact acr
  ·refine a7 h2 (pZ c ?_);exact YB
structure Dc (g:Nat) (p:UInt8->Bool):Prop where
 is:(C.ff.get g).isSome=true
 spec:∀(c:UInt8) {σ:VS} {K:cO->VS->Prop},K (.ret (bX (p c))) σ->bV C ca g [io c] σ K
theorem F7:Dc yT isWord:=⟨rfl,fun b=>An b⟩
theorem Il:Dc wW isDigit:=⟨rfl,fun b=>pZ b⟩
variable{d:Nat}
theorem xV{p:UInt8->Bool}(b:Dc d p)(s:cq)(e:s.length<4294967296){σ:VS}{K:cO->VS->Prop}(hk:K (.ret (bX (s.all p))) σ):bV C ca JE [cn s,.fn d [] []] σ K:=by
 refine cj ?_;refine cD (dB:=[(8,bW 0),(7,bW s.length),(4,bX false),(1,.fn d [] []),(0,cn s)]) ?_;refine cd.iter (fun i:Nat=>[(8,bW i),(7,bW s.length),(4,bX false),(1,.fn d [] []),(0,cn s)]) (fun _=>σ) (fun i=>s.length-i) (fun i=>i<=s.length/\(s.take i).all p=true) ?_ 0 ⟨om,by simp⟩;rintro i ⟨k,hp⟩;apply aZ<;>intro h
 ·have h:i<s.length:=by simpa using h
  have hgi:s[i]?=some s[i]:=aeP h;refine bZ Z (cc s[i] (by rw[ck];exact hgi) ?_);refine cg b.is ?_;refine b.spec s[i] ?_;apply aZ<;>intro h2
  ·exact acm
  ·refine⟨i+1,⟨om,?_⟩,om,.same ⟨int_eq ?_,Z,Z,Z,Z,tv⟩ Z,Z,Z⟩
   ·exact Zx
   ·exact cp om
 ·have h:¬i<s.length:=by simpa using h
  refine eL ?_ hk;rw[aeR om]at hp;exact hp.symm
theorem rp(s t:cq)(c:s.length<4294967281){σ:VS}{K:cO->VS->Prop}(b:K (.ret (bX (hQ t s))) σ):bV C ca F.strings_Contains [cn s,cn t] σ K:=by
 refine dx (args:=[.str s,.str t]) (x:=.bool (hQ t s)) ?_ Z b;have:Nat.blt s.length 4294967281=true:=by rw[qF];exact decide_eq_true c
 simp only[ca,JC,List.map_cons,List.map_nil,cz];show(match Nat.blt s.length 4294967281 with|true=>_|false=>_)=_;rw[this]
def B1:cq:=[32,97,110,100,32,97,110,121,32,97,115,32,98,111,111,108,32,100,101,112,114,101,99,97,116,101,100,32,101,108,115,101,32,101,120,112,111,114,116,32,102,97,108,115,101,32,102,110,32,102,111,108,100,32,102,114,111,109,32,105,102,32,105,109,112,111,114,116,32,105,110,32,105,110,116,32,108,101,110,103,116,104,32,108,101,116,32,108,105,115,116,32,109,97,116,99,104,32,109,111,100,117,108,101,32,110,111,110,101,32,110,111,116,32,111,114,32,116,101,120,116,32,116,104,101,110,32,116,114,117,101,32,116,121,112,101,32,117,115,101,32]
def Tg(s:cq):Bool:=hQ (([32]++s)++[32]) B1
theorem xZ(s:cq)(c:s.length<4294967296){σ:VS}{K:cO->VS->Prop}(b:K (.ret (bX (Tg s))) σ):bV C ca BC [cn s] σ K:=by
 refine cj ?_;refine a6 ?_ ?_
 ·show 1+s.length<=_;omega
 refine a6 ?_ ?_
 ·show(_::s).length+1<=_;exact Im
 refine rp B1 (([32]++s)++[32]) (by simp only[B1,aeQ,List.length_nil];omega) ?_;exact b
def cK(s:cq):Bool:=decide (s≠[])&&decide (s.length<=32)&&(s.head?.any k9)&&s.all isWord&& !(Tg s)
def dX(s:cq):Bool:=decide (s≠[])&&decide (s.length<=32)&&(s.head?.any iT)&&s.all isWord
theorem ic(s:cq)(b:s.length<4294967296){σ:VS}{K:cO->VS->Prop}(hk:K (.ret (bX (cK s))) σ):bV C ca uO [cn s] σ K:=by
 refine cj ?_;apply aZ<;>intro h1
 ·repeat refine cg h1 ?_
  cases s with
  |nil=>simp at h1
  |cons c r=>
   apply aZ<;>intro h2
   ·have Ie:(c::r).length<=32:=JA h2;refine cg h2 (bZ Z (cc c Z ?_));refine cg h2 (sJ c ?_);refine cg h2 ?_;apply aZ<;>intro h3
    ·refine cg h3 (xV F7 (c::r) om ?_);refine cg h3 ?_;apply aZ<;>intro h4
     ·refine cg h4 (xZ (c::r) om ?_);refine cg h4 ?_;refine cg h4 ?_;exact Zv
     ·exact acb
    ·exact acs
   ·exact Y0
 ·exact acq
theorem ie(s:cq)(b:s.length<4294967296){σ:VS}{K:cO->VS->Prop}(hk:K (.ret (bX (dX s))) σ):bV C ca C9 [cn s] σ K:=by
 refine cj ?_;apply aZ<;>intro h1
 ·repeat refine cg h1 ?_
  cases s with
  |nil=>simp at h1
  |cons c r=>
   apply aZ<;>intro h2
   ·have Ie:(c::r).length<=32:=JA h2;refine cg h2 (bZ Z (cc c Z ?_));refine cg h2 (sK c ?_);refine cg h2 ?_;apply aZ<;>intro h3
    ·refine cg h3 (xV F7 (c::r) om ?_);exact ab0
    ·exact aco
   ·exact Y1
 ·exact acq
theorem P5(s:cq)(c:UInt8):C.ext kL ([D.str s,uy c].map cz)=some (cz (.int .i64 (indexByte s c.toNat 0))):=by
 have b:Nat.blt c.toNat 256=true:=by rw[qF];exact decide_eq_true c.toNat_lt
 show ext kL [.string ⟨⟨s⟩⟩,.int .u8 (abK c.toNat)]=_;simp only[ext,b];rfl
theorem tD(s:cq)(c:UInt8){σ:VS}{K:cO->VS->Prop}(b:K (.ret (.d (.int .i64 (indexByte s c.toNat 0)))) σ):bV C ca r3 [cn s,io c] σ K:=by
 refine cj ?_;refine xE (.int .i64 (indexByte s c.toNat 0)) (P5 s c) Z ?_;exact b
theorem p0(s:cq)(c:UInt8){σ:VS}{K:cO->VS->Prop}(b:K (.ret (.d (.int .i64 (indexByte s c.toNat 0)))) σ):bV C ca wz [cn s,io c] σ K:=by
 refine cj ?_;refine tD s c ?_;exact b
def eB(s p:cq):Bool:=p.isPrefixOf s
theorem Mh{s p:cq}(c:p.length<=s.length):decide ((s.take p.length).drop 0=p)=eB s p:=by
 rw[aeS,eB,Bool.eq_iff_iff,decide_eq_true_eq,aeO];exact⟨fun b=>⟨s.drop p.length,by have:=List.take_append_drop p.length s;rw[b]at this;exact this⟩,fun⟨e,b⟩=>by rw[<-b];simp⟩
theorem P6{s p:cq}(c:s.length<p.length):eB s p=false:=by
 rw[eB,Bool.eq_false_iff];intro b;rw[aeO]at b;have:=b.length_le;omega
theorem oE(s p:cq){σ:VS}{K:cO->VS->Prop}(c:K (.ret (bX (eB s p))) σ):bV C ca r4 [cn s,cn p] σ K:=by
 refine cj ?_;apply aZ<;>intro b
 ·repeat refine cg b ?_
  refine bZ Z ?_;refine a6 ⟨Nat.zero_le _,JA b⟩ ?_;repeat refine cg b ?_
  exact eL (Mh (JA b)) c
 ·repeat refine a7 b ?_
  exact eL (P6 (Iv b)).symm c
theorem dY(s p:cq){σ:VS}{K:cO->VS->Prop}(b:K (.ret (bX (eB s p))) σ):bV C ca wA [cn s,cn p] σ K:=by
 refine cj ?_;refine oE s p ?_;exact b
def et(p:UInt8->Bool)(l:cq):Nat:=(l.takeWhile p).length
theorem p5(p:UInt8->Bool)(c:UInt8)(l:cq):et p (c::l)=if p c then et p l+1 else 0:=by
 simp only[et,List.takeWhile_cons];split<;>simp_all
theorem y0(p:UInt8->Bool)(l:cq):et p l<=l.length:=by
 induction l with
 |nil=>simp[et]
 |cons c l b=>rw[p5];split<;>simp<;>omega
theorem E4{p:UInt8->Bool}(o:Dc d p)(s:cq)(b:Nat)(t:b<=s.length)(w:s.length<4294967296){σ:VS}{K:cO->VS->Prop}(k:K (.ret (bW (b+et p (s.drop b)))) σ):
  bV C ca Hq [cn s,bW b,.fn d [] []] σ K:=by
 refine cj ?_;refine cD (dB:=[(1,bW b),(6,bW 0),(2,.fn d [] []),(0,cn s)]) ?_;refine cd.iter (fun c:Nat=>[(1,bW c),(6,bW 0),(2,.fn d [] []),(0,cn s)]) (fun _=>σ) (fun c=>s.length-c) (fun c=>c<=s.length/\c+et p (s.drop c)=b+et p (s.drop b)) ?_ b ⟨t,Z⟩;rintro c ⟨x,e⟩;apply aZ<;>intro i
 ·have h:=ee i;have l:s[c]?=some s[c]:=aeP h;have r:s.drop c=s[c]::s.drop (c+1):=aeu h;rw[r,p5]at e;repeat refine cg i ?_
  refine bZ Z (cc s[c] (by rw[ck];exact l) ?_);refine cg i ?_;refine cg o.is ?_;refine o.spec s[c] ?_;refine cg i ?_;apply aZ<;>intro n
  ·rw[if_pos n]at e;exact⟨c+1,⟨om,om⟩,om,.eS,Z,Z⟩
  ·rw[if_neg (by rw[n];simp)]at e;exact jO (show _=bW (b+et p (s.drop b))by rw[<-e];rfl) k
 ·have h:=dq i;rw[aeN h]at e;simp only[et,List.takeWhile_nil,List.length_nil]at e;repeat refine a7 i ?_
  exact jO (show _=bW (b+et p (s.drop b))by simp only[et];rw[<-e];rfl) k
theorem Ob{n:Int}(c:0<=n)(b:n<256):IntKind.u8.wrap n=n:=by
 have:IntKind.u8.wrap n=n%256:=rfl;rw[this];omega
def wC(c:UInt8):Option Nat:=if isDigit c then some (c.toNat-48)else if decide (97<=c.toNat)&&decide (c.toNat<=102)then some (c.toNat-87)else none
def kp(c:UInt8):V:=match wC c with
 |some b=>.dS [.d (.int .u8 (abK b)),bX true]
 |none=>.dS [.d (.int .u8 0),bX false]
theorem JG{c:UInt8}(b:isDigit c=true):48<=c.toNat/\c.toNat<=57:=by
 simp only[isDigit,Bool.and_eq_true]at b;exact⟨JA (a:=48) b.1,JA (b:=57) b.2⟩
theorem Dd(c:UInt8){σ:VS}{K:cO->VS->Prop}(h:K (.ret (kp c)) σ):bV C ca JF [io c] σ K:=by
 refine cj ?_;refine pZ c ?_;apply aZ<;>intro k
 ·refine jO ?_ h;have n:=JG k;simp only[kp,wC,k,if_pos];show V.dS [V.d (.int .u8 (IntKind.u8.wrap (abK c.toNat-48))),_]=_;rw[Ob (by simp only[aet];omega) (by simp only[aet];omega)];have:abK c.toNat-48=abK (c.toNat-48):=by simp only[aet];omega
  rw[this];rfl
 ·apply aZ<;>intro i
  ·have e:97<=c.toNat:=JA (a:=97) i;repeat refine cg i ?_
   apply aZ<;>intro l
   ·have b:c.toNat<=102:=JA (b:=102) l;refine jO ?_ h;simp only[kp,wC,k,decide_eq_true e,decide_eq_true b,Bool.and_self,if_pos];show V.dS [V.d (.int .u8 (IntKind.u8.wrap (IntKind.u8.wrap (abK c.toNat-97)+10))),_]=_;rw[Ob (n:=abK c.toNat-97) (by simp only[aet];omega) (by simp only[aet];omega)];rw[Ob (by simp only[aet];omega) (by simp only[aet];omega)];have:abK c.toNat-97+10=abK (c.toNat-87):=by simp only[aet];omega
    rw[this];rfl
   ·have b:¬c.toNat<=102:=Nat.not_le_of_lt (Iv (b:=102) l);refine jO ?_ h;simp only[kp,wC,k,decide_eq_false b,Bool.and_false];rfl
  ·have e:¬97<=c.toNat:=Nat.not_le_of_lt (Iv (a:=97) i);repeat refine a7 i ?_
   refine jO ?_ h;simp only[kp,wC,k,decide_eq_false e,Bool.false_and];rfl
def uX:List cq:=[[61,61,61],[58,58],[62,58],[60,58],[61,62],[61,61],[43,43]]
def Oc:cq:=[40,41,91,93,123,125,60,62,44,58,61,46,43,45,42,124,63,47]
def jE(s:cq):cq:=match uX.find? (eB s)with
 |some b=>b
 |none=>match s with
  |[]=>[]
  |c::_=>if 0<=indexByte Oc c.toNat 0 then [c]else []
theorem JH(s:cq){σ:VS}{K:cO->VS->Prop}(c:K (.ret (cn (jE s))) σ):bV C ca Db [cn s] σ K:=by
 refine cj ?_;refine cd.loop ?_;refine bZ (m:=0) Z (a6 dc ?_);refine dY s [61,61,61] ?_;refine aZ (fun b=>?_) (fun h=>?_)
 ·refine jO ?_ c;have b:eB s [61,61,61]=true:=b;simp only[jE,uX,aev,b];rfl
 have h:eB s [61,61,61]=false:=h;refine cd.loop ?_;refine bZ (m:=1) Z (a6 dc ?_);refine dY s [58,58] ?_;refine aZ (fun b=>?_) (fun i=>?_)
 ·refine jO ?_ c;have b:eB s [58,58]=true:=b;simp only[jE,uX,aev,h,b];rfl
 have i:eB s [58,58]=false:=i;refine cd.loop ?_;refine bZ (m:=2) Z (a6 dc ?_);refine dY s [62,58] ?_;refine aZ (fun b=>?_) (fun e=>?_)
 ·refine jO ?_ c;have b:eB s [62,58]=true:=b;simp only[jE,uX,aev,h,i,b];rfl
 have e:eB s [62,58]=false:=e;refine cd.loop ?_;refine bZ (m:=3) Z (a6 dc ?_);refine dY s [60,58] ?_;refine aZ (fun b=>?_) (fun k=>?_)
 ·refine jO ?_ c;have b:eB s [60,58]=true:=b;simp only[jE,uX,aev,h,i,e,b];rfl
 have k:eB s [60,58]=false:=k;refine cd.loop ?_;refine bZ (m:=4) Z (a6 dc ?_);refine dY s [61,62] ?_;refine aZ (fun b=>?_) (fun l=>?_)
 ·refine jO ?_ c;have b:eB s [61,62]=true:=b;simp only[jE,uX,aev,h,i,e,k,b];rfl
 have l:eB s [61,62]=false:=l;refine cd.loop ?_;refine bZ (m:=5) Z (a6 dc ?_);refine dY s [61,61] ?_;refine aZ (fun b=>?_) (fun n=>?_)
 ·refine jO ?_ c;have b:eB s [61,61]=true:=b;simp only[jE,uX,aev,h,i,e,k,l,b];rfl
 have n:eB s [61,61]=false:=n;refine cd.loop ?_;refine bZ (m:=6) Z (a6 dc ?_);refine dY s [43,43] ?_;refine aZ (fun b=>?_) (fun p=>?_)
 ·refine jO ?_ c;have b:eB s [43,43]=true:=b;simp only[jE,uX,aev,h,i,e,k,l,n,b];rfl
 have p:eB s [43,43]=false:=p;have r:uX.find? (eB s)=none:=by simp only[uX,aev,h,i,e,k,l,n,p,List.find?_nil]
 refine cd.loop ?_;apply aZ<;>intro b
 ·repeat refine cg b ?_
  cases s with
  |nil=>simp at b
  |cons v w=>
   refine bZ (m:=0) Z (cc v Z ?_);refine p0 Oc v ?_;apply aZ<;>intro e
   ·refine bZ (m:=1) Z (a6 ⟨om,by simp⟩ ?_);refine jO ?_ c;simp only[jE,r];rw[if_pos (of_decide_eq_true e)];rfl
   ·refine jO ?_ c;simp only[jE,r];rw[if_neg (of_decide_eq_false e)];rfl
 ·repeat refine a7 b ?_
  have t:s=[]:=by simpa using b
  subst t;exact jO Z c
def dZ:Bool->cq->Nat
 |_,[]=>0
 |true,b::c=>1+dZ (decide (b≠10)) c
 |false,b::c=>if b=47/\c.head? =some 47 then 1+dZ true c else if b=32∨b=9∨b=10∨b=13 then 1+dZ false c else 0
theorem y3(b:Bool)(l:cq):dZ b l<=l.length:=by
 induction l generalizing b with
 |nil=>cases b<;>simp[dZ]
 |cons e h c=>
  cases b with
  |true=>simp only[dZ,aeQ];have:=c (decide (e≠10));omega
  |false=>
   simp only[dZ,aeQ];split
   ·have:=c true;omega
   ·split
    ·have:=c false;omega
    ·omega
def qU(c:UInt8):Prop:=c=32∨c=9∨c=10∨c=13
instance (c:UInt8):Decidable (qU c):=by unfold qU;infer_instance
theorem FD(c:UInt8):decide (0<=indexByte [32,9,10,13] c.toNat 0)=decide (qU c):=by
 have n:∀k:UInt8,aeV k.toNat c.toNat=decide (c=k):=fun k=>by
  rw[N4];exact decide_eq_decide.2 ⟨fun l=>(UInt8.toNat_inj.1 l).symm,fun l=>by rw[l]⟩
 simp only[indexByte,n,qU];by_cases b:c=32
 ·simp[b]
 ·by_cases e:c=9
  ·simp[b,e]
  ·by_cases h:c=10
   ·simp[b,e,h]
   ·by_cases i:c=13
    ·simp[b,e,h,i]
    ·simp[b,e,h,i]
variable{g:cq}
theorem A7{c:UInt8}(e:qU c):dZ false (c::g)=1+dZ false g:=by
 have b:¬(c=47/\g.head? =some 47):=by
  rintro⟨rfl,_⟩;revert e;decide
 simp only[dZ,if_neg b];exact if_pos e
theorem Mi{c:UInt8}(i:¬qU c)(h:eB (c::g) [47,47]=false):dZ false (c::g)=0:=by
 have e:¬(c=47/\g.head? =some 47):=by
  rintro⟨rfl,b⟩;cases g with
  |nil=>cases b
  |cons k g=>simp at b;subst b;simp[eB]at h
 simp only[dZ,if_neg e];exact if_neg i
theorem EP{l:cq}(b:eB l [47,47]=true):dZ false l=dZ true l:=by
 rw[eB,aeO]at b;obtain⟨c,rfl⟩:=b;show dZ false (47::47::c)=dZ true (47::47::c);rfl
theorem acC:∀(c:cq) (b:Nat),(indexByte c 10 b= -1/\dZ true c=c.length)∨∃h,h<c.length/\indexByte c 10 b=abK (b+h)/\c[h]?=some 10/\dZ true c=h+dZ false (c.drop h):=by
 intro c;induction c with
 |nil=>intro b;exact .inl ⟨rfl,rfl⟩
 |cons p o r=>
  intro b;by_cases i:p=10
  ·subst i;refine .inr ⟨0,by simp,by simp[indexByte],Z,?_⟩;rw[aeS,A7 dc];simp[dZ]
  ·have v:aeV p.toNat 10=false:=sg fun w=>i (UInt8.toNat_inj.1 w);have k:indexByte (p::o) 10 b=indexByte o 10 (b+1):=by simp only[indexByte,v]
   have n:dZ true (p::o)=1+dZ true o:=by simp only[dZ,ne_eq,i,not_false_eq_true,decide_true]
   rcases r (b+1)with⟨l,e⟩|⟨h,l,e,s,t⟩
   ·exact .inl ⟨by rw[k,l],by rw[n,e,aeQ];omega⟩
   ·refine .inr ⟨h+1,by simp;omega,by rw[k,e];congr 1;omega,by simpa using s,by rw[n,t,List.drop_succ_cons];omega⟩
theorem uY(s:cq)(b:Nat)(x:b<=s.length)(F:s.length<4294967296){σ:VS}{K:cO->VS->Prop}(t:K (.ret (bW (b+dZ false (s.drop b)))) σ):
  bV C ca Da [cn s,bW b] σ K:=by
 refine cj ?_;refine cD (dB:=[(1,bW b),(4,bW 0),(0,cn s)]) ?_;refine cd.iter (fun c:Nat=>[(1,bW c),(4,bW 0),(0,cn s)]) (fun _=>σ) (fun c=>s.length-c) (fun c=>c<=s.length/\c+dZ false (s.drop c)=b+dZ false (s.drop b)) ?_ b ⟨x,Z⟩;rintro c ⟨G,e⟩;apply aZ<;>intro E
 ·have l:=ee E;have n:s[c]?=some s[c]:=aeP l;have o:s.drop c=s[c]::s.drop (c+1):=aeu l;refine bZ Z (cc s[c] (by rw[ck];exact n) ?_);refine p0 [32,9,10,13] s[c] ?_;apply aZ<;>intro r
  ·have k:qU s[c]:=by
    have:decide (0<=indexByte [32,9,10,13] s[c].toNat 0)=true:=r;rw[FD]at this;exact of_decide_eq_true this
   rw[o,A7 k]at e;exact⟨c+1,⟨om,om⟩,om,.eS,Z,Z⟩
  ·have k:¬qU s[c]:=by
    have:decide (0<=indexByte [32,9,10,13] s[c].toNat 0)=false:=r;rw[FD]at this;exact of_decide_eq_false this
   refine bZ Z (a6 ⟨om,aeM _⟩ ?_);refine dY _ [47,47] ?_;rw[aeT];apply aZ<;>intro w
   ·have i:eB (s.drop c) [47,47]=true:=w;rw[EP i]at e;refine bZ Z (a6 ⟨om,aeM _⟩ ?_);refine p0 _ 10 ?_;rw[aeT];rcases acC (s.drop c) 0 with⟨p,h⟩|⟨B,p,h,v,z⟩
    ·refine a7 (by show decide (0<=indexByte (s.drop c) 10 0)=false;rw[p];rfl) ?_;rw[h,aeU]at e;exact⟨s.length,⟨aeM _,by rw[aeN (aeM _)];simp only[dZ];omega⟩,om,.eS,Z,Z⟩
    ·rw[Nat.zero_add]at h;refine cg (by show decide (0<=indexByte (s.drop c) 10 0)=true;rw[h];exact decide_eq_true sm) ?_;rw[z,List.drop_drop]at e;rw[aeU]at p;have A:B≠0:=fun H=>by
      subst H;rw[List.getElem?_drop,Nat.add_zero,n]at v;injection v with y;exact k (.inr (.inr (.inl y)))
     exact⟨c+B,⟨om,om⟩,om,.same ⟨int_eq (by show IntKind.i64.wrap (abK c+indexByte (s.drop c) 10 0)=_;rw[h];exact c4 om),Z,Z,tv⟩ Z,Z,Z⟩
   ·have i:eB (s[c]::s.drop (c+1)) [47,47]=false:=by rw[<-o];exact w
    rw[o,Mi k i]at e;exact jO (show _=bW (b+dZ false (s.drop b))by rw[<-e];rfl) t
 ·have l:=dq E;rw[aeN l]at e;simp only[dZ]at e;exact jO (show _=bW (b+dZ false (s.drop b))by rw[<-e];rfl) t
def fv:List UInt8->Option (List UInt8×Nat)
 |[]=>none
 |c::l=>
  if c=34 then some ([],1)
  else if c<32 then none
  else if c≠92 then(fv l).map fun b=>(c::b.1,b.2+1)
  else match l with
   |[]=>none
   |e::i=>
    if e=34∨e=92 then(fv i).map fun b=>(e::b.1,b.2+2)
    else if e=110 then(fv i).map fun b=>(10::b.1,b.2+2)
    else if e=120 then match i with
     |h::p::k=>match wC h,wC p with
      |some o,some n=>(fv k).map fun b=>(UInt8.ofNat (16*o+n)::b.1,b.2+4)
      |_,_=>none
     |_=>none
    else none
theorem De(b:List UInt8):fv (34::b)=some ([],1):=by rw[fv.eq_def];rfl
variable{a:List UInt8}
theorem JI{c:UInt8}(b:c≠34)(e:c<32):fv (c::a)=none:=by
 rw[fv.eq_def];simp only[if_neg b,if_pos e]
theorem Df{c:UInt8}(e:c≠34)(b:¬c<32)(h:c≠92):fv (c::a)=(fv a).map fun i=>(c::i.1,i.2+1):=by
 rw[fv.eq_def];simp only[if_neg e,if_neg b,if_pos h]
theorem p6(k:List UInt8):fv (92::k)=match k with
   |[]=>none
   |e::c=>
    if e=34∨e=92 then(fv c).map fun b=>(e::b.1,b.2+2)
    else if e=110 then(fv c).map fun b=>(10::b.1,b.2+2)
    else if e=120 then match c with
     |h::o::i=>match wC h,wC o with
      |some n,some l=>(fv i).map fun b=>(UInt8.ofNat (16*n+l)::b.1,b.2+4)
      |_,_=>none
     |_=>none
    else none:=by
 conv=>lhs;rw[fv.eq_def]
 simp only[show ¬((92:UInt8)=34)from dc,show ¬((92:UInt8)<32)from dc,if_false,ne_eq,not_true_eq_false]
def Dg(e:Option (List UInt8×Nat))(b:Nat):V:=match e with
 |some (h,c)=>.dS [cn h,bW (b+c),bX true]
 |none=>.dS [cn [],bW 0,bX false]
def bytesRow(b:List UInt8):cN:=.row 1 (b.map fun c=>[io c])
def Wg:List UInt8->V
 |[]=>.d .ci
 |c::b=>.ms 0 1 0 (b.length+1) (b.length+1)
def Wh:List UInt8->VS
 |[]=>[]
 |c::b=>[bytesRow (c::b)]
theorem Mj(c:Nat->Nat)(b:List UInt8):dF c (bytesRow b)=bytesRow b:=by
 simp only[bytesRow,dF];congr 1;rw[List.map_map];exact List.map_congr_left fun e _=>Z
theorem Th(c:Nat)(b:List UInt8):fW c (bytesRow b)=true:=by
 simp only[bytesRow,fW,List.all_map];exact List.all_eq_true.2 fun e _=>Z
theorem Mk(b:List UInt8)(n:Nat)(e:n=b.length)(c:UInt8):some (cN.row 1 (((b.map fun c=>[io c]).drop 0).take n++[[io c]]))=some (dF (jT [1] 2) (bytesRow (b++[c]))):=by
 rw[Mj,bytesRow,List.map_append,aeS,aeR (by simp;omega)];rfl
def lfz:Nat->Bool:=fun b=>aeV b 40||aeV b 60||aeV b 66||aeV b 99
def Ti(s:List UInt8)(b:Nat)(c:Nat×List UInt8):Prop:=
 c.1<=s.length/\b<=c.1/\c.2.length<=c.1/\fv (s.drop b)=(fv (s.drop c.1)).map fun e=>(c.2++e.1,e.2+(c.1-b))
theorem aaN{c:Type}{p l o t n:c->Prop}(b:c)(r:p b)(i:l b)(e:o b)(k:t b)(h:n b):∃b,p b/\l b/\o b/\t b/\n b:=⟨b,r,i,e,k,h⟩
theorem eT{b:Type}(l:List b)(n:Nat)(c:n=l.length):(l.drop 0).take n=l:=by
 rw[aeS,aeR om]
variable{j u:V}
theorem Hr(e:j=u):cU 0 (.ret j) [] fun c b=>b=[]/\c=.ret u:=.now rfl ⟨rfl,by rw[e]⟩
theorem JJ{o:cN}(h:j=u)(c:bd 0 j=true):cU 0 (.ret j) [o] fun e b=>b=[]/\e=.ret u:=.drop 0 rfl rfl c (Hr h)
theorem RR(b:List UInt8)(i:j=u)(e:bd 0 j=true):cU 0 (.ret j) (Wh b) fun h c=>c=[]/\h=.ret u:=by
 cases b with
 |nil=>exact Hr i
 |cons k h=>exact JJ i e
variable{q:VS} {m:Tm}
theorem y4{s:List UInt8}{e c:UInt8}(h:gm m 1=some (bW d))(i:gm m 7=some (.ms 1 1 0 (a.length+1+1) (a.length+1+1)))(k:gm m 0=some (cn s)) 
  (b:q=[.gone,.row 1 ((((e::a).map fun c=>[io c]).drop 0).take (a.length+1)++[[io c]])]):
  Gz 0 [(1,bW d),(7,Wg (e::a++[c])),(0,cn s)] (Wh (e::a++[c])) [] .none m q:=by
 subst b;refine .pick 0 [1] ⟨h,?_,k,tv⟩ Z Z Z Z Z sm ⟨Mk (e::a) (a.length+1) Z c,Th _ _,tv⟩;rw[i];show _=some (V.ms 1 1 0 ((a++[c]).length+1) ((a++[c]).length+1));simp
theorem uZ{s:List UInt8}{c:UInt8}(h:gm m 1=some (bW d))(e:gm m 7=some (.ms 0 1 0 1 1))(i:gm m 0=some (cn s)) 
  (b:q=[.row 1 [[io c]]]):Gz 0 [(1,bW d),(7,Wg ([]++[c])),(0,cn s)] (Wh ([]++[c])) [] .none m q:=.same ⟨h,e,i,tv⟩ b
theorem u0{s:List UInt8}{b e k:Nat}{c:UInt8}(t:0<k)(i:e+k<=s.length)(r:b+1<=e)(p:a.length<=e) 
  (l:fv (s.drop (b+1))=(fv (s.drop e)).map fun h=>(a++h.1,h.2+(e-(b+1)))) (n:fv (s.drop e)=(fv (s.drop (e+k))).map fun o=>(c::o.1,o.2+k)):
  Ti s (b+1) (e+k,a++[c])/\s.length-(e+k)<s.length-e:=by
 refine⟨⟨i,by show b+1<=e+k;omega,by show(a++[c]).length<=e+k;simp;omega,?_⟩,om⟩;show fv (s.drop (b+1))=(fv (s.drop (e+k))).map fun h=>((a++[c])++h.1,h.2+(e+k-(b+1)));rw[l,n,Option.map_map];congr 1;funext h;simp only[Function.comp,List.append_assoc,List.cons_append,List.nil_append];rw[show h.2+k+(e-(b+1))=h.2+(e+k-(b+1))from by omega]
variable{f:UInt8}
theorem y5{b n:Nat}(e:(f::a).length<=b)(c:b<4294967296)(h:n=1):(a.length+1+n)*1<=fy/\a.length+1+n<=fy:=by
 simp only[aeQ]at e;unfold fy;omega
theorem fG(n:Nat):Nat.ble (n+1) n=false:=by rw[N3];exact decide_eq_false om
theorem Wi{l:List UInt8}(b:eB l [f]=true):∃c,l=f::c:=by
 rw[eB,aeO]at b;obtain⟨e,h⟩:=b;exact⟨e,h.symm⟩
theorem y6{l e:List UInt8}{c:UInt8}(h:eB l [f]=false)(b:l=c::e):c≠f:=by
 rintro rfl;subst b;simp[eB]at h
theorem vO{s c:List UInt8}(b:s.drop d=f::c):s.drop (d+1)=c/\d<s.length:=by
 constructor
 ·rw[<-List.drop_drop,b];rfl
 ·rcases Nat.lt_or_ge d s.length with h1|h1
  ·exact h1
  ·rw[aeN h1]at b;cases b
theorem Od{c:UInt8}(e:wC c=some d):d<16:=by
 unfold wC at e;split at e
 ·rename_i b;have:=JG b;cases e;omega
 ·split at e
  ·rename_i b;rw[Bool.and_eq_true,decide_eq_true_eq,decide_eq_true_eq]at b;cases e;omega
  ·cases e
theorem P7:∀b c:Fin 16,IntKind.u8.wrap ((BitVec.ofInt IntKind.u8.bits (IntKind.u8.wrap (abK b.1*2^(min 4 IntKind.u8.bits)))|||BitVec.ofInt IntKind.u8.bits (abK c.1)).toNat)=abK (UInt8.ofNat (16*b.1+c.1)).toNat:=dc
theorem Tj{c b:Nat}(e:c<16)(h:b<16):IntKind.u8.wrap ((BitVec.ofInt IntKind.u8.bits (IntKind.u8.wrap (abK c*2^(min 4 IntKind.u8.bits)))|||BitVec.ofInt IntKind.u8.bits (abK b)).toNat)=abK (UInt8.ofNat (16*c+b)).toNat:=P7 ⟨c,e⟩ ⟨b,h⟩
theorem RS{s:List UInt8}{c:Nat}(b:fv (s.drop (d+1))=(fv (s.drop c)).map fun e=>(a++e.1,e.2+(c-(d+1))))(h:fv (s.drop c)=none):V.dS [cn [],bW 0,bX false]=Dg (fv (s.drop (d+1))) (d+1):=by
 rw[b,h];rfl
theorem Hs(s:List UInt8)(h:Nat)(ad:h<s.length)(ae:s.length<4294967296){σ:VS}{K:cO->VS->Prop}(q:K (.ret (Dg (fv (s.drop (h+1))) (h+1))) σ):
  bV C ca BE [cn s,bW h] σ K:=by
 refine cC (v:=Dg (fv (s.drop (h+1))) (h+1)) ?_ Z ?_ q
 ·refine cv lfz (fun _=>Z) ?_;refine cD (dB:=[(1,bW (h+1)),(7,Wg []),(0,cn s)]) ?_;refine cd.iter (fun o:Nat×List UInt8=>[(1,bW o.1),(7,Wg o.2),(0,cn s)]) (fun o=>Wh o.2) (fun o=>s.length-o.1) (Ti s (h+1)) ?_ (h+1,[]) ⟨om,aeM _,by simp,by simp⟩;rintro⟨c,acc⟩ ⟨a,r,i,hp⟩;have a:c<=s.length:=a;have r:h+1<=c:=r;have i:acc.length<=c:=i;have hp:fv (s.drop (h+1))=(fv (s.drop c)).map fun P=>(acc++P.1,P.2+(c-(h+1))):=hp;apply aZ<;>intro j
  ·have H:c<s.length:=ee j;have T:s[c]?=some s[c]:=aeP H;have t:s.drop c=s[c]::s.drop (c+1):=aeu H;refine bZ Z (cc s[c] (by rw[ck];exact T) ?_);apply aZ<;>intro U
   ·
    have J:s[c]=34:=UInt8.toNat_inj.1 (AJ (b:=34) U);have hl:fv (s.drop c)=some ([],1):=by rw[t,J];exact De _
    have F:V.dS [cn acc,V.d (.int .i64 (IntKind.i64.wrap (abK c+1))),bX true]=Dg (fv (s.drop (h+1))) (h+1):=by
     rw[hp,hl,cp om];simp only[Option.map_some,Dg,List.append_nil,bW];rw[show h+1+(1+(c-(h+1)))=c+1 from by omega]
    cases acc with
    |nil=>exact Hr F
    |cons z x=>
     refine aaN (z::x) Z Z (eT _ _ sm) sm ?_;exact JJ F Z
   ·have J:s[c]≠34:=fun S=>ED (b:=34) U (by rw[S];rfl);apply aZ<;>intro Y
    ·have Q:s[c]<32:=UInt8.lt_iff_toNat_lt.2 (ee (b:=32) Y);have hl:fv (s.drop c)=none:=by rw[t];exact JI J Q
     exact Ge
    ·have Q:¬s[c]<32:=fun S=>Nat.not_lt_of_le (dq (b:=32) Y) (UInt8.lt_iff_toNat_lt.1 S);apply aZ<;>intro O
     ·
      have y:s[c]≠92:=fun S=>by rw[S]at O;cases O
      have hl:fv (s.drop c)=(fv (s.drop (c+1))).map fun o=>(s[c]::o.1,o.2+1):=by rw[t];exact Df J Q y
      obtain⟨n,l⟩:=u0 (k:=1) om om r i hp hl;intro b;cases acc with
      |nil=>
       refine a6 Z (a6 ⟨abL Z,abL Z⟩ ?_);exact⟨(c+1,[]++[s[c]]),n,l,uZ (int_eq (cp om)) Z Z Z,Z,Z⟩
      |cons z x=>
       refine a6 Z (a6 ⟨Z,Z,by simp,aeM _,y5 i om Z⟩ ?_);refine a7 Z (a7 (fG (x.length+1)) ?_);exact⟨(c+1,(z::x)++[s[c]]),n,l,y4 (int_eq (cp om)) Z Z Z,Z,Z⟩
     ·
      have y:s[c]=92:=UInt8.toNat_inj.1 (AJ (b:=92) (by simpa using O));have w:IntKind.i64.wrap (abK c+1)=abK (c+1):=cp om;have N:min (IntKind.i64.wrap (abK c+1)) (abK s.length)=abK (c+1):=by rw[w];simp only[aet];omega
      refine bZ N (a6 ⟨om,aeM _⟩ ?_);rw[aeT];refine dY (s.drop (c+1)) [34] ?_;apply aZ<;>intro E
      ·obtain⟨G,e⟩:=Wi E;obtain⟨k,B⟩:=vO e;have hl:fv (s.drop c)=(fv (s.drop (c+2))).map fun o=>(34::o.1,o.2+2):=by
        rw[t,y,e,p6,k];rfl
       repeat refine cg E ?_
       refine bZ (m:=0) Z (cc 34 (by rw[e];rfl) ?_);obtain⟨n,l⟩:=u0 (k:=2) om om r i hp hl;intro b;cases acc with
       |nil=>
        refine a6 Z (a6 ⟨abL Z,abL Z⟩ ?_);exact⟨(c+2,[]++[34]),n,l,uZ (int_eq (by show IntKind.i64.wrap (IntKind.i64.wrap (abK c+1)+1)=_;rw[w];exact cp om)) Z Z Z,Z,Z⟩
       |cons z x=>
        refine a6 Z (a6 ⟨Z,Z,by simp,aeM _,y5 i om Z⟩ ?_);refine a7 Z (a7 (fG (x.length+1)) ?_);exact⟨(c+2,(z::x)++[34]),n,l,y4 (int_eq (by show IntKind.i64.wrap (IntKind.i64.wrap (abK c+1)+1)=_;rw[w];exact cp om)) Z Z Z,Z,Z⟩
      ·repeat refine a7 E ?_
       refine dY (s.drop (c+1)) [92] ?_;repeat refine a7 E ?_
       apply aZ<;>intro d
       ·obtain⟨G,e⟩:=Wi d;obtain⟨k,B⟩:=vO e;have hl:fv (s.drop c)=(fv (s.drop (c+2))).map fun o=>(92::o.1,o.2+2):=by
         rw[t,y,e,p6,k];rfl
        refine bZ (m:=0) Z (cc 92 (by rw[e];rfl) ?_);obtain⟨n,l⟩:=u0 (k:=2) om om r i hp hl;intro b;cases acc with
        |nil=>
         refine a6 Z (a6 ⟨abL Z,abL Z⟩ ?_);exact⟨(c+2,[]++[92]),n,l,uZ (int_eq (by show IntKind.i64.wrap (IntKind.i64.wrap (abK c+1)+1)=_;rw[w];exact cp om)) Z Z Z,Z,Z⟩
        |cons z x=>
         refine a6 Z (a6 ⟨Z,Z,by simp,aeM _,y5 i om Z⟩ ?_);refine a7 Z (a7 (fG (x.length+1)) ?_);exact⟨(c+2,(z::x)++[92]),n,l,y4 (int_eq (by show IntKind.i64.wrap (IntKind.i64.wrap (abK c+1)+1)=_;rw[w];exact cp om)) Z Z Z,Z,Z⟩
       ·refine dY (s.drop (c+1)) [110] ?_;apply aZ<;>intro W
        ·obtain⟨G,e⟩:=Wi W;obtain⟨k,B⟩:=vO e;have hl:fv (s.drop c)=(fv (s.drop (c+2))).map fun o=>(10::o.1,o.2+2):=by
          rw[t,y,e,p6,k];rfl
         obtain⟨n,l⟩:=u0 (k:=2) om om r i hp hl;intro b;cases acc with
         |nil=>
          refine a6 Z (a6 ⟨abL Z,abL Z⟩ ?_);exact⟨(c+2,[]++[10]),n,l,uZ (int_eq (by show IntKind.i64.wrap (IntKind.i64.wrap (abK c+1)+1)=_;rw[w];exact cp om)) Z Z Z,Z,Z⟩
         |cons z x=>
          refine a6 Z (a6 ⟨Z,Z,by simp,aeM _,y5 i om Z⟩ ?_);refine a7 Z (a7 (fG (x.length+1)) ?_);exact⟨(c+2,(z::x)++[10]),n,l,y4 (int_eq (by show IntKind.i64.wrap (IntKind.i64.wrap (abK c+1)+1)=_;rw[w];exact cp om)) Z Z Z,Z,Z⟩
        ·refine dY (s.drop (c+1)) [120] ?_;apply aZ<;>intro L
         ·obtain⟨G,e⟩:=Wi L;obtain⟨k,B⟩:=vO e;repeat refine cg L ?_
          apply aZ<;>intro f
          ·have v:2<(s.drop (c+1)).length:=ee (a:=2) f;rw[aeU]at v;have q1:s.drop (c+2)=s[c+2]::s.drop (c+3):=aeu om;have q2:s.drop (c+3)=s[c+3]::s.drop (c+4):=aeu om;have D:fv (s.drop c)=match wC s[c+2],wC s[c+3]with
             |some z,some b=>(fv (s.drop (c+4))).map fun o=>(UInt8.ofNat (16*z+b)::o.1,o.2+4)
             |_,_=>none:=by
            rw[t,y,e,p6,<-k,q1,q2];rfl
           refine bZ (m:=1) Z (cc s[c+2] (by rw[e,<-k,q1];rfl) ?_);refine Dd s[c+2] ?_;cases A:wC s[c+2]with
           |none=>
            rw[show kp s[c+2]=V.dS [.d (.int .u8 0),bX false]from by simp only[kp,A]];refine bZ (m:=2) Z (cc s[c+3] (by rw[e,<-k,q1,q2];rfl) ?_);refine Dd s[c+3] ?_;have hl:fv (s.drop c)=none:=by rw[D,A]
            cases p:wC s[c+3]with
            |none=>
             rw[show kp s[c+3]=V.dS [.d (.int .u8 0),bX false]from by simp only[kp,p]];exact Ge
            |some b=>
             rw[show kp s[c+3]=V.dS [.d (.int .u8 (abK b)),bX true]from by simp only[kp,p]];exact Ge
           |some o=>
            rw[show kp s[c+2]=V.dS [.d (.int .u8 (abK o)),bX true]from by simp only[kp,A]];refine bZ (m:=2) Z (cc s[c+3] (by rw[e,<-k,q1,q2];rfl) ?_);refine Dd s[c+3] ?_;cases p:wC s[c+3]with
            |none=>
             have hl:fv (s.drop c)=none:=by rw[D,A,p]
             rw[show kp s[c+3]=V.dS [.d (.int .u8 0),bX false]from by simp only[kp,p]];exact Ge
            |some P=>
             have hl:fv (s.drop c)=(fv (s.drop (c+4))).map fun R=>(UInt8.ofNat (16*o+P)::R.1,R.2+4):=by rw[D,A,p]
             have M:=Tj (Od A) (Od p);rw[show kp s[c+3]=V.dS [.d (.int .u8 (abK P)),bX true]from by simp only[kp,p]];refine bZ (m:=4) Z ?_;obtain⟨n,l⟩:=u0 (k:=4) om om r i hp hl;intro b;cases acc with
             |nil=>
              refine a6 Z (a6 ⟨abL Z,abL Z⟩ ?_);exact⟨(c+4,[]++[UInt8.ofNat (16*o+P)]),n,l,uZ (int_eq (by show IntKind.i64.wrap (IntKind.i64.wrap (IntKind.i64.wrap (abK c+1)+2)+1)=_;rw[w,show IntKind.i64.wrap (abK (c+1)+2)=abK (c+3)from c4 (b:=2) om];exact cp om)) Z Z (congrArg (fun R=>[cN.row 1 [[V.d (.int .u8 R)]]]) M),Z,Z⟩
             |cons z x=>
              refine a6 Z (a6 ⟨Z,Z,by simp,aeM _,y5 i om Z⟩ ?_);refine a7 Z (a7 (fG (x.length+1)) ?_);exact⟨(c+4,(z::x)++[UInt8.ofNat (16*o+P)]),n,l,y4 (int_eq (by show IntKind.i64.wrap (IntKind.i64.wrap (IntKind.i64.wrap (abK c+1)+2)+1)=_;rw[w,show IntKind.i64.wrap (abK (c+1)+2)=abK (c+3)from c4 (b:=2) om];exact cp om)) Z Z (congrArg (fun R=>[cN.gone,cN.row 1 ((((z::x).map fun af=>[io af]).drop 0).take (x.length+1)++[[V.d (.int .u8 R)]])]) M),Z,Z⟩
          ·have v:(s.drop (c+1)).length<=2:=dq (a:=2) f;have hl:fv (s.drop c)=none:=by
            rw[e]at v;rw[t,y,e,p6]
            match G,v with
            |[],_=>rfl
            |[_],_=>rfl
            |_::_::_,j=>simp at j
           exact Ge
         ·repeat refine a7 L ?_
          have hl:fv (s.drop c)=none:=by
           rw[t,y,p6];cases I:s.drop (c+1)with
           |nil=>rfl
           |cons S G=>
            have m:=y6 E I;have u:=y6 d I;have aa:=y6 W I;have ab:=y6 L I;simp only[m,u,aa,ab,or_self,if_false]
          exact Ge
  ·have H:s.length<=c:=dq j;have hl:fv (s.drop c)=none:=by rw[aeN H];rfl
   exact Ge
 ·cases fv (s.drop (h+1))with
  |none=>rfl
  |some o=>rfl
end Go.Proofs.YtpejealjkmhkgaaGreatDoor
