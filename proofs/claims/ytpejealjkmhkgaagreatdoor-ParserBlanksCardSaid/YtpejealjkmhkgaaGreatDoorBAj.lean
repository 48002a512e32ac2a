/- Part of the proof. -/
import Derived.Test.YtpejealjkmhkgaaGreatDoorBAf
import Derived.Test.YtpejealjkmhkgaaGreatDoorBAe
set_option linter.all false
set_option maxHeartbeats 16000000
set_option maxRecDepth 100000
open Int renaming ofNat->agj,ofNat_eq_natCast->agn,fdiv->ahg
open List renaming getElem?_eq_getElem->agk,drop_eq_getElem_cons->agl,append_assoc->agm,drop_of_length_le->agq,take_append_drop->agr,length_append->ags,eq_nil_of_length_eq_zero->agt,length_drop->agv,nil_append->agw,map_append->agx,length_cons->agy,nodup_append->agz,cons_append->agA,getElem?_eq_some_iff->agB,take_of_length_le->agD,isPrefixOf_iff_prefix->agE,getElem?_append_right->agF,all_eq_true->agG,map_cons->agH,find?_cons->agI,map_congr_left->agJ,pairwise_cons->agK,mem_map_of_mem->agN,mem_cons->agO,append_nil->agP,take_add_one->agR,drop_drop->agT,getElem?_eq_none->agV,take_length->agW,pairwise_append->agX,getElem?_set_ne->agY,getElem?_of_mem->agZ,getElem?_map->ag1,getElem_mem->ag3,set_append_right->ag4,map_map->ag5,drop_zero->ag6,getElem?_drop->ag7,mem_map->aha,map_nil->ahb,map->ahc,mem_append->ahd,getElem?_append_left->ahe,map_id->ahi,set_cons_zero->ahj,getElem?_take->ahk
open Nat renaming le_refl->ago,le_of_ble_eq_true->agp,zero_add->agu,not_lt_zero->agL,beq->agM,zero_le->agQ,sub_eq_zero_of_le->agU,sub_pos_of_lt->ag0,lt_irrefl->ag2,lt_or_ge->ag9,blt->ahf,sub_self->ahh
open Bool renaming and_eq_true->agC,eq_false_iff->agS,not_eq_false'->ag8
namespace Go.Proofs.YtpejealjkmhkgaaGreatDoor
open Go.AM Go.VM
abbrev qh:FuncId:=6
abbrev tj:FuncId:=8
abbrev lL:FuncId:=10
abbrev wP:FuncId:=12
abbrev Dv:FuncId:=18
abbrev s4:FuncId:=20
abbrev kU:FuncId:=21
abbrev fN:FuncId:=22
abbrev kW:FuncId:=23
abbrev mm:FuncId:=24
abbrev vu:FuncId:=25
abbrev uI:FuncId:=26
abbrev mI:FuncId:=35
abbrev dj:FuncId:=37
abbrev pS:FuncId:=38
abbrev sD:FuncId:=39
abbrev cR:FuncId:=40
abbrev pT:FuncId:=41
abbrev F.strings_Contains:FuncId:=45
abbrev p2:FuncId:=55
abbrev iX:FuncId:=56
abbrev p1:FuncId:=59
abbrev gn:FuncId:=61
abbrev dT:FuncId:=62
abbrev A6:FuncId:=63
abbrev EF:FuncId:=65
abbrev EG:FuncId:=66
abbrev wQ:FuncId:=67
abbrev EH:FuncId:=68
abbrev EI:FuncId:=69
abbrev wR:FuncId:=70
abbrev wS:FuncId:=71
abbrev EJ:FuncId:=72
abbrev wT:FuncId:=73
abbrev lN:FuncId:=81
abbrev EK:FuncId:=83
abbrev rX:FuncId:=85
abbrev tp:FuncId:=86
abbrev wU:FuncId:=87
abbrev uJ:FuncId:=88
abbrev qL:FuncId:=89
abbrev lB:FuncId:=90
abbrev qM:FuncId:=92
abbrev sF:FuncId:=94
abbrev kn:FuncId:=95
abbrev pV:FuncId:=96
abbrev rm:FuncId:=97
abbrev mn:FuncId:=98
abbrev qN:FuncId:=99
abbrev qO:FuncId:=100
abbrev lC:FuncId:=101
abbrev yP:FuncId:=104
abbrev By:FuncId:=106
abbrev tL:FuncId:=110
abbrev p3:FuncId:=113
abbrev uL:FuncId:=114
abbrev p4:FuncId:=115
abbrev wu:FuncId:=116
abbrev uM:FuncId:=117
abbrev sG:FuncId:=118
abbrev xG:FuncId:=119
abbrev rY:FuncId:=120
abbrev tM:FuncId:=121
abbrev tN:FuncId:=122
abbrev uN:FuncId:=125
abbrev ko:FuncId:=126
abbrev yQ:FuncId:=127
abbrev Al:FuncId:=128
abbrev Am:FuncId:=129
abbrev oN:FuncId:=130
abbrev uO:FuncId:=131
abbrev ir:FuncId:=132
abbrev jB:FuncId:=133
abbrev qP:FuncId:=134
abbrev Bz:FuncId:=135
abbrev jb:FuncId:=136
abbrev jC:FuncId:=137
abbrev EL:FuncId:=145
abbrev qQ:FuncId:=146
abbrev C8:FuncId:=147
abbrev tq:FuncId:=148
abbrev EM:FuncId:=149
abbrev tr:FuncId:=150
abbrev uP:FuncId:=151
abbrev ez:FuncId:=153
abbrev tu:FuncId:=154
abbrev BA:FuncId:=156
abbrev C9:FuncId:=157
abbrev mL:FuncId:=158
abbrev wv:FuncId:=159
abbrev pc:FuncId:=160
abbrev iQ:FuncId:=161
abbrev rZ:FuncId:=162
abbrev jL:FuncId:=163
abbrev oP:FuncId:=164
abbrev tw:FuncId:=165
abbrev yR:FuncId:=166
abbrev sH:FuncId:=167
abbrev eA:FuncId:=169
abbrev EN:FuncId:=170
abbrev yS:FuncId:=171
abbrev pd:FuncId:=172
abbrev iR:FuncId:=173
abbrev uR:FuncId:=183
abbrev sC:FuncId:=185
abbrev Da:FuncId:=188
abbrev Hp:FuncId:=189
abbrev oQ:FuncId:=191
abbrev kK:FuncId:=192
abbrev kN:FuncId:=193
abbrev pX:FuncId:=194
abbrev BB:FuncId:=195
abbrev uT:FuncId:=196
abbrev EO:FuncId:=197
abbrev JE:FuncId:=198
abbrev yT:FuncId:=199
abbrev BC:FuncId:=200
abbrev iI:FuncId:=202
abbrev ww:FuncId:=203
abbrev jU:FuncId:=204
abbrev wx:FuncId:=205
abbrev yU:FuncId:=206
abbrev wy:FuncId:=207
abbrev yV:FuncId:=208
abbrev lV:FuncId:=215
abbrev qR:FuncId:=216
abbrev qS:FuncId:=217
abbrev yW:FuncId:=219
abbrev BD:FuncId:=220
abbrev oB:FuncId:=221
abbrev kX:FuncId:=222
abbrev tx:FuncId:=223
abbrev yX:FuncId:=224
abbrev lg:FuncId:=225
abbrev wV:FuncId:=226
abbrev dN:FuncId:=227
abbrev lh:FuncId:=228
abbrev oR:FuncId:=229
abbrev r3:FuncId:=231
abbrev DS:FuncId:=237
abbrev wz:FuncId:=238
abbrev wA:FuncId:=239
abbrev Hq:FuncId:=240
abbrev wW:FuncId:=241
abbrev BE:FuncId:=242
abbrev Db:FuncId:=243
abbrev tz:FuncId:=244
abbrev tA:FuncId:=245
abbrev tB:FuncId:=246
abbrev gz:FuncId:=249
abbrev mr:FuncId:=253
abbrev lD:FuncId:=255
abbrev yY:FuncId:=256
abbrev qT:FuncId:=257
abbrev oC:FuncId:=258
abbrev kL:FuncId:=259
abbrev r4:FuncId:=261
abbrev JF:FuncId:=262
abbrev oS:FuncId:=264
abbrev pf:FuncId:=265
abbrev oD:FuncId:=266
abbrev hJ:FuncId:=267
abbrev j5:FuncId:=271
abbrev lE:FuncId:=272
abbrev fg:FuncId:=273
abbrev jD:FuncId:=274
abbrev kP:FuncId:=275
abbrev yZ:FuncId:=276
abbrev mu:FuncId:=282
abbrev lF:FuncId:=283
abbrev uU:FuncId:=284
abbrev tO:FuncId:=287
abbrev kY:FuncId:=288
abbrev kG:FuncId:=289
abbrev tC:FuncId:=290
abbrev r5:FuncId:=291
abbrev wB:FuncId:=293
abbrev nw:FuncId:=294
abbrev uV:FuncId:=295
abbrev uW:FuncId:=298
abbrev pY:FuncId:=299
abbrev r6:FuncId:=300
abbrev We:TypeId:=124
def k9(c:UInt8):Bool:=decide (97<=agj c.toNat)&&decide (agj c.toNat<=122)
def iT(c:UInt8):Bool:=decide (65<=agj c.toNat)&&decide (agj c.toNat<=90)
def isDigit(c:UInt8):Bool:=decide (48<=agj c.toNat)&&decide (agj c.toNat<=57)
def isWord(c:UInt8):Bool:=k9 c||iT c||isDigit c||decide (agj c.toNat=95)
def sJ(c:UInt8){a:VS}{b:cO->VS->Prop}(hk:b (.ret (b6 (k9 c))) a):b4 C ca EO [io c] a b:=by
 exact YM
def sK(c:UInt8){a:VS}{b:cO->VS->Prop}(hk:b (.ret (b6 (iT c))) a):b4 C ca BD [io c] a b:=by
 exact YJ
def pZ(c:UInt8){a:VS}{b:cO->VS->Prop}(hk:b (.ret (b6 (isDigit c))) a):b4 C ca wW [io c] a b:=by
 exact YL
def An(c:UInt8){a:VS}{b:cO->VS->Prop}(hk:b (.ret (b6 (isWord c))) a):b4 C ca yT [io c] a b:=by
 refine cj ?_;refine sJ c ?_;apply aZ<;>intro h1
 ·exact aeL
 ·refine a7 h1 (sK c ?_);refine a7 h1 ?_;apply aZ<;>intro h2
  ·exact acr
  ·refine a7 h2 (pZ c ?_);exact YB
structure Dc (g:Nat) (p:UInt8->Bool):Prop where
 is:(C.ff.get g).isSome=true
 spec:∀(c:UInt8) {σ:VS} {K:cO->VS->Prop},K (.ret (b6 (p c))) σ->b4 C ca g [io c] σ K
def F7:Dc yT isWord:=⟨rfl,fun a=>An a⟩
def Il:Dc wW isDigit:=⟨rfl,fun a=>pZ a⟩
def xV{c:Nat}{p:UInt8->Bool}(b:Dc c p)(s:cq)(f:s.length<4294967296){a:VS}{e:cO->VS->Prop}(hk:e (.ret (b6 (s.all p))) a):b4 C ca JE [cn s,.fn c [] []] a e:=by
 refine cj ?_;refine cD (dB:=[(8,b5 0),(7,b5 s.length),(4,b6 false),(1,.fn c [] []),(0,cn s)]) ?_;refine cd.iter (fun i:Nat=>[(8,b5 i),(7,b5 s.length),(4,b6 false),(1,.fn c [] []),(0,cn s)]) (fun _=>a) (fun i=>s.length-i) (fun i=>i<=s.length/\(s.take i).all p=true) ?_ 0 ⟨om,by simp⟩;rintro i ⟨g,hp⟩;apply aZ<;>intro h
 ·have h:i<s.length:=by simpa using h
  have hgi:s[i]?=some s[i]:=agk h;refine bZ Z (cc s[i] (by rw[ck];exact hgi) ?_);refine cg b.is ?_;refine b.spec s[i] ?_;apply aZ<;>intro h2
  ·exact acm
  ·refine⟨i+1,⟨om,?_⟩,om,.same ⟨int_eq ?_,Z,Z,Z,Z,tv⟩ Z,Z,Z⟩
   ·exact Zx
   ·exact cp om
 ·have h:¬i<s.length:=by simpa using h
  refine eL ?_ hk;rw[agD om]at hp;exact hp.symm
def rp(a t:cq)(e:a.length<4294967281){b:VS}{f:cO->VS->Prop}(c:f (.ret (b6 (mQ t a))) b):b4 C ca F.strings_Contains [cn a,cn t] b f:=by
 refine dx (args:=[.str a,.str t]) (x:=.bool (mQ t a)) ?_ Z c;have:ahf a.length 4294967281=true:=by rw[qF];exact decide_eq_true e
 simp only[ca,JC,agH,ahb,cz];show(match ahf a.length 4294967281 with|true=>_|false=>_)=_;rw[this]
def B1:cq:=[32,97,110,100,32,97,110,121,32,97,115,32,98,111,111,108,32,100,101,112,114,101,99,97,116,101,100,32,101,108,115,101,32,101,120,112,111,114,116,32,102,97,108,115,101,32,102,110,32,102,111,108,100,32,102,114,111,109,32,105,102,32,105,109,112,111,114,116,32,105,110,32,105,110,116,32,108,101,110,103,116,104,32,108,101,116,32,108,105,115,116,32,109,97,116,99,104,32,109,111,100,117,108,101,32,110,111,110,101,32,110,111,116,32,111,114,32,116,101,120,116,32,116,104,101,110,32,116,114,117,101,32,116,121,112,101,32,117,115,101,32]
def Tg(a:cq):Bool:=mQ (([32]++a)++[32]) B1
def xZ(a:cq)(e:a.length<4294967296){b:VS}{d:cO->VS->Prop}(c:d (.ret (b6 (Tg a))) b):b4 C ca BC [cn a] b d:=by
 refine cj ?_;refine a6 ?_ ?_
 ·show 1+a.length<=_;omega
 refine a6 ?_ ?_
 ·show(_::a).length+1<=_;simp only[agy];omega
 refine rp B1 (([32]++a)++[32]) (by simp only[B1,agy,List.length_nil];omega) ?_;exact c
def cK(a:cq):Bool:=decide (a≠[])&&decide (a.length<=32)&&(a.head?.any k9)&&a.all isWord&& !(Tg a)
def dX(a:cq):Bool:=decide (a≠[])&&decide (a.length<=32)&&(a.head?.any iT)&&a.all isWord
def ic(s:cq)(d:s.length<4294967296){a:VS}{b:cO->VS->Prop}(hk:b (.ret (b6 (cK s))) a):b4 C ca uO [cn s] a b:=by
 refine cj ?_;apply aZ<;>intro h1
 ·repeat refine cg h1 ?_
  cases s with
  |nil=>simp at h1
  |cons c r=>
   apply aZ<;>intro h2
   ·have Ie:(c::r).length<=32:=JA h2;refine cg h2 (bZ Z (cc c Z ?_));refine cg h2 (sJ c ?_);refine cg h2 ?_;apply aZ<;>intro h3
    ·refine cg h3 (xV F7 (c::r) om ?_);refine cg h3 ?_;apply aZ<;>intro h4
     ·refine cg h4 (xZ (c::r) om ?_);refine cg h4 ?_;refine cg h4 ?_;exact Zv
     ·exact acb
    ·exact acs
   ·exact Y0
 ·exact acq
def ie(s:cq)(d:s.length<4294967296){a:VS}{b:cO->VS->Prop}(hk:b (.ret (b6 (dX s))) a):b4 C ca C9 [cn s] a b:=by
 refine cj ?_;apply aZ<;>intro h1
 ·repeat refine cg h1 ?_
  cases s with
  |nil=>simp at h1
  |cons c r=>
   apply aZ<;>intro h2
   ·have Ie:(c::r).length<=32:=JA h2;refine cg h2 (bZ Z (cc c Z ?_));refine cg h2 (sK c ?_);refine cg h2 ?_;apply aZ<;>intro h3
    ·refine cg h3 (xV F7 (c::r) om ?_);exact ab0
    ·exact aco
   ·exact Y1
 ·exact acq
def P5(b:cq)(c:UInt8):C.ext kL ([D.str b,uy c].map cz)=some (cz (.int .i64 (indexByte b c.toNat 0))):=by
 have a:ahf c.toNat 256=true:=by rw[qF];exact decide_eq_true c.toNat_lt
 show ext kL [.string ⟨⟨b⟩⟩,.int .u8 (agj c.toNat)]=_;simp only[ext,a];rfl
def tD(b:cq)(c:UInt8){a:VS}{e:cO->VS->Prop}(d:e (.ret (.d (.int .i64 (indexByte b c.toNat 0)))) a):b4 C ca r3 [cn b,io c] a e:=by
 refine cj ?_;refine xE (.int .i64 (indexByte b c.toNat 0)) (P5 b c) Z ?_;exact d
def p0(d:cq)(c:UInt8){a:VS}{e:cO->VS->Prop}(b:e (.ret (.d (.int .i64 (indexByte d c.toNat 0)))) a):b4 C ca wz [cn d,io c] a e:=by
 refine cj ?_;refine tD d c ?_;exact b
def eB(a p:cq):Bool:=p.isPrefixOf a
def Mh{a p:cq}(c:p.length<=a.length):decide ((a.take p.length).drop 0=p)=eB a p:=by
 rw[ag6,eB,Bool.eq_iff_iff,decide_eq_true_eq,agE];exact⟨fun b=>⟨a.drop p.length,by have:=agr p.length a;rw[b]at this;exact this⟩,fun⟨d,b⟩=>by rw[<-b];simp⟩
def P6{b p:cq}(c:b.length<p.length):eB b p=false:=by
 rw[eB,agS];intro a;rw[agE]at a;have:=a.length_le;omega
def oE(d p:cq){c:VS}{e:cO->VS->Prop}(b:e (.ret (b6 (eB d p))) c):b4 C ca r4 [cn d,cn p] c e:=by
 refine cj ?_;apply aZ<;>intro a
 ·repeat refine cg a ?_
  refine bZ Z ?_;refine a6 ⟨agQ _,JA a⟩ ?_;repeat refine cg a ?_
  exact eL (Mh (JA a)) b
 ·repeat refine a7 a ?_
  exact eL (P6 (Iv a)).symm b
def dY(c p:cq){a:VS}{d:cO->VS->Prop}(b:d (.ret (b6 (eB c p))) a):b4 C ca wA [cn c,cn p] a d:=by
 refine cj ?_;refine oE c p ?_;exact b
def et(p:UInt8->Bool)(l:cq):Nat:=(l.takeWhile p).length
def p5(p:UInt8->Bool)(c:UInt8)(l:cq):et p (c::l)=if p c then et p l+1 else 0:=by
 simp only[et,List.takeWhile_cons];split<;>simp_all
def y0(p:UInt8->Bool)(l:cq):et p l<=l.length:=by
 induction l with
 |nil=>simp[et]
 |cons b l a=>rw[p5];split<;>simp<;>omega
def E4{l:Nat}{p:UInt8->Bool}(j:Dc l p)(b:cq)(a:Nat)(n:a<=b.length)(r:b.length<4294967296){f:VS}{q:cO->VS->Prop}(k:q (.ret (b5 (a+et p (b.drop a)))) f):
  b4 C ca Hq [cn b,b5 a,.fn l [] []] f q:=by
 refine cj ?_;refine cD (dB:=[(1,b5 a),(6,b5 0),(2,.fn l [] []),(0,cn b)]) ?_;refine cd.iter (fun c:Nat=>[(1,b5 c),(6,b5 0),(2,.fn l [] []),(0,cn b)]) (fun _=>f) (fun c=>b.length-c) (fun c=>c<=b.length/\c+et p (b.drop c)=a+et p (b.drop a)) ?_ a ⟨n,Z⟩;rintro c ⟨s,d⟩;apply aZ<;>intro g
 ·have e:=ee g;have h:b[c]?=some b[c]:=agk e;have m:b.drop c=b[c]::b.drop (c+1):=agl e;rw[m,p5]at d;repeat refine cg g ?_
  refine bZ Z (cc b[c] (by rw[ck];exact h) ?_);refine cg g ?_;refine cg j.is ?_;refine j.spec b[c] ?_;refine cg g ?_;apply aZ<;>intro i
  ·rw[if_pos i]at d;exact⟨c+1,⟨om,om⟩,om,.eS,Z,Z⟩
  ·rw[if_neg (by rw[i];simp)]at d;exact jO (show _=b5 (a+et p (b.drop a))by rw[<-d];rfl) k
 ·have e:=dq g;rw[agq e]at d;simp only[et,List.takeWhile_nil,List.length_nil]at d;repeat refine a7 g ?_
  exact jO (show _=b5 (a+et p (b.drop a))by simp only[et];rw[<-d];rfl) k
def Ob{n:Int}(b:0<=n)(a:n<256):IntKind.u8.wrap n=n:=by
 have:IntKind.u8.wrap n=n%256:=rfl;rw[this];omega
def wC(c:UInt8):Option Nat:=if isDigit c then some (c.toNat-48)else if decide (97<=c.toNat)&&decide (c.toNat<=102)then some (c.toNat-87)else none
def kp(c:UInt8):V:=match wC c with
 |some a=>.dS [.d (.int .u8 (agj a)),b6 true]
 |none=>.dS [.d (.int .u8 0),b6 false]
def JG{c:UInt8}(a:isDigit c=true):48<=c.toNat/\c.toNat<=57:=by
 simp only[isDigit,agC]at a;exact⟨JA (a:=48) a.1,JA (b:=57) a.2⟩
def Dd(c:UInt8){h:VS}{i:cO->VS->Prop}(d:i (.ret (kp c)) h):b4 C ca JF [io c] h i:=by
 refine cj ?_;refine pZ c ?_;apply aZ<;>intro f
 ·refine jO ?_ d;have j:=JG f;simp only[kp,wC,f,if_pos];show V.dS [V.d (.int .u8 (IntKind.u8.wrap (agj c.toNat-48))),_]=_;rw[Ob (by simp only[agn];omega) (by simp only[agn];omega)];have:agj c.toNat-48=agj (c.toNat-48):=by simp only[agn];omega
  rw[this];rfl
 ·apply aZ<;>intro e
  ·have b:97<=c.toNat:=JA (a:=97) e;repeat refine cg e ?_
   apply aZ<;>intro g
   ·have a:c.toNat<=102:=JA (b:=102) g;refine jO ?_ d;simp only[kp,wC,f,decide_eq_true b,decide_eq_true a,Bool.and_self,if_pos];show V.dS [V.d (.int .u8 (IntKind.u8.wrap (IntKind.u8.wrap (agj c.toNat-97)+10))),_]=_;rw[Ob (n:=agj c.toNat-97) (by simp only[agn];omega) (by simp only[agn];omega)];rw[Ob (by simp only[agn];omega) (by simp only[agn];omega)];have:agj c.toNat-97+10=agj (c.toNat-87):=by simp only[agn];omega
    rw[this];rfl
   ·have a:¬c.toNat<=102:=Nat.not_le_of_lt (Iv (b:=102) g);refine jO ?_ d;simp only[kp,wC,f,decide_eq_false a,Bool.and_false];rfl
  ·have b:¬97<=c.toNat:=Nat.not_le_of_lt (Iv (a:=97) e);repeat refine a7 e ?_
   refine jO ?_ d;simp only[kp,wC,f,decide_eq_false b,Bool.false_and];rfl
def uX:List cq:=[[61,61,61],[58,58],[62,58],[60,58],[61,62],[61,61],[43,43]]
def Oc:cq:=[40,41,91,93,123,125,60,62,44,58,61,46,43,45,42,124,63,47]
def jE(a:cq):cq:=match uX.find? (eB a)with
 |some b=>b
 |none=>match a with
  |[]=>[]
  |c::_=>if 0<=indexByte Oc c.toNat 0 then [c]else []
def JH(s:cq){k:VS}{n:cO->VS->Prop}(b:n (.ret (cn (jE s))) k):b4 C ca Db [cn s] k n:=by
 refine cj ?_;refine cd.loop ?_;refine bZ (m:=0) Z (a6 dc ?_);refine dY s [61,61,61] ?_;refine aZ (fun a=>?_) (fun d=>?_)
 ·refine jO ?_ b;have a:eB s [61,61,61]=true:=a;simp only[jE,uX,agI,a];rfl
 have d:eB s [61,61,61]=false:=d;refine cd.loop ?_;refine bZ (m:=1) Z (a6 dc ?_);refine dY s [58,58] ?_;refine aZ (fun a=>?_) (fun e=>?_)
 ·refine jO ?_ b;have a:eB s [58,58]=true:=a;simp only[jE,uX,agI,d,a];rfl
 have e:eB s [58,58]=false:=e;refine cd.loop ?_;refine bZ (m:=2) Z (a6 dc ?_);refine dY s [62,58] ?_;refine aZ (fun a=>?_) (fun c=>?_)
 ·refine jO ?_ b;have a:eB s [62,58]=true:=a;simp only[jE,uX,agI,d,e,a];rfl
 have c:eB s [62,58]=false:=c;refine cd.loop ?_;refine bZ (m:=3) Z (a6 dc ?_);refine dY s [60,58] ?_;refine aZ (fun a=>?_) (fun f=>?_)
 ·refine jO ?_ b;have a:eB s [60,58]=true:=a;simp only[jE,uX,agI,d,e,c,a];rfl
 have f:eB s [60,58]=false:=f;refine cd.loop ?_;refine bZ (m:=4) Z (a6 dc ?_);refine dY s [61,62] ?_;refine aZ (fun a=>?_) (fun g=>?_)
 ·refine jO ?_ b;have a:eB s [61,62]=true:=a;simp only[jE,uX,agI,d,e,c,f,a];rfl
 have g:eB s [61,62]=false:=g;refine cd.loop ?_;refine bZ (m:=5) Z (a6 dc ?_);refine dY s [61,61] ?_;refine aZ (fun a=>?_) (fun h=>?_)
 ·refine jO ?_ b;have a:eB s [61,61]=true:=a;simp only[jE,uX,agI,d,e,c,f,g,a];rfl
 have h:eB s [61,61]=false:=h;refine cd.loop ?_;refine bZ (m:=6) Z (a6 dc ?_);refine dY s [43,43] ?_;refine aZ (fun a=>?_) (fun j=>?_)
 ·refine jO ?_ b;have a:eB s [43,43]=true:=a;simp only[jE,uX,agI,d,e,c,f,g,h,a];rfl
 have j:eB s [43,43]=false:=j;have l:uX.find? (eB s)=none:=by simp only[uX,agI,d,e,c,f,g,h,j,List.find?_nil]
 refine cd.loop ?_;apply aZ<;>intro a
 ·repeat refine cg a ?_
  cases s with
  |nil=>simp at a
  |cons o p=>
   refine bZ (m:=0) Z (cc o Z ?_);refine p0 Oc o ?_;apply aZ<;>intro c
   ·refine bZ (m:=1) Z (a6 ⟨om,by simp⟩ ?_);refine jO ?_ b;simp only[jE,l];rw[if_pos (of_decide_eq_true c)];rfl
   ·refine jO ?_ b;simp only[jE,l];rw[if_neg (of_decide_eq_false c)];rfl
 ·repeat refine a7 a ?_
  have m:s=[]:=by simpa using a
  subst m;exact jO Z b
def dZ:Bool->cq->Nat
 |_,[]=>0
 |true,a::b=>1+dZ (decide (a≠10)) b
 |false,a::b=>if a=47/\b.head? =some 47 then 1+dZ true b else if a=32∨a=9∨a=10∨a=13 then 1+dZ false b else 0
def y3(b:Bool)(l:cq):dZ b l<=l.length:=by
 induction l generalizing b with
 |nil=>cases b<;>simp[dZ]
 |cons c d a=>
  cases b with
  |true=>simp only[dZ,agy];have:=a (decide (c≠10));omega
  |false=>
   simp only[dZ,agy];split
   ·have:=a true;omega
   ·split
    ·have:=a false;omega
    ·omega
def qU(c:UInt8):Prop:=c=32∨c=9∨c=10∨c=13
instance (c:UInt8):Decidable (qU c):=by unfold qU;infer_instance
def FD(c:UInt8):decide (0<=indexByte [32,9,10,13] c.toNat 0)=decide (qU c):=by
 have h:∀f:UInt8,agM f.toNat c.toNat=decide (c=f):=fun f=>by
  rw[N4];exact decide_eq_decide.2 ⟨fun g=>(UInt8.toNat_inj.1 g).symm,fun g=>by rw[g]⟩
 simp only[indexByte,h,qU];by_cases a:c=32
 ·simp[a]
 ·by_cases b:c=9
  ·simp[a,b]
  ·by_cases d:c=10
   ·simp[a,b,d]
   ·by_cases e:c=13
    ·simp[a,b,d,e]
    ·simp[a,b,d,e]
def A7{c:UInt8}{b:cq}(d:qU c):dZ false (c::b)=1+dZ false b:=by
 have a:¬(c=47/\b.head? =some 47):=by
  rintro⟨rfl,_⟩;revert d;decide
 simp only[dZ,if_neg a];exact if_pos d
def Mi{c:UInt8}{b:cq}(f:¬qU c)(e:eB (c::b) [47,47]=false):dZ false (c::b)=0:=by
 have d:¬(c=47/\b.head? =some 47):=by
  rintro⟨rfl,a⟩;cases b with
  |nil=>cases a
  |cons g b=>simp at a;subst a;simp[eB]at e
 simp only[dZ,if_neg d];exact if_neg f
def EP{l:cq}(a:eB l [47,47]=true):dZ false l=dZ true l:=by
 rw[eB,agE]at a;obtain⟨b,rfl⟩:=a;show dZ false (47::47::b)=dZ true (47::47::b);rfl
def acC:∀(b:cq) (a:Nat),(indexByte b 10 a= -1/\dZ true b=b.length)∨∃d,d<b.length/\indexByte b 10 a=agj (a+d)/\b[d]?=some 10/\dZ true b=d+dZ false (b.drop d):=by
 intro b;induction b with
 |nil=>intro a;exact .inl ⟨rfl,rfl⟩
 |cons j i k=>
  intro a;by_cases e:j=10
  ·subst e;refine .inr ⟨0,by simp,by simp[indexByte],Z,?_⟩;rw[ag6,A7 dc];simp[dZ]
  ·have n:agM j.toNat 10=false:=sg fun o=>e (UInt8.toNat_inj.1 o);have f:indexByte (j::i) 10 a=indexByte i 10 (a+1):=by simp only[indexByte,n]
   have h:dZ true (j::i)=1+dZ true i:=by simp only[dZ,ne_eq,e,not_false_eq_true,decide_true]
   rcases k (a+1)with⟨g,c⟩|⟨d,g,c,l,m⟩
   ·exact .inl ⟨by rw[f,g],by rw[h,c,agy];omega⟩
   ·refine .inr ⟨d+1,by simp;omega,by rw[f,c];congr 1;omega,by simpa using l,by rw[h,m,List.drop_succ_cons];omega⟩
def uY(b:cq)(a:Nat)(q:a<=b.length)(y:b.length<4294967296){l:VS}{t:cO->VS->Prop}(n:t (.ret (b5 (a+dZ false (b.drop a)))) l):
  b4 C ca Da [cn b,b5 a] l t:=by
 refine cj ?_;refine cD (dB:=[(1,b5 a),(4,b5 0),(0,cn b)]) ?_;refine cd.iter (fun c:Nat=>[(1,b5 c),(4,b5 0),(0,cn b)]) (fun _=>l) (fun c=>b.length-c) (fun c=>c<=b.length/\c+dZ false (b.drop c)=a+dZ false (b.drop a)) ?_ a ⟨q,Z⟩;rintro c ⟨z,d⟩;apply aZ<;>intro x
 ·have h:=ee x;have i:b[c]?=some b[c]:=agk h;have j:b.drop c=b[c]::b.drop (c+1):=agl h;refine bZ Z (cc b[c] (by rw[ck];exact i) ?_);refine p0 [32,9,10,13] b[c] ?_;apply aZ<;>intro m
  ·have g:qU b[c]:=by
    have:decide (0<=indexByte [32,9,10,13] b[c].toNat 0)=true:=m;rw[FD]at this;exact of_decide_eq_true this
   rw[j,A7 g]at d;exact⟨c+1,⟨om,om⟩,om,.eS,Z,Z⟩
  ·have g:¬qU b[c]:=by
    have:decide (0<=indexByte [32,9,10,13] b[c].toNat 0)=false:=m;rw[FD]at this;exact of_decide_eq_false this
   refine bZ Z (a6 ⟨om,ago _⟩ ?_);refine dY _ [47,47] ?_;rw[agW];apply aZ<;>intro p
   ·have f:eB (b.drop c) [47,47]=true:=p;rw[EP f]at d;refine bZ Z (a6 ⟨om,ago _⟩ ?_);refine p0 _ 10 ?_;rw[agW];rcases acC (b.drop c) 0 with⟨k,e⟩|⟨v,k,e,o,s⟩
    ·refine a7 (by show decide (0<=indexByte (b.drop c) 10 0)=false;rw[k];rfl) ?_;rw[e,agv]at d;exact⟨b.length,⟨ago _,by rw[agq (ago _)];simp only[dZ];omega⟩,om,.eS,Z,Z⟩
    ·rw[agu]at e;refine cg (by show decide (0<=indexByte (b.drop c) 10 0)=true;rw[e];exact decide_eq_true sm) ?_;rw[s,agT]at d;rw[agv]at k;have u:v≠0:=fun A=>by
      subst A;rw[ag7,Nat.add_zero,i]at o;injection o with r;exact g (.inr (.inr (.inl r)))
     exact⟨c+v,⟨om,om⟩,om,.same ⟨int_eq (by show IntKind.i64.wrap (agj c+indexByte (b.drop c) 10 0)=_;rw[e];exact c4 om),Z,Z,tv⟩ Z,Z,Z⟩
   ·have f:eB (b[c]::b.drop (c+1)) [47,47]=false:=by rw[<-j];exact p
    rw[j,Mi g f]at d;exact jO (show _=b5 (a+dZ false (b.drop a))by rw[<-d];rfl) n
 ·have h:=dq x;rw[agq h]at d;simp only[dZ]at d;exact jO (show _=b5 (a+dZ false (b.drop a))by rw[<-d];rfl) n
def fv:List UInt8->Option (List UInt8×Nat)
 |[]=>none
 |c::f=>
  if c=34 then some ([],1)
  else if c<32 then none
  else if c≠92 then(fv f).map fun a=>(c::a.1,a.2+1)
  else match f with
   |[]=>none
   |e::b=>
    if e=34∨e=92 then(fv b).map fun a=>(e::a.1,a.2+2)
    else if e=110 then(fv b).map fun a=>(10::a.1,a.2+2)
    else if e=120 then match b with
     |h::j::d=>match wC h,wC j with
      |some i,some g=>(fv d).map fun a=>(UInt8.ofNat (16*i+g)::a.1,a.2+4)
      |_,_=>none
     |_=>none
    else none
def De(a:List UInt8):fv (34::a)=some ([],1):=by rw[fv.eq_def];rfl
def JI{c:UInt8}{d:List UInt8}(a:c≠34)(b:c<32):fv (c::d)=none:=by
 rw[fv.eq_def];simp only[if_neg a,if_pos b]
def Df{c:UInt8}{f:List UInt8}(b:c≠34)(a:¬c<32)(d:c≠92):fv (c::f)=(fv f).map fun e=>(c::e.1,e.2+1):=by
 rw[fv.eq_def];simp only[if_neg b,if_neg a,if_pos d]
def p6(d:List UInt8):fv (92::d)=match d with
   |[]=>none
   |e::b=>
    if e=34∨e=92 then(fv b).map fun a=>(e::a.1,a.2+2)
    else if e=110 then(fv b).map fun a=>(10::a.1,a.2+2)
    else if e=120 then match b with
     |h::i::c=>match wC h,wC i with
      |some g,some f=>(fv c).map fun a=>(UInt8.ofNat (16*g+f)::a.1,a.2+4)
      |_,_=>none
     |_=>none
    else none:=by
 conv=>lhs;rw[fv.eq_def]
 simp only[show ¬((92:UInt8)=34)from dc,show ¬((92:UInt8)<32)from dc,if_false,ne_eq,not_true_eq_false]
def Dg(c:Option (List UInt8×Nat))(a:Nat):V:=match c with
 |some (d,b)=>.dS [cn d,b5 (a+b),b6 true]
 |none=>.dS [cn [],b5 0,b6 false]
def bytesRow(a:List UInt8):cN:=.row 1 (a.map fun b=>[io b])
def Wg:List UInt8->V
 |[]=>.d .ci
 |c::a=>.ms 0 1 0 (a.length+1) (a.length+1)
def Wh:List UInt8->VS
 |[]=>[]
 |c::a=>[bytesRow (c::a)]
def Mj(b:Nat->Nat)(a:List UInt8):hV b (bytesRow a)=bytesRow a:=by
 simp only[bytesRow,hV];congr 1;rw[ag5];exact agJ fun c _=>Z
def Th(b:Nat)(a:List UInt8):fW b (bytesRow a)=true:=by
 simp only[bytesRow,fW,List.all_map];exact agG.2 fun c _=>Z
def Mk(a:List UInt8)(n:Nat)(b:n=a.length)(c:UInt8):some (cN.row 1 (((a.map fun c=>[io c]).drop 0).take n++[[io c]]))=some (hV (jT [1] 2) (bytesRow (a++[c]))):=by
 rw[Mj,bytesRow,agx,ag6,agD (by simp;omega)];rfl
def lfz:Nat->Bool:=fun a=>agM a 40||agM a 60||agM a 66||agM a 99
def Ti(c:List UInt8)(a:Nat)(b:Nat×List UInt8):Prop:=
 b.1<=c.length/\a<=b.1/\b.2.length<=b.1/\fv (c.drop a)=(fv (c.drop b.1)).map fun d=>(b.2++d.1,d.2+(b.1-a))
def aaN{α:Type}{p f h t g:α->Prop}(a:α)(i:p a)(d:f a)(b:h a)(e:t a)(c:g a):∃a,p a/\f a/\h a/\t a/\g a:=⟨a,i,d,b,e,c⟩
def eT{α:Type}(l:List α)(n:Nat)(a:n=l.length):(l.drop 0).take n=l:=by
 rw[ag6,agD om]
def Hr{b c:V}(e:b=c):cU 0 (.ret b) [] fun d a=>a=[]/\d=.ret c:=.now rfl ⟨rfl,by rw[e]⟩
def JJ{b d:V}{o:cN}(f:b=d)(c:bd 0 b=true):cU 0 (.ret b) [o] fun e a=>a=[]/\e=.ret d:=.drop 0 rfl rfl c (Hr f)
def RR{c g:V}(a:List UInt8)(f:c=g)(d:bd 0 c=true):cU 0 (.ret c) (Wh a) fun e b=>b=[]/\e=.ret g:=by
 cases a with
 |nil=>exact Hr f
 |cons h e=>exact JJ f d
def y4{j:List UInt8}{k:Nat}{f c:UInt8}{a:List UInt8}{b:Tm}{d:VS}(g:gm b 1=some (b5 k))(h:gm b 7=some (.ms 1 1 0 (a.length+1+1) (a.length+1+1)))(i:gm b 0=some (cn j)) 
  (e:d=[.gone,.row 1 ((((f::a).map fun c=>[io c]).drop 0).take (a.length+1)++[[io c]])]):
  Gz 0 [(1,b5 k),(7,Wg (f::a++[c])),(0,cn j)] (Wh (f::a++[c])) [] .none b d:=by
 subst e;refine .pick 0 [1] ⟨g,?_,i,tv⟩ Z Z Z Z Z sm ⟨Mk (f::a) (a.length+1) Z c,Th _ _,tv⟩;rw[h];show _=some (V.ms 1 1 0 ((a++[c]).length+1) ((a++[c]).length+1));simp
def uZ{h:List UInt8}{i:Nat}{c:UInt8}{a:Tm}{b:VS}(e:gm a 1=some (b5 i))(f:gm a 7=some (.ms 0 1 0 1 1))(g:gm a 0=some (cn h)) 
  (d:b=[.row 1 [[io c]]]):Gz 0 [(1,b5 i),(7,Wg ([]++[c])),(0,cn h)] (Wh ([]++[c])) [] .none a b:=.same ⟨e,f,g,tv⟩ d
def u0{e:List UInt8}{a d k:Nat}{b:List UInt8}{c:UInt8}(n:0<k)(g:d+k<=e.length)(m:a+1<=d)(l:b.length<=d) 
  (h:fv (e.drop (a+1))=(fv (e.drop d)).map fun f=>(b++f.1,f.2+(d-(a+1)))) (i:fv (e.drop d)=(fv (e.drop (d+k))).map fun j=>(c::j.1,j.2+k)):
  Ti e (a+1) (d+k,b++[c])/\e.length-(d+k)<e.length-d:=by
 refine⟨⟨g,by show a+1<=d+k;omega,by show(b++[c]).length<=d+k;simp;omega,?_⟩,om⟩;show fv (e.drop (a+1))=(fv (e.drop (d+k))).map fun f=>((b++[c])++f.1,f.2+(d+k-(a+1)));rw[h,i,Option.map_map];congr 1;funext f;simp only[Function.comp,agm,agA,agw];rw[show f.2+k+(d-(a+1))=f.2+(d+k-(a+1))from by omega]
def y5{b n:Nat}{a:List UInt8}{e:UInt8}(d:(e::a).length<=b)(c:b<4294967296)(f:n=1):(a.length+1+n)*1<=fy/\a.length+1+n<=fy:=by
 simp only[agy]at d;unfold fy;omega
def fG(n:Nat):Nat.ble (n+1) n=false:=by rw[N3];exact decide_eq_false om
def Wi{l:List UInt8}{a:UInt8}(b:eB l [a]=true):∃c,l=a::c:=by
 rw[eB,agE]at b;obtain⟨d,e⟩:=b;exact⟨d,e.symm⟩
def y6{l d:List UInt8}{b c:UInt8}(e:eB l [b]=false)(a:l=c::d):c≠b:=by
 rintro rfl;subst a;simp[eB]at e
def vO{s c:List UInt8}{a:Nat}{d:UInt8}(b:s.drop a=d::c):s.drop (a+1)=c/\a<s.length:=by
 constructor
 ·rw[<-agT,b];rfl
 ·rcases ag9 a s.length with h1|h1
  ·exact h1
  ·rw[agq h1]at b;cases b
def Od{c:UInt8}{d:Nat}(b:wC c=some d):d<16:=by
 unfold wC at b;split at b
 ·rename_i a;have:=JG a;cases b;omega
 ·split at b
  ·rename_i a;rw[agC,decide_eq_true_eq,decide_eq_true_eq]at a;cases b;omega
  ·cases b
def P7:∀a b:Fin 16,IntKind.u8.wrap ((BitVec.ofInt IntKind.u8.bits (IntKind.u8.wrap (agj a.1*2^(min 4 IntKind.u8.bits)))|||BitVec.ofInt IntKind.u8.bits (agj b.1)).toNat)=agj (UInt8.ofNat (16*a.1+b.1)).toNat:=dc
def Tj{a b:Nat}(c:a<16)(d:b<16):IntKind.u8.wrap ((BitVec.ofInt IntKind.u8.bits (IntKind.u8.wrap (agj a*2^(min 4 IntKind.u8.bits)))|||BitVec.ofInt IntKind.u8.bits (agj b)).toNat)=agj (UInt8.ofNat (16*a+b)).toNat:=P7 ⟨a,c⟩ ⟨b,d⟩
def RS{c:List UInt8}{a e:Nat}{b:List UInt8}(d:fv (c.drop (a+1))=(fv (c.drop e)).map fun f=>(b++f.1,f.2+(e-(a+1))))(g:fv (c.drop e)=none):V.dS [cn [],b5 0,b6 false]=Dg (fv (c.drop (a+1))) (a+1):=by
 rw[d,g];rfl
def Hs(s:List UInt8)(d:Nat)(ae:d<s.length)(af:s.length<4294967296){Q:VS}{ac:cO->VS->Prop}(X:ac (.ret (Dg (fv (s.drop (d+1))) (d+1))) Q):
  b4 C ca BE [cn s,b5 d] Q ac:=by
 refine cC (v:=Dg (fv (s.drop (d+1))) (d+1)) ?_ Z ?_ X
 ·refine cv lfz (fun _=>Z) ?_;refine cD (dB:=[(1,b5 (d+1)),(7,Wg []),(0,cn s)]) ?_;refine cd.iter (fun i:Nat×List UInt8=>[(1,b5 i.1),(7,Wg i.2),(0,cn s)]) (fun i=>Wh i.2) (fun i=>s.length-i.1) (Ti s (d+1)) ?_ (d+1,[]) ⟨om,ago _,by simp,by simp⟩;rintro⟨a,acc⟩ ⟨P,k,e,hp⟩;have P:a<=s.length:=P;have k:d+1<=a:=k;have e:acc.length<=a:=e;have hp:fv (s.drop (d+1))=(fv (s.drop a)).map fun G=>(acc++G.1,G.2+(a-(d+1))):=hp;apply aZ<;>intro U
  ·have y:a<s.length:=ee U;have K:s[a]?=some s[a]:=agk y;have l:s.drop a=s[a]::s.drop (a+1):=agl y;refine bZ Z (cc s[a] (by rw[ck];exact K) ?_);apply aZ<;>intro L
   ·
    have A:s[a]=34:=UInt8.toNat_inj.1 (AJ (b:=34) L);have hl:fv (s.drop a)=some ([],1):=by rw[l,A];exact De _
    have w:V.dS [cn acc,V.d (.int .i64 (IntKind.i64.wrap (agj a+1))),b6 true]=Dg (fv (s.drop (d+1))) (d+1):=by
     rw[hp,hl,cp om];simp only[Option.map_some,Dg,agP,b5];rw[show d+1+(1+(a-(d+1)))=a+1 from by omega]
    cases acc with
    |nil=>exact Hr w
    |cons q o=>
     refine aaN (q::o) Z Z (eT _ _ sm) sm ?_;exact JJ w Z
   ·have A:s[a]≠34:=fun J=>ED (b:=34) L (by rw[J];rfl);apply aZ<;>intro O
    ·have H:s[a]<32:=UInt8.lt_iff_toNat_lt.2 (ee (b:=32) O);have hl:fv (s.drop a)=none:=by rw[l];exact JI A H
     exact Ge
    ·have H:¬s[a]<32:=fun J=>Nat.not_lt_of_le (dq (b:=32) O) (UInt8.lt_iff_toNat_lt.1 J);apply aZ<;>intro F
     ·
      have p:s[a]≠92:=fun J=>by rw[J]at F;cases F
      have hl:fv (s.drop a)=(fv (s.drop (a+1))).map fun i=>(s[a]::i.1,i.2+1):=by rw[l];exact Df A H p
      obtain⟨h,g⟩:=u0 (k:=1) om om k e hp hl;intro b;cases acc with
      |nil=>
       refine a6 Z (a6 ⟨agp Z,agp Z⟩ ?_);exact⟨(a+1,[]++[s[a]]),h,g,uZ (int_eq (cp om)) Z Z Z,Z,Z⟩
      |cons q o=>
       refine a6 Z (a6 ⟨Z,Z,by simp,ago _,y5 e om Z⟩ ?_);refine a7 Z (a7 (fG (o.length+1)) ?_);exact⟨(a+1,(q::o)++[s[a]]),h,g,y4 (int_eq (cp om)) Z Z Z,Z,Z⟩
     ·
      have p:s[a]=92:=UInt8.toNat_inj.1 (AJ (b:=92) (by simpa using F));have n:IntKind.i64.wrap (agj a+1)=agj (a+1):=cp om;have E:min (IntKind.i64.wrap (agj a+1)) (agj s.length)=agj (a+1):=by rw[n];simp only[agn];omega
      refine bZ E (a6 ⟨om,ago _⟩ ?_);rw[agW];refine dY (s.drop (a+1)) [34] ?_;apply aZ<;>intro v
      ·obtain⟨x,c⟩:=Wi v;obtain⟨f,t⟩:=vO c;have hl:fv (s.drop a)=(fv (s.drop (a+2))).map fun i=>(34::i.1,i.2+2):=by
        rw[l,p,c,p6,f];rfl
       repeat refine cg v ?_
       refine bZ (m:=0) Z (cc 34 (by rw[c];rfl) ?_);obtain⟨h,g⟩:=u0 (k:=2) om om k e hp hl;intro b;cases acc with
       |nil=>
        refine a6 Z (a6 ⟨agp Z,agp Z⟩ ?_);exact⟨(a+2,[]++[34]),h,g,uZ (int_eq (by show IntKind.i64.wrap (IntKind.i64.wrap (agj a+1)+1)=_;rw[n];exact cp om)) Z Z Z,Z,Z⟩
       |cons q o=>
        refine a6 Z (a6 ⟨Z,Z,by simp,ago _,y5 e om Z⟩ ?_);refine a7 Z (a7 (fG (o.length+1)) ?_);exact⟨(a+2,(q::o)++[34]),h,g,y4 (int_eq (by show IntKind.i64.wrap (IntKind.i64.wrap (agj a+1)+1)=_;rw[n];exact cp om)) Z Z Z,Z,Z⟩
      ·repeat refine a7 v ?_
       refine dY (s.drop (a+1)) [92] ?_;repeat refine a7 v ?_
       apply aZ<;>intro R
       ·obtain⟨x,c⟩:=Wi R;obtain⟨f,t⟩:=vO c;have hl:fv (s.drop a)=(fv (s.drop (a+2))).map fun i=>(92::i.1,i.2+2):=by
         rw[l,p,c,p6,f];rfl
        refine bZ (m:=0) Z (cc 92 (by rw[c];rfl) ?_);obtain⟨h,g⟩:=u0 (k:=2) om om k e hp hl;intro b;cases acc with
        |nil=>
         refine a6 Z (a6 ⟨agp Z,agp Z⟩ ?_);exact⟨(a+2,[]++[92]),h,g,uZ (int_eq (by show IntKind.i64.wrap (IntKind.i64.wrap (agj a+1)+1)=_;rw[n];exact cp om)) Z Z Z,Z,Z⟩
        |cons q o=>
         refine a6 Z (a6 ⟨Z,Z,by simp,ago _,y5 e om Z⟩ ?_);refine a7 Z (a7 (fG (o.length+1)) ?_);exact⟨(a+2,(q::o)++[92]),h,g,y4 (int_eq (by show IntKind.i64.wrap (IntKind.i64.wrap (agj a+1)+1)=_;rw[n];exact cp om)) Z Z Z,Z,Z⟩
       ·refine dY (s.drop (a+1)) [110] ?_;apply aZ<;>intro M
        ·obtain⟨x,c⟩:=Wi M;obtain⟨f,t⟩:=vO c;have hl:fv (s.drop a)=(fv (s.drop (a+2))).map fun i=>(10::i.1,i.2+2):=by
          rw[l,p,c,p6,f];rfl
         obtain⟨h,g⟩:=u0 (k:=2) om om k e hp hl;intro b;cases acc with
         |nil=>
          refine a6 Z (a6 ⟨agp Z,agp Z⟩ ?_);exact⟨(a+2,[]++[10]),h,g,uZ (int_eq (by show IntKind.i64.wrap (IntKind.i64.wrap (agj a+1)+1)=_;rw[n];exact cp om)) Z Z Z,Z,Z⟩
         |cons q o=>
          refine a6 Z (a6 ⟨Z,Z,by simp,ago _,y5 e om Z⟩ ?_);refine a7 Z (a7 (fG (o.length+1)) ?_);exact⟨(a+2,(q::o)++[10]),h,g,y4 (int_eq (by show IntKind.i64.wrap (IntKind.i64.wrap (agj a+1)+1)=_;rw[n];exact cp om)) Z Z Z,Z,Z⟩
        ·refine dY (s.drop (a+1)) [120] ?_;apply aZ<;>intro B
         ·obtain⟨x,c⟩:=Wi B;obtain⟨f,t⟩:=vO c;repeat refine cg B ?_
          apply aZ<;>intro S
          ·have m:2<(s.drop (a+1)).length:=ee (a:=2) S;rw[agv]at m;have q1:s.drop (a+2)=s[a+2]::s.drop (a+3):=agl om;have q2:s.drop (a+3)=s[a+3]::s.drop (a+4):=agl om;have u:fv (s.drop a)=match wC s[a+2],wC s[a+3]with
             |some q,some b=>(fv (s.drop (a+4))).map fun i=>(UInt8.ofNat (16*q+b)::i.1,i.2+4)
             |_,_=>none:=by
            rw[l,p,c,p6,<-f,q1,q2];rfl
           refine bZ (m:=1) Z (cc s[a+2] (by rw[c,<-f,q1];rfl) ?_);refine Dd s[a+2] ?_;cases r:wC s[a+2]with
           |none=>
            rw[show kp s[a+2]=V.dS [.d (.int .u8 0),b6 false]from by simp only[kp,r]];refine bZ (m:=2) Z (cc s[a+3] (by rw[c,<-f,q1,q2];rfl) ?_);refine Dd s[a+3] ?_;have hl:fv (s.drop a)=none:=by rw[u,r]
            cases j:wC s[a+3]with
            |none=>
             rw[show kp s[a+3]=V.dS [.d (.int .u8 0),b6 false]from by simp only[kp,j]];exact Ge
            |some b=>
             rw[show kp s[a+3]=V.dS [.d (.int .u8 (agj b)),b6 true]from by simp only[kp,j]];exact Ge
           |some i=>
            rw[show kp s[a+2]=V.dS [.d (.int .u8 (agj i)),b6 true]from by simp only[kp,r]];refine bZ (m:=2) Z (cc s[a+3] (by rw[c,<-f,q1,q2];rfl) ?_);refine Dd s[a+3] ?_;cases j:wC s[a+3]with
            |none=>
             have hl:fv (s.drop a)=none:=by rw[u,r,j]
             rw[show kp s[a+3]=V.dS [.d (.int .u8 0),b6 false]from by simp only[kp,j]];exact Ge
            |some G=>
             have hl:fv (s.drop a)=(fv (s.drop (a+4))).map fun I=>(UInt8.ofNat (16*i+G)::I.1,I.2+4):=by rw[u,r,j]
             have D:=Tj (Od r) (Od j);rw[show kp s[a+3]=V.dS [.d (.int .u8 (agj G)),b6 true]from by simp only[kp,j]];refine bZ (m:=4) Z ?_;obtain⟨h,g⟩:=u0 (k:=4) om om k e hp hl;intro b;cases acc with
             |nil=>
              refine a6 Z (a6 ⟨agp Z,agp Z⟩ ?_);exact⟨(a+4,[]++[UInt8.ofNat (16*i+G)]),h,g,uZ (int_eq (by show IntKind.i64.wrap (IntKind.i64.wrap (IntKind.i64.wrap (agj a+1)+2)+1)=_;rw[n,show IntKind.i64.wrap (agj (a+1)+2)=agj (a+3)from c4 (b:=2) om];exact cp om)) Z Z (congrArg (fun I=>[cN.row 1 [[V.d (.int .u8 I)]]]) D),Z,Z⟩
             |cons q o=>
              refine a6 Z (a6 ⟨Z,Z,by simp,ago _,y5 e om Z⟩ ?_);refine a7 Z (a7 (fG (o.length+1)) ?_);exact⟨(a+4,(q::o)++[UInt8.ofNat (16*i+G)]),h,g,y4 (int_eq (by show IntKind.i64.wrap (IntKind.i64.wrap (IntKind.i64.wrap (agj a+1)+2)+1)=_;rw[n,show IntKind.i64.wrap (agj (a+1)+2)=agj (a+3)from c4 (b:=2) om];exact cp om)) Z Z (congrArg (fun I=>[cN.gone,cN.row 1 ((((q::o).map fun ag=>[io ag]).drop 0).take (o.length+1)++[[V.d (.int .u8 I)]])]) D),Z,Z⟩
          ·have m:(s.drop (a+1)).length<=2:=dq (a:=2) S;have hl:fv (s.drop a)=none:=by
            rw[c]at m;rw[l,p,c,p6]
            match x,m with
            |[],_=>rfl
            |[_],_=>rfl
            |_::_::_,U=>simp at U
           exact Ge
         ·repeat refine a7 B ?_
          have hl:fv (s.drop a)=none:=by
           rw[l,p,p6];cases z:s.drop (a+1)with
           |nil=>rfl
           |cons J x=>
            have W:=y6 v z;have Y:=y6 R z;have aa:=y6 M z;have ab:=y6 B z;simp only[W,Y,aa,ab,or_self,if_false]
          exact Ge
  ·have y:s.length<=a:=dq U;have hl:fv (s.drop a)=none:=by rw[agq y];rfl
   exact Ge
 ·cases fv (s.drop (d+1))with
  |none=>rfl
  |some i=>rfl
inductive Ml where
 |ok (kind:Nat) (text:cq) (n:Nat)
 |err (e:Nat)
def nM(t:cq)(n:Nat):Ml:=if Tg t then .ok 5 t n else if cK t then .ok 1 t n else if dX t then .ok 2 t n else .err 4
def mZ(l t:cq)(n:Nat)(c:UInt8):Ml:=if 19<t.length∨(1<t.length/\c=48)∨(l.drop n).head?.any isWord=true then .err 3 else .ok 3 t n
def oa:cq->Ml
 |[]=>.err 3
 |c::a=>
  if k9 c||iT c then nM ((c::a).take (et isWord (c::a))) (et isWord (c::a))
  else if isDigit c then mZ (c::a) ((c::a).take (et isDigit (c::a))) (et isDigit (c::a)) c
  else if c=34 then match fv a with
   |some (d,b)=>.ok 4 d (b+1)
   |none=>.err 3
  else if jE (c::a)=[]then .err 3 else .ok 6 (jE (c::a)) (jE (c::a)).length
def Wj(b:Nat)(t:cq)(a:Nat):V:=.agg [b5 b,cn t,b5 a]
def JK(a:Nat)(e:Ml)(d:cO):Prop:=match e with
 |.ok c b f=>d=.ret (.dS [Wj c b a,b5 (a+f),b5 0])
 |.err g=>∃c b,d=.ret (.dS [Wj c b a,b5 a,b5 g])
def gQ{a:Nat}{g:Ml}{d:V}{f e:cN}(i:JK a g (.ret d))(b:bd 0 d=true):cU 0 (.ret d) [f,e] fun h c=>c=[]/\cM h=true/\JK a g h:=
 .drop 0 rfl rfl b (.now rfl ⟨rfl,b,i⟩)
def P8(l:cq):(jE l).length<=3:=by
 unfold jE;split
 ·rename_i b a;have:=List.mem_of_find?_eq_some a;simp only[uX,agO,List.not_mem_nil,or_false]at this;rcases this with rfl|rfl|rfl|rfl|rfl|rfl|rfl<;>simp
 ·split
  ·simp
  ·split<;>simp
def FF(s:cq)(gf:Nat)(p:gf<s.length)(hs:s.length<4294967296){x:VS}{F:cO->VS->Prop}(B:∀G,JK gf (oa (s.drop gf)) G->F G x):
  b4 C ca Hp [cn s,b5 gf] x F:=by
 refine b4.closed (P:=JK gf (oa (s.drop gf))) ?_ Z B;have o:s.drop gf=s[gf]::s.drop (gf+1):=agl p;refine cm ?_;refine bZ Z (cc s[gf] (by rw[ck];exact agk p) ?_);have j:(k9 s[gf]||iT s[gf])=true->oa (s.drop gf)=nM ((s.drop gf).take (et isWord (s.drop gf))) (et isWord (s.drop gf)):=fun h=>by
  rw[o];simp only[oa,h,if_true]
 have hsl:(s.take (gf+et isWord (s.drop gf))).drop gf=(s.drop gf).take (et isWord (s.drop gf)):=by rw[List.drop_take];congr 1;omega
 have hle:gf+et isWord (s.drop gf)<=s.length:=by have:=y0 isWord (s.drop gf);rw[agv]at this;omega
 have htl:((s.drop gf).take (et isWord (s.drop gf))).length<4294967296:=by rw[List.length_take,agv];omega
 refine sJ s[gf] ?_;apply aZ<;>intro i
 ·have x5:=j (by rw[i];rfl);repeat refine cg i ?_
  exact Yf
 ·repeat refine a7 i ?_
  refine sK s[gf] ?_;repeat refine a7 i ?_
  apply aZ<;>intro n
  ·have x5:=j (by rw[n];simp);exact Yf
  ·have m:(k9 s[gf]||iT s[gf])=false:=by rw[i,n];rfl
   refine pZ s[gf] ?_;apply aZ<;>intro h2
   ·have x5:oa (s.drop gf)=mZ (s.drop gf) ((s.drop gf).take (et isDigit (s.drop gf))) (et isDigit (s.drop gf)) s[gf]:=by
     rw[o];simp only[oa,m,h2,if_true];rfl
    have q:(s.take (gf+et isDigit (s.drop gf))).drop gf=(s.drop gf).take (et isDigit (s.drop gf)):=by rw[List.drop_take];congr 1;omega
    have r:gf+et isDigit (s.drop gf)<=s.length:=by have:=y0 isDigit (s.drop gf);rw[agv]at this;omega
    refine E4 Il s gf om hs ?_;refine bZ Z (bZ Z (a6 ⟨om,r⟩ ?_));refine cf ?_;refine cf ?_;refine cf ?_;rw[<-q]at x5;have D:∀{z:Prop} [Decidable z],z->(if z then Ml.err 3 else Ml.ok 3 ((s.take (gf+et isDigit (s.drop gf))).drop gf) (et isDigit (s.drop gf)))=.err 3:=fun h=>if_pos h;have fe:∀{H:V},(∃K L,cO.ret H=.ret (.dS [Wj K L gf,b5 gf,b5 3]))->oa (s.drop gf)=.err 3->JK gf (oa (s.drop gf)) (.ret H):=fun i h2=>by rw[h2];exact i
    apply aZ<;>intro c
    ·repeat refine cg c ?_
     refine gQ (fe ⟨3,_,Z⟩ ?_) Z;rw[x5,mZ,if_pos (.inl (ee (a:=19) c))]
    ·have M:=dq (a:=19) c;repeat refine a7 c ?_
     apply aZ<;>intro f
     ·have y:=ee (a:=1) f;repeat (first|refine cg f ?_|refine a7 c ?_)
      apply aZ<;>intro e
      ·have l:s[gf]=48:=UInt8.toNat_inj.1 (AJ (b:=48) e);repeat (first|refine cg e ?_|refine a7 c ?_)
       refine gQ (fe ⟨3,_,Z⟩ ?_) Z;rw[x5,mZ,if_pos (.inr (.inl ⟨y,l⟩))]
      ·have l:s[gf]≠48:=fun E=>ED (b:=48) e (by rw[E];rfl);repeat (first|refine a7 e ?_|refine a7 c ?_)
       apply aZ<;>intro d
       ·have g:gf+et isDigit (s.drop gf)<s.length:=ee d;have hdr:(s.drop gf).drop (et isDigit (s.drop gf))=s[gf+et isDigit (s.drop gf)]::s.drop (gf+et isDigit (s.drop gf)+1):=by rw[agT];exact agl g
        repeat (first|refine cg d ?_|refine a7 c ?_|refine a7 e ?_)
        refine bZ Z (cc s[gf+et isDigit (s.drop gf)] (by rw[ck];exact agk g) ?_);repeat (first|refine cg d ?_|refine a7 c ?_|refine a7 e ?_)
        refine An s[gf+et isDigit (s.drop gf)] ?_;repeat (first|refine cg d ?_|refine a7 c ?_|refine a7 e ?_)
        apply aZ<;>intro hE
        ·repeat (first|refine cg hE ?_|refine a7 c ?_|refine a7 e ?_)
         exact aci
        ·repeat (first|refine a7 hE ?_|refine a7 c ?_|refine a7 e ?_)
         refine gQ ?_ Z;rw[x5,mZ,if_neg]
         ·rfl
         ·rintro(h|⟨h,k⟩|h)
          ·omega
          ·exact l k
          ·exact aaj
       ·have g:s.length<=gf+et isDigit (s.drop gf):=dq d;repeat (first|refine a7 d ?_|refine a7 c ?_|refine a7 e ?_)
        refine gQ ?_ Z;rw[x5,mZ,if_neg]
        ·rfl
        ·rintro(h|⟨h,k⟩|h)
         ·omega
         ·exact l k
         ·rw[agT,agq g]at h;cases h
     ·have y:=dq (a:=1) f;repeat (first|refine a7 f ?_|refine a7 c ?_)
      apply aZ<;>intro d
      ·have g:gf+et isDigit (s.drop gf)<s.length:=ee d;have hdr:(s.drop gf).drop (et isDigit (s.drop gf))=s[gf+et isDigit (s.drop gf)]::s.drop (gf+et isDigit (s.drop gf)+1):=by rw[agT];exact agl g
       repeat (first|refine cg d ?_|refine a7 c ?_|refine a7 f ?_)
       refine bZ Z (cc s[gf+et isDigit (s.drop gf)] (by rw[ck];exact agk g) ?_);repeat (first|refine cg d ?_|refine a7 c ?_|refine a7 f ?_)
       refine An s[gf+et isDigit (s.drop gf)] ?_;repeat (first|refine cg d ?_|refine a7 c ?_|refine a7 f ?_)
       apply aZ<;>intro hE
       ·repeat (first|refine cg hE ?_|refine a7 c ?_|refine a7 f ?_)
        exact aci
       ·repeat (first|refine a7 hE ?_|refine a7 c ?_|refine a7 f ?_)
        refine gQ ?_ Z;rw[x5,mZ,if_neg]
        ·rfl
        ·rintro(h|⟨h,k⟩|h)
         ·omega
         ·omega
         ·exact aaj
      ·have g:s.length<=gf+et isDigit (s.drop gf):=dq d;repeat (first|refine a7 d ?_|refine a7 c ?_|refine a7 f ?_)
       refine gQ ?_ Z;rw[x5,mZ,if_neg]
       ·rfl
       ·rintro(h|⟨h,k⟩|h)
        ·omega
        ·omega
        ·rw[agT,agq g]at h;cases h
   ·have a:oa (s.drop gf)=if s[gf]=34 then(match fv (s.drop (gf+1))with
      |some (b,v)=>.ok 4 b (v+1)
      |none=>.err 3)else if jE (s.drop gf)=[]then .err 3 else .ok 6 (jE (s.drop gf)) (jE (s.drop gf)).length:=by
     rw[o];simp only[oa,m,h2];rfl
    apply aZ<;>intro h3
    ·have t:s[gf]=34:=UInt8.toNat_inj.1 (AJ (b:=34) h3);rw[if_pos t]at a;refine Hs s gf p hs ?_;cases w:fv (s.drop (gf+1))with
     |none=>
      rw[w]at a;refine gQ ?_ Z;rw[a];exact⟨0,[],Z⟩
     |some J=>
      obtain⟨b,v⟩:=J;rw[w]at a;refine gQ ?_ Z;rw[a];show cO.ret _=cO.ret (.dS [_,b5 (gf+(v+1)),_]);rw[show gf+(v+1)=gf+1+v from by omega];rfl
    ·have t:s[gf]≠34:=fun E=>ED (b:=34) h3 (by rw[E];rfl);rw[if_neg t]at a;refine bZ Z (a6 ⟨om,ago _⟩ ?_);rw[agW];refine JH (s.drop gf) ?_;apply aZ<;>intro h4
     ·have u:jE (s.drop gf)=[]:=of_decide_eq_true h4;refine gQ ?_ Z;rw[a,if_pos u];exact⟨6,_,Z⟩
     ·have u:jE (s.drop gf)≠[]:=of_decide_eq_false h4;refine cf ?_;refine cf ?_;refine cf ?_;refine cf ?_;refine gQ ?_ Z;rw[a,if_neg u];have I:(jE (s.drop gf)).length<=3:=P8 _;show cO.ret (.dS [_,V.d (.int .i64 (IntKind.i64.wrap (agj gf+agj (jE (s.drop gf)).length))),_])=cO.ret (.dS [_,b5 (gf+(jE (s.drop gf)).length),_]);rw[c4 om];rfl
structure Tok where
 kind:Nat
 text:cq
 off:Nat
def rq(t:Tok):cH:=[.int .i64 (agj t.kind),.str t.text,.int .i64 (agj t.off)]
inductive Ao where
 |ok (l:List Tok)
 |err (off e:Nat)
def Ao.cons(t:Tok):Ao->Ao
 |.ok c=>.ok (t::c)
 |.err a b=>.err a b
def Ao.P9(b:List Tok):Ao->Ao
 |.ok d=>.ok (b++d)
 |.err a c=>.err a c
def Ht(a:Ao):a.P9 []=a:=by cases a<;>rfl
def EQ(b:List Tok)(t:Tok)(a:Ao):(a.cons t).P9 b=a.P9 (b++[t]):=by cases a<;>simp[Ao.cons,Ao.P9]
def jF(b:cq):Nat->Nat->Ao
 |0,_=>.ok []
 |f+1,a=>
  if b.length<=a then .ok [⟨0,[],b.length⟩]
  else match oa (b.drop a)with
   |.err g=>.err a g
   |.ok e d c=>(jF b f (a+c+dZ false (b.drop (a+c)))).cons ⟨e,d,a⟩
def jl(a:cq):Ao:=if 65536<a.length then .err 0 7 else jF a (a.length+1) (dZ false a)
def Tk:∀(e:Nat) (g:cq),g.length<=e->∀l d,fv g=some (l,d)->1<=d/\d<=g.length:=by
 intro e;induction e with
 |zero=>
  intro g f l d a;cases g with
  |nil=>rw[fv.eq_def]at a;cases a
  |cons _ _=>simp at f
 |succ e ih=>
  intro g f l d a;cases g with
  |nil=>rw[fv.eq_def]at a;cases a
  |cons k h=>
   have i:h.length<=e:=by simpa using f
   have step:∀(q:cq) (p:Nat) (n:UInt8),q.length+p<=h.length+1->q.length<=e->((fv q).map fun r=>(n::r.1,r.2+p))=some (l,d)->1<=d/\d<=(k::h).length:=by
    intro q p n c h2 h3;exact Ns
   by_cases c:k=34
   ·subst c;rw[De]at a;cases a;simp
   ·by_cases h2:k<32
    ·rw[JI c h2]at a;cases a
    ·by_cases h3:k=92
     ·subst h3;rw[p6]at a;cases h with
      |nil=>cases a
      |cons s b=>
       have j:b.length+1<=e:=by simpa using i
       simp only at a;split at a
       ·exact step b 2 _ sm om a
       ·split at a
        ·exact step b 2 _ sm om a
        ·split at a
         ·cases b with
          |nil=>cases a
          |cons n o=>
           cases o with
           |nil=>cases a
           |cons y m=>
            simp only at a;split at a
            ·exact step m 4 _ sm (by simp at j;omega) a
            ·cases a
         ·cases a
     ·rw[Df c h2 h3]at a;exact step h 1 k om i a
def Tl(l:cq):(jE l).length<=l.length:=by
 unfold jE;split
 ·rename_i b a;have:=List.find?_some a;have:eB l b=true:=this;rw[eB,agE]at this;exact this.length_le
 ·split
  ·simp
  ·split<;>simp
def Mm{c:UInt8}(a:(k9 c||iT c)=true):isWord c=true:=by
 simp only[isWord];rw[a];rfl
def y7{l:cq}{j n:Nat}{t:cq}(a:oa l=.ok j t n):0<n/\n<=l.length:=by
 cases l with
 |nil=>cases a
 |cons h g=>
  simp only[oa]at a;have c:=y0 isWord (h::g);have f:=y0 isDigit (h::g);split at a
  ·rename_i d;have b:0<et isWord (h::g):=by rw[p5,if_pos (Mm d)];omega
   unfold nM at a;split at a
   ·cases a;exact⟨b,c⟩
   ·split at a
    ·cases a;exact⟨b,c⟩
    ·split at a
     ·cases a;exact⟨b,c⟩
     ·cases a
  ·split at a
   ·rename_i d;have b:0<et isDigit (h::g):=by rw[p5,if_pos d];omega
    unfold mZ at a;split at a
    ·cases a
    ·cases a;exact⟨b,f⟩
   ·split at a
    ·split at a
     ·rename_i k m i;cases a;have:=Tk _ _ (ago _) _ _ i;simp only[agy];omega
     ·cases a
    ·split at a
     ·cases a
     ·rename_i e;cases a;exact⟨List.length_pos_iff.2 e,Tl _⟩
def Tn(d:Ao)(c:cO):Prop:=match d with
 |.ok g=>∃e b,c=.ret (.dS [.d (.ps e 0 3 b (g.map rq)),b5 0,b5 0])
 |.err a f=>c=.ret (.dS [.d .ci,b5 a,b5 f])
def xfz:Nat->Bool:=fun a=>agM a 22
def oF(a:List Tok):cN:=.row 3 (a.map fun b=>(rq b).map V.d)
def adJ(d:cq)(b:ki):List Tok->VS
 |[]=>[.box [.d .ci],.box [.d (.int .i64 0)],.box [.d (.int .i64 0)],.box [.d .ci],.box [cn d],.eI false,.loop b]
 |c::a=>[.box [.d .ci],.box [.d (.int .i64 0)],.box [.d (.int .i64 0)],.box [.ms 7 3 0 (a.length+1) (a.length+1)],.box [cn d],.eI false,.loop b,oF (c::a)]
def To(b:cq)(a:Nat×List Tok):Prop:=
 a.1<=b.length/\a.2.length<=a.1/\∃c,b.length-a.1<c/\jF b (b.length+1) (dZ false b)=(jF b c a.1).P9 a.2
def JL{b:cq}{a f g n:Nat}{t:cq}{acc:List Tok}(k:a<b.length)(j:b.length-a<f+1)(i:acc.length<=a)(d:oa (b.drop a)=.ok g t n) 
  (e:jF b (b.length+1) (dZ false b)=(jF b (f+1) a).P9 acc):To b (a+n+dZ false (b.drop (a+n)),acc++[⟨g,t,a⟩]):=by
 have h:=y7 d;rw[agv]at h;have c:=y3 false (b.drop (a+n));rw[agv]at c;refine⟨by show a+n+dZ false (b.drop (a+n))<=b.length;omega,by show(acc++[_]).length<=a+n+dZ false (b.drop (a+n));simp;omega,f,by show b.length-(a+n+dZ false (b.drop (a+n)))<f;omega,?_⟩;rw[e];show _=(jF b f (a+n+dZ false (b.drop (a+n)))).P9 (acc++[⟨g,t,a⟩]);rw[<-EQ];congr 1;rw[jF,if_neg om,d]
def Iq{l:cq}{b:Nat}(a:oa l=.err b):b≠0:=by
 cases l with
 |nil=>cases a;decide
 |cons c d=>
  simp only[oa,nM,mZ]at a;repeat' split at a
  all_goals first|(cases a;decide)|cases a
def Vy{a:cq}{c f g:Nat}{b:List Tok}(i:a.length<=65536)(h:c<a.length)(e:oa (a.drop c)=.err g) 
  (d:jF a (a.length+1) (dZ false a)=(jF a (f+1) c).P9 b):jl a=.err c g:=by
 rw[jl,if_neg om,d,jF,if_neg om,e];rfl
def Tp{a:cq}{e f:Nat}{b:List Tok}(g:a.length<=65536)(d:a.length<=e) 
  (c:jF a (a.length+1) (dZ false a)=(jF a (f+1) e).P9 b):jl a=.ok (b++[⟨0,[],a.length⟩]):=by
 rw[jl,if_neg om,c,jF,if_pos d];rfl
def l3{a:Nat}(b:(!decide (agj a=0))=false):a=0:=by
 rw[ag8]at b;exact AJ (b:=0) b
def Qa(b:Nat->Nat)(a:List Tok):hV b (oF a)=oF a:=by
 simp only[oF,hV];congr 1;rw[ag5];exact agJ fun c _=>Z
def Wk(b:Nat)(a:List Tok):fW b (oF a)=true:=by
 simp only[oF,fW,List.all_map];exact agG.2 fun c _=>Z
def Mn(a:List Tok):qC (a.map fun b=>(rq b).map V.d)=some (a.map rq):=by
 induction a with
 |nil=>rfl
 |cons b d c=>
  show(match some (rq b),qC (d.map fun b=>(rq b).map V.d)with
   |some e,some f=>some (e::f)
   |_,_=>none)=_
  rw[c];rfl
def kz(n:Nat):agM n n=true:=Nat.beq_refl n
def Oe{c:VS}(b:Nat)(a:List Tok)(n:Nat)(f:n=a.length)(h:nth c b=some (oF a)):
  cU 0 (.ret (.dS [.ms b 3 0 n n,b5 0,b5 0])) c fun g e=>e=[]/\cM g=true/\Tn (.ok a) g:=by
 refine cU.freeze b h (Mn a) ⟨fun _=>⟨Z,by simp[f]⟩,tv,tv,tv⟩ (fun d=>?_);refine cU.drop 0 (by cases c.set b cN.gone<;>rfl) (by rw[mJ]) ?_ ?_
 ·show PY 0 (.ret (.dS [o5 b d (a.map rq) (.ms b 3 0 n n),b5 0,b5 0]))=true;rw[o5,kz];rfl
 ·refine cU.now Z ⟨Z,?_,d,n,?_⟩
  ·show cM (.ret (.dS [o5 b d (a.map rq) (.ms b 3 0 n n),b5 0,b5 0]))=true;rw[o5,kz];rfl
  ·show cO.ret (.dS [o5 b d (a.map rq) (.ms b 3 0 n n),b5 0,b5 0])=_;rw[o5,kz];show cO.ret (.dS [.d (.ps d (0*3) 3 n (((a.map rq).drop 0).take n)),b5 0,b5 0])=_;rw[eT _ _ (by simp[f])]
def Dh(a:List Tok)(n:Nat)(b:n=a.length)(t:Tok):some (cN.row 3 (((a.map fun t=>(rq t).map V.d).drop 0).take n++[(rq t).map V.d]))=some (oF (a++[t])):=by
 rw[oF,agx,eT _ _ (by simp[b])];rfl
def Qb{b:Nat->Nat}(a:List Tok)(n:Nat)(c:n=a.length)(t:Tok):some (cN.row 3 (((a.map fun t=>(rq t).map V.d).drop 0).take n++[(rq t).map V.d]))=some (hV b (oF (a++[t]))):=by
 rw[Qa,Dh a n c t]
def Wl(a:List Tok)(t:Tok):some (cN.box [.ms 10 3 0 (a.length+1+1) (a.length+1+1)])=some (cN.box [.ms 10 3 0 ((a++[t]).length+1) ((a++[t]).length+1)]):=by simp
def Of{b n:Nat}{a:List Tok}{e:Tok}(d:(e::a).length<=b)(c:b<=65536)(f:n=1):(a.length+1+n)*32<=fy/\a.length+1+n<=fy:=by
 simp only[agy]at d;unfold fy;omega
def Tq(s:cq)(w:s.length<4294967296){p:VS}{u:cO->VS->Prop}(q:∀d,Tn (jl s) d->u d p):b4 C ca A6 [cn s] p u:=by
 refine b4.closed (P:=Tn (jl s)) ?_ Z q;refine cv xfz (fun _=>Z) ?_;apply aZ<;>intro h
 ·exact aeJ
 ·have h':=dq (a:=65536) h;refine cj ?_;refine cj ?_;refine uY s 0 om om ?_;have l:=y3 false s;refine cd.less (dB:=[(3,b5 (dZ false s)),(0,.tR 6),(1,.bp 4 0)]) ⟨int_eq (by rw[agu];rfl),Z,Z,tv⟩ ?_;refine cd.iter (fun m:Nat×List Tok=>[(3,b5 m.1),(0,.tR 6),(1,.bp 4 0)]) (fun m=>adJ s _ m.2) (fun m=>s.length-m.1) (To s) ?_ (dZ false s,[]) ⟨l,agQ _,s.length+1,om,(Ht _).symm⟩;rintro⟨b,f⟩ ⟨o,c,n,i,hp⟩;have o:b<=s.length:=o;have c:f.length<=b:=c;have i:s.length-b<n:=i;have hp:jF s (s.length+1) (dZ false s)=(jF s n b).P9 f:=hp;obtain⟨n,rfl⟩:∃k,n=k+1:=⟨n-1,om⟩;cases f with
  |nil=>
   apply aZ<;>intro h
   ·have hl:b<s.length:=ee h;refine FF s b hl om (fun d hr=>?_);cases ht:oa (s.drop b)with
    |ok k t g=>
     rw[ht]at hr;obtain rfl:d=_:=hr;refine iA.intro ?_;have j:=y7 ht;rw[agv]at j;intro r;refine a6 Z (a6 ⟨agp Z,agp Z⟩ ?_);refine uY s (b+g) om om ?_;have e:=y3 false (s.drop (b+g));rw[agv]at e;refine⟨(b+g+dZ false (s.drop (b+g)),[]++[⟨k,t,b⟩]),?_,?_,?_,Z,Z⟩
     ·exact JL (acc:=[]) hl i c ht hp
     ·show s.length-(b+g+dZ false (s.drop (b+g)))<s.length-b;omega
     ·exact .pick 7 [0,1,2,3,4,5,6,9] ⟨Z,Z,Z,tv⟩ Z Z Z Z Z dc ⟨Z,Z,Z,Z,Z,Z,Z,Z,Z,Z,Z,Z,Z,Z,Z,Z,tv⟩
    |err x=>
     exact YD
   ·have hl:s.length<=b:=dq h;refine iA.intro ?_;intro r;refine a6 Z (a6 ⟨agp Z,agp Z⟩ ?_);rw[Tp h' hl hp];exact Oe 8 [⟨0,[],s.length⟩] 1 Z Z
  |cons a d=>
   apply aZ<;>intro h
   ·have hl:b<s.length:=ee h;refine FF s b hl om (fun v hr=>?_);cases ht:oa (s.drop b)with
    |ok k t g=>
     rw[ht]at hr;obtain rfl:v=_:=hr;refine iA.intro ?_;have j:=y7 ht;rw[agv]at j;intro r;refine a6 Z (a6 ⟨Z,Z,by simp[oF],ago _,Of c om Z⟩ ?_);refine a7 Z (a7 (fG (d.length+1)) ?_);refine uY s (b+g) om om ?_;have e:=y3 false (s.drop (b+g));rw[agv]at e;refine⟨(b+g+dZ false (s.drop (b+g)),(a::d)++[⟨k,t,b⟩]),?_,?_,?_,Z,Z⟩
     ·exact JL hl i c ht hp
     ·show s.length-(b+g+dZ false (s.drop (b+g)))<s.length-b;omega
     ·refine .pick 7 [0,1,2,3,4,5,6,10] ⟨Z,Z,Z,tv⟩ Z Z Z Z Z dc ⟨Z,Z,Z,Z,Z,Z,?_,Z,Z,Z,Z,Z,Z,Z,?_,Wk _ _,tv⟩
      ·exact Wl d ⟨k,t,b⟩
      ·exact Qb (a::d) (d.length+1) Z ⟨k,t,b⟩
    |err x=>
     exact YD
   ·have hl:s.length<=b:=dq h;refine iA.intro ?_;intro r;refine a6 Z (a6 ⟨Z,Z,by simp[oF],ago _,Of c om Z⟩ ?_);refine a7 Z (a7 (fG (d.length+1)) ?_);rw[Tp h' hl hp];refine Oe 9 (a::d++[⟨0,[],s.length⟩]) (d.length+1+1) sm ?_;exact Dh (a::d) (d.length+1) Z ⟨0,[],s.length⟩
end Go.Proofs.YtpejealjkmhkgaaGreatDoor
namespace Go.VM
open Go.AM
section
variable{C:dR} {cF:ql}
def mv(b:Nat->Nat)(a:cO)(d:cM a=true):nZ b a=a:=by
 cases a with
 |ret c=>simp only[nZ];rw[km _ c d]
 |eH c=>simp only[nZ];rw[km _ c d]
mutual
def Og:∀(k:Nat) (v:V),bd 0 v=true->bd k v=true
 |_,.d _,_=>by simp only[bd]
 |_,.bp _ _,h=>by simp only[bd]at h;exact absurd (gw h) (agL _)
 |_,.ptr _ _ _ _,h=>by simp only[bd]at h;exact absurd (gw h) (agL _)
 |_,.fp _ _ _,_=>by simp only[bd]
 |_,.ms _ _ _ _ _,h=>by simp only[bd]at h;exact absurd (gw h) (agL _)
 |_,.map _,h=>by simp only[bd]at h;exact absurd (gw h) (agL _)
 |k,.fn _ a c,h=>by simp only[bd,agC]at h⊢;exact⟨gx k a h.1,gx k c h.2⟩
 |_,.tR _,h=>by simp only[bd]at h;exact absurd (gw h) (agL _)
 |k,.iface _ v,h=>by simp only[bd]at h⊢;exact Og k v h
 |k,.agg l,h=>by simp only[bd]at h⊢;exact gx k l h
 |k,.dS l,h=>by simp only[bd]at h⊢;exact gx k l h
def gx:∀(k:Nat) (l:List V),fu 0 l=true->fu k l=true
 |_,[],_=>by simp only[fu]
 |k,v::l,h=>by simp only[fu,agC]at h⊢;exact⟨Og k v h.1,gx k l h.2⟩
end
def b4.one{f:FuncId}{dM c b:List V}{P:cO->List V->Prop}(n:b4 C cF f dM [.box b] fun e h=>∃a,h=[.box a]/\cM e=true/\fu 0 a=true/\P e a) 
  (j:Nat) {d:VS} {v:cO->VS->Prop} (i:nth d j=some (.box b)) (k:fu 0 b=true) (g:fu 1 dM=true) (t:c=hU (jT [j] d.length) dM) (o:∀e a,P e a->v e (d.set j (.box a))):
  b4 C cF f c d v:=by
 refine n.frame [j] Z sm (fun w u l=>?_) g t (fun r p l _=>?_)
 ·cases w with
  |zero=>
   obtain rfl:j=u:=by simpa using l
   refine⟨.box b,Z,?_,gx 1 b k⟩;rw[<-ck,i];simp only[hV,fL _ b k]
  |succ w=>simp at l
 ·obtain⟨a,rfl,m,s,q⟩:=l;rw[mv _ _ m];simp only[agH,ahb,hV,fL _ a s,merge,agP];exact o r a q
def u3{a:VS}{e:Nat}{o:cN}(d:nth a e=some o):a.set e o=a:=by
 rw[ck]at d;obtain⟨c,b⟩:=agB.1 d;rw[<-b];exact List.set_getElem_self c
end
end Go.VM
namespace Go.Proofs.YtpejealjkmhkgaaGreatDoor
open Go.AM Go.VM
structure Rd where
 b:Nat
 cap:Nat
 ts:List Tok
def xa(a:Rd)(p:Nat):List V:=[.d (.ps a.b 0 3 a.cap (a.ts.map rq)),b5 p]
def dp(a:Rd)(p:Nat):cN:=.box (xa a p)
def Wm(t:Tok):V:=Wj t.kind t.text t.off
def Hu{b:Rd}{p:Nat}{t:Tok}(a:b.ts[p]?=some t):nth (b.ts.map rq) p=some (rq t):=by
 rw[ck,ag1,a];rfl
def eF(d:Rd)(p:Nat)(t:Tok)(c:d.ts[p]?=some t)(e:Nat){a:VS}{g:cO->VS->Prop}(b:nth a e=some (dp d p))(f:g (.ret (Wm t)) a):b4 C ca EF [.bp e 0] a g:=by
 refine b4.one (dM:=[.bp 0 0]) (P:=fun i h=>i=.ret (Wm t)/\h=xa d p) ?_ e b Z Z Z (fun i k j=>by rw[j.1,j.2];show g _ (a.set e (dp d p));rw[u3 b];exact f);refine cm ?_;refine bZ Z ?_;refine cc (rq t) (Hu c) ?_;repeat refine a6 (by repeat' (first|exact tv|exact rfl|refine bZ rfl ?_|refine cc (rq t) (Hu c) ?_|refine And.intro ?_ ?_)) ?_
 refine a8 1 ⟨xa d p,Z,Z,Z,Z,Z⟩
def eu(t:Tok)(p:Nat):Nat:=if t.kind=0 then p else p+1
def dK(d:Rd)(p:Nat)(t:Tok)(f:d.ts[p]?=some t)(m:p<4294967296)(g:Nat){b:VS}{j:cO->VS->Prop}(e:nth b g=some (dp d p))(h:j (.ret (Wm t)) (b.set g (dp d (eu t p)))):b4 C ca EK [.bp g 0] b j:=by
 refine b4.one (dM:=[.bp 0 0]) (P:=fun k i=>k=.ret (Wm t)/\i=xa d (eu t p)) ?_ g e Z Z Z (fun k l c=>by rw[c.1,c.2];exact h);refine cm ?_;refine bZ Z ?_;refine cc (rq t) (Hu f) ?_;repeat refine a6 (by repeat' (first|exact tv|exact rfl|refine bZ rfl ?_|refine cc (rq t) (Hu f) ?_|refine And.intro ?_ ?_)) ?_
 apply aZ<;>intro c
 ·have a:t.kind≠0:=fun n=>by rw[n]at c;cases c
  refine a8 1 ⟨xa d (p+1),?_,Z,Z,Z,?_⟩
  ·show [cN.box [_,V.d (.int .i64 (IntKind.i64.wrap (agj p+1)))]]=_;rw[cp om];rfl
  ·rw[eu,if_neg a]
 ·have a:t.kind=0:=l3 c;refine a8 1 ⟨xa d p,Z,Z,Z,Z,?_⟩;rw[eu,if_pos a]
def dt(a b:Nat):V:=.iface We (.agg [b5 a,b5 b])
def fK(f:V)(a e:Nat){b:VS}{d:cO->VS->Prop}(c:d (.eH (dt a e)) b):b4 C ca EG [f,b5 a,b5 e] b d:=by
 refine cj ?_;exact c
def c5(t:Tok)(a:cq):Bool:=decide (t.text=a)&&(decide (t.kind=5)||decide (t.kind=6))
def Mo{c:Rd}{p:Nat}{e:Bool}{f:Bool}{o:cN}(g:e=f):cU 1 (.ret (b6 e)) [.box (xa c p),o] fun d b=>∃a,b=[.box a]/\cM d=true/\fu 0 a=true/\(d=.ret (b6 f)/\a=xa c p):=
 .drop 1 rfl rfl rfl (.now rfl ⟨xa c p,rfl,rfl,rfl,by rw[g],rfl⟩)
def qV(e:Rd)(p:Nat)(t:Tok)(f:cq)(k:e.ts[p]?=some t)(g:Nat){c:VS}{i:cO->VS->Prop}(d:nth c g=some (dp e p))(h:i (.ret (b6 (c5 t f))) c):b4 C ca ko [.bp g 0,cn f] c i:=by
 refine b4.one (dM:=[.bp 0 0,cn f]) (P:=fun l j=>l=.ret (b6 (c5 t f))/\j=xa e p) ?_ g d Z Z Z (fun l m a=>by rw[a.1,a.2];show i _ (c.set g (dp e p));rw[u3 d];exact h);refine cm ?_;refine eF e p t k 0 Z ?_;apply aZ<;>intro a
 ·repeat refine cg a ?_
  apply aZ<;>intro b
  ·repeat first|refine cg b ?_|refine cg a ?_
   refine Mo ?_;rw[c5,a,show t.kind=5 from AJ (b:=5) b];rfl
  ·repeat first|refine a7 b ?_|refine cg a ?_
   refine Mo ?_;have:t.kind≠5:=ED (b:=5) b;rw[c5,a,decide_eq_false this,Bool.true_and,Bool.false_or];exact decide_eq_decide.2 (by simp only[agn];omega)
 ·repeat refine a7 a ?_
  refine Mo ?_;rw[c5,a];rfl
def sL{t:Tok}{b:cq}(a:c5 t b=true):t.kind≠0:=by
 simp only[c5,agC,Bool.or_eq_true,decide_eq_true_eq]at a;omega
def cI(g:Rd)(p:Nat)(t:Tok)(c:cq)(f:g.ts[p]?=some t)(h:p<4294967296)(e:Nat){a:VS}{i:cO->VS->Prop}(b:nth a e=some (dp g p)) 
  (j:c5 t c=true->i (.ret (b6 true)) (a.set e (dp g (p+1)))) (k:c5 t c=false->i (.ret (b6 false)) a):b4 C ca EI [.bp e 0,cn c] a i:=by
 refine cj ?_;refine qV g p t c f e b ?_;apply aZ<;>intro l
 ·exact k (by simpa using l)
 ·have d:c5 t c=true:=by simpa using l
  refine dK g p t f h e b ?_;have m:eu t p=p+1:=by rw[eu,if_neg (sL d)]
  rw[m];exact j d
def se(d:Rd)(p c:Nat)(t:Tok)(m:d.ts[p]?=some t)(i:p<4294967296)(g:Nat){b:VS}{j:cO->VS->Prop}(f:nth b g=some (dp d p)) 
  (l:t.kind=c->j (.ret (cn t.text)) (b.set g (dp d (eu t p)))) (n:t.kind≠c->j (.eH (dt t.off 3)) (b.set g (dp d (eu t p)))):b4 C ca uJ [.bp g 0,b5 c] b j:=by
 refine b4.one (dM:=[.bp 0 0,b5 c]) (P:=fun k h=>h=xa d (eu t p)/\((t.kind=c/\k=.ret (cn t.text))∨(t.kind≠c/\k=.eH (dt t.off 3)))) ?_ g f Z Z Z ?_
 ·refine cm ?_;refine dK d p t m i 0 Z ?_;apply aZ<;>intro a
  ·have e:t.kind≠c:=fun o=>by
    rw[o]at a;rw[Bool.not_eq_true',decide_eq_false_iff_not]at a;exact a Z
   refine fK _ t.off 3 ?_;exact a8 1 ⟨xa d (eu t p),Z,Z,Z,Z,.inr ⟨e,Z⟩⟩
  ·have e:t.kind=c:=by
    rw[ag8]at a;exact AJ a
   exact a8 1 ⟨xa d (eu t p),Z,Z,Z,Z,.inl ⟨e,Z⟩⟩
 ·rintro k h ⟨rfl,⟨a,rfl⟩|⟨a,rfl⟩⟩
  ·exact l a
  ·exact n a
def kH(d:Rd)(p:Nat)(t:Tok)(i:d.ts[p]?=some t)(e:p<4294967296)(c:Nat){a:VS}{f:cO->VS->Prop}(b:nth a c=some (dp d p)) 
  (h:t.kind=1->f (.ret (cn t.text)) (a.set c (dp d (p+1)))) (j:t.kind≠1->f (.eH (dt t.off 3)) (a.set c (dp d (eu t p)))):b4 C ca wR [.bp c 0] a f:=by
 refine cj ?_;refine se d p 1 t i e c b (fun g=>?_) (fun g=>?_)
 ·have k:eu t p=p+1:=by rw[eu,if_neg om]
  rw[k];exact h g
 ·exact j g
inductive PR (α:Type)where
 |ok (a:α) (p:Nat)
 |bad (off e:Nat)
structure Rd.Wf (R:Rd):Prop where
 len:R.ts.length<4294967296
 go:∀p t,R.ts[p]?=some t->t.kind≠0->p+1<R.ts.length
def Rd.tok(a:Rd)(p:Nat):Tok:=(a.ts[p]?).getD ⟨0,[],0⟩
def b0{a:Rd}{p:Nat}(b:p<a.ts.length):a.ts[p]?=some (a.tok p):=by
 rw[Rd.tok,agk b];rfl
def Rd.Wf.step{a:Rd}(e:a.Wf){p:Nat}{c:cq}(d:p<a.ts.length)(b:c5 (a.tok p) c=true):p+1<a.ts.length:=e.go p _ (b0 d) (sL b)
def Rd.Wf.eu{a:Rd}(c:a.Wf){p:Nat}(b:p<a.ts.length):eu (a.tok p) p<a.ts.length:=by
 unfold YtpejealjkmhkgaaGreatDoor.eu;split
 ·exact b
 ·exact c.go p _ (b0 b) (by assumption)
def cu(b:Rd):List cq->Nat->PR Unit
 |[],a=>.ok () a
 |s::c,a=>if c5 (b.tok a) s then cu b c (a+1)else .bad (b.tok a).off 3
def da{c:Rd}(h:c.Wf):∀(e:List cq) (d a:Nat),d<c.ts.length->cu c e d=.ok () a->a<c.ts.length:=by
 intro e;induction e with
 |nil=>intro d a f b;cases b;exact f
 |cons s e g=>
  intro d a f b;rw[cu]at b;split at b
  ·exact g _ _ (h.step f (by assumption)) b
  ·cases b
def PRK{α:Type}(f:Rd)(e:Nat)(b:VS)(d:cO->VS->Prop)(val:α->V):PR α->Prop
 |.ok g c=>d (.ret (val g)) (b.set e (dp f c))
 |.bad a h=>∀c,d (.eH (dt a h)) (b.set e (dp f c))
def eW(l:List cq):List cH:=l.map fun a=>[.str a]
def ep(a:Rd)(D:a.Wf)(l:List cq)(E:l.length<4294967296)(p:Nat)(z:p<a.ts.length)(b c w:Nat){q:VS}{A:cO->VS->Prop}(u:nth q w=some (dp a p)) 
  (m:PRK a w q A (fun _=>.dS []) (cu a l p)):b4 C ca wQ [.bp w 0,.d (.ps b 0 1 c (eW l))] q A:=by
 refine b4.one (dM:=[.bp 0 0,.d (.ps b 0 1 c (eW l))]) (P:=fun x o=>match cu a l p with
  |.ok _ e=>x=.ret (.dS [])/\o=xa a e
  |.bad n B=>x=.eH (dt n B)/\∃e,o=xa a e) ?_ w u rfl rfl rfl ?_
 ·refine cj ?_;refine cd.less (dB:=[(8,b5 0),(7,b5 l.length),(6,.d (.ps b 0 1 c (eW l))),(0,.bp 0 0)]) ⟨Z,int_eq (by simp[eW]),Z,Z,tv⟩ ?_;refine cd.iter (fun j:Nat×Nat=>[(8,b5 j.1),(7,b5 l.length),(6,.d (.ps b 0 1 c (eW l))),(0,.bp 0 0)]) (fun j=>[.box (xa a j.2)]) (fun j=>l.length-j.1)
   (fun j=>j.1<=l.length/\j.2<a.ts.length/\cu a l p=cu a (l.drop j.1) j.2) ?_ (0,p) ⟨agQ _,z,rfl⟩
  rintro⟨d,f⟩ ⟨v,h,i⟩;have v:d<=l.length:=v;have h:f<a.ts.length:=h;have i:cu a l p=cu a (l.drop d) f:=i;have y:=D.len;apply aZ<;>intro r
  ·have g:d<l.length:=ee r;refine bZ Z ?_;refine cc [.str l[d]] (by rw[ck,eW,ag1,agk g];rfl) ?_;have s:l.drop d=l[d]::l.drop (d+1):=agl g;refine cI a f (a.tok f) l[d] (b0 h) om 0 Z (fun k=>?_) (fun k=>?_)
   ·refine⟨(d+1,f+1),⟨g,D.step h k,?_⟩,?_,.eS,Z,Z⟩
    ·show cu a l p=cu a (l.drop (d+1)) (f+1);rw[i,s,cu,if_pos k]
    ·show l.length-(d+1)<l.length-d;omega
   ·refine eF a f (a.tok f) (b0 h) 0 Z ?_;refine fK _ (a.tok f).off 3 ?_;refine⟨xa a f,Z,Z,Z,?_⟩;rw[i,s,cu,if_neg (by rw[k];decide)];exact⟨Z,f,Z⟩
  ·have g:l.length<=d:=dq r;refine⟨xa a f,Z,Z,Z,?_⟩;rw[i,agq g];exact⟨Z,Z⟩
 ·intro x o r;cases t:cu a l p with
  |ok F e=>rw[t]at r m;obtain⟨rfl,rfl⟩:=r;exact m
  |bad n B=>rw[t]at r m;obtain⟨rfl,e,rfl⟩:=r;exact m e
end Go.Proofs.YtpejealjkmhkgaaGreatDoor
namespace Go.VM
open Go.AM
section
variable{C:dR} {cF:ql}
def fh(f:Nat->Nat)(o:cN)(a:fW 0 o=true):hV f o=o:=by
 cases o with
 |box g=>simp only[hV];rw[fL _ g a]
 |row d c=>
  simp only[hV];congr 1;simp only[fW,agG]at a;conv=>rhs;rw[<-ahi c]
  exact agJ fun e b=>fL _ e (a e b)
 |map d m=>
  simp only[hV];congr 1;simp only[fW,agG,agC]at a;conv=>rhs;rw[<-ahi d]
  exact agJ fun e b=>by
   obtain⟨h,i,k⟩:=e;have:=a _ b;simp only[O8,km _ h this.1,km _ i this.2,id]
 |loop l=>simp only[fW,agC]at a;exact absurd (gw a.2) (agL _)
 |eI j=>rfl
 |j2 _ _ _=>rfl
 |gone=>rfl
def lp(c:Nat)(o:cN)(b:fW 0 o=true):fW c o=true:=by
 cases o with
 |box e=>exact gx c e b
 |row f g=>simp only[fW,agG]at b⊢;exact fun d a=>gx c d (b d a)
 |map f j=>simp only[fW,agG,agC]at b⊢;exact fun d a=>⟨Og c _ (b d a).1,Og c _ (b d a).2⟩
 |loop i=>simp only[fW,agC]at b;exact absurd (gw b.2) (agL _)
 |eI h=>rfl
 |j2 _ _ _=>rfl
 |gone=>rfl
def b4.two{f:FuncId}{dM c:List V}{g e:cN}{P:cO->cN->cN->Prop}(s:b4 C cF f dM [g,e] fun k p=>∃b a,p=[b,a]/\cM k=true/\fW 0 b=true/\fW 0 a=true/\P k b a) 
  (j i:Nat) (l:j≠i) {d:VS} {D:cO->VS->Prop} (w:nth d j=some g) (r:nth d i=some e) (n:fW 0 g=true) (o:fW 0 e=true) (m:fu 2 dM=true) (z:c=hU (jT [j,i] d.length) dM)
  (t:∀k b a,P k b a->D k ((d.set j b).set i a)):b4 C cF f c d D:=by
 refine s.frame [j,i] Z (by simp[l]) (fun E q h=>?_) m z (fun v u h _=>?_)
 ·match E,h with
  |0,h=>
   obtain rfl:j=q:=by simpa using h
   exact⟨g,Z,by rw[<-ck,w,fh _ _ n],lp _ _ n⟩
  |1,h=>
   obtain rfl:i=q:=by simpa using h
   exact⟨e,Z,by rw[<-ck,r,fh _ _ o],lp _ _ o⟩
  |E+2,h=>simp at h
 ·obtain⟨b,a,rfl,A,B,x,y⟩:=h;rw[mv _ _ A];simp only[agH,ahb,fh _ _ B,fh _ _ x,merge,agP];exact t v b a y
end
end Go.VM
namespace Go.Proofs.YtpejealjkmhkgaaGreatDoor
open Go.AM Go.VM
def eC:Nat->List cq->List rL
 |_,[]=>[]
 |k,a::b=>⟨cn a,b6 true,k⟩::eC (k+1) b
def Ts(l:List cq)(b:cq):∀a,eC a (l++[b])=eC a l++[⟨cn b,b6 true,a+l.length⟩]:=by
 induction l with
 |nil=>intro a;rfl
 |cons d l c=>
  intro a;show _::eC (a+1) (l++[b])=_;rw[c];simp only[eC,agA,agy];rw[show a+1+l.length=a+(l.length+1)from by omega]
def pg(a:List cq):cN:=.map (eC 0 a) a.length
def JM(a:List cq)(b:cq):pg (a++[b])=.map (eC 0 a++[⟨cn b,b6 true,a.length⟩]) (a.length+1):=by
 rw[pg,Ts,agu,ags];rfl
def iM(a:List cq):fW 0 (pg a)=true:=by
 have:∀(b:List cq) (d:Nat),(eC d b).all (fun e=>bd 0 e.key&&bd 0 e.val)=true:=by
  intro b;induction b with
  |nil=>intro d;rfl
  |cons f b c=>intro d;simp only[eC,List.all_cons,c];rfl
 exact this a 0
def Ap{c:cq}:∀{a:List cq} {d b:Nat},c ∉ a->eN .string (cn c) (eC d a) b=some none:=by
 intro a;induction a with
 |nil=>intro d b _;rfl
 |cons h i e=>
  intro d b g;show(match decide (c=h)with
   |true=>some (some (b,b6 true))
   |false=>eN .string (cn c) (eC (d+1) i) (b+1))=_
  rw[decide_eq_false (fun f=>g (by simp[f]))];exact e (fun f=>g (by simp[f]))
def Qc{b:cq}:∀{a:List cq} {k i:Nat},b∈a->∃f,eN .string (cn b) (eC k a) i=some (some (f,b6 true)):=by
 intro a;induction a with
 |nil=>intro k i c;simp at c
 |cons g j d=>
  intro k i c;by_cases h:b=g
  ·refine⟨i,?_⟩;show(match decide (b=g)with
    |true=>some (some (i,b6 true))
    |false=>eN .string (cn b) (eC (k+1) j) (i+1))=_
   rw[decide_eq_true h]
  ·obtain⟨f,e⟩:=d (k:=k+1) (i:=i+1) (by simpa [h]using c);refine⟨f,?_⟩;show(match decide (b=g)with
    |true=>some (some (i,b6 true))
    |false=>eN .string (cn b) (eC (k+1) j) (i+1))=_
   rw[decide_eq_false h];exact e
def p7(b:Rd)(y:b.Wf)(p:Nat)(l:p<b.ts.length)(a:List cq)(h i:Nat)(j:h≠i){e:VS}{n:cO->VS->Prop}(m:nth e h=some (dp b p))(v:nth e i=some (pg a)) 
  (r:(b.tok p).kind=1->(b.tok p).text ∉ a->n (.ret (cn (b.tok p).text)) ((e.set h (dp b (p+1))).set i (pg (a++[(b.tok p).text]))))
  (q:(b.tok p).kind=1->(b.tok p).text∈a->n (.eH (dt (b.tok p).off 5)) ((e.set h (dp b (p+1))).set i (pg a)))
  (u:(b.tok p).kind≠1->n (.eH (dt (b.tok p).off 3)) ((e.set h (dp b (eu (b.tok p) p))).set i (pg a))):b4 C ca C8 [.bp h 0,.map i] e n:=by
 refine b4.two (dM:=[.bp 0 0,.map 1]) (P:=fun o g f=>
  ((b.tok p).kind=1/\(b.tok p).text ∉ a/\o=.ret (cn (b.tok p).text)/\g=dp b (p+1)/\f=pg (a++[(b.tok p).text]))∨
  ((b.tok p).kind=1/\(b.tok p).text∈a/\o=.eH (dt (b.tok p).off 5)/\g=dp b (p+1)/\f=pg a)∨
  ((b.tok p).kind≠1/\o=.eH (dt (b.tok p).off 3)/\g=dp b (eu (b.tok p) p)/\f=pg a)) ?_ h i j m v rfl (iM a) rfl rfl ?_
 ·have s:=y.len;refine cj ?_;refine eF b p (b.tok p) (b0 l) 0 Z ?_;refine kH b p (b.tok p) (b0 l) om 0 Z (fun d=>?_) (fun d=>?_)
  ·by_cases c:(b.tok p).text∈a
   ·obtain⟨x,w⟩:=Qc (k:=0) (i:=0) c;refine cc (some (x,b6 true)) w ?_;refine fK _ (b.tok p).off 5 ?_;exact⟨_,_,Z,Z,Z,iM a,.inr (.inl ⟨d,c,Z,Z,Z⟩)⟩
   ·refine cc none (Ap c) ?_;refine cc none (Ap c) ?_;refine⟨dp b (p+1),pg (a++[(b.tok p).text]),?_,Z,Z,iM _,.inl ⟨d,c,Z,Z,Z⟩⟩;rw[JM];rfl
  ·exact⟨_,_,Z,Z,Z,iM a,.inr (.inr ⟨d,Z,Z,Z⟩)⟩
 ·rintro o g f (⟨k,t,rfl,rfl,rfl⟩|⟨k,t,rfl,rfl,rfl⟩|⟨k,rfl,rfl,rfl⟩)
  ·exact r k t
  ·exact q k t
  ·exact u k
inductive Ty where
 |mk (kind:Nat) (mod name:cq) (args:List Ty) (fields:List (cq×Ty×Bool))
mutual
inductive eZ:Ty->cH->Prop
 |mk {k:Nat} {m n:cq} {args:List Ty} {fields:List (cq×Ty×Bool)} {a f:D} (ha:fA args a) (hf:ll fields f):eZ (.mk k m n args fields) [.int .i64 (agj k),.str m,.str n,a,f]
inductive fA:List Ty->D->Prop
 |nil:fA [] .ci
 |ps {b o cap:Nat} {l:List Ty} {els:List cH} (h:dz l els) (BM:els≠[]):fA l (.ps b o 5 cap els)
inductive dz:List Ty->List cH->Prop
 |nil:dz [] []
 |cons {t:Ty} {d:cH} {l:List Ty} {els:List cH} (h:eZ t d) (hl:dz l els):dz (t::l) (d::els)
inductive ll:List (cq×Ty×Bool)->D->Prop
 |nil:ll [] .ci
 |ps {b o cap:Nat} {l:List (cq×Ty×Bool)} {els:List cH} (h:u5 l els):ll l (.ps b o 7 cap els)
inductive u5:List (cq×Ty×Bool)->List cH->Prop
 |nil:u5 [] []
 |cons {n:cq} {t:Ty} {o:Bool} {d:cH} {l:List (cq×Ty×Bool)} {els:List cH} (h:eZ t d) (hl:u5 l els):u5 ((n,t,o)::l) ((.str n::d++[.bool o])::els)
end
def dz.snoc{l:List Ty}{a:List cH}{t:Ty}{f:cH}(g:dz l a)(e:eZ t f):dz (l++[t]) (a++[f]):=by
 induction l generalizing a with
 |nil=>cases g;exact .cons e .nil
 |cons h l b=>cases g with|cons d c=>exact .cons d (b c)
def eZ.cZ{t:Ty}{a:cH}(e:eZ t a):∃g h d i b,a=[.int .i64 (agj g),.str h,.str d,i,b]:=by
 cases e with|mk f c=>exact⟨_,_,_,_,_,rfl⟩
structure ef (ty:Nat->PR Ty) (R:Rd) (lo:Nat):Prop where
 lt:∀p t q,lo<=p->p<R.ts.length->ty p=.ok t q->p<q/\q<R.ts.length
 call:∀p,lo<=p->p<R.ts.length->∀(i:Nat) (σ:VS) (K:cO->VS->Prop),nth σ i=some (dp R p)->(∀t d q,ty p=.ok t q->eZ t d->K (.ret (.agg (d.map V.d))) (σ.set i (dp R q)))->
  (∀off e q,ty p=.bad off e->K (.eH (dt off e)) (σ.set i (dp R q)))->b4 C ca dj [.bp i 0] σ K
def ey(b:Nat->PR Ty)(g:Rd):Nat->List Ty->Nat->PR (List Ty)
 |0,_,_=>.bad 0 3
 |f+1,a,j=>match b j with
  |.bad e c=>.bad e c
  |.ok i d=>if c5 (g.tok d) [44]then ey b g f (a++[i]) (d+1)else match cu g [[93]] d with
   |.ok _ h=>.ok (a++[i]) h
   |.bad e c=>.bad e c
def jV(b:Nat->PR Ty)(a:Rd)(p:Nat):PR (List Ty):=if c5 (a.tok p) [91]then ey b a a.ts.length [] (p+1)else .ok [] p
def adK(b:Rd)(p:Nat):List cH->VS
 |[]=>[dp b p,.box [.bp 0 0],.box [.d .ci]]
 |e::a=>[dp b p,.box [.bp 0 0],.box [.ms 3 5 0 (a.length+1) (a.length+1)],.row 5 ((e::a).map fun c=>c.map V.d)]
def tX:List V:=[.d (.int .i64 0),.d (.str []),.d (.str []),.d .ci,.d .ci]
def aaO:Nat->Bool:=fun a=>agM a 5||agM a 13
def ZJ:Nat->Bool:=fun a=>agM a 6
def Hv{a n c:Nat}(e:c<=a)(b:a<4294967296)(d:n=1):(c+n)*88<=fy/\c+n<=fy:=by
 unfold fy;omega
def Tt(a:cH):sq (a.map V.d)=some a:=by
 induction a with
 |nil=>rfl
 |cons c a b=>simp only[agH,sq,b]
def gk(a:List cH):qC (a.map fun c=>c.map V.d)=some a:=by
 induction a with
 |nil=>rfl
 |cons e d b=>simp only[agH,qC,Tt,b]
def JN(f:Rd)(h:PR (List Ty))(e:cO)(a:VS):Prop:=match h with
 |.ok i c=>a=[dp f c]/\∃d,fA i d/\e=.ret (.d d)
 |.bad b g=>∃c,a=[dp f c]/\e=.eH (dt b g)
def JO{f:Rd}{d:Nat}{a:VS}{l:List Ty}{els:List cH}{j:PR (List Ty)}(i n:Nat)(hn:n=els.length)(e:nth a i=some (.row 5 (els.map fun k=>k.map V.d)))(g:dz l els)(c:els≠[])(h:j=.ok l d):
  cU 1 (.ret (.ms (i+1) 5 0 n n)) (dp f d::a) (JN f j):=by
 subst h;refine cU.freeze (i+1) (es:=5) (l:=els) e (gk els) (fun _=>⟨Z,by simp[hn]⟩) (fun b=>?_);have o:wq (i+1) b els (.ret (.ms (i+1) 5 0 n n))=.ret (.d (.ps b (0*5) 5 n els)):=by
  exact Zg
 rw[o];refine cU.drop 1 Z (by show(fW 1 (dp f d)&&mJ 1 (a.set i .gone) 0)=true;rw[mJ];rfl) Z (cU.now Z ?_);exact⟨Z,_,.ps g c,Z⟩
def Tu(b:Nat->Nat)(a:cH):hU b (a.map V.d)=a.map V.d:=by
 induction a with
 |nil=>rfl
 |cons d a c=>simp only[agH,hU,gW,c]
def qW(c:Nat)(a:cH):fu c (a.map V.d)=true:=by
 induction a with
 |nil=>rfl
 |cons d a b=>simp only[agH,fu,bd,b];rfl
def sM(c:Nat->Nat)(es:Nat)(a:List cH):hV c (.row es (a.map fun b=>b.map V.d))=.row es (a.map fun b=>b.map V.d):=by
 simp only[hV,ag5];congr 1;exact agJ fun b _=>Tu c b
def jv(c es:Nat)(a:List cH):fW c (.row es (a.map fun b=>b.map V.d))=true:=by
 simp only[fW,agG,aha];rintro _ ⟨b,_,rfl⟩;exact qW c b
def Wn(c es:Nat)(a:List cH)(b:cH):some (cN.box [.ms c es 0 (a.length+1+1) (a.length+1+1)])=some (cN.box [.ms c es 0 ((a++[b]).length+1) ((a++[b]).length+1)]):=by simp
def RV(a:List cH):a.length+1<a.length+1+1:=Nat.lt_succ_self _
def Is(a:cH)(b:List cH):nth (List.take (b.length+1) (List.drop 0 (ahc (fun c=>ahc V.d c) (a::b)))++[tX]) (0+(b.length+1))=some tX:=by
 rw[ck,agF sm];simp
def Sj(b:cH)(c:List cH)(a:cH):(List.take (c.length+1) (List.drop 0 (ahc (fun a=>ahc V.d a) (b::c)))++[tX]).set (0+(c.length+1)) (a.map V.d)=ahc (fun a=>ahc V.d a) (b::(c++[a])):=by
 exact aeH
def Mq(R:Rd)(y:R.Wf)(ty:Nat->PR Ty)(p:Nat)(w:p<R.ts.length)(u:ef ty R p):
  b4 C ca wU [.bp 0 0] [dp R p] (JN R (jV ty R p)):=by
 have D:=y.len;refine cm ?_;refine qV R p (R.tok p) [91] (b0 w) 0 Z ?_;apply aZ<;>intro A
 ·have E:=y.step w A;refine b4.body aaO (fun _=>Z) ?_;intro K;refine ep R y [[91]] dc p w _ _ 0 Z ?_;rw[cu,if_pos A,cu];refine cD (dB:=[(0,.bp 0 0),(1,.fn tr [] [.bp 2 0,.bp 1 0])]) ?_;refine cd.iter (fun _:Nat×List Ty×List cH=>[(0,.bp 0 0),(1,.fn tr [] [.bp 2 0,.bp 1 0])]) (fun x=>adK R x.1 x.2.2) (fun x=>R.ts.length-x.1)
   (fun x=>p<x.1/\x.1<R.ts.length/\x.2.2.length<=x.1/\dz x.2.1 x.2.2/\∃f,R.ts.length-x.1<=f/\ey ty R R.ts.length [] (p+1)=ey ty R f x.2.1 x.1) ?_ (p+1,[],[]) ⟨by show p<p+1;omega,E,agQ _,.nil,_,by show R.ts.length-(p+1)<=R.ts.length;omega,rfl⟩
  rintro⟨i,l,b⟩ ⟨v,g,s,h,f,z,he⟩;have v:p<i:=v;have g:i<R.ts.length:=g;have s:b.length<=i:=s;have h:dz l b:=h;have z:R.ts.length-i<=f:=z;have he:ey ty R R.ts.length [] (p+1)=ey ty R f l i:=he;obtain⟨f,rfl⟩:∃k,f=k+1:=⟨f-1,om⟩;have e:jV ty R p=ey ty R (f+1) l i:=by rw[jV,if_pos A,he]
  rw[ey]at e;cases b with
  |nil=>
   refine b4.body ZJ (fun _=>Z) ?_;intro G;repeat refine ch ?_
   refine u.call i om g 0 _ _ ?_ (fun t J q1 e1 c=>?_) (fun j H q1 e1=>?_)
   ·exact Z
   ·obtain⟨k,m,n,a,fl,rfl⟩:=c.cZ;obtain⟨F,d⟩:=u.lt i t q1 om g e1;repeat first
     |refine bZ rfl ?_
     |refine cf ?_
    refine cc tX Z ?_;refine cI R q1 (R.tok q1) [44] (b0 d) om 0 ?_ (fun h2=>?_) (fun h2=>?_)
    ·exact Z
    ·refine⟨(q1+1,l++[t],[[.int .i64 (agj k),.str m,.str n,a,fl]]),⟨by show p<q1+1;omega,y.step d h2,by show 1<=q1+1;omega,h.snoc c,f,by show R.ts.length-(q1+1)<=f;omega,?_⟩,?_,?_,Z,Z⟩
     ·exact ab1
     ·show R.ts.length-(q1+1)<R.ts.length-i;omega
     ·exact .same ⟨Z,Z,tv⟩ Z
    ·intro B;refine ep R y [[93]] dc q1 d _ _ 0 ?_ ?_
     ·exact Z
     ·cases q:cu R [[93]] q1 with
      |ok _ q2=>
       refine JO (l:=l++[t]) (els:=[[.int .i64 (agj k),.str m,.str n,a,fl]]) 2 1 Z Z (h.snoc c) sm ?_;rw[e,e1];simp only[h2,q];rfl
      |bad j H=>
       intro q2;refine a8 1 ?_;rw[e,e1];simp only[h2,q];exact⟨q2,Z,Z⟩
   ·refine a8 1 ?_;rw[e,e1];exact⟨q1,Z,Z⟩
  |cons e0 r=>
   refine b4.body ZJ (fun _=>Z) ?_;intro G;repeat refine ch ?_
   refine u.call i om g 0 _ _ ?_ (fun t J q1 e1 c=>?_) (fun j H q1 e1=>?_)
   ·exact Z
   ·obtain⟨k,m,n,a,fl,rfl⟩:=c.cZ;obtain⟨F,d⟩:=u.lt i t q1 om g e1;have o:r.length+1<=i:=s;refine a6 ?_ ?_
    ·repeat' (first|exact tv|exact rfl|exact ago _|exact(Hv o om rfl).1|exact(Hv o om rfl).2|(simp only[List.length_map,agy];omega)|refine bZ rfl ?_|refine And.intro ?_ ?_)
    refine a6 Z (a6 ⟨Z,Z,by simp,ago _,Hv o om Z⟩ ?_);refine a7 Z (a7 (fG (r.length+1)) ?_);refine a6 ?_ ?_
    ·exact YT
    refine bZ Z ?_;refine a6 (RV r) ?_;refine a6 ?_ ?_
    ·exact YT
    refine cc tX (Is e0 r) ?_;refine cI R q1 (R.tok q1) [44] (b0 d) om 0 ?_ (fun h2=>?_) (fun h2=>?_)
    ·exact Z
    ·refine⟨(q1+1,l++[t],e0::(r++[[.int .i64 (agj k),.str m,.str n,a,fl]])),⟨by show p<q1+1;omega,y.step d h2,by show(r++[_]).length+1<=q1+1;simp;omega,h.snoc c,f,by show R.ts.length-(q1+1)<=f;omega,?_⟩,?_,?_,Z,Z⟩
     ·exact ab1
     ·show R.ts.length-(q1+1)<R.ts.length-i;omega
     ·refine .pick 3 [0,1,2,4] ⟨Z,Z,tv⟩ Z Z Z Z Z dc ⟨Z,Z,Z,Z,?_,Z,?_,jv _ _ _,tv⟩
      ·exact Wn 4 5 r [.int .i64 (agj k),.str m,.str n,a,fl]
      ·rw[sM];exact acf
    ·intro B;refine ep R y [[93]] dc q1 d _ _ 0 ?_ ?_
     ·exact Z
     ·cases q:cu R [[93]] q1 with
      |ok _ q2=>
       refine JO (l:=l++[t]) (els:=e0::(r++[[.int .i64 (agj k),.str m,.str n,a,fl]])) 3 (r.length+1+1) sm ?_ (h.snoc c) sm ?_
       ·exact acf
       ·rw[e,e1];simp only[h2,q];rfl
      |bad j H=>
       intro q2;refine a8 1 ?_;rw[e,e1];simp only[h2,q];exact⟨q2,Z,Z⟩
   ·refine a8 1 ?_;rw[e,e1];exact⟨q1,Z,Z⟩
 ·refine a8 1 ?_;rw[jV,if_neg (by rw[A];decide)];exact⟨Z,.ci,.nil,Z⟩
def vx(R:Rd)(o:R.Wf)(a:Nat->PR Ty)(p:Nat)(g:p<R.ts.length)(m:ef a R p)(f:Nat){b:VS}{i:cO->VS->Prop}(c:nth b f=some (dp R p)) 
  (h1:∀l d q,jV a R p=.ok l q->fA l d->i (.ret (.d d)) (b.set f (dp R q))) (h2:∀off e q,jV a R p=.bad off e->i (.eH (dt off e)) (b.set f (dp R q))):b4 C ca wU [.bp f 0] b i:=by
 refine b4.one (dM:=[.bp 0 0]) (P:=fun j k=>JN R (jV a R p) j [.box k]) ((Mq R o a p g m).mono fun j n h=>?_) f c Z Z Z (fun j cs' h=>?_)
 ·have h':=h;unfold JN at h;exact Zt
 ·unfold JN at h;exact Yw
def dO(c:Nat->PR Ty)(d:Rd)(p:Nat):PR Ty:=match cu d [[91]] p with
 |.bad a b=>.bad a b
 |.ok _ e=>match c e with
  |.bad a b=>.bad a b
  |.ok f q1=>match cu d [[93]] q1 with
   |.bad a b=>.bad a b
   |.ok _ q2=>.ok f q2
def B2(f:Rd)(g:PR Ty)(e:cO)(b:List V):Prop:=match g with
 |.ok h c=>b=xa f c/\∃d,eZ h d/\e=.ret (.agg (d.map V.d))
 |.bad a i=>∃c,b=xa f c/\e=.eH (dt a i)
def adL:Nat->Bool:=fun a=>agM a 5||agM a 10
def cL{f:Rd}:∀(b:List cq) (d c:Nat),cu f b d=.ok () c->c=d+b.length:=by
 intro b;induction b with
 |nil=>intro d c a;cases a;rfl
 |cons s b e=>
  intro d c a;rw[cu]at a;split at a
  ·rw[e _ _ a,agy];omega
  ·cases a
def ER(e:Rd)(q:e.Wf)(l:Nat->PR Ty)(p:Nat)(k:p<e.ts.length)(i:ef l e p):
  b4 C ca rX [.bp 0 0] [dp e p] fun r m=>∃c,m=[.box c]/\cM r=true/\fu 0 c=true/\B2 e (dO l e p) r c:=by
 refine cv adL (fun _=>Z) ?_;intro B;refine ep e q [[91]] dc p k _ _ 0 Z ?_;cases b:cu e [[91]] p with
 |bad f s=>
  intro n;refine a8 1 ⟨_,Z,Z,Z,?_⟩;rw[dO,b];exact⟨n,Z,Z⟩
 |ok _ n=>
  have j:=da q _ _ _ k b;have a:=cL _ _ _ b;have a:p<=n:=by rw[a];omega
  refine i.call n a j 0 _ _ ?_ (fun w z q1 d h=>?_) (fun f s q1 d=>?_)
  ·exact Z
  ·obtain⟨y,D,A,x,v,rfl⟩:=h.cZ;obtain⟨u,o⟩:=i.lt n w q1 a j d;intro t;refine ep e q [[93]] dc q1 o _ _ 0 ?_ ?_
   ·exact Z
   ·cases g:cu e [[93]] q1 with
    |bad f s=>
     intro q2;refine a8 1 ⟨_,Z,Z,Z,?_⟩;rw[dO,b];simp only[d,g];exact⟨q2,Z,Z⟩
    |ok _ q2=>
     refine a8 1 ⟨_,Z,Z,Z,?_⟩;rw[dO,b];simp only[d,g];exact⟨Z,_,h,Z⟩
  ·refine a8 1 ⟨_,Z,Z,Z,?_⟩;rw[dO,b];simp only[d];exact⟨q1,Z,Z⟩
end Go.Proofs.YtpejealjkmhkgaaGreatDoor
namespace Go.VM
open Go.AM
def y8{a b:UInt8}{f e:cq}:cE (a::f) (b::e)=true↔a.toNat<b.toNat∨(a=b/\cE f e=true):=by
 simp only[cE];rcases Nat.lt_trichotomy a.toNat b.toNat with h|h|h
 ·have:ahf a.toNat b.toNat=true:=by simpa [Nat.blt_eq]using h
  simp only[this,true_iff];exact .inl h
 ·have i:a=b:=UInt8.toNat_inj.1 h;subst i;have:ahf a.toNat a.toNat=false:=by rw[agS];intro h;rw[Nat.blt_eq]at h;omega
  simp only[this,Nat.beq_refl,ag2,false_or,true_and]
 ·have d:ahf a.toNat b.toNat=false:=by rw[agS];intro h;rw[Nat.blt_eq]at h;omega
  have c:agM a.toNat b.toNat=false:=by rw[agS];intro h;rw[Nat.beq_eq]at h;omega
  simp only[d,c];constructor
  ·intro h;cases h
  ·rintro(g|⟨rfl,_⟩)
   ·omega
   ·omega
def Mr:∀a:cq,cE a a=false:=by
 intro a;induction a with
 |nil=>rfl
 |cons d a c=>
  rw[agS];intro b;rcases y8.1 b with b|⟨_,b⟩
  ·omega
  ·rw[c]at b;cases b
def u6:∀e d c:cq,cE e d=true->cE d c=true->cE e c=true:=by
 intro e;induction e with
 |nil=>
  intro d c b a;cases c with
  |nil=>cases d<;>cases a
  |cons c g=>rfl
 |cons i e f=>
  intro d c b a;cases d with
  |nil=>cases b
  |cons h d=>
   cases c with
   |nil=>cases a
   |cons g c=>
    rw[y8]at b a⊢;rcases b with b|⟨rfl,b⟩<;>rcases a with a|⟨rfl,a⟩
    ·exact .inl om
    ·exact .inl b
    ·exact .inl a
    ·exact .inr ⟨Z,f _ _ b a⟩
def y9:∀c a:cq,cE c a=false->c≠a->cE a c=true:=by
 intro c;induction c with
 |nil=>
  intro a b d;cases a with
  |nil=>exact absurd rfl d
  |cons e a=>cases b
 |cons g c i=>
  intro a b d;cases a with
  |nil=>rfl
  |cons e a=>
   rw[y8];have f:¬(g.toNat<e.toNat∨(g=e/\cE c a=true)):=fun j=>by rw[y8.2 j]at b;cases b
   by_cases h:g=e
   ·subst h;refine .inr ⟨Z,i a ?_ (fun h=>d (by rw[h]))⟩;cases k:cE c a with
    |false=>rfl
    |true=>exact absurd (.inr ⟨rfl,k⟩) f
   ·have:g.toNat≠e.toNat:=fun j=>h (UInt8.toNat_inj.1 j);exact .inl om
section
variable{α:Type} {key:α->cq}
def mw(key:α->cq)(l:List α):Prop:=l.Pairwise fun a b=>cE (key a) (key b)=true
def mw.I2:∀{b a:List α},b.Perm a->mw key b->mw key a->b=a:=by
 intro b;induction b with
 |nil=>intro a e _ _;exact e.nil_eq
 |cons i n k=>
  intro a e m l;cases a with
  |nil=>exact absurd e.symm.nil_eq sm
  |cons h j=>
   have c:=agK.1 m;have d:=agK.1 l;have g:i=h:=by
    have m1:i∈h::j:=e.subset sm;have m2:h∈i::n:=e.symm.subset sm;rcases agO.1 m1 with g|m1
    ·exact g
    ·rcases agO.1 m2 with g|m2
     ·exact g.symm
     ·have f:=u6 _ _ _ (c.1 h m2) (d.1 i m1);rw[Mr]at f;cases f
   subst g;rw[k e.cons_inv c.2 d.2]
def sN(key:α->cq)(a:α):List α->List α
 |[]=>[a]
 |x::b=>if cE (key x) (key a)then x::sN key a b else a::x::b
def cG(key:α->cq)(l:List α):List α:=l.foldl (fun a b=>sN key b a) []
def Aq(c:α):∀a:List α,(sN key c a).Perm (c::a):=by
 intro a;induction a with
 |nil=>exact .refl _
 |cons d e b=>
  simp only[sN];split
  ·exact(b.cons d).trans (.swap c d e)
  ·exact .refl _
def Tv{i:α}:∀{g:List α},mw key g->(∀h∈g,key h≠key i)->mw key (sN key i g):=by
 intro g;induction g with
 |nil=>intro _ _;exact List.pairwise_singleton _ _
 |cons h l j=>
  intro k e;have c:=agK.1 k;simp only[sN];split
  ·rename_i d;refine agK.2 ⟨fun f a=>?_,j c.2 (fun f a=>e f (by simp[a]))⟩;rcases agO.1 ((Aq i l).subset a)with rfl|a
   ·exact d
   ·exact c.1 f a
  ·rename_i d;have b:cE (key i) (key h)=true:=y9 _ _ (by simpa using d) (e h sm);refine agK.2 ⟨fun f a=>?_,k⟩;rcases agO.1 a with rfl|a
   ·exact b
   ·exact u6 _ _ _ b (c.1 f a)
def Hw:∀(c b:List α),(c.foldl (fun b d=>sN key d b) b).Perm (b++c):=by
 intro c;induction c with
 |nil=>intro b;simp
 |cons d c e=>
  intro b;refine(e _).trans ?_;refine((Aq d b).append_right c).trans ?_;exact(List.perm_middle (l₁:=b) (l₂:=c) (a:=d)).symm
def JP:∀(c b:List α),mw key b->((b++c).map key).Nodup->mw key (c.foldl (fun b d=>sN key d b) b):=by
 intro c;induction c with
 |nil=>intro b h _;exact h
 |cons d c g=>
  intro b h e;refine g _ (Tv h fun k j i=>?_) ?_
  ·rw[agx,agz]at e;exact e.2.2 (key k) (aha.2 ⟨k,j,Z⟩) (key d) sm i
  ·have f:(b++d::c).Perm (sN key d b++c):=(List.perm_middle (l₁:=b) (l₂:=c) (a:=d)).trans ((Aq d b).symm.append_right c);exact(f.map key).nodup_iff.1 e
def dE(l:List α):(cG key l).Perm l:=Hw (key:=key) l []
def iG{l:List α}(a:(l.map key).Nodup):mw key (cG key l):=JP l [] List.Pairwise.nil (by simpa using a)
def A8{l b:List α}(d:(l.map key).Nodup)(a:b.Perm l)(c:mw key b):b=cG key l:=
 mw.I2 (a.trans (dE l).symm) c (iG d)
def mw.px{l:List α}(j:mw key l){e h:Nat}{i b:α}(c:l[e]?=some i)(g:l[h]?=some b)(a:e<h):cE (key i) (key b)=true:=by
 obtain⟨f,rfl⟩:=agB.1 c;obtain⟨d,rfl⟩:=agB.1 g;exact(List.pairwise_iff_getElem.1 j) e h f d a
def mw.le_of_le{l:List α}(h:mw key l){d e:Nat}{f b:α}(c:l[d]?=some f)(a:l[e]?=some b)(g:d<=e):f=b∨cE (key f) (key b)=true:=by
 rcases ag9 d e with h1|h1
 ·exact .inr (h.px c a h1)
 ·obtain rfl:d=e:=om;rw[c]at a;cases a;exact .inl rfl
def FG{g b c f:α}(h1:g=b∨cE (key g) (key b)=true)(d:cE (key b) (key c)=true)(a:c=f∨cE (key c) (key f)=true):cE (key g) (key f)=true:=by
 have e:cE (key b) (key f)=true:=by
  rcases a with rfl|a
  ·exact d
  ·exact u6 _ _ _ d a
 rcases h1 with rfl|h1
 ·exact e
 ·exact u6 _ _ _ h1 e
def aaP{j k:List α}(o:mw key j)(n:mw key k)(s t:Nat)(x:s<=j.length)(w:t<=k.length) 
  (u:∀d m,0<s->j[s-1]?=some d->k[t]?=some m->cE (key d) (key m)=true)
  (r:∀d m,0<t->k[t-1]?=some d->j[s]?=some m->cE (key d) (key m)=true):
  ∀d∈j.take s++k.take t,∀m∈j.drop s++k.drop t,cE (key d) (key m)=true:=by
 intro d b m a;have f:∀{p:List α} {l:Nat} {d:α},d∈p.take l->∃i,i<l/\p[i]?=some d:=by
  intro p l d v;obtain⟨i,c⟩:=agZ v;rw[ahk]at c;split at c
  ·exact⟨i,by assumption,c⟩
  ·cases c
 have e:∀{p:List α} {l:Nat} {d:α},d∈p.drop l->∃i,l<=i/\p[i]?=some d:=by
  intro p l d v;obtain⟨i,c⟩:=agZ v;rw[ag7]at c;exact⟨l+i,om,c⟩
 rcases ahd.1 b with b|b<;>rcases ahd.1 a with a|a<;>obtain⟨i,c,b⟩:=f b<;>obtain⟨y,q,a⟩:=e a
 ·exact o.px b a om
 ·have g:s-1<j.length:=om;have h:t<k.length:=by
   have:=(agB.1 a).1;omega
  exact FG (o.le_of_le b (agk g) om) (u _ _ om (agk g) (agk h)) (n.le_of_le (agk h) a q)
 ·have g:t-1<k.length:=om;have h:s<j.length:=by
   have:=(agB.1 a).1;omega
  exact FG (n.le_of_le b (agk g) om) (r _ _ om (agk g) (agk h)) (o.le_of_le (agk h) a q)
 ·exact n.px b a om
def mw.take{l:List α}(a:mw key l)(n:Nat):mw key (l.take n):=List.Pairwise.sublist (List.take_sublist n l) a
def mw.drop{l:List α}(a:mw key l)(n:Nat):mw key (l.drop n):=List.Pairwise.sublist (List.drop_sublist n l) a
def Tw{b a c d:List α}(j:mw key b)(g:mw key a)(e:b.Perm c)(h:a.Perm d)(m:∀k∈c,∀i∈d,cE (key k) (key i)=true):mw key (b++a):=
 agX.2 ⟨j,g,fun k f i l=>m k (e.subset f) i (h.subset l)⟩
def JQ(b a:List α)(c t:Nat):((b.take c++a.take t)++(b.drop c++a.drop t)).Perm (b++a):=by
 have d:b++a=b.take c++(b.drop c++(a.take t++a.drop t)):=by rw[agr,<-agm,agr]
 rw[d,agm];refine List.Perm.append_left _ ?_;rw[<-agm,<-agm];exact List.Perm.append_right _ List.perm_append_comm
end
end Go.VM
namespace Go.Proofs.YtpejealjkmhkgaaGreatDoor
open Go.AM Go.VM
abbrev oG:=cq×Ty×Bool
structure FE where
 n:cq
 k:Nat
 m:cq
 nm:cq
 a:D
 f:D
 o:Bool
 v:cq
 w:D
def FE.ty(a:FE):cH:=[.int .i64 (agj a.k),.str a.m,.str a.nm,a.a,a.f]
def fe(a:FE):cH:=[.str a.n,.int .i64 (agj a.k),.str a.m,.str a.nm,a.a,a.f,.bool a.o]
def rows(xs:List FE):List (List V):=(xs.map fe).map fun a=>a.map V.d
def fw(a:FE):V:=.agg [.d (.str a.n),.d (.int .i64 (agj a.k)),.d (.str a.m),.d (.str a.nm),.d a.a,.d a.f,.d (.bool a.o)]
def pe(a:FE):cH:=[.str a.n,.str a.v,.int .i64 (agj a.k),.str a.m,.str a.nm,a.a,a.f,.bool a.o,a.w]
def pw(a:FE):V:=.agg [.d (.str a.n),.d (.str a.v),.d (.int .i64 (agj a.k)),.d (.str a.m),.d (.str a.nm),.d a.a,.d a.f,.d (.bool a.o),.d a.w]
inductive lW:List oG->List FE->Prop
 |nil:lW [] []
 |cons {t:Ty} {x:FE} {l:List oG} {xs:List FE} (h:eZ t x.ty) (hl:lW l xs):lW ((x.n,t,x.o)::l) (x::xs)
def lW.snoc{l:List oG}{xs:List FE}{t:Ty}{x:FE}(e:lW l xs)(d:eZ t x.ty):lW (l++[(x.n,t,x.o)]) (xs++[x]):=by
 induction l generalizing xs with
 |nil=>cases e;exact .cons d .nil
 |cons f l a=>cases e with|cons c b=>exact .cons c (a b)
def lW.fls{l:List oG}{xs:List FE}(d:lW l xs):u5 l (xs.map fe):=by
 induction l generalizing xs with
 |nil=>cases d;exact .nil
 |cons e l a=>cases d with|cons c b=>exact .cons c (a b)
def lW.names{l:List oG}{xs:List FE}(c:lW l xs):xs.map FE.n=l.map (·.1):=by
 induction l generalizing xs with
 |nil=>cases c;rfl
 |cons e l a=>cases c with|cons d b=>simp only[agH,a b]
def lW.len{l:List oG}{xs:List FE}(a:lW l xs):xs.length=l.length:=by
 have:=congrArg List.length a.names;simpa using this
def lW.ins{l:List oG}{xs:List FE}{t:Ty}{d:FE}(f:lW l xs)(c:eZ t d.ty):lW (sN (·.1) (d.n,t,d.o) l) (sN FE.n d xs):=by
 induction l generalizing xs with
 |nil=>cases f;exact .cons c .nil
 |cons g l e=>
  cases f with
  |cons b a=>
   simp only[sN];split
   ·exact .cons b (e a)
   ·exact .cons c (.cons b a)
def lW.JR{l:List oG}{xs:List FE}(d:lW l xs):lW (cG (·.1) l) (cG FE.n xs):=by
 have:∀{l:List oG} {xs:List FE} {e:List oG} {b:List FE},lW l xs->lW e b->lW (l.foldl (fun a i=>sN (·.1) i a) e) (xs.foldl (fun a i=>sN FE.n i a) b):=by
  intro l;induction l with
  |nil=>intro xs e b d c;cases d;exact c
  |cons k l f=>
   intro xs e b d c;cases d with
   |cons h g=>have j:=f g (c.ins h);exact j
 exact this d .nil
end Go.Proofs.YtpejealjkmhkgaaGreatDoor
namespace Go.VM
open Go.AM
section
variable{α:Type} {key:α->cq}
def Hx(a b h:List α)(d c:α)(g i:Nat)(f:g=a.length)(e:i=a.length+1+b.length):((a++d::(b++c::h)).set g c).set i d=a++c::(b++d::h):=by
 subst f;subst e;rw[ag4 _ _ (ago _),ahh,ahj,ag4 _ _ om];rw[show a.length+1+b.length-a.length=b.length+1 from om,List.set_cons_succ,ag4 _ _ (ago _),ahh,ahj]
def JS(a d g:List α)(c b:α)(f h:Nat)(i:f=a.length)(e:h=a.length+1+d.length):((a++c::(d++b::g)).set h c).set f b=a++b::(d++c::g):=by
 rw[List.set_comm _ _ om,Hx a d g c b f h i e]
def sO(c e:List α)(b:α)(d:Nat)(a:d=c.length):(c++b::e)[d]?=some b:=by
 subst a;rw[agF (ago _),ahh,List.getElem?_cons_zero]
def za(b c f:List α)(e a:α)(d:Nat)(g:d=b.length+1+c.length):(b++e::(c++a::f))[d]?=some a:=by
 have:=sO (b++e::c) f a d (by simp;omega);simpa using this
def Mt(l:List α)(n:Nat)(b:n<=l.length):∃a c,l=a++c/\a.length=n:=
 ⟨l.take n,l.drop n,(agr n l).symm,by simp[b]⟩
def Tx(l:List α)(d:0<l.length):∃a b,l=a++[b]:=by
 rcases List.eq_nil_or_concat l with c|⟨a,b,c⟩
 ·subst c;simp at d
 ·exact⟨a,b,by simpa using c⟩
def FJ(l:List α)(c:0<l.length):∃b a,l=b::a:=by
 cases l with
 |nil=>simp at c
 |cons b a=>exact⟨b,a,rfl⟩
def JT{b a:List α}{i:α}(d:mw key (b++a))(h:∀f∈b,cE (key f) (key i)=true)(g:∀f∈a,cE (key i) (key f)=true):mw key (b++i::a):=by
 unfold mw at d⊢;rw[agX]at d⊢;refine⟨d.1,agK.2 ⟨g,d.2.1⟩,fun j e k c=>?_⟩;rcases agO.1 c with rfl|c
 ·exact h j e
 ·exact d.2.2 j e k c
def Tz{f:List α}{c g:α}(e:mw key (f++[c]))(b:cE (key c) (key g)=true):∀d∈f++[c],cE (key d) (key g)=true:=by
 intro d a;unfold mw at e;rw[agX]at e;rcases ahd.1 a with a|a
 ·exact u6 _ _ _ (e.2.2 d a c sm) b
 ·simp at a;subst a;exact b
def JU(b a:List α)(c:α):(b++c::a).Perm ((b++a)++[c]):=
 List.perm_middle.trans (List.perm_append_singleton c (b++a)).symm
def nx(l:List α):(cG key l).length=l.length:=(dE l).length_eq
def ny{l b:List α}(d:(l.map key).Nodup)(a:b.Perm l)(c:mw key b):cG key l=b:=(A8 d a c).symm
def xH{l b:List α}(a:b.Perm l)(c:(l.map key).Nodup):(b.map key).Nodup:=((a.map key).nodup_iff).2 c
def Oh{b:List α}{l:α}(m:mw key b)(e:Nat)(n:e<=b.length)(f:∀i,0<e->b[e-1]?=some i->cE (key i) (key l)=true):∀j∈b.take e,cE (key j) (key l)=true:=by
 intro j h;obtain⟨o,a⟩:=agZ h;rw[ahk]at a;split at a
 ·rename_i k;have c:e-1<b.length:=om;have d:=f _ om (agk c);rcases m.le_of_le a (agk c) om with rfl|g
  ·exact d
  ·exact u6 _ _ _ g d
 ·cases a
def Oi{e:List α}{l:α}(m:mw key e)(f:Nat)(g:∀i,e[f]?=some i->cE (key l) (key i)=true):∀k∈e.drop f,cE (key l) (key k)=true:=by
 intro k h;obtain⟨n,a⟩:=agZ h;rw[ag7]at a;have j:=(agB.1 a).1;have c:f<e.length:=om;have d:=g _ (agk c);rcases m.le_of_le (agk c) a om with b|b
 ·rw[<-b];exact d
 ·exact u6 _ _ _ d b
def FK{l b a:List α}{c:α}(d:(b++c::a).Perm l)(h:(l.map key).Nodup)(i:mw key (b++a))(g:∀e∈b,cE (key e) (key c)=true)(f:∀e∈a,cE (key c) (key e)=true):cG key l=b++c::a:=
 ny h d (JT i g f)
def JV{a:List α}{e:α}(c:mw key a)(i:((e::a).map key).Nodup)(b:Nat)(h:b<=a.length)(g:∀d,0<b->a[b-1]?=some d->cE (key d) (key e)=true)(f:∀d,a[b]?=some d->cE (key e) (key d)=true):
  cG key (e::a)=a.take b++e::a.drop b:=
 FK (List.perm_middle.trans (by rw[agr])) i (by rw[agr];exact c) (Oh c b h g) (Oi c b f)
def Mu{a:List α}{e:α}(c:mw key a)(i:((a++[e]).map key).Nodup)(b:Nat)(h:b<=a.length)(g:∀d,0<b->a[b-1]?=some d->cE (key d) (key e)=true)(f:∀d,a[b]?=some d->cE (key e) (key d)=true):
  cG key (a++[e])=a.take b++e::a.drop b:=
 FK ((JU _ _ _).trans (by rw[agr])) i (by rw[agr];exact c) (Oh c b h g) (Oi c b f)
def Qd{c b:List α}(l:mw key c)(m:mw key b)(g:((c++b).map key).Nodup)(d t:Nat)(i:d<=c.length)(k:t<=b.length) 
  (j:∀f e,0<d->c[d-1]?=some f->b[t]?=some e->cE (key f) (key e)=true)
  (h:∀f e,0<t->b[t-1]?=some f->c[d]?=some e->cE (key f) (key e)=true):
  cG key (c++b)=cG key (c.take d++b.take t)++cG key (c.drop d++b.drop t)/\((c.take d++b.take t).map key).Nodup/\((c.drop d++b.drop t).map key).Nodup:=by
 have a:=xH (JQ c b d t) g;rw[agx,agz]at a;refine⟨ny g (((dE _).append (dE _)).trans (JQ c b d t)) ?_,a.1,a.2.1⟩;exact Tw (iG a.1) (iG a.2.1) (dE _) (dE _) (aaP l m d t i k j h)
end
section
variable{C:dR} {cF:ql}
def Di{f:FuncId}{dM c:List V}{es:Nat}{b:List (List V)}{P:cO->List (List V)->Prop}(s:b4 C cF f dM [.row es b] fun k m=>∃a,m=[.row es a]/\cM k=true/\(∀e∈a,fu 0 e=true)/\P k a) 
  (o:Nat) {g:VS} {A:cO->VS->Prop} (n:nth g o=some (.row es b)) (p:∀e∈b,fu 0 e=true) (l:fu 1 dM=true) (y:c=hU (jT [o] g.length) dM) (t:∀k a,P k a->A k (g.set o (.row es a))):
  b4 C cF f c g A:=by
 have d:∀(h:Nat->Nat) (q:List (List V)),(∀e∈q,fu 0 e=true)->hV h (.row es q)=.row es q:=by
  intro h q j;simp only[hV];congr 1;conv=>rhs;rw[<-ahi q]
  exact agJ fun e i=>fL h e (j e i)
 refine s.frame [o] Z sm (fun B z j=>?_) l y (fun w u j _=>?_)
 ·cases B with
  |zero=>
   obtain rfl:o=z:=by simpa using j
   refine⟨.row es b,Z,?_,?_⟩
   ·rw[<-ck,n,d _ _ p]
   ·simp only[fW,agG];exact fun e i=>gx 1 e (p e i)
  |succ B=>simp at j
 ·obtain⟨a,rfl,r,x,v⟩:=j;rw[mv _ _ r];simp only[agH,ahb,d _ _ x,merge,agP];exact t w a v
end
end Go.VM
namespace Go.Proofs.YtpejealjkmhkgaaGreatDoor
open Go.AM Go.VM
def A9(l:List FE):∀b∈rows l,fu 0 b=true:=by
 intro b a;simp only[rows,ag5,aha]at a;obtain⟨c,_,rfl⟩:=a;exact qW 0 (fe c)
def ew:Bool->Nat
 |false=>7
 |true=>9
def zb:Bool->FE->cH
 |false,a=>fe a
 |true,a=>pe a
def elw:Bool->FE->V
 |false,a=>fw a
 |true,a=>pw a
def dg(b:Bool)(xs:List FE):List (List V):=(xs.map (zb b)).map fun a=>a.map V.d
def pU:Bool->V
 |false=>.fn qR [] []
 |true=>.fn tx [] []
def acD:Bool->FuncId
 |false=>kY
 |true=>kG
def acE:Bool->FuncId
 |false=>mu
 |true=>lF
def acF:Bool->FuncId
 |false=>j5
 |true=>jD
def Qe:Bool->FuncId
 |false=>lE
 |true=>kP
def adM:Bool->FuncId
 |false=>mr
 |true=>lD
def adN:Bool->FuncId
 |false=>lV
 |true=>kX
abbrev Ba{b c:Bool}(_:b=c):Bool:=b
def Ir{a:Bool}(l:List FE)(b:Nat)(c:FE):(dg a l).set b ((zb a c).map V.d)=dg a (l.set b c):=by
 simp only[dg,List.map_set]
def gY{b:Bool}{l:List FE}{c:Nat}{a:FE}(d:l[c]?=some a):nth (dg b l) c=some ((zb b a).map V.d):=by
 rw[ck,dg,ag1,ag1,d];rfl
def Bb{c:Bool}(l:List FE):∀b∈dg c l,fu 0 b=true:=by
 intro b a;simp only[dg,ag5,aha]at a;obtain⟨d,_,rfl⟩:=a;exact qW 0 (zb c d)
def BF(e:Bool)(f c g d h:List FE)(R:c.length=d.length)(n i b q:Nat)(N:n=(f++(c++(g++(d++h)))).length)(ab:i=f.length)(U:b=f.length+(c.length+g.length))(W:q=c.length)(Y:n<4294967296):
  b4 C ca (acD e) [.ms 0 (ew e) 0 n n,b5 i,b5 b,b5 q,(pU e)] [.row (ew e) (dg e (f++(c++(g++(d++h)))))] fun T D=>D=[.row (ew e) (dg e (f++(d++(g++(c++h)))))]/\T=.ret (.dS []):=by
 have L:e=e:=rfl;cases e;all_goals
  let e:Bool:=Ba L
  have P:n=f.length+(c.length+(g.length+(d.length+h.length))):=by rw[N];simp
  refine cj ?_;refine cw (dB:=[(0,.ms 0 (ew e) 0 n n),(1,b5 i),(2,b5 b),(3,b5 q),(10,b5 0)]) (fU:=[.row (ew e) (dg e (f++(d.take 0++(c.drop 0++(g++(c.take 0++(d.drop 0++h)))))))]) .eS ?_;refine cd.iter (fun a:Nat=>[(0,.ms 0 (ew e) 0 n n),(1,b5 i),(2,b5 b),(3,b5 q),(10,b5 a)]) (fun a=>[.row (ew e) (dg e (f++(d.take a++(c.drop a++(g++(c.take a++(d.drop a++h)))))))]) (fun a=>q-a) (fun a=>a<=q) ?_ 0 (agQ _);intro a aa;apply aZ<;>intro J
  ·have o:a<q:=ee J;have p:a<c.length:=om;have r:a<d.length:=om;have O:c.drop a=c[a]::c.drop (a+1):=agl p;have K:d.drop a=d[a]::d.drop (a+1):=agl r;have x:c.take (a+1)=c.take a++[c[a]]:=by rw[agR,agk p];rfl
   have z:d.take (a+1)=d.take a++[d[a]]:=by rw[agR,agk r];rfl
   have E:(c.take a).length=a:=by simp;omega
   have u:(d.take a).length=a:=by simp;omega
   have F:(c.drop (a+1)).length=c.length-(a+1):=by simp
   have H:f++(d.take a++(c.drop a++(g++(c.take a++(d.drop a++h)))))=(f++d.take a)++c[a]::((c.drop (a+1)++(g++c.take a))++d[a]::(d.drop (a+1)++h)):=by rw[O,K];simp only[agm,agA,agw]
   have G:f++(d.take (a+1)++(c.drop (a+1)++(g++(c.take (a+1)++(d.drop (a+1)++h)))))=(f++d.take a)++d[a]::((c.drop (a+1)++(g++c.take a))++c[a]::(d.drop (a+1)++h)):=by rw[x,z];simp only[agm,agA,agw]
   have m:i+a=(f++d.take a).length:=by rw[ags,u];omega
   have s:b+a=(f++d.take a).length+1+(c.drop (a+1)++(g++c.take a)).length:=by simp only[ags,u,E,F];omega
   have B:IntKind.i64.wrap (agj i+agj a)=agj (i+a):=c4 om;have A:IntKind.i64.wrap (agj b+agj a)=agj (b+a):=c4 om;have j:=sO (f++d.take a) ((c.drop (a+1)++(g++c.take a))++d[a]::(d.drop (a+1)++h)) c[a] (i+a) m;have k:=za (f++d.take a) (c.drop (a+1)++(g++c.take a)) (d.drop (a+1)++h) c[a] d[a] (b+a) s;have gs:=Hx (f++d.take a) (c.drop (a+1)++(g++c.take a)) (d.drop (a+1)++h) c[a] d[a] (i+a) (b+a) m s;rw[<-H]at j k gs;rw[<-G]at gs;generalize c[a]=X at j k gs;generalize d[a]=M at j k gs;dsimp only;generalize f++(d.take a++(c.drop a++(g++(c.take a++(d.drop a++h)))))=l at j k gs⊢;have w:nth (dg e l) (0+(i+a))=some ((zb e X).map V.d):=by rw[agu];exact gY j
   have t:nth (dg e l) (0+(b+a))=some ((zb e M).map V.d):=by rw[agu];exact gY k
   have v:nth ((dg e l).set (0+(i+a)) ((zb e M).map V.d)) (0+(b+a))=some ((zb e M).map V.d):=by
    rw[ck,agY om,<-ck];exact t
   have I:i+a<n:=om;have y:b+a<n:=om;repeat first
    |refine bZ B ?_
    |refine bZ A ?_
    |refine a6 I ?_
    |refine a6 y ?_
    |refine cc _ v ?_
    |refine cc _ w ?_
    |refine cc _ t ?_
    |refine cf ?_
   refine⟨a+1,o,iK,.same ⟨Z,Z,Z,Z,int_eq (cp om),tv⟩ ?_,Z,Z⟩;exact R5
  ·have o:q<=a:=dq J;refine⟨?_,Z⟩;rw[agD om,agD om,agq om,agq om];simp;exact⟨Z,Z⟩
def iY{a b:Nat}(d:b<=a)(c:a<9223372036854775808):IntKind.i64.wrap (agj a-agj b)=agj (a-b):=by
 exact XU
def vi{a b:Int}{c:IntKind}(d:a=b):V.d (.int c a)=V.d (.int c b):=by rw[d]
def dne{c b:Nat}(a:(!decide (agj c=agj b))=true):c≠b:=by
 rw[Bool.not_eq_true']at a;exact ED a
def adO{c b:Nat}(a:(!decide (agj c=agj b))=false):c=b:=by
 rw[ag8]at a;exact AJ a
def sP(a:Bool)(d c l m o:List FE)(i:c.length=m.length)(n p b t:Nat)(v:List FE)(r:v=d++(c++(l++(m++o))))(x:n=v.length)(y:p=d.length)(q:b=d.length+(c.length+l.length))(s:t=c.length)(w:n<4294967296) 
  {g e h:V} (k:g=b5 p) (j:e=b5 b) (f:h=b5 t) {z:cO->VS->Prop} (u:z (.ret (.dS [])) [.row (ew a) (dg a (d++(m++(l++(c++o)))))]):b4 C ca (acD a) [.ms 0 (ew a) 0 n n,g,e,h,(pU a)] [.row (ew a) (dg a v)] z:=by
 subst k j f r;refine(BF a d c l m o i n p b t x y q s w).mono (fun D A B=>?_);rw[B.1,B.2];exact u
def Hy(f:Bool)(q p s y:List FE)(H:0<p.length)(K:0<s.length)(n L o b:Nat)(I:n=(q++(p++(s++y))).length)(Q:L=q.length)(J:o=q.length+p.length)(P:b=q.length+(p.length+s.length))(z:n<4294967296):
  b4 C ca (acE f) [.ms 0 (ew f) 0 n n,b5 L,b5 o,b5 b,(pU f)] [.row (ew f) (dg f (q++(p++(s++y))))] fun O E=>E=[.row (ew f) (dg f (q++(s++(p++y))))]/\O=.ret (.dS []):=by
 have G:f=f:=rfl;cases f;all_goals
  let f:Bool:=Ba G
  have D:n=q.length+(p.length+(s.length+y.length)):=by rw[I];simp
  refine cj ?_;refine cw (dB:=[(0,.ms 0 (ew f) 0 n n),(2,b5 o),(4,(pU f)),(10,b5 p.length),(11,b5 s.length)]) (fU:=[.row (ew f) (dg f (q++(p++(s++y))))]) (.same ⟨Z,Z,Z,int_eq (by rw[iY om om];congr 1;omega),int_eq (by rw[iY om om];congr 1;omega),tv⟩ Z) ?_;refine cd.iter (fun g:List FE×List FE×List FE×List FE=>[(0,.ms 0 (ew f) 0 n n),(2,b5 o),(4,(pU f)),(10,b5 g.2.1.length),(11,b5 g.2.2.1.length)]) (fun g=>[.row (ew f) (dg f (g.1++(g.2.1++(g.2.2.1++g.2.2.2))))]) (fun g=>g.2.1.length+g.2.2.1.length)
   (fun g=>0<g.2.1.length/\0<g.2.2.1.length/\o=g.1.length+g.2.1.length/\n=g.1.length+(g.2.1.length+(g.2.2.1.length+g.2.2.2.length))/\q++(s++(p++y))=g.1++(g.2.2.1++(g.2.1++g.2.2.2))) ?_ (q,p,s,y) ⟨H,K,J,D,rfl⟩
  rintro⟨d,a,c,e⟩ ⟨v,u,r,l,w⟩;have v:0<a.length:=v;have u:0<c.length:=u;have r:o=d.length+a.length:=r;have l:n=d.length+(a.length+(c.length+e.length)):=l;have w:q++(s++(p++y))=d++(c++(a++e)):=w;apply aZ<;>intro F
  ·have m:=dne F;apply aZ<;>intro B
   ·have t:c.length<a.length:=ee B;obtain⟨i,h,rfl,x⟩:=Mt a c.length om;simp only[ags]at v r l m t;refine sP f d i h c e x n (o-(i++h).length) o c.length _ sm (by simp;omega) (by simp;omega) om om z (vi (iY (by simp;omega) om)) Z Z ?_;refine⟨(d++c,h,i,e),⟨by show 0<h.length;omega,by show 0<i.length;omega,by show o=(d++c).length+h.length;simp;omega,by show n=(d++c).length+(h.length+(i.length+e.length));simp;omega,?_⟩,by show h.length+i.length<(i++h).length+c.length;simp;omega,.same ⟨Z,Z,Z,int_eq ?_,int_eq (by rw[x]),tv⟩ ?_,Z,Z⟩
    ·show _=(d++c)++(i++(h++e));rw[w];simp
    ·rw[iY (by simp;omega) (by simp;omega)];congr 1;simp;omega
    ·show [cN.row (ew f) (dg f (d++(c++(h++(i++e)))))]=[.row (ew f) (dg f ((d++c)++(h++(i++e))))];rw[agm]
   ·have t:a.length<=c.length:=dq B;obtain⟨k,j,rfl,A⟩:=Mt c (c.length-a.length) om;simp only[ags]at u l m t A;refine sP f d a k j e om n (o-a.length) (o+(k++j).length-a.length) a.length _ sm (by simp;omega) om (by simp;omega) Z z (vi (iY om om)) (vi ?_) Z ?_
    ·rw[c4 (by simp;omega),iY (by simp;omega) (by simp;omega)]
    refine⟨(d,j,k,a++e),⟨by show 0<j.length;omega,by show 0<k.length;omega,by show o=d.length+j.length;omega,by show n=d.length+(j.length+(k.length+(a++e).length));simp;omega,?_⟩,by show j.length+k.length<a.length+(k++j).length;simp;omega,.same ⟨Z,Z,Z,int_eq (congrArg agj (show a.length=j.length by omega)),int_eq ?_,tv⟩ Z,Z,Z⟩
    ·show _=d++(k++(j++(a++e)));rw[w];simp
    ·rw[iY (by simp;omega) (by simp;omega)];congr 1;simp;omega
  ·have m:=adO F;refine sP f d a [] c e m n (o-a.length) o a.length _ sm (by simp;omega) om (by simp;omega) Z z (vi (iY om om)) Z Z ?_;refine⟨?_,Z⟩;rw[w];rfl
def aaQ(a b:cq):C.ext fg ([D.str a,D.str b].map cz)=some (cz (.int .i64 (yw a b))):=by
 exact aeE
def Xw(c b:cq){a:VS}{e:cO->VS->Prop}(d:e (.ret (.d (.int .i64 (yw c b)))) a):b4 C ca qS [cn c,cn b] a e:=by
 refine cj ?_;refine cj ?_;refine xE (.int .i64 (yw c b)) (aaQ c b) Z ?_;exact d
def Bc{a b:cq}:decide (yw a b<0)=cE a b:=by
 rw[yw];cases cE a b with
 |true=>rfl
 |false=>cases l8 a b<;>rfl
def vP(b:Bool)(d c:FE){a:VS}{f:cO->VS->Prop}(e:f (.ret (.d (.int .i64 (yw d.n c.n)))) a):b4 C ca (match b with|false=>qR|true=>tx) [elw b d,elw b c] a f:=by
 cases b;all_goals
  refine cC ?_ Z Z e;refine cm ?_;refine Xw d.n c.n ?_;refine cU.drop 0 ?_ ?_ ?_ ?_
  ·exact Z
  ·exact Z
  ·exact Z
  exact cU.now Z ⟨Z,Z⟩
def acG(a:Bool)(n c b d:Nat):Tm:=[(0,.ms 0 (ew a) 0 n n),(1,b5 c),(2,b5 b),(3,(pU a)),(8,b5 d)]
def ZK(a:Bool)(n c b e d:Nat):Tm:=[(0,.ms 0 (ew a) 0 n n),(1,b5 c),(2,b5 b),(3,(pU a)),(8,b5 e),(9,b5 d)]
def BG(e:Bool)(l c p:List FE)(af:(c.map FE.n).Nodup)(n i b:Nat)(am:n=(l++(c++p)).length)(W:i=l.length)(aw:b=l.length+c.length)(ay:n<4294967296):
  b4 C ca (acF e) [.ms 0 (ew e) 0 n n,b5 i,b5 b,(pU e)] [.row (ew e) (dg e (l++(c++p)))] fun av ah=>ah=[.row (ew e) (dg e (l++(cG FE.n c++p)))]/\av=.ret (.dS []):=by
 have hw:e=e:=rfl;cases e;all_goals
  let e:Bool:=Ba hw
  have ap:n=l.length+(c.length+p.length):=by rw[am];simp
  refine cj ?_;have an:cG FE.n (c.take 1)=c.take 1:=by cases c<;>rfl
  refine cw (dB:=acG e n i b (i+1)) (fU:=[.row (ew e) (dg e (l++(cG FE.n (c.take 1)++(c.drop 1++p))))]) (.same ⟨Z,Z,Z,Z,int_eq (cp om),tv⟩ ?_) ?_
  ·show [cN.row (ew e) (dg e (l++(c++p)))]=_;rw[an,<-agm (c.take 1),agr]
  refine cd.iter (fun d:Nat=>acG e n i b (i+d)) (fun d=>[.row (ew e) (dg e (l++(cG FE.n (c.take d)++(c.drop d++p))))]) (fun d=>c.length-d) (fun d=>1<=d/\(d<=c.length∨d=1)) ?_ 1 ⟨ago _,.inr Z⟩;rintro d ⟨au,ar⟩;apply aZ<;>intro aj
  ·have m:d<c.length:=by have:=ee aj;omega
   have M:c[d]?=some c[d]:=agk m;have w:c.take (d+1)=c.take d++[c[d]]:=by rw[agR,M];rfl
   have K:c.drop d=c[d]::c.drop (d+1):=agl m;have o:((c.take (d+1)).map FE.n).Nodup:=by
    have:(c.take (d+1)).map FE.n=(c.map FE.n).take (d+1):=by rw[List.map_take]
    rw[this];exact(List.take_sublist _ _).nodup af
   generalize c[d]=k at w K M;have U:((c.take d).map FE.n).Nodup:=by rw[w,agx,agz]at o;exact o.1
   have aa:∀g∈c.take d,g.n≠k.n:=by
    intro g R ao;rw[w,agx,agz]at o;exact o.2.2 g.n (agN R) k.n sm ao
   have B:=iG (key:=FE.n) U;have J:=dE (key:=FE.n) (c.take d);have z:(cG FE.n (c.take d)).length=d:=by rw[nx];simp;omega
   have I:∀g∈cG FE.n (c.take d),g.n≠k.n:=fun g R=>aa g (J.subset R);have u:∀j f,j++f=cG FE.n (c.take d)->(∀g∈j,cE g.n k.n=true)->(∀g∈f,cE k.n g.n=true)->cG FE.n (c.take (d+1))=j++k::f:=by
    intro j f h ak s;refine ny o ?_ (JT (by rw[h];exact B) ak s);rw[w];refine(JU j f k).trans ?_;rw[h];exact J.append_right _
   generalize cG FE.n (c.take d)=N at B z I u;have aq:(c.drop (d+1)).length=c.length-(d+1):=by simp
   refine cw (dB:=ZK e n i b (i+d) (i+N.length)) (fU:=[.row (ew e) (dg e (l++(N++(k::([]++(c.drop (d+1)++p))))))]) (.same ⟨Z,Z,Z,Z,Z,by rw[z];rfl,tv⟩ ?_) ?_
   ·show [cN.row (ew e) (dg e (l++(N++(c.drop d++p))))]=_;rw[K];rfl
   refine cd.iter (fun G:List FE×List FE=>ZK e n i b (i+d) (i+G.1.length)) (fun G=>[.row (ew e) (dg e (l++(G.1++(k::(G.2++(c.drop (d+1)++p))))))]) (fun G=>G.1.length) (fun G=>G.1++G.2=N/\∀g∈G.2,cE k.n g.n=true) ?_ (N,[]) ⟨by simp,by simp⟩;rintro⟨j,f⟩ ⟨h,s⟩;have h:j++f=N:=h;have s:∀g∈f,cE k.n g.n=true:=s;have Q:j.length+f.length=d:=by rw[<-z,<-h];simp
   apply aZ<;>intro r
   ·have A:0<j.length:=by have:i<i+j.length:=ee r;omega
    obtain⟨a,g,rfl⟩:=Tx j A;have H:(a++[g]).length=a.length+1:=by simp
    have al:l++((a++[g])++(k::(f++(c.drop (d+1)++p))))=(l++a)++g::([]++k::(f++(c.drop (d+1)++p))):=by simp only[agm,agA,agw]
    have ai:l++(a++(k::((g::f)++(c.drop (d+1)++p))))=(l++a)++k::([]++g::(f++(c.drop (d+1)++p))):=by simp only[agm,agA,agw]
    have L:i+a.length=(l++a).length:=by simp[W]
    have O:=sO (l++a) ([]++k::(f++(c.drop (d+1)++p))) g (i+a.length) L;have Y:=za (l++a) [] (f++(c.drop (d+1)++p)) g k (i+(a.length+1)) (by simp[W];omega);have gs:=JS (l++a) [] (f++(c.drop (d+1)++p)) g k (i+a.length) (i+(a.length+1)) L (by simp[W];omega);rw[<-al]at O Y gs;rw[<-ai]at gs;have F:i+(a.length+1)<n:=by rw[H]at Q;omega
    have D:i+a.length<n:=om;have ab:g∈N:=by rw[<-h];simp
    have X:=I g ab;have P:mw FE.n (a++[g]):=by
     have:=B;rw[<-h]at this;exact(agX.1 this).1
    dsimp only at r⊢;rw[H]at r⊢;generalize S:l++((a++[g])++(k::(f++(c.drop (d+1)++p))))=x at O Y gs⊢;have y:IntKind.i64.wrap (agj (i+(a.length+1))-1)=agj (i+a.length):=by
     have:=iY (a:=i+(a.length+1)) (b:=1) om om;rw[show i+(a.length+1)-1=i+a.length from by omega]at this;exact this
    have v:nth (dg e x) (0+(i+(a.length+1)))=some ((zb e k).map V.d):=by rw[agu];exact gY Y
    have q:nth (dg e x) (0+(i+a.length))=some ((zb e g).map V.d):=by rw[agu];exact gY O
    have t:nth ((dg e x).set (0+(i+(a.length+1))) ((zb e g).map V.d)) (0+(i+a.length))=some ((zb e g).map V.d):=by
     rw[ck,agY om,<-ck];exact q
    repeat first
     |refine bZ y ?_
     |refine bZ rfl ?_
     |refine a6 F ?_
     |refine a6 D ?_
     |refine cc _ t ?_
     |refine cc _ v ?_
     |refine cc _ q ?_
     |refine cg r ?_
     |refine cf ?_
    refine vP e k g ?_;repeat first
     |refine bZ y ?_
     |refine bZ rfl ?_
     |refine a6 F ?_
     |refine a6 D ?_
     |refine cc _ t ?_
     |refine cc _ v ?_
     |refine cc _ q ?_
     |refine cg r ?_
     |refine cf ?_
    apply aZ<;>intro ad
    ·have E:cE k.n g.n=true:=by rw[<-Bc];exact ad
     repeat first
      |refine bZ y ?_
      |refine bZ rfl ?_
      |refine a6 F ?_
      |refine a6 D ?_
      |refine cc _ t ?_
      |refine cc _ v ?_
      |refine cc _ q ?_
      |refine cg r ?_
      |refine cf ?_
     refine⟨(a,g::f),⟨by rw[<-h];simp,fun e hw=>?_⟩,by show a.length<a.length+1;omega,.same ⟨Z,Z,Z,Z,Z,int_eq y,tv⟩ ?_,Z,Z⟩
     ·rcases agO.1 hw with rfl|hw
      ·exact E
      ·exact s e hw
     ·show _=[cN.row (ew e) (dg e (l++(a++(k::((g::f)++(c.drop (d+1)++p))))))];exact R5
    ·have E:cE k.n g.n=false:=by rw[<-Bc];exact ad
     have ac:cE g.n k.n=true:=y9 _ _ E (fun az=>X az.symm);refine⟨d+1,⟨om,.inl m⟩,iK,.same ⟨Z,Z,Z,Z,int_eq (cp om),tv⟩ ?_,Z,Z⟩;have:=u (a++[g]) f h (Tz P ac) s;show [cN.row (ew e) (dg e x)]=[cN.row (ew e) (dg e (l++(cG FE.n (c.take (d+1))++(c.drop (d+1)++p))))];rw[this,<-S];simp<;>exact⟨rfl,rfl⟩
   ·have A:j.length=0:=by have ax:i+j.length<=i:=dq r;omega
    repeat first|refine a7 r ?_|refine cf ?_
    have T:=agt A;subst T;refine⟨d+1,⟨om,.inl m⟩,iK,.same ⟨Z,Z,Z,Z,int_eq (cp om),tv⟩ ?_,Z,Z⟩;have:=u [] f h sm s;show _=[cN.row (ew e) (dg e (l++(cG FE.n (c.take (d+1))++(c.drop (d+1)++p))))];rw[this];simp<;>exact⟨rfl,rfl⟩
  ·have m:c.length<=d:=by have:=dq aj;omega
   refine⟨?_,Z⟩;rw[agD m,agq m];rfl
def acH{n:Int}(b:0<=n)(a:n<18446744073709551616):IntKind.u64.wrap n=n:=by
 exact aat
def half{i j:Nat}(a:i+j<9223372036854775808):IntKind.i64.wrap (ahg (IntKind.u64.wrap (IntKind.i64.wrap (agj i+agj j))) (2^(min 1 IntKind.u64.bits)))=agj ((i+j)/2):=by
 rw[c4 a,acH (by simp only[agn];omega) (by simp only[agn];omega)];have:ahg (agj (i+j)) (2^(min 1 IntKind.u64.bits))=agj ((i+j)/2):=by
  show ahg (agj (i+j)) 2=_;rw[Int.fdiv_eq_ediv_of_nonneg _ dc];exact Fe
 rw[this,wrap64 (by simp only[agn];omega) (by simp only[agn];omega)]
def ZL(a:Bool)(n d e b t1 c t2 f:Nat):Tm:=[(0,.ms 0 (ew a) 0 n n),(1,b5 d),(2,b5 e),(3,b5 b),(4,(pU a)),(t1,b5 c),(t2,b5 f)]
def JW(d:Bool)(k:List FE)(e:FE)(a l:List FE)(aj:mw FE.n a)(A:((e::a).map FE.n).Nodup)(n f g b:Nat)(ap:n=(k++(e::(a++l))).length)(ar:f=k.length)(az:g=f+1)(ai:b=g+a.length)(ay:n<4294967296):
  b4 C ca (Qe d) [.ms 0 (ew d) 0 n n,b5 f,b5 g,b5 b,(pU d)] [.row (ew d) (dg d (k++(e::(a++l))))] fun ax ab=>ab=[.row (ew d) (dg d (k++(cG FE.n (e::a)++l)))]/\ax=.ret (.dS []):=by
 have y:d=d:=rfl;cases d;all_goals
  let d:Bool:=Ba y
  have av:n=k.length+(a.length+l.length+1):=by rw[ap];simp
  have R:∀h∈a,h.n≠e.n:=by
   intro h am aq;rw[agH,List.nodup_cons]at A;exact A.1 (by rw[<-aq];exact agN am)
  have aa:IntKind.i64.wrap (agj g-agj f)=1:=by
   rw[iY om om,show g-f=1 from by omega];rfl
  have au:(k++(e::(a++l)))[f]?=some e:=sO k (a++l) e f ar;have ak:∀s (i:s<a.length),(k++(e::(a++l)))[g+s]?=some a[s]:=by
   intro s i;rw[agF om,show g+s-k.length=s+1 from om,List.getElem?_cons_succ,ahe i,agk i]
  refine cj ?_;refine aZ (fun ag=>?_) (fun ag=>absurd (ag.symm.trans (decide_eq_true aa)) dc);refine cw (dB:=ZL d n f g b 10 (g+0) 11 (g+a.length)) (fU:=[.row (ew d) (dg d (k++(e::(a++l))))]) (.same ⟨Z,Z,Z,Z,Z,Z,by rw[<-ai];rfl,tv⟩ Z) ?_;refine cd.iter (fun x:Nat×Nat=>ZL d n f g b 10 (g+x.1) 11 (g+x.2)) (fun _=>[.row (ew d) (dg d (k++(e::(a++l))))]) (fun x=>x.2-x.1)
   (fun x=>x.1<=x.2/\x.2<=a.length/\(∀h,0<x.1->a[x.1-1]?=some h->cE h.n e.n=true)/\(∀h,a[x.2]?=some h->cE e.n h.n=true)) ?_ (0,a.length) ⟨agQ _,ago _,fun h i=>absurd i (ag2 _),fun h i=>by rw[agV (ago _)]at i;cases i⟩
  rintro⟨s,p⟩ ⟨J,v,G,E⟩;have J:s<=p:=J;have v:p<=a.length:=v;have G:∀h,0<s->a[s-1]?=some h->cE h.n e.n=true:=G;have E:∀h,a[p]?=some h->cE e.n h.n=true:=E;apply aZ<;>intro U
  ·have W:s<p:=by have q:g+s<g+p:=ee U;omega
   have j:=half (i:=g+s) (j:=g+p) om;obtain⟨i,ao⟩:∃i,(g+s+(g+p))/2=g+i:=⟨(s+p)/2,om⟩;rw[ao]at j;have af:s<=i:=om;have S:i<p:=om;have M:=ak i om;have D:a[i]?=some a[i]:=agk om;have N:a[i]∈a:=ag3 _;generalize a[i]=h at M D N;have o:nth (dg d (k++(e::(a++l)))) (0+(g+i))=some ((zb d h).map V.d):=by rw[agu];exact gY M
   have m:nth (dg d (k++(e::(a++l)))) (0+f)=some ((zb d e).map V.d):=by rw[agu];exact gY au
   have w:g+i<n:=om;have u:f<n:=om;repeat first
    |refine bZ j ?_
    |refine bZ rfl ?_
    |refine cc _ o ?_
    |refine cc _ m ?_
    |refine a6 w ?_
    |refine a6 u ?_
    |refine cf ?_
   refine vP d h e ?_;repeat first
    |refine bZ j ?_
    |refine bZ rfl ?_
    |refine cc _ o ?_
    |refine cc _ m ?_
    |refine a6 w ?_
    |refine a6 u ?_
    |refine cf ?_
   apply aZ<;>intro X
   ·have B:cE h.n e.n=true:=by rw[<-Bc];exact X
    refine⟨(i+1,p),⟨S,v,fun d _ y=>?_,E⟩,by show p-(i+1)<p-s;omega,.same ⟨Z,Z,Z,Z,Z,int_eq ?_,Z,tv⟩ Z,Z,Z⟩
    ·have:a[i]?=some d:=y;rw[D]at this;cases this;exact B
    ·rw[j];exact cp om
   ·have B:cE h.n e.n=false:=by rw[<-Bc];exact X
    have T:cE e.n h.n=true:=y9 _ _ B (R h N);refine⟨(s,i),⟨af,by show i<=a.length;omega,G,fun d y=>?_⟩,by show i-s<p-s;omega,.same ⟨Z,Z,Z,Z,Z,Z,int_eq j,tv⟩ Z,Z,Z⟩;have:a[i]?=some d:=y;rw[D]at this;cases this;exact T
  ·have W:p<=s:=by have q:g+p<=g+s:=dq U;omega
   obtain rfl:s=p:=om;have O:=JV aj A s v G E;refine cw (dB:=ZL d n f g b 10 (g+s) 13 (f+0)) (fU:=[.row (ew d) (dg d (k++(a.take 0++(e::(a.drop 0++l)))))]) .eS ?_;refine cd.iter (fun c:Nat=>ZL d n f g b 10 (g+s) 13 (f+c)) (fun c=>[.row (ew d) (dg d (k++(a.take c++(e::(a.drop c++l)))))]) (fun c=>s-c) (fun c=>c<=s) ?_ 0 (agQ _);intro c aw;have I:IntKind.i64.wrap (agj (g+s)-1)=agj (f+s):=by
    have:=iY (a:=g+s) (b:=1) om om;rw[show g+s-1=f+s from by omega]at this;exact this
   apply aZ<;>intro L
   ·have r:c<s:=by
     have q:=of_decide_eq_true L;rw[I]at q;simp only[agn]at q;omega
    have K:c<a.length:=om;have ah:a.drop c=a[c]::a.drop (c+1):=agl K;have al:a.take (c+1)=a.take c++[a[c]]:=by rw[agR,agk K];rfl
    have Q:(a.take c).length=c:=by simp;omega
    have ae:k++(a.take c++(e::(a.drop c++l)))=(k++a.take c)++e::([]++a[c]::(a.drop (c+1)++l)):=by rw[ah];simp only[agm,agA,agw]
    have ad:k++(a.take (c+1)++(e::(a.drop (c+1)++l)))=(k++a.take c)++a[c]::([]++e::(a.drop (c+1)++l)):=by rw[al];simp only[agm,agA,agw]
    have t:f+c=(k++a.take c).length:=by rw[ags,Q];omega
    have H:=sO (k++a.take c) ([]++a[c]::(a.drop (c+1)++l)) e (f+c) t;have F:=za (k++a.take c) [] (a.drop (c+1)++l) e a[c] (f+c+1) (by rw[<-t];rfl);have gs:=Hx (k++a.take c) [] (a.drop (c+1)++l) e a[c] (f+c) (f+c+1) t (by rw[<-t];rfl);rw[<-ae]at H F gs;rw[<-ad]at gs;generalize a[c]=h at H F gs;generalize an:k++(a.take c++(e::(a.drop c++l)))=z at H F gs;have m:nth (dg d z) (0+(f+c))=some ((zb d e).map V.d):=by rw[agu];exact gY H
    have o:nth (dg d z) (0+(f+c+1))=some ((zb d h).map V.d):=by rw[agu];exact gY F
    have P:nth ((dg d z).set (0+(f+c)) ((zb d h).map V.d)) (0+(f+c+1))=some ((zb d h).map V.d):=by
     rw[ck,agY om,<-ck];exact o
    have j:IntKind.i64.wrap (agj (f+c)+1)=agj (f+c+1):=cp om;have w:f+c+1<n:=om;have u:f+c<n:=om;repeat first
     |refine bZ j ?_
     |refine bZ rfl ?_
     |refine cc _ P ?_
     |refine cc _ m ?_
     |refine cc _ o ?_
     |refine a6 w ?_
     |refine a6 u ?_
     |refine cf ?_
    refine⟨c+1,r,iK,.same ⟨Z,Z,Z,Z,Z,Z,int_eq j,tv⟩ ?_,Z,Z⟩;exact R5
   ·have r:c=s:=by
     have q:=of_decide_eq_false L;rw[I]at q;simp only[agn]at q;omega
    subst r;refine⟨?_,Z⟩;rw[O];simp<;>exact⟨rfl,rfl⟩
def JX(e:Bool)(A c:List FE)(f:FE)(j:List FE)(au:c.length≠1)(am:mw FE.n c)(y:((c++[f]).map FE.n).Nodup)(n a p b:Nat)(ao:n=(A++(c++(f::j))).length)(aB:a=A.length)(ae:p=a+c.length)(ay:b=p+1)(aA:n<4294967296):
  b4 C ca (Qe e) [.ms 0 (ew e) 0 n n,b5 a,b5 p,b5 b,(pU e)] [.row (ew e) (dg e (A++(c++(f::j))))] fun ax ac=>ac=[.row (ew e) (dg e (A++(cG FE.n (c++[f])++j)))]/\ax=.ret (.dS []):=by
 have v:e=e:=rfl;cases e;all_goals
  let e:Bool:=Ba v
  have av:n=A.length+(c.length+(j.length+1)):=by rw[ao];simp
  have R:∀g∈c,g.n≠f.n:=by
   intro g ak ap;rw[agx,agz]at y;exact y.2.2 g.n (agN ak) f.n sm ap
  have ab:IntKind.i64.wrap (agj p-agj a)≠1:=by
   rw[iY om om,show p-a=c.length from by omega];exact Fe
  have W:IntKind.i64.wrap (agj b-agj p)=1:=by
   rw[iY om om,show b-p=1 from by omega];rfl
  have aq:(A++(c++(f::j)))[p]?=some f:=by
   have:=sO (A++c) j f p (by simp;omega);rw[agm]at this;exact this
  have an:∀s (h:s<c.length),(A++(c++(f::j)))[a+s]?=some c[s]:=by
   exact Zr
  refine cj ?_;refine a7 (decide_eq_false ab) ?_;refine cg (decide_eq_true W) ?_;refine cw (dB:=ZL e n a p b 14 (a+0) 15 (a+c.length)) (fU:=[.row (ew e) (dg e (A++(c++(f::j))))]) (.same ⟨Z,Z,Z,Z,Z,Z,by rw[<-ae];rfl,tv⟩ Z) ?_;refine cd.iter (fun u:Nat×Nat=>ZL e n a p b 14 (a+u.1) 15 (a+u.2)) (fun _=>[.row (ew e) (dg e (A++(c++(f::j))))]) (fun u=>u.2-u.1)
   (fun u=>u.1<=u.2/\u.2<=c.length/\(∀g,0<u.1->c[u.1-1]?=some g->cE g.n f.n=true)/\(∀g,c[u.2]?=some g->cE f.n g.n=true)) ?_ (0,c.length) ⟨agQ _,ago _,fun g h=>absurd h (ag2 _),fun g h=>by rw[agV (ago _)]at h;cases h⟩
  rintro⟨s,o⟩ ⟨H,l,F,D⟩;have H:s<=o:=H;have l:o<=c.length:=l;have F:∀g,0<s->c[s-1]?=some g->cE g.n f.n=true:=F;have D:∀g,c[o]?=some g->cE f.n g.n=true:=D;apply aZ<;>intro U
  ·have X:s<o:=by have M:a+s<a+o:=ee U;omega
   have i:=half (i:=a+s) (j:=a+o) om;obtain⟨h,al⟩:∃h,(a+s+(a+o))/2=a+h:=⟨(s+o)/2,om⟩;rw[al]at i;have ah:s<=h:=om;have S:h<o:=om;have L:=an h om;have x:c[h]?=some c[h]:=agk om;have K:c[h]∈c:=ag3 _;generalize c[h]=g at L x K;have m:nth (dg e (A++(c++(f::j)))) (0+(a+h))=some ((zb e g).map V.d):=by rw[agu];exact gY L
   have k:nth (dg e (A++(c++(f::j)))) (0+p)=some ((zb e f).map V.d):=by rw[agu];exact gY aq
   have t:a+h<n:=om;have r:p<n:=om;repeat first
    |refine bZ i ?_
    |refine bZ rfl ?_
    |refine cc _ m ?_
    |refine cc _ k ?_
    |refine a6 t ?_
    |refine a6 r ?_
    |refine cf ?_
   refine vP e f g ?_;repeat first
    |refine bZ i ?_
    |refine bZ rfl ?_
    |refine cc _ m ?_
    |refine cc _ k ?_
    |refine a6 t ?_
    |refine a6 r ?_
    |refine cf ?_
   apply aZ<;>intro Y
   ·have z:cE f.n g.n=false:=by rw[<-Bc];simpa using Y
    have T:cE g.n f.n=true:=y9 _ _ z (fun h=>R g K h.symm);refine⟨(h+1,o),⟨S,l,fun e _ v=>?_,D⟩,by show o-(h+1)<o-s;omega,.same ⟨Z,Z,Z,Z,Z,int_eq ?_,Z,tv⟩ Z,Z,Z⟩
    ·have:c[h]?=some e:=v;rw[x]at this;cases this;exact T
    ·rw[i];exact cp om
   ·have z:cE f.n g.n=true:=by rw[<-Bc];simpa using Y
    refine⟨(s,h),⟨ah,by show h<=c.length;omega,F,fun e v=>?_⟩,by show h-s<o-s;omega,.same ⟨Z,Z,Z,Z,Z,Z,int_eq i,tv⟩ Z,Z,Z⟩;have:c[h]?=some e:=v;rw[x]at this;cases this;exact z
  ·have X:o<=s:=by have M:a+o<=a+s:=dq U;omega
   obtain rfl:s=o:=om;have O:=Mu am y s l F D;refine cw (dB:=ZL e n a p b 14 (a+s) 17 (a+c.length)) (fU:=[.row (ew e) (dg e (A++(c.take c.length++(f::(c.drop c.length++j)))))]) (.same ⟨Z,Z,Z,Z,Z,Z,by rw[<-ae];rfl,tv⟩ (by rw[agW,List.drop_length];rfl)) ?_;refine cd.iter (fun d:Nat=>ZL e n a p b 14 (a+s) 17 (a+d)) (fun d=>[.row (ew e) (dg e (A++(c.take d++(f::(c.drop d++j)))))]) (fun d=>d) (fun d=>s<=d/\d<=c.length) ?_ c.length ⟨l,ago _⟩;rintro d ⟨aw,ar⟩;apply aZ<;>intro J
   ·have B:s<d:=by have M:a+s<a+d:=ee J;omega
    obtain⟨d,rfl⟩:∃az,d=az+1:=⟨d-1,om⟩;have I:d<c.length:=om;have ai:c.drop d=c[d]::c.drop (d+1):=agl I;have aj:c.take (d+1)=c.take d++[c[d]]:=by rw[agR,agk I];rfl
    have Q:(c.take d).length=d:=by simp;omega
    have ag:A++(c.take (d+1)++(f::(c.drop (d+1)++j)))=(A++c.take d)++c[d]::([]++f::(c.drop (d+1)++j)):=by rw[aj];simp only[agm,agA,agw]
    have af:A++(c.take d++(f::(c.drop d++j)))=(A++c.take d)++f::([]++c[d]::(c.drop (d+1)++j)):=by rw[ai];simp only[agm,agA,agw]
    have q:a+d=(A++c.take d).length:=by rw[ags,Q];omega
    have G:=sO (A++c.take d) ([]++f::(c.drop (d+1)++j)) c[d] (a+d) q;have E:=za (A++c.take d) [] (c.drop (d+1)++j) c[d] f (a+(d+1)) (by rw[<-q];rfl);have gs:=JS (A++c.take d) [] (c.drop (d+1)++j) c[d] f (a+d) (a+(d+1)) q (by rw[<-q];rfl);rw[<-ag]at G E gs;rw[<-af]at gs;generalize c[d]=g at G E gs;generalize N:A++(c.take (d+1)++(f::(c.drop (d+1)++j)))=w at G E gs;have k:nth (dg e w) (0+(a+(d+1)))=some ((zb e f).map V.d):=by rw[agu];exact gY E
    have m:nth (dg e w) (0+(a+d))=some ((zb e g).map V.d):=by rw[agu];exact gY G
    have P:nth ((dg e w).set (0+(a+(d+1))) ((zb e g).map V.d)) (0+(a+d))=some ((zb e g).map V.d):=by
     rw[ck,agY om,<-ck];exact m
    have i:IntKind.i64.wrap (agj (a+(d+1))-1)=agj (a+d):=by
     have:=iY (a:=a+(d+1)) (b:=1) om om;rw[show a+(d+1)-1=a+d from by omega]at this;exact this
    have t:a+(d+1)<n:=om;have r:a+d<n:=om;subst N;repeat first
     |refine bZ i ?_
     |refine bZ rfl ?_
     |refine cc _ P ?_
     |refine cc _ k ?_
     |refine cc _ m ?_
     |refine a6 t ?_
     |refine a6 r ?_
     |refine cf ?_
    refine⟨d,⟨om,om⟩,by show d<d+1;omega,.same ⟨Z,Z,Z,Z,Z,Z,int_eq i,tv⟩ ?_,Z,Z⟩;exact R5
   ·have B:d=s:=by have M:a+d<=a+s:=dq J;omega
    subst B;refine⟨?_,Z⟩;rw[O];simp<;>exact⟨rfl,rfl⟩
def Hz(c:Bool)(l:Nat):Prop:=∀(f b a g:List FE),0<b.length->0<a.length->mw FE.n b->mw FE.n a->((b++a).map FE.n).Nodup->∀(e h i j:Nat),e=(f++(b++(a++g))).length->h=f.length->i=h+b.length->j=i+a.length->e<4294967296->b.length+a.length<=l->
  b4 C ca (Qe c) [.ms 0 (ew c) 0 e e,b5 h,b5 i,b5 j,(pU c)] [.row (ew c) (dg c (f++(b++(a++g))))] fun k d=>d=[.row (ew c) (dg c (f++(cG FE.n (b++a)++g)))]/\k=.ret (.dS [])
def Dj(d:Bool)(G:Nat)(B:Hz d G)(e a c g:List FE)(y:0<a.length)(w:0<c.length)(x:mw FE.n a)(s:mw FE.n c)(k:((a++c).map FE.n).Nodup)(n p q b:Nat)(H:List FE)(t:H=e++(a++(c++g)))(D:p=e.length)(A:q=p+a.length)(r:b=q+c.length)(z:n=e.length+(a.length+(c.length+g.length))∨n=(e++(a++(c++g))).length)(v:n<4294967296)(E:a.length+c.length<=G) 
  {j l i:V} (o:j=b5 p) (f:l=b5 q) (m:i=b5 b) {F:cO->VS->Prop} (u:F (.ret (.dS [])) [.row (ew d) (dg d (e++(cG FE.n (a++c)++g)))]):b4 C ca (Qe d) [.ms 0 (ew d) 0 n n,j,l,i,(pU d)] [.row (ew d) (dg d H)] F:=by
 subst o f m t;refine(B e a c g y w x s k n p q b ?_ D A r v E).mono (fun J I h=>?_)
 ·rcases z with h|h
  ·rw[h];simp
  ·exact h
 ·rw[h.1,h.2];exact u
def JY(a:Bool)(c d e l:List FE)(r:0<d.length)(v:0<e.length)(n m s b:Nat)(y:List FE)(o:y=c++(d++(e++l)))(t:n=c.length+(d.length+(e.length+l.length)))(w:m=c.length)(u:s=c.length+d.length)(B:b=c.length+d.length+e.length)(q:n<4294967296) 
  {h i g:V} (k:h=b5 m) (f:i=b5 s) (j:g=b5 b) {x:cO->VS->Prop} (p:x (.ret (.dS [])) [.row (ew a) (dg a (c++(e++(d++l))))]):b4 C ca (acE a) [.ms 0 (ew a) 0 n n,h,i,g,(pU a)] [.row (ew a) (dg a y)] x:=by
 subst k f j o;refine(Hy a c d e l r v n m s b (by rw[t];simp) w u om q).mono (fun D z A=>?_);rw[A.1,A.2];exact p
def adP:Nat->Bool:=fun a=>agM a 1000032||agM a 1000041||agM a 1000043
def m2T(d:Bool)(n g c b a e f:Nat):Tm:=[(0,.ms 0 (ew d) 0 n n),(1,b5 g),(2,b5 c),(3,b5 b),(4,(pU d)),(18,b5 a),(19,b5 (a+c)),(20,b5 e),(21,b5 f)]
def ZM(d:Bool)(n f g b a e c:Nat):Tm:=[(0,.ms 0 (ew d) 0 n n),(1,b5 f),(2,b5 g),(3,b5 b),(4,(pU d)),(18,b5 a),(20,b5 e),(24,b5 c)]
def m3T(d:Bool)(n g c b a e f:Nat):Tm:=[(0,.ms 0 (ew d) 0 n n),(1,b5 g),(2,b5 c),(3,b5 b),(4,(pU d)),(18,b5 a),(19,b5 (a+c)),(20,b5 e),(21,b5 f),(22,b5 (a+c-1))]
def ar1{a d c b:Nat}(g:b=a+d-c)(e:b<=d)(f:c<=d):a-c=0:=om
def ar2{a d c b:Nat}(g:b=a+d-c)(e:b<=a)(f:c<=a):d-c=0:=om
def ar3{a d c b:Nat}(g:b=a+d-c)(e:d<b)(f:c<=d):0<a-c:=om
def ar5{a d c b:Nat}(g:b=a+d-c)(e:a<b)(f:c<=a):0<d-c:=om
abbrev TA(b a:Nat):Int:=IntKind.i64.wrap (ahg (IntKind.u64.wrap (IntKind.i64.wrap (agj b+agj a))) (2^(min 1 IntKind.u64.bits)))
def JZ(g:Bool)(aP:Nat)(aX:Hz g aP)(A d e p:List FE)(bL:1<d.length)(bO:1<e.length)(aI:mw FE.n d)(aF:mw FE.n e)(ab:((d++e).map FE.n).Nodup)(n a f b:Nat)(bK:n=(A++(d++(e++p))).length)(bI:a=A.length)(bR:f=a+d.length)(bQ:b=f+e.length)(aH:n<4294967296)(bS:d.length+e.length<=aP+1):
  b4 C ca (Qe g) [.ms 0 (ew g) 0 n n,b5 a,b5 f,b5 b,(pU g)] [.row (ew g) (dg g (A++(d++(e++p))))] fun L bz=>bz=[.row (ew g) (dg g (A++(cG FE.n (d++e)++p)))]/\L=.ret (.dS []):=by
 have aG:g=g:=rfl;cases g;all_goals
  let g:Bool:=Ba aG
  have bM:n=A.length+(d.length+(e.length+p.length)):=by rw[bK];simp
  have aK:∀o∈d,∀g∈e,o.n≠g.n:=by
   intro o bC g aG bH;rw[agx,agz]at ab;exact ab.2.2 o.n (agN bC) g.n (agN aG) bH
  have aV:IntKind.i64.wrap (agj f-agj a)≠1:=by
   rw[iY om om,show f-a=d.length from by omega];exact Fe
  have aS:IntKind.i64.wrap (agj b-agj f)≠1:=by
   rw[iY om om,show b-f=e.length from by omega];exact Fe
  have bD:∀s (h:s<d.length),(A++(d++(e++p)))[a+s]?=some d[s]:=by
   exact Zr
  have bJ:∀s (h:s<e.length),(A++(d++(e++p)))[f+s]?=some e[s]:=by
   intro s h;rw[agF om,agF om,show f+s-A.length-d.length=s from om,ahe h,agk h]
  obtain⟨c,aW⟩:∃c,(a+b)/2=c:=⟨_,rfl⟩;have t:TA a b=agj c:=by rw[<-aW];exact half om
  have W:IntKind.i64.wrap (TA a b+agj f)=agj (c+f):=by rw[t,c4 om]
  have bG:IntKind.i64.wrap (agj (c+f)-1)=agj (c+f-1):=iY (b:=1) om om;refine b4.body adP (fun _=>Z) ?_;refine a7 (decide_eq_false aV) ?_;refine a7 (decide_eq_false aS) ?_;refine bZ Z ?_;apply dH (ι:=Nat×Nat) (T:=fun o=>m2T g n a f b c o.1 o.2) (S:=fun _=>[.row (ew g) (dg g (A++(d++(e++p))))])
   (I:=fun o=>a<=o.1/\o.1<=o.2/\o.2<=f/\o.2<=c/\c+f<=o.1+b/\(o.1=a∨(b<=c+f/\o.1=c+f-b))/\(o.2=f∨o.2=c))
  ·intro H;apply aZ<;>intro ax
   ·have aC:c<f:=by
     have j:decide (TA a b<agj f)=true:=ax;rw[t]at j;exact ee j
    have bB:IntKind.i64.wrap (IntKind.i64.wrap (TA a b+agj f)-agj b)=agj (c+f-b):=by
     rw[W];exact iY om om
    exact cw (dB:=m2T g n a f b c (c+f-b) c) (fU:=[.row (ew g) (dg g (A++(d++(e++p))))]) (.same ⟨Z,Z,Z,Z,Z,int_eq t,int_eq W,int_eq bB,int_eq t,tv⟩ Z) (H (c+f-b,c) ⟨by show a<=c+f-b;omega,by show c+f-b<=c;omega,by show c<=f;omega,ago _,by show c+f<=c+f-b+b;omega,.inr ⟨om,Z⟩,.inr Z⟩)
   ·have aC:f<=c:=by
     have j:decide (TA a b<agj f)=false:=ax;rw[t]at j;exact dq j
    exact cw (dB:=m2T g n a f b c a f) (fU:=[.row (ew g) (dg g (A++(d++(e++p))))]) (.same ⟨Z,Z,Z,Z,Z,int_eq t,int_eq W,Z,Z,tv⟩ Z) (H (a,f) ⟨ago _,by show a<=f;omega,ago _,aC,by show c+f<=a+b;omega,.inl Z,.inl Z⟩)
  ·rintro⟨u,r⟩ ⟨f1,f2,f3,f4,f7,f5,f6⟩;have f1:a<=u:=f1;have f2:u<=r:=f2;have f3:r<=f:=f3;have f4:r<=c:=f4;have f7:c+f<=u+b:=f7;have f5:u=a∨(b<=c+f/\u=c+f-b):=f5;have f6:r=f∨r=c:=f6;refine cw (dB:=m3T g n a f b c u r) (fU:=[.row (ew g) (dg g (A++(d++(e++p))))]) (.same ⟨Z,Z,Z,Z,Z,Z,Z,Z,Z,int_eq bG,tv⟩ Z) ?_;refine cd.iter (fun o:Nat×Nat=>m3T g n a f b c o.1 o.2) (fun _=>[.row (ew g) (dg g (A++(d++(e++p))))]) (fun o=>o.2-o.1)
    (fun o=>u<=o.1/\o.1<=o.2/\o.2<=r/\(∀D F,u<o.1->d[o.1-1-a]?=some D->e[c-o.1]?=some F->cE D.n F.n=true)/\(∀D F,o.2<r->e[c-1-o.2]?=some D->d[o.2-a]?=some F->cE D.n F.n=true)) ?_ (u,r) ⟨ago _,f2,ago _,fun D F h=>absurd h (ag2 _),fun D F h=>absurd h (ag2 _)⟩
   rintro⟨s,L⟩ ⟨aN,bs,aO,ak,aj⟩;have aN:u<=s:=aN;have bs:s<=L:=bs;have aO:L<=r:=aO;have ak:∀D F,u<s->d[s-1-a]?=some D->e[c-s]?=some F->cE D.n F.n=true:=ak;have aj:∀D F,L<r->e[c-1-L]?=some D->d[L-a]?=some F->cE D.n F.n=true:=aj;apply aZ<;>intro ba
   ·have bb:s<L:=ee ba;have J:=half (i:=s) (j:=L) om;obtain⟨k,bE⟩:∃k,(s+L)/2=k:=⟨_,rfl⟩;rw[bE]at J;have bi:s<=k:=om;have bA:k<L:=om;have av:c-1-k<e.length:=om;have an:k-a<d.length:=om;have ap:=bJ (c-1-k) av;have ao:=bD (k-a) an;have R:e[c-1-k]?=some e[c-1-k]:=agk av;have aa:d[k-a]?=some d[k-a]:=agk an;have P:=aK d[k-a] (ag3 _) e[c-1-k] (ag3 _);generalize d[k-a]=D at ao aa P;generalize e[c-1-k]=F at ap R P;have aw:nth (dg g (A++(d++(e++p)))) (0+(f+(c-1-k)))=some ((zb g F).map V.d):=by rw[agu];exact gY ap
    have ay:nth (dg g (A++(d++(e++p)))) (0+k)=some ((zb g D).map V.d):=by rw[agu,show k=a+(k-a)from by omega];exact gY ao
    have au:f+(c-1-k)<n:=om;have aD:k<n:=om;have aE:IntKind.i64.wrap (agj (c+f-1)-IntKind.i64.wrap (ahg (IntKind.u64.wrap (IntKind.i64.wrap (agj s+agj L))) (2^(min 1 IntKind.u64.bits))))=agj (f+(c-1-k)):=by
     rw[J,iY om om];congr 1;omega
    repeat first
     |refine bZ aE ?_
     |refine bZ J ?_
     |refine bZ rfl ?_
     |refine cc _ aw ?_
     |refine cc _ ay ?_
     |refine a6 au ?_
     |refine a6 aD ?_
     |refine cf ?_
    refine vP g F D ?_;repeat first
     |refine bZ aE ?_
     |refine bZ J ?_
     |refine bZ rfl ?_
     |refine cc _ aw ?_
     |refine cc _ ay ?_
     |refine a6 au ?_
     |refine a6 aD ?_
     |refine cf ?_
    apply aZ<;>intro bt
    ·have X:cE F.n D.n=false:=by rw[<-Bc];simpa using bt
     have bj:cE D.n F.n=true:=y9 _ _ X (fun h=>P h.symm);refine⟨(k+1,L),⟨by show u<=k+1;omega,bA,aO,fun aM aL _ w l=>?_,aj⟩,by show L-(k+1)<L-s;omega,.same ⟨Z,Z,Z,Z,Z,Z,Z,int_eq ?_,Z,Z,tv⟩ Z,Z,Z⟩
     ·have w:d[k+1-1-a]?=some aM:=w;have l:e[c-(k+1)]?=some aL:=l;rw[show k+1-1-a=k-a from om,aa]at w;rw[show c-(k+1)=c-1-k from om,R]at l;cases w;cases l;exact bj
     ·rw[J];exact cp om
    ·have X:cE F.n D.n=true:=by rw[<-Bc];simpa using bt
     refine⟨(s,k),⟨aN,bi,by show k<=r;omega,ak,fun aM aL _ w l=>?_⟩,by show k-s<L-s;omega,.same ⟨Z,Z,Z,Z,Z,Z,Z,Z,int_eq J,Z,tv⟩ Z,Z,Z⟩;have w:e[c-1-k]?=some aM:=w;have l:d[k-a]?=some aL:=l;rw[R]at w;rw[aa]at l;cases w;cases l;exact X
   ·have bb:L<=s:=dq ba;obtain rfl:s=L:=om;have aJ:=Qd (key:=FE.n) aI aF ab (s-a) (c-s) om om
     (fun D F j w l=>by
      rcases ag9 u s with h1|h1
      ·exact ak D F h1 (by rw[show s-1-a=s-a-1 from by omega];exact w) l
      ·exfalso;rcases f5 with h2|h2
       ·omega
       ·rw[agV om]at l;cases l)
     (fun D F j w l=>by
      rcases ag9 s r with h1|h1
      ·exact aj D F h1 (by rw[show c-1-s=c-s-1 from by omega];exact w) l
      ·exfalso;rcases f6 with h2|h2
       ·rw[agV om]at l;cases l
       ·omega)
    obtain⟨N,E,B⟩:=aJ;have az:=aI.take (s-a);have ar:=aI.drop (s-a);have aA:=aF.take (c-s);have aB:=aF.drop (c-s);have z:(d.take (s-a)).length=s-a:=by simp;omega
    have m:(d.drop (s-a)).length=f-s:=by simp;omega
    have q:(e.take (c-s)).length=c-s:=by simp;omega
    have K:(e.drop (c-s)).length=b-(c+f-s):=by simp;omega
    have bg:d=d.take (s-a)++d.drop (s-a):=(agr _ _).symm;have bu:e=e.take (c-s)++e.drop (c-s):=(agr _ _).symm;have ad:((d.take (s-a)).map FE.n).Nodup:=by rw[agx,agz]at E;exact E.1
    have af:((e.take (c-s)).map FE.n).Nodup:=by rw[agx,agz]at E;exact E.2.1
    have al:((d.drop (s-a)).map FE.n).Nodup:=by rw[agx,agz]at B;exact B.1
    have ag:((e.drop (c-s)).map FE.n).Nodup:=by rw[agx,agz]at B;exact B.2.1
    have M:A++(d++(e++p))=A++(d.take (s-a)++(d.drop (s-a)++(e.take (c-s)++(e.drop (c-s)++p)))):=by
     conv=>lhs;rw[bg,bu]
     exact XS
    obtain⟨i,G⟩:∃i,i=c+f-s:=⟨_,rfl⟩;have v:IntKind.i64.wrap (agj (c+f)-agj s)=agj i:=by rw[iY om om,G]
    have O:(A++(d.take (s-a))).length=s:=by rw[ags,z];omega
    have aq:((e.drop (c-s))++p).length=b-(c+f-s)+p.length:=by rw[ags,K]
    have aU:((d.drop (s-a))++((e.drop (c-s))++p)).length=f-s+(b-(c+f-s)+p.length):=by rw[ags,m,aq]
    have br:(A++cG FE.n ((d.take (s-a))++(e.take (c-s)))).length=c:=by rw[ags,nx,ags,z,q];omega
    have aT:s<=c:=om;have bl:s<=f:=om;have aR:s=(A++(d.take (s-a))).length:=O.symm;have bc:f=(A++(d.take (s-a))).length+((d.drop (s-a))).length:=by rw[O,m];omega
    have bv:i=(A++(d.take (s-a))).length+((d.drop (s-a))).length+((e.take (c-s))).length:=by rw[O,m,q];omega
    have bx:n=(A++(d.take (s-a))).length+(((d.drop (s-a))).length+(((e.take (c-s))).length+((e.drop (c-s))++p).length)):=by rw[O,m,q,aq];omega
    have bw:s=a+((d.take (s-a))).length:=by rw[z];omega
    have bf:c=s+((e.take (c-s))).length:=by rw[q];omega
    have bn:n=A.length+(((d.take (s-a))).length+(((e.take (c-s))).length+((d.drop (s-a))++((e.drop (c-s))++p)).length)):=by rw[z,q,aU];omega
    have aQ:((d.take (s-a))).length+((e.take (c-s))).length<=aP:=by rw[z,q];omega
    have bh:c=(A++cG FE.n ((d.take (s-a))++(e.take (c-s)))).length:=br.symm;have bo:i=c+((d.drop (s-a))).length:=by rw[m];omega
    have aY:b=i+((e.drop (c-s))).length:=by rw[K];omega
    have bk:n=(A++cG FE.n ((d.take (s-a))++(e.take (c-s)))).length+(((d.drop (s-a))).length+(((e.drop (c-s))).length+p.length)):=by rw[br,m,K];omega
    have bq:((d.drop (s-a))).length+((e.drop (c-s))).length<=aP:=by rw[m,K];omega
    apply dH (ι:=Unit) (T:=fun _=>ZM g n a f b c s i) (S:=fun _=>[.row (ew g) (dg g (A++((d.take (s-a))++((e.take (c-s))++((d.drop (s-a))++((e.drop (c-s))++p))))))]) (I:=fun _=>True)
    ·intro H;apply aZ<;>intro ah
     ·have Y:s<f:=ee ah;repeat refine cg ah ?_
      apply aZ<;>intro ae
      ·have T:f<i:=by rw[v]at ae;exact ee ae
       repeat refine de ?_
       refine JY g (A++(d.take (s-a))) (d.drop (s-a)) (e.take (c-s)) ((e.drop (c-s))++p) (by rw[m];exact ag0 Y) (by rw[q];exact ar3 G T bl) n s f i _ (by rw[M];simp only[agm]) bx aR bc bv aH Z Z (vi v) ?_;refine cw (dB:=ZM g n a f b c s i) (fU:=[.row (ew g) (dg g (A++((d.take (s-a))++((e.take (c-s))++((d.drop (s-a))++((e.drop (c-s))++p))))))]) (.same ⟨Z,Z,Z,Z,Z,Z,Z,int_eq v,tv⟩ (by simp only[agm])) (H () trivial)
      ·have T:i<=f:=by rw[v]at ae;exact dq ae
       repeat refine de ?_
       refine cw (dB:=ZM g n a f b c s i) (fU:=[.row (ew g) (dg g (A++((d.take (s-a))++((e.take (c-s))++((d.drop (s-a))++((e.drop (c-s))++p))))))]) (.same ⟨Z,Z,Z,Z,Z,Z,Z,int_eq v,tv⟩ ?_) (H () trivial);have j:(e.take (c-s))=[]:=agt (by rw[q];exact ar1 G T bl);rw[j]at M⊢;rw[M];rfl
     ·have Y:f<=s:=dq ah;repeat refine a7 ah ?_
      refine cw (dB:=ZM g n a f b c s i) (fU:=[.row (ew g) (dg g (A++((d.take (s-a))++((e.take (c-s))++((d.drop (s-a))++((e.drop (c-s))++p))))))]) (.same ⟨Z,Z,Z,Z,Z,Z,Z,int_eq v,tv⟩ ?_) (H () trivial);have j:(d.drop (s-a))=[]:=agt (by rw[m];exact agU Y);rw[j]at M⊢;rw[M];rfl
    ·intro _ _;apply dH (ι:=Unit) (T:=fun _=>ZM g n a f b c s i) (S:=fun _=>[.row (ew g) (dg g (A++(cG FE.n ((d.take (s-a))++(e.take (c-s)))++((d.drop (s-a))++((e.drop (c-s))++p)))))]) (I:=fun _=>True)
     ·intro H;apply aZ<;>intro ai
      ·have ac:a<s:=ee ai;repeat refine cg ai ?_
       apply aZ<;>intro bp
       ·have S:s<c:=ee bp;repeat refine de ?_
        refine Dj g aP aX A (d.take (s-a)) (e.take (c-s)) ((d.drop (s-a))++((e.drop (c-s))++p)) (by rw[z];exact ag0 ac) (by rw[q];exact ag0 S) az aA E n a s c _ Z bI bw bf (.inl bn) aH aQ Z Z Z ?_;refine cw (dB:=ZM g n a f b c s i) (fU:=[.row (ew g) (dg g (A++(cG FE.n ((d.take (s-a))++(e.take (c-s)))++((d.drop (s-a))++((e.drop (c-s))++p)))))]) .eS (H () trivial)
       ·have S:c<=s:=dq bp;repeat refine de ?_
        refine cw (dB:=ZM g n a f b c s i) (fU:=[.row (ew g) (dg g (A++(cG FE.n ((d.take (s-a))++(e.take (c-s)))++((d.drop (s-a))++((e.drop (c-s))++p)))))]) (.same ⟨Z,Z,Z,Z,Z,Z,Z,Z,tv⟩ ?_) (H () trivial);have j:(e.take (c-s))=[]:=agt (by rw[q];exact agU S);rw[j,agP,ny ad (List.Perm.refl _) az];rfl
      ·have ac:s<=a:=dq ai;repeat refine a7 ai ?_
       refine cw (dB:=ZM g n a f b c s i) (fU:=[.row (ew g) (dg g (A++(cG FE.n ((d.take (s-a))++(e.take (c-s)))++((d.drop (s-a))++((e.drop (c-s))++p)))))]) (.same ⟨Z,Z,Z,Z,Z,Z,Z,Z,tv⟩ ?_) (H () trivial);have j:(d.take (s-a))=[]:=agt (by rw[z];exact agU ac);rw[j];simp only[agw];rw[ny af (List.Perm.refl _) aA]
     ·intro _ _;apply aZ<;>intro am
      ·have U:c<i:=ee am;repeat refine cg am ?_
       apply aZ<;>intro bm
       ·have Q:i<b:=ee bm;repeat refine de ?_
        refine Dj g aP aX (A++cG FE.n ((d.take (s-a))++(e.take (c-s)))) (d.drop (s-a)) (e.drop (c-s)) p (by rw[m];exact ar5 G U aT) (by rw[K,<-G];exact ag0 Q) ar aB B n c i b _ (by simp only[agm]) bh bo aY (.inl bk) aH bq Z Z Z ?_;refine⟨?_,Z⟩;rw[N];exact XS
       ·have Q:b<=i:=dq bm;repeat refine de ?_
        refine⟨?_,Z⟩;have j:(e.drop (c-s))=[]:=agt (by rw[K,<-G];exact agU Q);rw[N,j,agP,ny al (List.Perm.refl _) ar];simp only[agm,agw]<;>first|exact rfl|exact⟨rfl,rfl⟩
      ·have U:i<=c:=dq am;repeat refine a7 am ?_
       refine⟨?_,Z⟩;have j:(d.drop (s-a))=[]:=agt (by rw[m];exact ar2 G U aT);rw[N,j];simp only[agw];rw[ny ag (List.Perm.refl _) aB];exact XS
end Go.Proofs.YtpejealjkmhkgaaGreatDoor
