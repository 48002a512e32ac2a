/- Part of the proof. -/
import Derived.Test.YtdocmpeionacbaaGreatDoorKAe
import Derived.Test.YtdocmpeionacbaaGreatDoorKAd
set_option linter.all false
set_option maxHeartbeats 16000000
set_option maxRecDepth 100000
open Int renaming ofNat->ais,ofNat_eq_natCast->aiw,fdiv->ajg
open List renaming getElem?_eq_getElem->ait,drop_eq_getElem_cons->aiu,append_assoc->aiv,drop_of_length_le->aiz,take_append_drop->aiA,length_append->aiB,eq_nil_of_length_eq_zero->aiC,length_drop->aiE,length_cons->aiF,nodup_append->aiG,nil_append->aiH,take_of_length_le->aiI,isPrefixOf_iff_prefix->aiJ,cons_append->aiK,all_eq_true->aiL,find?_cons->aiN,map_cons->aiO,map_congr_left->aiP,pairwise_cons->aiQ,map_append->aiS,append_nil->aiU,take_add_one->aiW,drop_drop->aiY,getElem?_eq_none->ai0,take_length->ai1,getElem?_of_mem->ai2,mem_cons->ai3,mem_map_of_mem->ai4,getElem?_eq_some_iff->ai5,getElem_mem->ai7,map_map->ai8,pairwise_append->ai9,map_nil->ajc,map->ajd,mem_append->aje,drop_zero->ajf,map_id->aji,getElem?_drop->ajj,length->j'
open Nat renaming le_of_ble_eq_true->aix,le_refl->aiy,zero_add->aiD,not_lt_zero->aiR,beq->aiT,zero_le->aiV,sub_eq_zero_of_le->aiZ,sub_pos_of_lt->ai6,lt_irrefl->aja,lt_or_ge->ajb,blt->ajh
open Bool renaming and_eq_true->aiM,eq_false_iff->aiX,true->A',false->B'
open Option renaming some->q',none->u'
open Go renaming FuncId->D'
namespace Go.Proofs.YtdocmpeionacbaaGreatDoor
open Go.AM Go.VM
abbrev qf:D':=3
abbrev vx:D':=5
abbrev vN:D':=6
abbrev ld:D':=7
abbrev mo:D':=10
abbrev n5:D':=11
abbrev vy:D':=12
abbrev wN:D':=13
abbrev wO:D':=14
abbrev yI:D':=15
abbrev vO:D':=16
abbrev Ba:D':=17
abbrev yJ:D':=18
abbrev yK:D':=19
abbrev vP:D':=20
abbrev yL:D':=21
abbrev rA:D':=22
abbrev l5:D':=23
abbrev dz:D':=25
abbrev rB:D':=26
abbrev Bb:D':=28
abbrev rC:D':=29
abbrev DS:D':=30
abbrev H8:D':=32
abbrev H9:D':=33
abbrev zc:D':=34
abbrev Ia:D':=35
abbrev Ib:D':=36
abbrev zd:D':=37
abbrev ze:D':=38
abbrev Ic:D':=39
abbrev zf:D':=40
abbrev zK:D':=41
abbrev vQ:D':=42
abbrev yM:D':=43
abbrev wP:D':=44
abbrev nq:D':=45
abbrev rD:D':=46
abbrev dh:D':=47
abbrev dR:D':=48
abbrev vR:D':=49
abbrev ji:D':=50
abbrev n6:D':=51
abbrev rE:D':=52
abbrev lx:D':=53
abbrev eR:D':=54
abbrev gN:D':=55
abbrev uV:D':=57
abbrev ly:D':=58
abbrev rF:D':=59
abbrev s3:D':=60
abbrev n7:D':=61
abbrev Ie:D':=62
abbrev sw:D':=63
abbrev sx:D':=64
abbrev mT:D':=65
abbrev Bc:D':=68
abbrev tX:D':=71
abbrev vz:D':=72
abbrev zg:D':=73
abbrev wQ:D':=74
abbrev sy:D':=75
abbrev mU:D':=76
abbrev sA:D':=78
abbrev wR:D':=80
abbrev lz:D':=81
abbrev Bd:D':=82
abbrev C4:D':=83
abbrev C5:D':=84
abbrev qs:D':=85
abbrev wS:D':=86
abbrev jw:D':=87
abbrev mE:D':=88
abbrev sC:D':=89
abbrev Em:D':=90
abbrev j2:D':=91
abbrev mF:D':=92
abbrev qt:D':=93
abbrev pV:D':=94
abbrev wT:D':=95
abbrev r5:D':=96
abbrev jK:D':=97
abbrev k7:D':=98
abbrev iq:D':=99
abbrev yN:D':=100
abbrev kx:D':=101
abbrev dw:D':=102
abbrev j3:D':=103
abbrev j4:D':=104
abbrev rG:D':=105
abbrev vS:D':=106
abbrev n8:D':=107
abbrev pW:D':=108
abbrev mq:D':=109
abbrev s4:D':=110
abbrev hU:D':=111
abbrev If:D':=112
abbrev tY:D':=113
abbrev Gk:D':=114
abbrev kW:D':=115
abbrev qu:D':=116
abbrev vA:D':=117
abbrev Be:D':=118
abbrev uW:D':=119
abbrev fy:D':=121
abbrev Ig:D':=122
abbrev Bf:D':=123
abbrev qN:D':=124
abbrev mf:D':=125
abbrev sD:D':=126
abbrev vB:D':=127
abbrev Ih:D':=128
abbrev En:D':=129
abbrev wU:D':=130
abbrev fA:D':=132
abbrev vC:D':=133
abbrev Eo:D':=135
abbrev Gl:D':=136
abbrev oC:D':=137
abbrev yO:D':=138
abbrev qO:D':=139
abbrev mg:D':=140
abbrev Gm:D':=142
abbrev MP:D':=143
abbrev qv:D':=145
abbrev l6:D':=146
abbrev mh:D':=147
abbrev rH:D':=148
abbrev Ep:D':=149
abbrev wV:D':=150
abbrev Ii:D':=151
abbrev Pf:D':=152
abbrev Bg:D':=153
abbrev Er:D':=154
abbrev jM:D':=156
abbrev yP:D':=157
abbrev lf:D':=158
abbrev yQ:D':=159
abbrev Bh:D':=160
abbrev yR:D':=161
abbrev Bi:D':=162
abbrev qw:D':=164
abbrev wW:D':=165
abbrev qx:D':=166
abbrev yS:D':=167
abbrev wX:D':=168
abbrev uX:D':=169
abbrev zL:D':=170
abbrev tZ:D':=171
abbrev vT:D':=172
abbrev uY:D':=173
abbrev nr:D':=174
abbrev uZ:D':=175
abbrev wY:D':=176
abbrev wZ:D':=177
abbrev l7:D':=178
abbrev gO:D':=179
abbrev jy:D':=180
abbrev s5:D':=181
abbrev pX:D':=182
abbrev pY:D':=183
abbrev w3:D':=184
abbrev w4:D':=185
abbrev vU:D':=186
abbrev jL:D':=187
abbrev j5:D':=188
abbrev hG:D':=189
abbrev j6:D':=190
abbrev mr:D':=191
abbrev vD:D':=192
abbrev sF:D':=193
abbrev Bj:D':=194
abbrev mG:D':=196
abbrev F.strings_Contains:D':=197
abbrev zh:D':=198
abbrev eB:D':=199
abbrev mH:D':=200
abbrev qy:D':=201
abbrev nI:D':=203
abbrev sG:D':=204
abbrev Bk:D':=205
abbrev Es:D':=206
abbrev qg:D':=207
abbrev yT:D':=208
abbrev yU:D':=209
abbrev MQ:D':=210
abbrev zi:D':=211
abbrev Et:D':=212
abbrev Gn:D':=213
abbrev vE:D':=214
abbrev vF:D':=215
abbrev vG:D':=216
abbrev jV:D':=219
abbrev s6:D':=221
abbrev u0:D':=222
abbrev fL:D':=223
abbrev ns:D':=224
abbrev nu:D':=225
abbrev mV:D':=226
abbrev Bl:D':=228
abbrev Eu:D':=229
abbrev sH:D':=230
abbrev qh:D':=231
abbrev n9:D':=232
abbrev ua:D':=233
abbrev ub:D':=234
abbrev Pg:D':=235
abbrev qz:D':=237
abbrev qP:D':=238
abbrev qi:D':=239
abbrev k8:D':=240
abbrev zM:D':=241
abbrev oI:D':=242
abbrev ky:D':=243
abbrev w5:D':=244
abbrev r6:D':=246
abbrev oJ:D':=247
abbrev kz:D':=248
abbrev kH:D':=249
abbrev mi:D':=250
abbrev gl:D':=251
abbrev Bm:D':=252
abbrev li:D':=254
abbrev mW:D':=255
abbrev l8:D':=256
abbrev w6:D':=260
abbrev yV:D':=261
abbrev s7:D':=262
abbrev nv:D':=263
abbrev mX:D':=264
abbrev w7:D':=265
abbrev oa:D':=269
abbrev vV:D':=272
abbrev lX:D':=273
abbrev vH:D':=274
abbrev uc:D':=275
abbrev mu:D':=277
abbrev yW:D':=279
abbrev lY:D':=280
abbrev w8:D':=281
abbrev w9:D':=284
abbrev rI:D':=285
abbrev ud:D':=286
abbrev acf:TypeId:=87
abbrev adV:TypeId:=66
def jR(a:UInt8):Bool:=decide (97<=ais a.toNat)&&decide (ais a.toNat<=122)
def gV(a:UInt8):Bool:=decide (65<=ais a.toNat)&&decide (ais a.toNat<=90)
def isDigit(a:UInt8):Bool:=decide (48<=ais a.toNat)&&decide (ais a.toNat<=57)
def isWord(a:UInt8):Bool:=jR a||gV a||isDigit a||decide (ais a.toNat=95)
def u2(b:UInt8){a:VS}{c:dt->VS->Prop}(hk:c (.ret (cj (jR b))) a):b7 C cm Ii [io b] a c:=by
 exact Jq
def u3(b:UInt8){a:VS}{c:dt->VS->Prop}(hk:c (.ret (cj (gV b))) a):b7 C cm Es [io b] a c:=by
 exact Jn
def rJ(b:UInt8){a:VS}{c:dt->VS->Prop}(hk:c (.ret (cj (isDigit b))) a):b7 C cm zi [io b] a c:=by
 exact Jp
def C6(a:UInt8){b:VS}{c:dt->VS->Prop}(hk:c (.ret (cj (isWord a))) b):b7 C cm Bg [io a] b c:=by
 refine cA ?_;refine u2 a ?_;apply aZ<;>intro h1
 ·exact KW
 refine a7 h1 (u3 a ?_);refine a7 h1 ?_;apply aZ<;>intro h2
 ·exact KJ
 refine a7 h2 (rJ a ?_);exact Jf
structure Gp (g:Nat) (p:UInt8->Bool):Prop where
 is:(C.ff.get g).isSome=A'
 spec:∀(c:UInt8) {σ:VS} {K:dt->VS->Prop},K (.ret (cj (p c))) σ->b7 C cm g [io c] σ K
def LK:Gp Bg isWord:=⟨rfl,λa=>C6 a⟩
def N3:Gp zi isDigit:=⟨rfl,λa=>rJ a⟩
def Ai{c:Nat}{d:UInt8->Bool}(b:Gp c d)(s:cC)(f:j' s<4294967296){a:VS}{e:dt->VS->Prop}(hk:e (.ret (cj (s.all d))) a):b7 C cm Pf [cv s,.fn c [] []] a e:=by
 refine cA ?_;refine ck.iter (λi:Nat=>[(8,cl i),(7,cl (j' s)),(4,cj B'),(1,.fn c [] []),(0,cv s)]) (λ_=>a) (λi=>j' s-i) (λi=>i<=j' s/\(s.take i).all d=A') ?_ 0 ⟨om,by simp⟩;rintro i ⟨g,hp⟩;apply aZ<;>intro h
 ·have h:i<j' s:=by simpa using h
  have hgi:s[i]?=q' s[i]:=ait h;refine bZ Z (cp s[i] (by rw[cx];exact hgi) ?_);refine b9 b.is ?_;refine b.spec s[i] ?_;apply aZ<;>intro h2
  ·exact KF
  refine⟨i+1,⟨om,?_⟩,om,.same ⟨int_eq ?_,Z,Z,Z,Z,tv⟩ Z,Z,Z⟩
  ·exact JY
  exact cF om
 have h:¬i<j' s:=by simpa using h
 refine fK ?_ hk;rw[aiI om]at hp;exact hp.symm
def Ij(a c:cC)(f:j' a<4294967281){b:VS}{g:dt->VS->Prop}(d:g (.ret (cj (mR c a))) b):b7 C cm F.strings_Contains [cv a,cv c] b g:=by
 refine ei (args:=[.str a,.str c]) (x:=.bool (mR c a)) ?_ Z d;have:ajh (j' a) 4294967281=A':=by rw[uN];exact a_ f
 simp only[cm,Pd,aiO,ajc,cK];show(match ajh (j' a) 4294967281 with|true=>_|false=>_)=_;rw[this]
def EZ:cC:=[32,97,110,100,32,97,110,121,32,97,115,32,98,111,111,108,32,100,101,112,114,101,99,97,116,101,100,32,101,108,115,101,32,101,120,112,111,114,116,32,102,97,108,115,101,32,102,110,32,102,111,108,100,32,102,114,111,109,32,105,102,32,105,109,112,111,114,116,32,105,110,32,105,110,116,32,108,101,110,103,116,104,32,108,101,116,32,108,105,115,116,32,109,97,116,99,104,32,109,111,100,117,108,101,32,110,111,110,101,32,110,111,116,32,111,114,32,116,101,120,116,32,116,104,101,110,32,116,114,117,101,32,116,121,112,101,32,117,115,101,32]
def Zn(a:cC):Bool:=mR (([32]++a)++[32]) EZ
def Al(a:cC)(e:j' a<4294967296){b:VS}{d:dt->VS->Prop}(c:d (.ret (cj (Zn a))) b):b7 C cm Er [cv a] b d:=by
 refine cA ?_;refine a6 ?_ ?_
 ·show 1+j' a<=_;omega
 refine a6 ?_ ?_
 ·show(_::a).length+1<=_;simp only[aiF];omega
 refine Ij EZ (([32]++a)++[32]) (by simp only[EZ,aiF,List.length_nil];omega) ?_;exact c
def c8(a:cC):Bool:=decide (a≠[])&&decide (j' a<=32)&&(a.head?.any jR)&&a.all isWord&& !(Zn a)
def eC(a:cC):Bool:=decide (a≠[])&&decide (j' a<=32)&&(a.head?.any gV)&&a.all isWord
def jo(s:cC)(d:j' s<4294967296){a:VS}{b:dt->VS->Prop}(hk:b (.ret (cj (c8 s))) a):b7 C cm wS [cv s] a b:=by
 refine cA ?_;apply aZ<;>intro h1
 ·repeat refine b9 h1 ?_
  cases s with
  |nil=>simp at h1
  |cons c r=>
   apply aZ<;>intro h2
   ·have LJ:j' (c::r)<=32:=ML h2;refine b9 h2 (bZ Z (cp c Z ?_));refine b9 h2 (u2 c ?_);refine b9 h2 ?_;apply aZ<;>intro h3
    ·refine b9 h3 (Ai LK (c::r) om ?_);refine b9 h3 ?_;apply aZ<;>intro h4
     ·refine b9 h4 (Al (c::r) om ?_);refine b9 h4 ?_;refine b9 h4 ?_;exact JW
     exact Kx
    exact KK
   exact JF
 exact KI
def ng(s:cC)(d:j' s<4294967296){a:VS}{b:dt->VS->Prop}(hk:b (.ret (cj (eC s))) a):b7 C cm Gl [cv s] a b:=by
 refine cA ?_;apply aZ<;>intro h1
 ·repeat refine b9 h1 ?_
  cases s with
  |nil=>simp at h1
  |cons c r=>
   apply aZ<;>intro h2
   ·have LJ:j' (c::r)<=32:=ML h2;refine b9 h2 (bZ Z (cp c Z ?_));refine b9 h2 (u3 c ?_);refine b9 h2 ?_;apply aZ<;>intro h3
    ·refine b9 h3 (Ai LK (c::r) om ?_);exact Kp
    exact KG
   exact JG
 exact KI
def Wj(b:cC)(a:UInt8):C.ext l8 ([D.str b,wC a].map cK)=q' (cK (.int .i64 (indexByte b a.toNat 0))):=by
 have c:ajh a.toNat 256=A':=by rw[uN];exact a_ a.toNat_lt
 show ext l8 [.string ⟨⟨b⟩⟩,.int .u8 (ais a.toNat)]=_;simp only[ext,c];rfl
def vI(b:cC)(c:UInt8){a:VS}{e:dt->VS->Prop}(d:e (.ret (.d (.int .i64 (indexByte b c.toNat 0)))) a):b7 C cm ua [cv b,io c] a e:=by
 refine cA ?_;refine zI (.int .i64 (indexByte b c.toNat 0)) (Wj b c) Z ?_;exact d
def rK(c:cC)(d:UInt8){a:VS}{e:dt->VS->Prop}(b:e (.ret (.d (.int .i64 (indexByte c d.toNat 0)))) a):b7 C cm yT [cv c,io d] a e:=by
 refine cA ?_;refine vI c d ?_;exact b
def ef(b a:cC):Bool:=a.isPrefixOf b
def zN{b a:cC}(d:j' a<=j' b):decide ((b.take (j' a)).drop 0=a)=ef b a:=by
 rw[ajf,ef,Bool.eq_iff_iff,j_,aiJ];exact⟨λc=>⟨b.drop (j' a),by have:=aiA (j' a) b;rw[c]at this;exact this⟩,λ⟨e,c⟩=>by rw[<-c];simp⟩
theorem Le{a b:cC}(c:j' a<j' b):ef a b=B':=by
 rw[ef,aiX]
 grind [aiJ]
def qj(d f:cC){c:VS}{e:dt->VS->Prop}(b:e (.ret (cj (ef d f))) c):b7 C cm ub [cv d,cv f] c e:=by
 refine cA ?_;apply aZ<;>intro a
 ·repeat refine b9 a ?_
  refine bZ Z ?_;refine a6 ⟨aiV _,ML a⟩ ?_;repeat refine b9 a ?_
  exact fK (zN (ML a)) b
 repeat refine a7 a ?_
 exact fK (Le (Fs a)).symm b
def eW(c d:cC){a:VS}{e:dt->VS->Prop}(b:e (.ret (cj (ef c d))) a):b7 C cm yU [cv c,cv d] a e:=by
 refine cA ?_;refine qj c d ?_;exact b
def eE(a:UInt8->Bool)(b:cC):Nat:=j' (b.takeWhile a)
theorem rL(a:UInt8->Bool)(b:UInt8)(c:cC):eE a (b::c)=if a b then eE a c+1 else 0:=by
 grind [eE,List.takeWhile_cons]
def ue(b:UInt8->Bool)(a:cC):eE b a<=j' a:=by
 induction a with
 |nil=>simp[eE]
 |cons d a c=>rw[rL];split<;>simp<;>omega
def IN{o:Nat}{h:UInt8->Bool}(k:Gp o h)(b:cC)(a:Nat)(n:a<=j' b)(q:j' b<4294967296){f:VS}{p:dt->VS->Prop}(l:p (.ret (cl (a+eE h (b.drop a)))) f):
  b7 C cm MQ [cv b,cl a,.fn o [] []] f p:=by
 refine cA ?_;refine ck.iter (λc:Nat=>[(1,cl c),(6,cl 0),(2,.fn o [] []),(0,cv b)]) (λ_=>f) (λc=>j' b-c) (λc=>c<=j' b/\c+eE h (b.drop c)=a+eE h (b.drop a)) ?_ a ⟨n,Z⟩;rintro c ⟨r,d⟩;apply aZ<;>intro g
 ·have e:=eK g;have i:b[c]?=q' b[c]:=ait e;have m:b.drop c=b[c]::b.drop (c+1):=aiu e;rw[m,rL]at d;repeat refine b9 g ?_
  refine bZ Z (cp b[c] (by rw[cx];exact i) ?_);refine b9 g ?_;refine b9 k.is ?_;refine k.spec b[c] ?_;refine b9 g ?_;apply aZ<;>intro j
  ·rw[X' j]at d;exact⟨c+1,⟨om,om⟩,om,.eS,Z,Z⟩
  rw[W' (by rw[j];simp)]at d;exact k6 (show _=cl (a+eE h (b.drop a))by rw[<-d];rfl) l
 have e:=dK g;rw[aiz e]at d;simp only[eE,List.takeWhile_nil,List.length_nil]at d;repeat refine a7 g ?_
 exact k6 (show _=cl (a+eE h (b.drop a))by simp only[eE];rw[<-d];rfl) l
theorem Gq{n:Int}(b:0<=n)(a:n<256):IntKind.u8.wrap n=n:=by
 have:IntKind.u8.wrap n=n%256:=rfl;rw[this];omega
def qk(a:UInt8):Option Nat:=if isDigit a then q' (a.toNat-48)else if decide (97<=a.toNat)&&decide (a.toNat<=102)then q' (a.toNat-87)else u'
def lA(a:UInt8):V:=match qk a with
 |some b=>.dP [.d (.int .u8 (ais b)),cj A']
 |none=>.dP [.d (.int .u8 0),cj B']
theorem Bn{a:UInt8}(b:isDigit a=A'):48<=a.toNat/\a.toNat<=57:=by
 simp only[isDigit,aiM]at b
 grind [ML]
def Gr(a:UInt8){h:VS}{i:dt->VS->Prop}(d:i (.ret (lA a)) h):b7 C cm Pg [io a] h i:=by
 refine cA ?_;refine rJ a ?_;apply aZ<;>intro f
 ·refine k6 ?_ d;have j:=Bn f;simp only[lA,qk,f,X'];show V.dP [V.d (.int .u8 (IntKind.u8.wrap (ais a.toNat-48))),_]=_;rw[Gq (by simp only[aiw];omega) (by simp only[aiw];omega)];have:ais a.toNat-48=ais (a.toNat-48):=by simp only[aiw];omega
  rw[this];rfl
 apply aZ<;>intro e
 ·have c:97<=a.toNat:=ML (a:=97) e;repeat refine b9 e ?_
  apply aZ<;>intro g
  ·have b:a.toNat<=102:=ML (b:=102) g;refine k6 ?_ d;simp only[lA,qk,f,a_ c,a_ b,Bool.and_self,X'];show V.dP [V.d (.int .u8 (IntKind.u8.wrap (IntKind.u8.wrap (ais a.toNat-97)+10))),_]=_;rw[Gq (n:=ais a.toNat-97) (by simp only[aiw];omega) (by simp only[aiw];omega)];rw[Gq (by simp only[aiw];omega) (by simp only[aiw];omega)];have:ais a.toNat-97+10=ais (a.toNat-87):=by simp only[aiw];omega
   rw[this];rfl
  have b:¬a.toNat<=102:=Nat.not_le_of_lt (Fs (b:=102) g);refine k6 ?_ d;simp only[lA,qk,f,Z' b,Bool.and_false];rfl
 have c:¬97<=a.toNat:=Nat.not_le_of_lt (Fs (a:=97) e);repeat refine a7 e ?_
 refine k6 ?_ d;simp only[lA,qk,f,Z' c,Bool.false_and];rfl
def vJ:n_ cC:=[[61,61,61],[58,58],[62,58],[60,58],[61,62],[61,61],[43,43]]
def MR:cC:=[40,41,91,93,123,125,60,62,44,58,61,46,43,45,42,124,63,47]
def iD(a:cC):cC:=match vJ.find? (ef a)with
 |some b=>b
 |none=>match a with
  |[]=>[]
  |c::_=>if 0<=indexByte MR c.toNat 0 then [c]else []
def Ph(s:cC){k:VS}{n:dt->VS->Prop}(b:n (.ret (cv (iD s))) k):b7 C cm Gn [cv s] k n:=by
 refine cA ?_;refine ck.loop ?_;refine bZ (m:=0) Z (a6 dc ?_);refine eW s [61,61,61] ?_;refine aZ (λa=>?_) (λd=>?_)
 ·refine k6 ?_ b;have a:ef s [61,61,61]=A':=a;simp only[iD,vJ,aiN,a];rfl
 have d:ef s [61,61,61]=B':=d;refine ck.loop ?_;refine bZ (m:=1) Z (a6 dc ?_);refine eW s [58,58] ?_;refine aZ (λa=>?_) (λe=>?_)
 ·refine k6 ?_ b;have a:ef s [58,58]=A':=a;simp only[iD,vJ,aiN,d,a];rfl
 have e:ef s [58,58]=B':=e;refine ck.loop ?_;refine bZ (m:=2) Z (a6 dc ?_);refine eW s [62,58] ?_;refine aZ (λa=>?_) (λc=>?_)
 ·refine k6 ?_ b;have a:ef s [62,58]=A':=a;simp only[iD,vJ,aiN,d,e,a];rfl
 have c:ef s [62,58]=B':=c;refine ck.loop ?_;refine bZ (m:=3) Z (a6 dc ?_);refine eW s [60,58] ?_;refine aZ (λa=>?_) (λf=>?_)
 ·refine k6 ?_ b;have a:ef s [60,58]=A':=a;simp only[iD,vJ,aiN,d,e,c,a];rfl
 have f:ef s [60,58]=B':=f;refine ck.loop ?_;refine bZ (m:=4) Z (a6 dc ?_);refine eW s [61,62] ?_;refine aZ (λa=>?_) (λg=>?_)
 ·refine k6 ?_ b;have a:ef s [61,62]=A':=a;simp only[iD,vJ,aiN,d,e,c,f,a];rfl
 have g:ef s [61,62]=B':=g;refine ck.loop ?_;refine bZ (m:=5) Z (a6 dc ?_);refine eW s [61,61] ?_;refine aZ (λa=>?_) (λh=>?_)
 ·refine k6 ?_ b;have a:ef s [61,61]=A':=a;simp only[iD,vJ,aiN,d,e,c,f,g,a];rfl
 have h:ef s [61,61]=B':=h;refine ck.loop ?_;refine bZ (m:=6) Z (a6 dc ?_);refine eW s [43,43] ?_;refine aZ (λa=>?_) (λj=>?_)
 ·refine k6 ?_ b;have a:ef s [43,43]=A':=a;simp only[iD,vJ,aiN,d,e,c,f,g,h,a];rfl
 have j:ef s [43,43]=B':=j;have l:vJ.find? (ef s)=u':=by simp only[vJ,aiN,d,e,c,f,g,h,j,List.find?_nil]
 refine ck.loop ?_;apply aZ<;>intro a
 ·repeat refine b9 a ?_
  cases s with
  |nil=>simp at a
  |cons o p=>
   refine bZ (m:=0) Z (cp o Z ?_);refine rK MR o ?_;apply aZ<;>intro c
   ·refine bZ (m:=1) Z (a6 ⟨om,by simp⟩ ?_);refine k6 ?_ b;simp only[iD,l];rw[X' (f_ c)];rfl
   refine k6 ?_ b;simp only[iD,l];rw[W' (e_ c)];rfl
 repeat refine a7 a ?_
 have m:s=[]:=by simpa using a
 subst m;exact k6 Z b
def dO:Bool->cC->Nat
 |_,[]=>0
 |true,a::b=>1+dO (decide (a≠10)) b
 |false,a::b=>if a=47/\b.head? =q' 47 then 1+dO A' b else if a=32∨a=9∨a=10∨a=13 then 1+dO B' b else 0
theorem uf(a:Bool)(c:cC):dO a c<=j' c:=by
 induction c generalizing a with
 |nil=>cases a<;>simp[dO]
 |cons d e b=>
  cases a with
  |true=>simp only[dO,aiF];have:=b (decide (d≠10));omega
  |false=>
   all_goals grind [dO,aiF]
def sI(a:UInt8):Prop:=a=32∨a=9∨a=10∨a=13
instance (c:UInt8):Decidable (sI c):=by unfold sI;infer_instance
def Lf(c:UInt8):decide (0<=indexByte [32,9,10,13] c.toNat 0)=decide (sI c):=by
 have h:∀f:UInt8,aiT f.toNat c.toNat=decide (c=f):=λf=>by
  rw[Ue];exact decide_eq_decide.2 ⟨λg=>(UInt8.toNat_inj.1 g).symm,λg=>by rw[g]⟩
 simp only[indexByte,h,sI];by_cases a:c=32
 ·simp[a]
 by_cases b:c=9
 ·simp[a,b]
 by_cases d:c=10
 ·simp[a,b,d]
 by_cases e:c=13
 ·simp[a,b,d,e]
 simp[a,b,d,e]
def nw{a:UInt8}{c:cC}(d:sI a):dO B' (a::c)=1+dO B' c:=by
 have b:¬(a=47/\c.head? =q' 47):=by
  rintro⟨rfl,_⟩;revert d;decide
 simp only[dO,W' b];exact X' d
def Sk{c:UInt8}{b:cC}(f:¬sI c)(e:ef (c::b) [47,47]=B'):dO B' (c::b)=0:=by
 have d:¬(c=47/\b.head? =q' 47):=by
  rintro⟨rfl,a⟩;cases b with
  |nil=>cases a
  |cons g b=>simp at a;subst a;simp[ef]at e
 simp only[dO,W' d];exact W' f
def Ik{a:cC}(b:ef a [47,47]=A'):dO B' a=dO A' a:=by
 rw[ef,aiJ]at b;obtain⟨c,rfl⟩:=b;show dO B' (47::47::c)=dO A' (47::47::c);rfl
def af9:∀(b:cC) (a:Nat),(indexByte b 10 a= -1/\dO A' b=j' b)∨∃d,d<j' b/\indexByte b 10 a=ais (a+d)/\b[d]?=q' 10/\dO A' b=d+dO B' (b.drop d):=by
 intro b;induction b with
 |nil=>intro a;exact .inl ⟨rfl,rfl⟩
 |cons j i k=>
  intro a;by_cases e:j=10
  ·subst e;refine .inr ⟨0,by simp,by simp[indexByte],Z,?_⟩;rw[ajf,nw dc];simp[dO]
  have n:aiT j.toNat 10=B':=uM λo=>e (UInt8.toNat_inj.1 o);have f:indexByte (j::i) 10 a=indexByte i 10 (a+1):=by simp only[indexByte,n]
  have h:dO A' (j::i)=1+dO A' i:=by simp only[dO,ne_eq,e,not_false_eq_true,decide_true]
  rcases k (a+1)with⟨g,c⟩|⟨d,g,c,l,m⟩
  ·exact .inl ⟨by rw[f,g],by rw[h,c,aiF];omega⟩
  refine .inr ⟨d+1,by simp;omega,by rw[f,c];congr 1;omega,by simpa using l,by rw[h,m,List.drop_succ_cons];omega⟩
def xa(b:cC)(a:Nat)(q:a<=j' b)(x:j' b<4294967296){l:VS}{t:dt->VS->Prop}(n:t (.ret (cl (a+dO B' (b.drop a)))) l):
  b7 C cm Gm [cv b,cl a] l t:=by
 refine cA ?_;refine ck.iter (λc:Nat=>[(1,cl c),(4,cl 0),(0,cv b)]) (λ_=>l) (λc=>j' b-c) (λc=>c<=j' b/\c+dO B' (b.drop c)=a+dO B' (b.drop a)) ?_ a ⟨q,Z⟩;rintro c ⟨y,d⟩;apply aZ<;>intro w
 ·have h:=eK w;have i:b[c]?=q' b[c]:=ait h;have j:b.drop c=b[c]::b.drop (c+1):=aiu h;refine bZ Z (cp b[c] (by rw[cx];exact i) ?_);refine rK [32,9,10,13] b[c] ?_;apply aZ<;>intro m
  ·have g:sI b[c]:=by
    have:decide (0<=indexByte [32,9,10,13] b[c].toNat 0)=A':=m;rw[Lf]at this;exact f_ this
   rw[j,nw g]at d;exact⟨c+1,⟨om,om⟩,om,.eS,Z,Z⟩
  have g:¬sI b[c]:=by
   have:decide (0<=indexByte [32,9,10,13] b[c].toNat 0)=B':=m;rw[Lf]at this;exact e_ this
  refine bZ Z (a6 ⟨om,aiy _⟩ ?_);refine eW _ [47,47] ?_;rw[ai1];apply aZ<;>intro p
  ·have f:ef (b.drop c) [47,47]=A':=p;rw[Ik f]at d;refine bZ Z (a6 ⟨om,aiy _⟩ ?_);refine rK _ 10 ?_;rw[ai1];rcases af9 (b.drop c) 0 with⟨k,e⟩|⟨v,k,e,o,s⟩
   ·refine a7 (by show decide (0<=indexByte (b.drop c) 10 0)=B';rw[k];rfl) ?_;rw[e,aiE]at d;exact⟨j' b,⟨aiy _,by rw[aiz (aiy _)];simp only[dO];omega⟩,om,.eS,Z,Z⟩
   rw[aiD]at e;refine b9 (by show decide (0<=indexByte (b.drop c) 10 0)=A';rw[e];exact a_ sm) ?_;rw[s,aiY]at d;rw[aiE]at k;have u:v≠0:=λz=>by
    subst z;rw[ajj,Nat.add_zero,i]at o;injection o with r;exact g (.inr (.inr (.inl r)))
   exact⟨c+v,⟨om,om⟩,om,.same ⟨int_eq (by show IntKind.i64.wrap (ais c+indexByte (b.drop c) 10 0)=_;rw[e];exact dk om),Z,Z,tv⟩ Z,Z,Z⟩
  have f:ef (b[c]::b.drop (c+1)) [47,47]=B':=by rw[<-j];exact p
  rw[j,Sk g f]at d;exact k6 (show _=cl (a+dO B' (b.drop a))by rw[<-d];rfl) n
 have h:=dK w;rw[aiz h]at d;simp only[dO]at d;exact k6 (show _=cl (a+dO B' (b.drop a))by rw[<-d];rfl) n
def eQ:n_ UInt8->Option (n_ UInt8×Nat)
 |[]=>u'
 |c::f=>
  if c=34 then q' ([],1)
  else if c<32 then u'
  else if c≠92 then(eQ f).map λa=>(c::a.1,a.2+1)
  else match f with
   |[]=>u'
   |e::b=>
    if e=34∨e=92 then(eQ b).map λa=>(e::a.1,a.2+2)
    else if e=110 then(eQ b).map λa=>(10::a.1,a.2+2)
    else if e=120 then match b with
     |h::j::d=>match qk h,qk j with
      |some i,q' g=>(eQ d).map λa=>(UInt8.ofNat (16*i+g)::a.1,a.2+4)
      |_,_=>u'
     |_=>u'
    else u'
theorem u5(a:n_ UInt8):eQ (34::a)=q' ([],1):=by rw[eQ.eq_def];rfl
theorem Gs{b:UInt8}{d:n_ UInt8}(a:b≠34)(c:b<32):eQ (b::d)=u':=by
 rw[eQ.eq_def];simp only[W' a,X' c]
theorem zO{a:UInt8}{f:n_ UInt8}(c:a≠34)(b:¬a<32)(d:a≠92):eQ (a::f)=(eQ f).map λe=>(a::e.1,e.2+1):=by
 rw[eQ.eq_def];simp only[W' c,W' b,X' d]
theorem pZ(d:n_ UInt8):eQ (92::d)=match d with
   |[]=>u'
   |e::b=>
    if e=34∨e=92 then(eQ b).map λa=>(e::a.1,a.2+2)
    else if e=110 then(eQ b).map λa=>(10::a.1,a.2+2)
    else if e=120 then match b with
     |h::i::c=>match qk h,qk i with
      |some g,q' f=>(eQ c).map λa=>(UInt8.ofNat (16*g+f)::a.1,a.2+4)
      |_,_=>u'
     |_=>u'
    else u':=by
 conv=>lhs;rw[eQ.eq_def]
 grind
def Gt(c:Option (n_ UInt8×Nat))(a:Nat):V:=match c with
 |some (d,b)=>.dP [cv d,cl (a+b),cj A']
 |none=>.dP [cv [],cl 0,cj B']
def bytesRow(a:n_ UInt8):cX:=.row 1 (a.map λb=>[io b])
def aeM:n_ UInt8->V
 |[]=>.d .cu
 |c::a=>.ms 0 1 0 (j' a+1) (j' a+1)
def acg:n_ UInt8->VS
 |[]=>[]
 |c::a=>[bytesRow (c::a)]
def Gu(b:Nat->Nat)(a:n_ UInt8):eb b (bytesRow a)=bytesRow a:=by
 simp only[bytesRow,eb];congr 1;rw[ai8];exact aiP λc _=>Z
def Pj(b:Nat)(a:n_ UInt8):gP b (bytesRow a)=A':=by
 simp only[bytesRow,gP,List.all_map];exact aiL.2 λc _=>Z
def Sl(a:n_ UInt8)(c:Nat)(d:c=j' a)(b:UInt8):q' (cX.row 1 (((a.map λb=>[io b]).drop 0).take c++[[io b]]))=q' (eb (kU [1] 2) (bytesRow (a++[b]))):=by
 rw[Gu,bytesRow,aiS,ajf,aiI (by simp;omega)];rfl
def lfz:Nat->Bool:=λa=>aiT a 40||aiT a 60||aiT a 66||aiT a 99
def Zo(c:n_ UInt8)(a:Nat)(b:Nat×n_ UInt8):Prop:=
 b.1<=j' c/\a<=b.1/\j' b.2<=b.1/\eQ (c.drop a)=(eQ (c.drop b.1)).map λd=>(b.2++d.1,d.2+(b.1-a))
def Zp{α:Type}{j f h i g:α->Prop}(a:α)(k:j a)(d:f a)(b:h a)(e:i a)(c:g a):∃a,j a/\f a/\h a/\i a/\g a:=⟨a,k,d,b,e,c⟩
theorem eG{α:Type}(a:n_ α)(b:Nat)(c:b=j' a):(a.drop 0).take b=a:=by
 grind
def MS{b c:V}(e:b=c):cV 0 (.ret b) [] λd a=>a=[]/\d=.ret c:=.now rfl ⟨rfl,by rw[e]⟩
def Pk{b d:V}{g:cX}(f:b=d)(c:bd 0 b=A'):cV 0 (.ret b) [g] λe a=>a=[]/\e=.ret d:=.drop 0 rfl rfl c (MS f)
def Yt{c g:V}(a:n_ UInt8)(f:c=g)(d:bd 0 c=A'):cV 0 (.ret c) (acg a) λe b=>b=[]/\e=.ret g:=by
 cases a with
 |nil=>exact MS f
 |cons h e=>exact Pk f d
def Bo{j:n_ UInt8}{k:Nat}{f c:UInt8}{a:n_ UInt8}{b:Tm}{d:VS}(g:gE b 1=q' (cl k))(h:gE b 7=q' (.ms 1 1 0 (j' a+1+1) (j' a+1+1)))(i:gE b 0=q' (cv j)) 
  (e:d=[.gone,.row 1 ((((f::a).map λc=>[io c]).drop 0).take (j' a+1)++[[io c]])]):
  Hx 0 [(1,cl k),(7,aeM (f::a++[c])),(0,cv j)] (acg (f::a++[c])) [] .none b d:=by
 subst e;refine .pick 0 [1] ⟨g,?_,i,tv⟩ Z Z Z Z Z sm ⟨Sl (f::a) (j' a+1) Z c,Pj _ _,tv⟩;rw[h];show _=q' (V.ms 1 1 0 (j' (a++[c])+1) (j' (a++[c])+1));simp
def xb{h:n_ UInt8}{i:Nat}{f:UInt8}{a:Tm}{b:VS}(d:gE a 1=q' (cl i))(e:gE a 7=q' (.ms 0 1 0 1 1))(g:gE a 0=q' (cv h)) 
  (c:b=[.row 1 [[io f]]]):Hx 0 [(1,cl i),(7,aeM ([]++[f])),(0,cv h)] (acg ([]++[f])) [] .none a b:=.same ⟨d,e,g,tv⟩ c
theorem xc{d:n_ UInt8}{a c k:Nat}{b:n_ UInt8}{g:UInt8}(n:0<k)(f:c+k<=j' d)(m:a+1<=c)(l:j' b<=c) 
  (h:eQ (d.drop (a+1))=(eQ (d.drop c)).map λe=>(b++e.1,e.2+(c-(a+1)))) (i:eQ (d.drop c)=(eQ (d.drop (c+k))).map λj=>(g::j.1,j.2+k)):
  Zo d (a+1) (c+k,b++[g])/\j' d-(c+k)<j' d-c:=by
 refine⟨⟨f,by show a+1<=c+k;omega,by show(b++[g]).length<=c+k;simp;omega,?_⟩,om⟩;show eQ (d.drop (a+1))=(eQ (d.drop (c+k))).map λe=>((b++[g])++e.1,e.2+(c+k-(a+1)));rw[h,i,Option.map_map];congr 1
 grind
theorem Bp{c a:Nat}{b:n_ UInt8}{e:UInt8}(g:j' (e::b)<=c)(d:c<4294967296)(f:a=1):(j' b+1+a)*1<=en/\j' b+1+a<=en:=by
 grind [aiF,en]
def ej(a:Nat):Nat.ble (a+1) a=B':=by rw[Ud];exact Z' om
def ach{c:n_ UInt8}{a:UInt8}(b:ef c [a]=A'):∃d,c=a::d:=by
 rw[ef,aiJ]at b;have⟨e,f⟩:=b;exact⟨e,f.symm⟩
theorem Zq{d e:n_ UInt8}{b c:UInt8}(f:ef d [b]=B')(a:d=c::e):c≠b:=by
 rintro rfl;subst a;simp[ef]at f
theorem yg{a c:n_ UInt8}{b:Nat}{d:UInt8}(e:a.drop b=d::c):a.drop (b+1)=c/\b<j' a:=by
 constructor
 ·rw[<-aiY,e];rfl
 all_goals grind [aiz,ajb]
theorem E0{c:UInt8}{b:Nat}(a:qk c=q' b):b<16:=by
 unfold qk at a;split at a
 ·grind [Bn]
 all_goals grind
def Wk:∀a b:Fin 16,IntKind.u8.wrap ((BitVec.ofInt IntKind.u8.bits (IntKind.u8.wrap (ais a.1*2^(min 4 IntKind.u8.bits)))|||BitVec.ofInt IntKind.u8.bits (ais b.1)).toNat)=ais (UInt8.ofNat (16*a.1+b.1)).toNat:=dc
def Zr{a b:Nat}(d:a<16)(c:b<16):IntKind.u8.wrap ((BitVec.ofInt IntKind.u8.bits (IntKind.u8.wrap (ais a*2^(min 4 IntKind.u8.bits)))|||BitVec.ofInt IntKind.u8.bits (ais b)).toNat)=ais (UInt8.ofNat (16*a+b)).toNat:=Wk ⟨a,d⟩ ⟨b,c⟩
def Yu{c:n_ UInt8}{a e:Nat}{b:n_ UInt8}(d:eQ (c.drop (a+1))=(eQ (c.drop e)).map λf=>(b++f.1,f.2+(e-(a+1))))(g:eQ (c.drop e)=u'):V.dP [cv [],cl 0,cj B']=Gt (eQ (c.drop (a+1))) (a+1):=by
 rw[d,g];rfl
theorem MT(s:n_ UInt8)(c:Nat)(X:c<j' s)(Y:j' s<4294967296){N:VS}{U:dt->VS->Prop}(R:U (.ret (Gt (eQ (s.drop (c+1))) (c+1))) N):
  b7 C cm Et [cv s,cl c] N U:=by
 refine cI (v:=Gt (eQ (s.drop (c+1))) (c+1)) ?_ Z ?_ R
 ·refine cB lfz (λ_=>Z) ?_;refine ck.iter (λh:Nat×n_ UInt8=>[(1,cl h.1),(7,aeM h.2),(0,cv s)]) (λh=>acg h.2) (λh=>j' s-h.1) (Zo s (c+1)) ?_ (c+1,[]) ⟨om,aiy _,by simp,by simp⟩;rintro⟨a,acc⟩ ⟨M,j,d,hp⟩;have M:a<=j' s:=M;have j:c+1<=a:=j;have d:j' acc<=a:=d;have hp:eQ (s.drop (c+1))=(eQ (s.drop a)).map λD=>(acc++D.1,D.2+(a-(c+1))):=hp;apply aZ<;>intro W
  ·have w:a<j' s:=eK W;have I:s[a]?=q' s[a]:=ait w;have n:s.drop a=s[a]::s.drop (a+1):=aiu w;refine bZ Z (cp s[a] (by rw[cx];exact I) ?_);apply aZ<;>intro J
   ·
    have y:s[a]=34:=UInt8.toNat_inj.1 (Dw (b:=34) J);have hl:eQ (s.drop a)=q' ([],1):=by rw[n,y];exact u5 _
    have v:V.dP [cv acc,V.d (.int .i64 (IntKind.i64.wrap (ais a+1))),cj A']=Gt (eQ (s.drop (c+1))) (c+1):=by
     rw[hp,hl,cF om];simp only[Option.map_some,Gt,aiU,cl]
     grind
    cases acc with
    |nil=>exact MS v
    |cons m l=>
     refine Zp (m::l) Z Z (eG _ _ sm) sm ?_;exact Pk v Z
   have y:s[a]≠34:=λP=>A7 (b:=34) J (by rw[P];rfl);apply aZ<;>intro L
   ·have G:s[a]<32:=UInt8.lt_iff_toNat_lt.2 (eK (b:=32) L);have hl:eQ (s.drop a)=u':=by rw[n];exact Gs y G
    exact oS
   have G:¬s[a]<32:=λP=>Nat.not_lt_of_le (dK (b:=32) L) (UInt8.lt_iff_toNat_lt.1 P);apply aZ<;>intro B
   ·
    have q:s[a]≠92:=λP=>by rw[P]at B;cases B
    have hl:eQ (s.drop a)=(eQ (s.drop (a+1))).map λh=>(s[a]::h.1,h.2+1):=by rw[n];exact zO y G q
    have⟨g,f⟩:=xc (k:=1) om om j d hp hl;intro o;cases acc with
    |nil=>
     refine a6 Z (a6 ⟨aix Z,aix Z⟩ ?_);exact⟨(a+1,[]++[s[a]]),g,f,xb (int_eq (cF om)) Z Z Z,Z,Z⟩
    |cons m l=>
     refine a6 Z (a6 ⟨Z,Z,by simp,aiy _,Bp d om Z⟩ ?_);refine a7 Z (a7 (ej (j' l+1)) ?_);exact⟨(a+1,(m::l)++[s[a]]),g,f,Bo (int_eq (cF om)) Z Z Z,Z,Z⟩
   
   have q:s[a]=92:=UInt8.toNat_inj.1 (Dw (b:=92) (by simpa using B));have k:IntKind.i64.wrap (ais a+1)=ais (a+1):=cF om;have A:min (IntKind.i64.wrap (ais a+1)) (ais (j' s))=ais (a+1):=by rw[k];simp only[aiw];omega
   refine bZ A (a6 ⟨om,aiy _⟩ ?_);rw[ai1];refine eW (s.drop (a+1)) [34] ?_;apply aZ<;>intro x
   ·have⟨F,b⟩:=ach x;have⟨e,r⟩:=yg b;have hl:eQ (s.drop a)=(eQ (s.drop (a+2))).map λh=>(34::h.1,h.2+2):=by
     rw[n,q,b,pZ,e];rfl
    repeat refine b9 x ?_
    refine bZ (m:=0) Z (cp 34 (by rw[b];rfl) ?_);have⟨g,f⟩:=xc (k:=2) om om j d hp hl;intro o;cases acc with
    |nil=>
     refine a6 Z (a6 ⟨aix Z,aix Z⟩ ?_);exact⟨(a+2,[]++[34]),g,f,xb (int_eq (by show IntKind.i64.wrap (IntKind.i64.wrap (ais a+1)+1)=_;rw[k];exact cF om)) Z Z Z,Z,Z⟩
    |cons m l=>
     refine a6 Z (a6 ⟨Z,Z,by simp,aiy _,Bp d om Z⟩ ?_);refine a7 Z (a7 (ej (j' l+1)) ?_);exact⟨(a+2,(m::l)++[34]),g,f,Bo (int_eq (by show IntKind.i64.wrap (IntKind.i64.wrap (ais a+1)+1)=_;rw[k];exact cF om)) Z Z Z,Z,Z⟩
   repeat refine a7 x ?_
   refine eW (s.drop (a+1)) [92] ?_;repeat refine a7 x ?_
   apply aZ<;>intro T
   ·have⟨F,b⟩:=ach T;have⟨e,r⟩:=yg b;have hl:eQ (s.drop a)=(eQ (s.drop (a+2))).map λh=>(92::h.1,h.2+2):=by
     rw[n,q,b,pZ,e];rfl
    refine bZ (m:=0) Z (cp 92 (by rw[b];rfl) ?_);have⟨g,f⟩:=xc (k:=2) om om j d hp hl;intro o;cases acc with
    |nil=>
     refine a6 Z (a6 ⟨aix Z,aix Z⟩ ?_);exact⟨(a+2,[]++[92]),g,f,xb (int_eq (by show IntKind.i64.wrap (IntKind.i64.wrap (ais a+1)+1)=_;rw[k];exact cF om)) Z Z Z,Z,Z⟩
    |cons m l=>
     refine a6 Z (a6 ⟨Z,Z,by simp,aiy _,Bp d om Z⟩ ?_);refine a7 Z (a7 (ej (j' l+1)) ?_);exact⟨(a+2,(m::l)++[92]),g,f,Bo (int_eq (by show IntKind.i64.wrap (IntKind.i64.wrap (ais a+1)+1)=_;rw[k];exact cF om)) Z Z Z,Z,Z⟩
   refine eW (s.drop (a+1)) [110] ?_;apply aZ<;>intro S
   ·have⟨F,b⟩:=ach S;have⟨e,r⟩:=yg b;have hl:eQ (s.drop a)=(eQ (s.drop (a+2))).map λh=>(10::h.1,h.2+2):=by
     rw[n,q,b,pZ,e];rfl
    have⟨g,f⟩:=xc (k:=2) om om j d hp hl;intro o;cases acc with
    |nil=>
     refine a6 Z (a6 ⟨aix Z,aix Z⟩ ?_);exact⟨(a+2,[]++[10]),g,f,xb (int_eq (by show IntKind.i64.wrap (IntKind.i64.wrap (ais a+1)+1)=_;rw[k];exact cF om)) Z Z Z,Z,Z⟩
    |cons m l=>
     refine a6 Z (a6 ⟨Z,Z,by simp,aiy _,Bp d om Z⟩ ?_);refine a7 Z (a7 (ej (j' l+1)) ?_);exact⟨(a+2,(m::l)++[10]),g,f,Bo (int_eq (by show IntKind.i64.wrap (IntKind.i64.wrap (ais a+1)+1)=_;rw[k];exact cF om)) Z Z Z,Z,Z⟩
   refine eW (s.drop (a+1)) [120] ?_;apply aZ<;>intro E
   ·have⟨F,b⟩:=ach E;have⟨e,r⟩:=yg b;repeat refine b9 E ?_
    apply aZ<;>intro O
    ·have u:2<j' (s.drop (a+1)):=eK (a:=2) O;rw[aiE]at u;have q1:s.drop (a+2)=s[a+2]::s.drop (a+3):=aiu om;have q2:s.drop (a+3)=s[a+3]::s.drop (a+4):=aiu om;have t:eQ (s.drop a)=match qk s[a+2],qk s[a+3]with
       |some m,q' o=>(eQ (s.drop (a+4))).map λh=>(UInt8.ofNat (16*m+o)::h.1,h.2+4)
       |_,_=>u':=by
      rw[n,q,b,pZ,<-e,q1,q2];rfl
     refine bZ (m:=1) Z (cp s[a+2] (by rw[b,<-e,q1];rfl) ?_);refine Gr s[a+2] ?_;cases p:qk s[a+2]with
     |none=>
      rw[show lA s[a+2]=V.dP [.d (.int .u8 0),cj B']from by simp only[lA,p]];refine bZ (m:=2) Z (cp s[a+3] (by rw[b,<-e,q1,q2];rfl) ?_);refine Gr s[a+3] ?_;have hl:eQ (s.drop a)=u':=by rw[t,p]
      cases i:qk s[a+3]with
      |none=>
       rw[show lA s[a+3]=V.dP [.d (.int .u8 0),cj B']from by simp only[lA,i]];exact oS
      |some o=>
       rw[show lA s[a+3]=V.dP [.d (.int .u8 (ais o)),cj A']from by simp only[lA,i]];exact oS
     |some h=>
      rw[show lA s[a+2]=V.dP [.d (.int .u8 (ais h)),cj A']from by simp only[lA,p]];refine bZ (m:=2) Z (cp s[a+3] (by rw[b,<-e,q1,q2];rfl) ?_);refine Gr s[a+3] ?_;cases i:qk s[a+3]with
      |none=>
       have hl:eQ (s.drop a)=u':=by rw[t,p,i]
       rw[show lA s[a+3]=V.dP [.d (.int .u8 0),cj B']from by simp only[lA,i]];exact oS
      |some D=>
       have hl:eQ (s.drop a)=(eQ (s.drop (a+4))).map λH=>(UInt8.ofNat (16*h+D)::H.1,H.2+4):=by rw[t,p,i]
       have z:=Zr (E0 p) (E0 i);rw[show lA s[a+3]=V.dP [.d (.int .u8 (ais D)),cj A']from by simp only[lA,i]];refine bZ (m:=4) Z ?_;have⟨g,f⟩:=xc (k:=4) om om j d hp hl;intro o;cases acc with
       |nil=>
        refine a6 Z (a6 ⟨aix Z,aix Z⟩ ?_);exact⟨(a+4,[]++[UInt8.ofNat (16*h+D)]),g,f,xb (int_eq (by show IntKind.i64.wrap (IntKind.i64.wrap (IntKind.i64.wrap (ais a+1)+2)+1)=_;rw[k,show IntKind.i64.wrap (ais (a+1)+2)=ais (a+3)from dk (b:=2) om];exact cF om)) Z Z (d_ (λH=>[cX.row 1 [[V.d (.int .u8 H)]]]) z),Z,Z⟩
       |cons m l=>
        refine a6 Z (a6 ⟨Z,Z,by simp,aiy _,Bp d om Z⟩ ?_);refine a7 Z (a7 (ej (j' l+1)) ?_);exact⟨(a+4,(m::l)++[UInt8.ofNat (16*h+D)]),g,f,Bo (int_eq (by show IntKind.i64.wrap (IntKind.i64.wrap (IntKind.i64.wrap (ais a+1)+2)+1)=_;rw[k,show IntKind.i64.wrap (ais (a+1)+2)=ais (a+3)from dk (b:=2) om];exact cF om)) Z Z (d_ (λH=>[cX.gone,cX.row 1 ((((m::l).map λaa=>[io aa]).drop 0).take (j' l+1)++[[V.d (.int .u8 H)]])]) z),Z,Z⟩
    have u:j' (s.drop (a+1))<=2:=dK (a:=2) O;have hl:eQ (s.drop a)=u':=by
     grind [pZ]
    exact oS
   repeat refine a7 E ?_
   have hl:eQ (s.drop a)=u':=by
    grind [pZ,Zq]
   exact oS
  have w:j' s<=a:=dK W;have hl:eQ (s.drop a)=u':=by rw[aiz w];rfl
  exact oS
 cases eQ (s.drop (c+1))with
 |none=>rfl
 |some h=>rfl
inductive Pl where
 |ok (kind:Nat) (text:cC) (n:Nat)
 |err (e:Nat)
def lN(a:cC)(b:Nat):Pl:=if Zn a then .ok 5 a b else if c8 a then .ok 1 a b else if eC a then .ok 2 a b else .err 4
def mb(d a:cC)(b:Nat)(c:UInt8):Pl:=if 19<j' a∨(1<j' a/\c=48)∨(d.drop b).head?.any isWord=A' then .err 3 else .ok 3 a b
def j7:cC->Pl
 |[]=>.err 3
 |c::a=>
  if jR c||gV c then lN ((c::a).take (eE isWord (c::a))) (eE isWord (c::a))
  else if isDigit c then mb (c::a) ((c::a).take (eE isDigit (c::a))) (eE isDigit (c::a)) c
  else if c=34 then match eQ a with
   |some (d,b)=>.ok 4 d (b+1)
   |none=>.err 3
  else if iD (c::a)=[]then .err 3 else .ok 6 (iD (c::a)) (j' (iD (c::a)))
def Il(c:Nat)(b:cC)(a:Nat):V:=.agg [cl c,cv b,cl a]
def Pm(a:Nat)(e:Pl)(d:dt):Prop:=match e with
 |.ok c b f=>d=.ret (.dP [Il c b a,cl (a+f),cl 0])
 |.err g=>∃c b,d=.ret (.dP [Il c b a,cl a,cl g])
def iP{a:Nat}{g:Pl}{d:V}{f e:cX}(i:Pm a g (.ret d))(b:bd 0 d=A'):cV 0 (.ret d) [f,e] λh c=>c=[]/\da h=A'/\Pm a g h:=
 .drop 0 rfl rfl b (.now rfl ⟨rfl,b,i⟩)
theorem Wl(b:cC):j' (iD b)<=3:=by
 unfold iD;split
 ·rename_i c a;have:=List.mem_of_find?_eq_some a;simp only[vJ,ai3,List.not_mem_nil,or_false]at this
  grind
 split
 ·simp
 split<;>simp
theorem Lg(s:cC)(hh:Nat)(m:hh<j' s)(hs:j' s<4294967296){x:VS}{F:dt->VS->Prop}(B:∀G,Pm hh (j7 (s.drop hh)) G->F G x):
  b7 C cm MP [cv s,cl hh] x F:=by
 refine b7.closed (P:=Pm hh (j7 (s.drop hh))) ?_ Z B;have t:s.drop hh=s[hh]::s.drop (hh+1):=aiu m;refine cD ?_;refine bZ Z (cp s[hh] (by rw[cx];exact ait m) ?_);have i:(jR s[hh]||gV s[hh])=A'->j7 (s.drop hh)=lN ((s.drop hh).take (eE isWord (s.drop hh))) (eE isWord (s.drop hh)):=λh=>by
  rw[t];simp only[j7,h,c_]
 have hsl:(s.take (hh+eE isWord (s.drop hh))).drop hh=(s.drop hh).take (eE isWord (s.drop hh)):=by rw[List.drop_take];congr 1;omega
 have hle:hh+eE isWord (s.drop hh)<=j' s:=by have:=ue isWord (s.drop hh);rw[aiE]at this;omega
 have htl:j' ((s.drop hh).take (eE isWord (s.drop hh)))<4294967296:=by rw[List.length_take,aiE];omega
 refine u2 s[hh] ?_;apply aZ<;>intro g
 ·have Am:=i (by rw[g];rfl);repeat refine b9 g ?_
  exact IM
 repeat refine a7 g ?_
 refine u3 s[hh] ?_;repeat refine a7 g ?_
 apply aZ<;>intro l
 ·have Am:=i (by rw[l];simp);exact IM
 have w:(jR s[hh]||gV s[hh])=B':=by rw[g,l];rfl
 refine rJ s[hh] ?_;apply aZ<;>intro h2
 ·have Am:j7 (s.drop hh)=mb (s.drop hh) ((s.drop hh).take (eE isDigit (s.drop hh))) (eE isDigit (s.drop hh)) s[hh]:=by
   grind [j7]
  have n:(s.take (hh+eE isDigit (s.drop hh))).drop hh=(s.drop hh).take (eE isDigit (s.drop hh)):=by rw[List.drop_take];congr 1;omega
  have o:hh+eE isDigit (s.drop hh)<=j' s:=by have:=ue isDigit (s.drop hh);rw[aiE]at this;omega
  refine IN N3 s hh om hs ?_;refine bZ Z (bZ Z (a6 ⟨om,o⟩ ?_));refine cO ?_;refine cO ?_;refine cO ?_;rw[<-n]at Am;have D:∀{z:Prop} [Decidable z],z->(if z then Pl.err 3 else Pl.ok 3 ((s.take (hh+eE isDigit (s.drop hh))).drop hh) (eE isDigit (s.drop hh)))=.err 3:=λh=>X' h;have fe:∀{H:V},(∃K L,dt.ret H=.ret (.dP [Il K L hh,cl hh,cl 3]))->j7 (s.drop hh)=.err 3->Pm hh (j7 (s.drop hh)) (.ret H):=λg h2=>by rw[h2];exact g
  apply aZ<;>intro b
  ·repeat refine b9 b ?_
   refine iP (fe ⟨3,_,Z⟩ ?_) Z;rw[Am,mb,X' (.inl (eK (a:=19) b))]
  have M:=dK (a:=19) b;repeat refine a7 b ?_
  apply aZ<;>intro e
  ·have y:=eK (a:=1) e;repeat (first|refine b9 e ?_|refine a7 b ?_)
   apply aZ<;>intro d
   ·have k:s[hh]=48:=UInt8.toNat_inj.1 (Dw (b:=48) d);repeat (first|refine b9 d ?_|refine a7 b ?_)
    refine iP (fe ⟨3,_,Z⟩ ?_) Z;rw[Am,mb,X' (.inr (.inl ⟨y,k⟩))]
   have k:s[hh]≠48:=λE=>A7 (b:=48) d (by rw[E];rfl);repeat (first|refine a7 d ?_|refine a7 b ?_)
   apply aZ<;>intro c
   ·have f:hh+eE isDigit (s.drop hh)<j' s:=eK c;have hdr:(s.drop hh).drop (eE isDigit (s.drop hh))=s[hh+eE isDigit (s.drop hh)]::s.drop (hh+eE isDigit (s.drop hh)+1):=by rw[aiY];exact aiu f
    repeat (first|refine b9 c ?_|refine a7 b ?_|refine a7 d ?_)
    refine bZ Z (cp s[hh+eE isDigit (s.drop hh)] (by rw[cx];exact ait f) ?_);repeat (first|refine b9 c ?_|refine a7 b ?_|refine a7 d ?_)
    refine C6 s[hh+eE isDigit (s.drop hh)] ?_;repeat (first|refine b9 c ?_|refine a7 b ?_|refine a7 d ?_)
    apply aZ<;>intro hE
    ·repeat (first|refine b9 hE ?_|refine a7 b ?_|refine a7 d ?_)
     exact KD
    repeat (first|refine a7 hE ?_|refine a7 b ?_|refine a7 d ?_)
    refine iP ?_ Z;rw[Am,mb,W']
    ·rfl
    rintro(h|⟨h,j⟩|h)
    ·omega
    ·exact k j
    exact J6
   have f:j' s<=hh+eE isDigit (s.drop hh):=dK c;repeat (first|refine a7 c ?_|refine a7 b ?_|refine a7 d ?_)
   refine iP ?_ Z;rw[Am,mb,W']
   ·rfl
   rintro(h|⟨h,j⟩|h)
   ·omega
   ·exact k j
   rw[aiY,aiz f]at h;cases h
  have y:=dK (a:=1) e;repeat (first|refine a7 e ?_|refine a7 b ?_)
  apply aZ<;>intro c
  ·have f:hh+eE isDigit (s.drop hh)<j' s:=eK c;have hdr:(s.drop hh).drop (eE isDigit (s.drop hh))=s[hh+eE isDigit (s.drop hh)]::s.drop (hh+eE isDigit (s.drop hh)+1):=by rw[aiY];exact aiu f
   repeat (first|refine b9 c ?_|refine a7 b ?_|refine a7 e ?_)
   refine bZ Z (cp s[hh+eE isDigit (s.drop hh)] (by rw[cx];exact ait f) ?_);repeat (first|refine b9 c ?_|refine a7 b ?_|refine a7 e ?_)
   refine C6 s[hh+eE isDigit (s.drop hh)] ?_;repeat (first|refine b9 c ?_|refine a7 b ?_|refine a7 e ?_)
   apply aZ<;>intro hE
   ·repeat (first|refine b9 hE ?_|refine a7 b ?_|refine a7 e ?_)
    exact KD
   repeat (first|refine a7 hE ?_|refine a7 b ?_|refine a7 e ?_)
   refine iP ?_ Z;rw[Am,mb,W']
   ·rfl
   rintro(h|⟨h,j⟩|h)
   ·omega
   ·omega
   exact J6
  have f:j' s<=hh+eE isDigit (s.drop hh):=dK c;repeat (first|refine a7 c ?_|refine a7 b ?_|refine a7 e ?_)
  refine iP ?_ Z;rw[Am,mb,W']
  ·rfl
  rintro(h|⟨h,j⟩|h)
  ·omega
  ·omega
  rw[aiY,aiz f]at h;cases h
 have a:j7 (s.drop hh)=if s[hh]=34 then(match eQ (s.drop (hh+1))with
   |some (r,u)=>.ok 4 r (u+1)
   |none=>.err 3)else if iD (s.drop hh)=[]then .err 3 else .ok 6 (iD (s.drop hh)) (j' (iD (s.drop hh))):=by
  rw[t];simp only[j7,w,h2];rfl
 apply aZ<;>intro h3
 ·have p:s[hh]=34:=UInt8.toNat_inj.1 (Dw (b:=34) h3);rw[X' p]at a;refine MT s hh m hs ?_;cases v:eQ (s.drop (hh+1))with
  |none=>
   rw[v]at a;refine iP ?_ Z;rw[a];exact⟨0,[],Z⟩
  |some J=>
   have⟨r,u⟩:=J;rw[v]at a;refine iP ?_ Z;rw[a];show dt.ret _=dt.ret (.dP [_,cl (hh+(u+1)),_]);rw[show hh+(u+1)=hh+1+u from by omega];rfl
 have p:s[hh]≠34:=λE=>A7 (b:=34) h3 (by rw[E];rfl);rw[W' p]at a;refine bZ Z (a6 ⟨om,aiy _⟩ ?_);rw[ai1];refine Ph (s.drop hh) ?_;apply aZ<;>intro h4
 ·have q:iD (s.drop hh)=[]:=f_ h4;refine iP ?_ Z;rw[a,X' q];exact⟨6,_,Z⟩
 have q:iD (s.drop hh)≠[]:=e_ h4;refine cO ?_;refine cO ?_;refine cO ?_;refine cO ?_;refine iP ?_ Z;rw[a,W' q];have I:j' (iD (s.drop hh))<=3:=Wl _;show dt.ret (.dP [_,V.d (.int .i64 (IntKind.i64.wrap (ais hh+ais (j' (iD (s.drop hh)))))),_])=dt.ret (.dP [_,cl (hh+j' (iD (s.drop hh))),_]);rw[dk om];rfl
structure Tok where
 kind:Nat
 text:cC
 off:Nat
def pn(a:Tok):cP:=[.int .i64 (ais a.kind),.str a.text,.int .i64 (ais a.off)]
inductive C8 where
 |ok (l:List Tok)
 |err (off e:Nat)
def C8.cons(c:Tok):C8->C8
 |.ok d=>.ok (c::d)
 |.err a b=>.err a b
def C8.Wm(b:n_ Tok):C8->C8
 |.ok d=>.ok (b++d)
 |.err a c=>.err a c
def Bq(a:C8):a.Wm []=a:=by cases a<;>rfl
theorem Im(b:n_ Tok)(c:Tok)(a:C8):(a.cons c).Wm b=a.Wm (b++[c]):=by cases a<;>simp[C8.cons,C8.Wm]
def jA(b:cC):Nat->Nat->C8
 |0,_=>.ok []
 |f+1,a=>
  if (j' b)<=a then .ok [⟨0,[],j' b⟩]
  else match j7 (b.drop a)with
   |.err g=>.err a g
   |.ok e d c=>(jA b f (a+c+dO B' (b.drop (a+c)))).cons ⟨e,d,a⟩
def k5(a:cC):C8:=if 65536<j' a then .err 0 7 else jA a (j' a+1) (dO B' a)
theorem Zs:∀(g:Nat) (i:cC),j' i<=g->∀o d,eQ i=q' (o,d)->1<=d/\d<=j' i:=by
 intro g;induction g with
 |zero=>
  intro i h o d a;cases i with
  |nil=>rw[eQ.eq_def]at a;cases a
  |cons _ _=>simp at h
 |succ g w=>
  intro i h o d a;cases i with
  |nil=>rw[eQ.eq_def]at a;cases a
  |cons n j=>
   have l:j' j<=g:=by simpa using h
   have step:∀(m:cC) (t:Nat) (r:UInt8),j' m+t<=j' j+1->j' m<=g->((eQ m).map λu=>(r::u.1,u.2+t))=q' (o,d)->1<=d/\d<=j' (n::j):=by
    intro m t r f e b;cases s:eQ m with
    |none=>rw[s]at b;cases b
    |some v=>
     grind [aiF]
   by_cases f:n=34
   ·grind [u5]
   by_cases e:n<32
   ·rw[Gs f e]at a;cases a
   by_cases b:n=92
   ·subst b;rw[pZ]at a;cases j with
    |nil=>cases a
    |cons x c=>
     have k:j' c+1<=g:=by simpa using l
     simp only at a;split at a
     ·exact step c 2 _ sm om a
     split at a
     ·exact step c 2 _ sm om a
     split at a
     ·cases c with
      |nil=>cases a
      |cons r p=>
       cases p with
       |nil=>cases a
       |cons v q=>
        simp only at a;split at a
        ·exact step q 4 _ sm (by simp at k;omega) a
        cases a
     cases a
   rw[zO f e b]at a;exact step j 1 n om l a
theorem Zt(a:cC):j' (iD a)<=j' a:=by
 unfold iD;all_goals grind [ef,aiJ]
theorem Sm{a:UInt8}(b:(jR a||gV a)=A'):isWord a=A':=by
 simp only[isWord];rw[b];rfl
theorem xd{d:cC}{j b:Nat}{i:cC}(a:j7 d=.ok j i b):0<b/\b<=j' d:=by
 cases d with
 |nil=>cases a
 |cons g f=>
  simp only[j7]at a;have h:=ue isWord (g::f);have e:=ue isDigit (g::f);split at a
  ·all_goals grind [rL,Sm,lN]
  split at a
  ·all_goals grind [rL,mb]
  split at a
  ·split at a
   ·rename_i k l c;cases a;have:=Zs _ _ (aiy _) _ _ c;simp only[aiF];omega
   cases a
  all_goals grind [List.length_pos_iff.2,Zt]
def Sn(d:C8)(c:dt):Prop:=match d with
 |.ok g=>∃e b,c=.ret (.dP [.d (.ps e 0 3 b (g.map pn)),cl 0,cl 0])
 |.err a f=>c=.ret (.dP [.d .cu,cl a,cl f])
def xfz:Nat->Bool:=λa=>aiT a 22
def lB(a:n_ Tok):cX:=.row 3 (a.map λb=>(pn b).map V.d)
def ahw(d:cC)(b:la):n_ Tok->VS
 |[]=>[.box [.d .cu],.box [.d (.int .i64 0)],.box [.d (.int .i64 0)],.box [.d .cu],.box [cv d],.fP B',.loop b]
 |c::a=>[.box [.d .cu],.box [.d (.int .i64 0)],.box [.d (.int .i64 0)],.box [.ms 7 3 0 (j' a+1) (j' a+1)],.box [cv d],.fP B',.loop b,lB (c::a)]
def So(b:cC)(a:Nat×n_ Tok):Prop:=
 a.1<=j' b/\j' a.2<=a.1/\∃c,j' b-a.1<c/\jA b (j' b+1) (dO B' b)=(jA b c a.1).Wm a.2
theorem Gv{a:cC}{b e i c:Nat}{h:cC}{acc:n_ Tok}(m:b<j' a)(l:j' a-b<e+1)(j:j' acc<=b)(f:j7 (a.drop b)=.ok i h c) 
  (k:jA a (j' a+1) (dO B' a)=(jA a (e+1) b).Wm acc):So a (b+c+dO B' (a.drop (b+c)),acc++[⟨i,h,b⟩]):=by
 have g:=xd f;rw[aiE]at g;have d:=uf B' (a.drop (b+c));rw[aiE]at d;refine⟨by show b+c+dO B' (a.drop (b+c))<=j' a;omega,by show(acc++[_]).length<=b+c+dO B' (a.drop (b+c));simp;omega,e,by show (j' a)-(b+c+dO B' (a.drop (b+c)))<e;omega,?_⟩
 grind [Im,jA]
theorem Fo{b:cC}{a:Nat}(c:j7 b=.err a):a≠0:=by
 cases b with
 |nil=>cases c;decide
 |cons e d=>
  grind [j7,lN,mb]
def TR{a:cC}{c g f:Nat}{b:n_ Tok}(i:j' a<=65536)(h:c<j' a)(e:j7 (a.drop c)=.err f) 
  (d:jA a (j' a+1) (dO B' a)=(jA a (g+1) c).Wm b):k5 a=.err c f:=by
 rw[k5,W' om,d,jA,W' om,e];rfl
def Sp{a:cC}{e f:Nat}{b:n_ Tok}(g:j' a<=65536)(d:j' a<=e) 
  (c:jA a (j' a+1) (dO B' a)=(jA a (f+1) e).Wm b):k5 a=.ok (b++[⟨0,[],j' a⟩]):=by
 rw[k5,W' om,c,jA,X' d];rfl
theorem jq{a:Nat}(b:(!decide (ais a=0))=B'):a=0:=by
 grind [Bool.not_eq_false',Dw]
def Lh(b:Nat->Nat)(a:n_ Tok):eb b (lB a)=lB a:=by
 simp only[lB,eb];congr 1;rw[ai8];exact aiP λc _=>Z
def Ul(b:Nat)(a:n_ Tok):gP b (lB a)=A':=by
 simp only[lB,gP,List.all_map];exact aiL.2 λc _=>Z
def Sq(a:n_ Tok):sn (a.map λb=>(pn b).map V.d)=q' (a.map pn):=by
 induction a with
 |nil=>rfl
 |cons b d c=>
  show(match q' (pn b),sn (d.map λb=>(pn b).map V.d)with
   |some e,q' f=>q' (e::f)
   |_,_=>u')=_
  rw[c];rfl
theorem gr(a:Nat):aiT a a=A':=Nat.beq_refl a
def MU{d:VS}(c:Nat)(a:n_ Tok)(b:Nat)(g:b=j' a)(i:nth d c=q' (lB a)):
  cV 0 (.ret (.dP [.ms c 3 0 b b,cl 0,cl 0])) d λh f=>f=[]/\da h=A'/\Sn (.ok a) h:=by
 refine cV.freeze c i (Sq a) ⟨λ_=>⟨Z,by simp[g]⟩,tv,tv,tv⟩ (λe=>?_);refine cV.drop 0 (by cases d.set c cX.gone<;>rfl) (by rw[ml]) ?_ ?_
 ·show Wb 0 (.ret (.dP [jN c e (a.map pn) (.ms c 3 0 b b),cl 0,cl 0]))=A';rw[jN,gr];rfl
 refine cV.now Z ⟨Z,?_,e,b,?_⟩
 ·show da (.ret (.dP [jN c e (a.map pn) (.ms c 3 0 b b),cl 0,cl 0]))=A';rw[jN,gr];rfl
 show dt.ret (.dP [jN c e (a.map pn) (.ms c 3 0 b b),cl 0,cl 0])=_;rw[jN,gr];show dt.ret (.dP [.d (.ps e (0*3) 3 b (((a.map pn).drop 0).take b)),cl 0,cl 0])=_;rw[eG _ _ (by simp[g])]
theorem zP(a:n_ Tok)(c:Nat)(d:c=j' a)(b:Tok):q' (cX.row 3 (((a.map λb=>(pn b).map V.d).drop 0).take c++[(pn b).map V.d]))=q' (lB (a++[b])):=by
 grind [lB,eG]
def Wn{c:Nat->Nat}(a:n_ Tok)(d:Nat)(e:d=j' a)(b:Tok):q' (cX.row 3 (((a.map λb=>(pn b).map V.d).drop 0).take d++[(pn b).map V.d]))=q' (eb c (lB (a++[b]))):=by
 rw[Lh,zP a d e b]
def aci(a:n_ Tok)(b:Tok):q' (cX.box [.ms 10 3 0 (j' a+1+1) (j' a+1+1)])=q' (cX.box [.ms 10 3 0 (j' (a++[b])+1) (j' (a++[b])+1)]):=by simp
theorem Um{c a:Nat}{b:n_ Tok}{e:Tok}(g:j' (e::b)<=c)(d:c<=65536)(f:a=1):(j' b+1+a)*32<=en/\j' b+1+a<=en:=by
 grind [aiF,en]
def Zu(s:cC)(w:j' s<4294967296){p:VS}{u:dt->VS->Prop}(q:∀d,Sn (k5 s) d->u d p):b7 C cm DS [cv s] p u:=by
 refine b7.closed (P:=Sn (k5 s)) ?_ Z q;refine cB xfz (λ_=>Z) ?_;apply aZ<;>intro h
 ·exact KT
 have h':=dK (a:=65536) h;refine cA ?_;refine cA ?_;refine xa s 0 om om ?_;have l:=uf B' s;refine ck.less (fx:=[(3,cl (dO B' s)),(0,.wA 6),(1,.bp 4 0)]) ⟨int_eq (by rw[aiD];rfl),Z,Z,tv⟩ ?_;refine ck.iter (λm:Nat×n_ Tok=>[(3,cl m.1),(0,.wA 6),(1,.bp 4 0)]) (λm=>ahw s _ m.2) (λm=>j' s-m.1) (So s) ?_ (dO B' s,[]) ⟨l,aiV _,j' s+1,om,(Bq _).symm⟩;rintro⟨b,f⟩ ⟨o,c,n,i,hp⟩;have o:b<=j' s:=o;have c:j' f<=b:=c;have i:j' s-b<n:=i;have hp:jA s (j' s+1) (dO B' s)=(jA s n b).Wm f:=hp;obtain⟨n,rfl⟩:∃k,n=k+1:=⟨n-1,om⟩;cases f with
 |nil=>
  apply aZ<;>intro h
  ·have hl:b<j' s:=eK h;refine Lg s b hl om (λd hr=>?_);cases ht:j7 (s.drop b)with
   |ok k t g=>
    rw[ht]at hr;obtain rfl:d=_:=hr;refine jF.intro ?_;have j:=xd ht;rw[aiE]at j;intro r;refine a6 Z (a6 ⟨aix Z,aix Z⟩ ?_);refine xa s (b+g) om om ?_;have e:=uf B' (s.drop (b+g));rw[aiE]at e;refine⟨(b+g+dO B' (s.drop (b+g)),[]++[⟨k,t,b⟩]),?_,?_,?_,Z,Z⟩
    ·exact Gv (acc:=[]) hl i c ht hp
    ·show (j' s)-(b+g+dO B' (s.drop (b+g)))<j' s-b;omega
    exact .pick 7 [0,1,2,3,4,5,6,9] ⟨Z,Z,Z,tv⟩ Z Z Z Z Z dc ⟨Z,Z,Z,Z,Z,Z,Z,Z,Z,Z,Z,Z,Z,Z,Z,Z,tv⟩
   |err x=>
    exact Jj
  have hl:j' s<=b:=dK h;refine jF.intro ?_;intro r;refine a6 Z (a6 ⟨aix Z,aix Z⟩ ?_);rw[Sp h' hl hp];exact MU 8 [⟨0,[],j' s⟩] 1 Z Z
 |cons a d=>
  apply aZ<;>intro h
  ·have hl:b<j' s:=eK h;refine Lg s b hl om (λv hr=>?_);cases ht:j7 (s.drop b)with
   |ok k t g=>
    rw[ht]at hr;obtain rfl:v=_:=hr;refine jF.intro ?_;have j:=xd ht;rw[aiE]at j;intro r;refine a6 Z (a6 ⟨Z,Z,by simp[lB],aiy _,Um c om Z⟩ ?_);refine a7 Z (a7 (ej (j' d+1)) ?_);refine xa s (b+g) om om ?_;have e:=uf B' (s.drop (b+g));rw[aiE]at e;refine⟨(b+g+dO B' (s.drop (b+g)),(a::d)++[⟨k,t,b⟩]),?_,?_,?_,Z,Z⟩
    ·exact Gv hl i c ht hp
    ·show (j' s)-(b+g+dO B' (s.drop (b+g)))<j' s-b;omega
    refine .pick 7 [0,1,2,3,4,5,6,10] ⟨Z,Z,Z,tv⟩ Z Z Z Z Z dc ⟨Z,Z,Z,Z,Z,Z,?_,Z,Z,Z,Z,Z,Z,Z,?_,Ul _ _,tv⟩
    ·exact aci d ⟨k,t,b⟩
    exact Wn (a::d) (j' d+1) Z ⟨k,t,b⟩
   |err x=>
    exact Jj
  have hl:j' s<=b:=dK h;refine jF.intro ?_;intro r;refine a6 Z (a6 ⟨Z,Z,by simp[lB],aiy _,Um c om Z⟩ ?_);refine a7 Z (a7 (ej (j' d+1)) ?_);rw[Sp h' hl hp];refine MU 9 (a::d++[⟨0,[],j' s⟩]) (j' d+1+1) sm ?_;exact zP (a::d) (j' d+1) Z ⟨0,[],j' s⟩
end Go.Proofs.YtdocmpeionacbaaGreatDoor
namespace Go.VM
open Go.AM
section
variable{C:eN} {cU:r3}
def oc(b:Nat->Nat)(a:dt)(d:da a=A'):pT b a=a:=by
 cases a with
 |ret c=>simp only[pT];rw[lu _ c d]
 |fJ c=>simp only[pT];rw[lu _ c d]
mutual
def Un:∀(k:Nat) (v:V),bd 0 v=A'->bd k v=A'
 |_,.d _,_=>by simp only[bd]
 |_,.bp _ _,h=>by simp only[bd]at h;exact Y' (ie h) (aiR _)
 |_,.ptr _ _ _ _,h=>by simp only[bd]at h;exact Y' (ie h) (aiR _)
 |_,.fp _ _ _,_=>by simp only[bd]
 |_,.ms _ _ _ _ _,h=>by simp only[bd]at h;exact Y' (ie h) (aiR _)
 |_,.map _,h=>by simp only[bd]at h;exact Y' (ie h) (aiR _)
 |k,.fn _ a c,h=>by simp only[bd,aiM]at h⊢;exact⟨ig k a h.1,ig k c h.2⟩
 |_,.wA _,h=>by simp only[bd]at h;exact Y' (ie h) (aiR _)
 |k,.iface _ v,h=>by simp only[bd]at h⊢;exact Un k v h
 |k,.agg l,h=>by simp only[bd]at h⊢;exact ig k l h
 |k,.dP l,h=>by simp only[bd]at h⊢;exact ig k l h
def ig:∀(k:Nat) (l:n_ V),hP 0 l=A'->hP k l=A'
 |_,[],_=>by simp only[hP]
 |k,v::l,h=>by simp only[hP,aiM]at h⊢;exact⟨Un k v h.1,ig k l h.2⟩
end
def b7.one{w:D'}{fk c b:n_ V}{P:dt->n_ V->Prop}(m:b7 C cU w fk [.box b] λe g=>∃a,g=[.box a]/\da e=A'/\hP 0 a=A'/\P e a) 
  (i:Nat) {d:VS} {u:dt->VS->Prop} (h:nth d i=q' (.box b)) (j:hP 0 b=A') (f:hP 1 fk=A') (s:c=jh (kU [i] (j' d)) fk) (n:∀e a,P e a->u e (d.set i (.box a))):
  b7 C cU w c d u:=by
 refine m.frame [i] Z sm (λv t k=>?_) f s (λq o k _=>?_)
 ·cases v with
  |zero=>
   obtain rfl:i=t:=by simpa using k
   refine⟨.box b,Z,?_,ig 1 b j⟩;rw[<-cx,h];simp only[eb,gu _ b j]
  |succ v=>simp at k
 obtain⟨a,rfl,l,r,p⟩:=k;rw[oc _ _ l];simp only[aiO,ajc,eb,gu _ a r,merge,aiU];exact n q a p
theorem rM{a:VS}{c:Nat}{b:cX}(d:nth a c=q' b):a.set c b=a:=by
 grind [cx,List.set_getElem_self]
end
end Go.VM
namespace Go.Proofs.YtdocmpeionacbaaGreatDoor
open Go.AM Go.VM
structure Rd where
 b:Nat
 cap:Nat
 ts:List Tok
def zl(a:Rd)(b:Nat):n_ V:=[.d (.ps a.b 0 3 a.cap (a.ts.map pn)),cl b]
def ee(b:Rd)(a:Nat):cX:=.box (zl b a)
def acj(a:Tok):V:=Il a.kind a.text a.off
def s8{b:Rd}{c:Nat}{d:Tok}(a:b.ts[c]?=q' d):nth (b.ts.map pn) c=q' (pn d):=by
 rw[cx,List.getElem?_map,a];rfl
def iL(e:Rd)(f:Nat)(c:Tok)(d:e.ts[f]?=q' c)(h:Nat){a:VS}{j:dt->VS->Prop}(b:nth a h=q' (ee e f))(i:j (.ret (acj c)) a):b7 C cm H8 [.bp h 0] a j:=by
 refine b7.one (fk:=[.bp 0 0]) (P:=λl k=>l=.ret (acj c)/\k=zl e f) ?_ h b Z Z Z (λl n m=>by rw[m.1,m.2];show j _ (a.set h (ee e f));rw[rM b];exact i);refine cD ?_;refine bZ Z ?_;refine cp (pn c) (s8 d) ?_;repeat refine a6 (by repeat' (first|exact tv|exact rfl|refine bZ rfl ?_|refine cp (pn c) (s8 d) ?_|refine And.intro ?_ ?_)) ?_
 refine a8 1 ⟨zl e f,Z,Z,Z,Z,Z⟩
def gZ(b:Tok)(a:Nat):Nat:=if b.kind=0 then a else a+1
def j8(f:Rd)(b:Nat)(a:Tok)(g:f.ts[b]?=q' a)(p:b<4294967296)(j:Nat){c:VS}{m:dt->VS->Prop}(h:nth c j=q' (ee f b))(k:m (.ret (acj a)) (c.set j (ee f (gZ a b)))):b7 C cm Ie [.bp j 0] c m:=by
 refine b7.one (fk:=[.bp 0 0]) (P:=λn l=>n=.ret (acj a)/\l=zl f (gZ a b)) ?_ j h Z Z Z (λn o e=>by rw[e.1,e.2];exact k);refine cD ?_;refine bZ Z ?_;refine cp (pn a) (s8 g) ?_;repeat refine a6 (by repeat' (first|exact tv|exact rfl|refine bZ rfl ?_|refine cp (pn a) (s8 g) ?_|refine And.intro ?_ ?_)) ?_
 apply aZ<;>intro e
 ·have d:a.kind≠0:=λq=>by rw[q]at e;cases e
  refine a8 1 ⟨zl f (b+1),?_,Z,Z,Z,?_⟩
  ·show [cX.box [_,V.d (.int .i64 (IntKind.i64.wrap (ais b+1)))]]=_;rw[cF om];rfl
  rw[gZ,W' d]
 have d:a.kind=0:=jq e;refine a8 1 ⟨zl f b,Z,Z,Z,Z,?_⟩;rw[gZ,X' d]
def dX(a b:Nat):V:=.iface acf (.agg [cl a,cl b])
def jl(f:V)(a e:Nat){b:VS}{d:dt->VS->Prop}(c:d (.fJ (dX a e)) b):b7 C cm H9 [f,cl a,cl e] b d:=by
 refine cA ?_;exact c
def cG(a:Tok)(b:cC):Bool:=decide (a.text=b)&&(decide (a.kind=5)||decide (a.kind=6))
def Sr{c:Rd}{d:Nat}{f:Bool}{g:Bool}{i:cX}(h:f=g):cV 1 (.ret (cj f)) [.box (zl c d),i] λe b=>∃a,b=[.box a]/\da e=A'/\hP 0 a=A'/\(e=.ret (cj g)/\a=zl c d):=
 .drop 1 rfl rfl rfl (.now rfl ⟨zl c d,rfl,rfl,rfl,by rw[h],rfl⟩)
def sJ(f:Rd)(g:Nat)(e:Tok)(i:cC)(l:f.ts[g]?=q' e)(j:Nat){c:VS}{k:dt->VS->Prop}(d:nth c j=q' (ee f g))(m:k (.ret (cj (cG e i))) c):b7 C cm lz [.bp j 0,cv i] c k:=by
 refine b7.one (fk:=[.bp 0 0,cv i]) (P:=λo n=>o=.ret (cj (cG e i))/\n=zl f g) ?_ j d Z Z Z (λo p a=>by rw[a.1,a.2];show k _ (c.set j (ee f g));rw[rM d];exact m);refine cD ?_;refine iL f g e l 0 Z ?_;apply aZ<;>intro a
 ·repeat refine b9 a ?_
  apply aZ<;>intro b
  ·repeat first|refine b9 b ?_|refine b9 a ?_
   refine Sr ?_;rw[cG,a,show e.kind=5 from Dw (b:=5) b];rfl
  repeat first|refine a7 b ?_|refine b9 a ?_
  refine Sr ?_;have:e.kind≠5:=A7 (b:=5) b;rw[cG,a,Z' this,Bool.true_and,Bool.false_or];exact decide_eq_decide.2 (by simp only[aiw];omega)
 repeat refine a7 a ?_
 refine Sr ?_;rw[cG,a];rfl
theorem u6{a:Tok}{c:cC}(b:cG a c=A'):a.kind≠0:=by
 simp only[cG,aiM,Bool.or_eq_true,j_]at b;omega
def dj(i:Rd)(c:Nat)(d:Tok)(e:cC)(h:i.ts[c]?=q' d)(j:c<4294967296)(g:Nat){a:VS}{k:dt->VS->Prop}(b:nth a g=q' (ee i c)) 
  (l:cG d e=A'->k (.ret (cj A')) (a.set g (ee i (c+1)))) (m:cG d e=B'->k (.ret (cj B')) a):b7 C cm Ib [.bp g 0,cv e] a k:=by
 refine cA ?_;refine sJ i c d e h g b ?_;apply aZ<;>intro n
 ·exact m (by simpa using n)
 have f:cG d e=A':=by simpa using n
 refine j8 i c d h j g b ?_;have o:gZ d c=c+1:=by rw[gZ,W' (u6 f)]
 rw[o];exact l f
theorem u7(e:Rd)(b d:Nat)(a:Tok)(n:e.ts[b]?=q' a)(q:b<4294967296)(j:Nat){c:VS}{l:dt->VS->Prop}(i:nth c j=q' (ee e b)) 
  (p:a.kind=d->l (.ret (cv a.text)) (c.set j (ee e (gZ a b)))) (o:a.kind≠d->l (.fJ (dX a.off 3)) (c.set j (ee e (gZ a b)))):b7 C cm wQ [.bp j 0,cl d] c l:=by
 refine b7.one (fk:=[.bp 0 0,cl d]) (P:=λm h=>h=zl e (gZ a b)/\((a.kind=d/\m=.ret (cv a.text))∨(a.kind≠d/\m=.fJ (dX a.off 3)))) ?_ j i Z Z Z ?_
 ·refine cD ?_;refine j8 e b a n q 0 Z ?_;apply aZ<;>intro g
  ·have f:a.kind≠d:=λr=>by
    rw[r]at g;rw[Bool.not_eq_true',decide_eq_false_iff_not]at g;exact g Z
   refine jl _ a.off 3 ?_;exact a8 1 ⟨zl e (gZ a b),Z,Z,Z,Z,.inr ⟨f,Z⟩⟩
  have f:a.kind=d:=by
   grind
  exact a8 1 ⟨zl e (gZ a b),Z,Z,Z,Z,.inl ⟨f,Z⟩⟩
 rintro m h ⟨rfl,⟨g,rfl⟩|⟨g,rfl⟩⟩
 ·exact p g
 exact o g
def lZ(f:Rd)(c:Nat)(b:Tok)(k:f.ts[c]?=q' b)(g:c<4294967296)(e:Nat){a:VS}{h:dt->VS->Prop}(d:nth a e=q' (ee f c)) 
  (j:b.kind=1->h (.ret (cv b.text)) (a.set e (ee f (c+1)))) (l:b.kind≠1->h (.fJ (dX b.off 3)) (a.set e (ee f (gZ b c)))):b7 C cm zd [.bp e 0] a h:=by
 refine cA ?_;refine u7 f c 1 b k g e d (λi=>?_) (λi=>?_)
 ·have m:gZ b c=c+1:=by rw[gZ,W' om]
  rw[m];exact j i
 exact l i
inductive PR (α:Type)where
 |ok (a:α) (p:Nat)
 |bad (off e:Nat)
structure Rd.Wf (R:Rd):Prop where
 len:j' R.ts<4294967296
 go:∀p t,R.ts[p]?=q' t->t.kind≠0->p+1<j' R.ts
def Rd.tok(b:Rd)(a:Nat):Tok:=(b.ts[a]?).getD ⟨0,[],0⟩
theorem cn{b:Rd}{a:Nat}(c:a<j' b.ts):b.ts[a]?=q' (b.tok a):=by
 grind [Rd.tok]
def Rd.Wf.step{a:Rd}(f:a.Wf){b:Nat}{d:cC}(e:b<j' a.ts)(c:cG (a.tok b) d=A'):b+1<j' a.ts:=f.go b _ (cn e) (u6 c)
def Rd.Wf.gZ{a:Rd}(d:a.Wf){b:Nat}(c:b<j' a.ts):gZ (a.tok b) b<j' a.ts:=by
 unfold YtdocmpeionacbaaGreatDoor.gZ;split
 ·exact c
 exact d.go b _ (cn c) (by assumption)
def cw(b:Rd):n_ cC->Nat->PR Unit
 |[],a=>.ok () a
 |s::c,a=>if cG (b.tok a) s then cw b c (a+1)else .bad (b.tok a).off 3
theorem eo{c:Rd}(h:c.Wf):∀(e:n_ cC) (d a:Nat),d<j' c.ts->cw c e d=.ok () a->a<j' c.ts:=by
 intro e;induction e with
 |nil=>intro d a f b;cases b;exact f
 |cons s e g=>
  intro d a f b;rw[cw]at b;split at b
  ·exact g _ _ (h.step f (by assumption)) b
  cases b
def PRK{α:Type}(f:Rd)(e:Nat)(b:VS)(d:dt->VS->Prop)(val:α->V):PR α->Prop
 |.ok g c=>d (.ret (val g)) (b.set e (ee f c))
 |.bad a h=>∀c,d (.fJ (dX a h)) (b.set e (ee f c))
def gv(a:n_ cC):n_ cP:=a.map λb=>[.str b]
def kX(b:Rd)(E:b.Wf)(a:n_ cC)(F:j' a<4294967296)(m:Nat)(A:m<j' b.ts)(w c x:Nat){p:VS}{B:dt->VS->Prop}(t:nth p x=q' (ee b m)) 
  (l:PRK b x p B (λ_=>.dP []) (cw b a m)):b7 C cm zc [.bp x 0,.d (.ps w 0 1 c (gv a))] p B:=by
 refine b7.one (fk:=[.bp 0 0,.d (.ps w 0 1 c (gv a))]) (P:=λy o=>match cw b a m with
  |.ok _ e=>y=.ret (.dP [])/\o=zl b e
  |.bad n D=>y=.fJ (dX n D)/\∃e,o=zl b e) ?_ x t rfl rfl rfl ?_
 ·refine cA ?_;refine ck.less (fx:=[(8,cl 0),(7,cl (j' a)),(6,.d (.ps w 0 1 c (gv a))),(0,.bp 0 0)]) ⟨Z,int_eq (by simp[gv]),Z,Z,tv⟩ ?_;refine ck.iter (λj:Nat×Nat=>[(8,cl j.1),(7,cl (j' a)),(6,.d (.ps w 0 1 c (gv a))),(0,.bp 0 0)]) (λj=>[.box (zl b j.2)]) (λj=>j' a-j.1)
   (λj=>j.1<=j' a/\j.2<j' b.ts/\cw b a m=cw b (a.drop j.1) j.2) ?_ (0,m) ⟨aiV _,A,rfl⟩
  rintro⟨d,f⟩ ⟨u,h,i⟩;have u:d<=j' a:=u;have h:f<j' b.ts:=h;have i:cw b a m=cw b (a.drop d) f:=i;have z:=E.len;apply aZ<;>intro q
  ·have g:d<j' a:=eK q;refine bZ Z ?_;refine cp [.str a[d]] (by rw[cx,gv,List.getElem?_map,ait g];rfl) ?_;have r:a.drop d=a[d]::a.drop (d+1):=aiu g;refine dj b f (b.tok f) a[d] (cn h) om 0 Z (λk=>?_) (λk=>?_)
   ·refine⟨(d+1,f+1),⟨g,E.step h k,?_⟩,?_,.eS,Z,Z⟩
    ·show cw b a m=cw b (a.drop (d+1)) (f+1);rw[i,r,cw,X' k]
    show (j' a)-(d+1)<j' a-d;omega
   refine iL b f (b.tok f) (cn h) 0 Z ?_;refine jl _ (b.tok f).off 3 ?_;refine⟨zl b f,Z,Z,Z,?_⟩;rw[i,r,cw,W' (by rw[k];decide)];exact⟨Z,f,Z⟩
  have g:j' a<=d:=dK q;refine⟨zl b f,Z,Z,Z,?_⟩;rw[i,aiz g];exact⟨Z,Z⟩
 intro y o q;cases s:cw b a m with
 |ok G e=>rw[s]at q l;obtain⟨rfl,rfl⟩:=q;exact l
 |bad n D=>rw[s]at q l;obtain⟨rfl,e,rfl⟩:=q;exact l e
end Go.Proofs.YtdocmpeionacbaaGreatDoor
namespace Go.VM
open Go.AM
section
variable{C:eN} {cU:r3}
theorem gq(e:Nat->Nat)(d:cX)(b:gP 0 d=A'):eb e d=d:=by
 cases d with
 |box f=>simp only[eb];rw[gu _ f b]
 |row c a=>
  simp only[eb];congr 1;simp only[gP,aiL]at b;conv=>rhs;rw[<-aji a]
  grind [aiP,gu]
 |map c m=>
  simp only[eb];congr 1;simp only[gP,aiL,aiM]at b;conv=>rhs;rw[<-aji c]
  exact aiP λh g=>by
   have⟨j,n,k⟩:=h
   grind [Sf,lu]
 |loop l=>simp only[gP,aiM]at b;exact Y' (ie b.2) (aiR _)
 |fP i=>rfl
 |gone=>rfl
def nM(c:Nat)(g:cX)(b:gP 0 g=A'):gP c g=A':=by
 cases g with
 |box e=>exact ig c e b
 |row f h=>simp only[gP,aiL]at b⊢;exact λd a=>ig c d (b d a)
 |map f k=>simp only[gP,aiL,aiM]at b⊢;exact λd a=>⟨Un c _ (b d a).1,Un c _ (b d a).2⟩
 |loop j=>simp only[gP,aiM]at b;exact Y' (ie b.2) (aiR _)
 |fP i=>rfl
 |gone=>rfl
def b7.two{E:D'}{fk c:n_ V}{f e:cX}{P:dt->cX->cX->Prop}(r:b7 C cU E fk [f,e] λj o=>∃b a,o=[b,a]/\da j=A'/\gP 0 b=A'/\gP 0 a=A'/\P j b a) 
  (i h:Nat) (k:i≠h) {d:VS} {B:dt->VS->Prop} (v:nth d i=q' f) (q:nth d h=q' e) (m:gP 0 f=A') (n:gP 0 e=A') (l:hP 2 fk=A') (y:c=jh (kU [i,h] (j' d)) fk)
  (s:∀j b a,P j b a->B j ((d.set i b).set h a)):b7 C cU E c d B:=by
 refine r.frame [i,h] Z (by simp[k]) (λD p g=>?_) l y (λu t g _=>?_)
 ·match D,g with
  |0,g=>
   obtain rfl:i=p:=by simpa using g
   exact⟨f,Z,by rw[<-cx,v,gq _ _ m],nM _ _ m⟩
  |1,g=>
   obtain rfl:h=p:=by simpa using g
   exact⟨e,Z,by rw[<-cx,q,gq _ _ n],nM _ _ n⟩
  |D+2,g=>simp at g
 obtain⟨b,a,rfl,z,A,w,x⟩:=g;rw[oc _ _ z];simp only[aiO,ajc,gq _ _ A,gq _ _ w,merge,aiU];exact s u b a x
end
end Go.VM
namespace Go.Proofs.YtdocmpeionacbaaGreatDoor
open Go.AM Go.VM
def fV:Nat->n_ cC->n_ tK
 |_,[]=>[]
 |k,a::b=>⟨cv a,cj A',k⟩::fV (k+1) b
theorem Zv(a:n_ cC)(c:cC):∀b,fV b (a++[c])=fV b a++[⟨cv c,cj A',b+j' a⟩]:=by
 induction a with
 |nil=>intro b;rfl
 |cons e a d=>
  grind [fV,aiF]
def qQ(a:n_ cC):cX:=.map (fV 0 a) (j' a)
def Pn(a:n_ cC)(b:cC):qQ (a++[b])=.map (fV 0 a++[⟨cv b,cj A',j' a⟩]) (j' a+1):=by
 rw[qQ,Zv,aiD,aiB];rfl
def ko(a:n_ cC):gP 0 (qQ a)=A':=by
 have:∀(b:n_ cC) (d:Nat),(fV d b).all (λe=>bd 0 e.key&&bd 0 e.val)=A':=by
  intro b;induction b with
  |nil=>intro d;rfl
  |cons f b c=>intro d;simp only[fV,List.all_cons,c];rfl
 exact this a 0
def C9{s:cC}:∀{b:n_ cC} {k i:Nat},s ∉ b->je .string (cv s) (fV k b) i=q' u':=by
 intro b;induction b with
 |nil=>intro k i _;rfl
 |cons a l c=>
  intro k i d;exact J0
def Wo{b:cC}:∀{a:n_ cC} {k i:Nat},b∈a->∃f,je .string (cv b) (fV k a) i=q' (q' (f,cj A')):=by
 intro a;induction a with
 |nil=>intro k i c;simp at c
 |cons g j d=>
  intro k i c;by_cases h:b=g
  ·refine⟨i,?_⟩;show(match decide (b=g)with
    |true=>q' (q' (i,cj A'))
    |false=>je .string (cv b) (fV (k+1) j) (i+1))=_
   rw[a_ h]
  obtain⟨f,e⟩:=d (k:=k+1) (i:=i+1) (by simpa [h]using c);refine⟨f,?_⟩;show(match decide (b=g)with
   |true=>q' (q' (i,cj A'))
   |false=>je .string (cv b) (fV (k+1) j) (i+1))=_
  rw[Z' h];exact e
def u9(b:Rd)(z:b.Wf)(c:Nat)(m:c<j' b.ts)(a:n_ cC)(i j:Nat)(k:i≠j){f:VS}{o:dt->VS->Prop}(n:nth f i=q' (ee b c))(w:nth f j=q' (qQ a)) 
  (s:(b.tok c).kind=1->(b.tok c).text ∉ a->o (.ret (cv (b.tok c).text)) ((f.set i (ee b (c+1))).set j (qQ (a++[(b.tok c).text]))))
  (r:(b.tok c).kind=1->(b.tok c).text∈a->o (.fJ (dX (b.tok c).off 5)) ((f.set i (ee b (c+1))).set j (qQ a)))
  (v:(b.tok c).kind≠1->o (.fJ (dX (b.tok c).off 3)) ((f.set i (ee b (gZ (b.tok c) c))).set j (qQ a))):b7 C cm Gk [.bp i 0,.map j] f o:=by
 refine b7.two (fk:=[.bp 0 0,.map 1]) (P:=λq h g=>
  ((b.tok c).kind=1/\(b.tok c).text ∉ a/\q=.ret (cv (b.tok c).text)/\h=ee b (c+1)/\g=qQ (a++[(b.tok c).text]))∨
  ((b.tok c).kind=1/\(b.tok c).text∈a/\q=.fJ (dX (b.tok c).off 5)/\h=ee b (c+1)/\g=qQ a)∨
  ((b.tok c).kind≠1/\q=.fJ (dX (b.tok c).off 3)/\h=ee b (gZ (b.tok c) c)/\g=qQ a)) ?_ i j k n w rfl (ko a) rfl rfl ?_
 ·have t:=z.len;refine cA ?_;refine iL b c (b.tok c) (cn m) 0 Z ?_;refine lZ b c (b.tok c) (cn m) om 0 Z (λe=>?_) (λe=>?_)
  ·by_cases d:(b.tok c).text∈a
   ·have⟨y,x⟩:=Wo (k:=0) (i:=0) d;refine cp (q' (y,cj A')) x ?_;refine jl _ (b.tok c).off 5 ?_;exact⟨_,_,Z,Z,Z,ko a,.inr (.inl ⟨e,d,Z,Z,Z⟩)⟩
   refine cp u' (C9 d) ?_;refine cp u' (C9 d) ?_;refine⟨ee b (c+1),qQ (a++[(b.tok c).text]),?_,Z,Z,ko _,.inl ⟨e,d,Z,Z,Z⟩⟩;rw[Pn];rfl
  exact⟨_,_,Z,Z,Z,ko a,.inr (.inr ⟨e,Z,Z,Z⟩)⟩
 rintro q h g (⟨l,u,rfl,rfl,rfl⟩|⟨l,u,rfl,rfl,rfl⟩|⟨l,rfl,rfl,rfl⟩)
 ·exact s l u
 ·exact r l u
 exact v l
inductive Ty where
 |mk (kind:Nat) (mod name:cC) (args:List Ty) (fields:List (cC×Ty×Bool))
mutual
inductive fF:Ty->cP->Prop
 |mk {k:Nat} {m n:cC} {args:List Ty} {fields:List (cC×Ty×Bool)} {a f:D} (ha:ft args a) (hf:uz fields f):fF (.mk k m n args fields) [.int .i64 (ais k),.str m,.str n,a,f]
inductive ft:List Ty->D->Prop
 |nil:ft [] .cu
 |ps {b o cap:Nat} {l:List Ty} {els:List cP} (h:dZ l els) (EJ:els≠[]):ft l (.ps b o 5 cap els)
inductive dZ:List Ty->List cP->Prop
 |nil:dZ [] []
 |cons {t:Ty} {d:cP} {l:List Ty} {els:List cP} (h:fF t d) (hl:dZ l els):dZ (t::l) (d::els)
inductive uz:List (cC×Ty×Bool)->D->Prop
 |nil:uz [] .cu
 |ps {b o cap:Nat} {l:List (cC×Ty×Bool)} {els:List cP} (h:xf l els):uz l (.ps b o 7 cap els)
inductive xf:List (cC×Ty×Bool)->List cP->Prop
 |nil:xf [] []
 |cons {n:cC} {t:Ty} {o:Bool} {d:cP} {l:List (cC×Ty×Bool)} {els:List cP} (h:fF t d) (hl:xf l els):xf ((n,t,o)::l) ((.str n::d++[.bool o])::els)
end
def dZ.snoc{b:n_ Ty}{a:n_ cP}{i:Ty}{g:cP}(h:dZ b a)(f:fF i g):dZ (b++[i]) (a++[g]):=by
 induction b generalizing a with
 |nil=>cases h;exact .cons f .nil
 |cons j b c=>cases h with|cons e d=>exact .cons e (c d)
def fF.dL{g:Ty}{a:cP}(e:fF g a):∃h i d j b,a=[.int .i64 (ais h),.str i,.str d,j,b]:=by
 cases e with|mk f c=>exact⟨_,_,_,_,_,rfl⟩
structure iW (ty:Nat->PR Ty) (R:Rd) (lo:Nat):Prop where
 lt:∀p t q,lo<=p->p<j' R.ts->ty p=.ok t q->p<q/\q<j' R.ts
 call:∀p,lo<=p->p<j' R.ts->∀(i:Nat) (σ:VS) (K:dt->VS->Prop),nth σ i=q' (ee R p)->(∀t d q,ty p=.ok t q->fF t d->K (.ret (.agg (d.map V.d))) (σ.set i (ee R q)))->
  (∀off e q,ty p=.bad off e->K (.fJ (dX off e)) (σ.set i (ee R q)))->b7 C cm Bb [.bp i 0] σ K
def eO(b:Nat->PR Ty)(g:Rd):Nat->n_ Ty->Nat->PR (n_ Ty)
 |0,_,_=>.bad 0 3
 |f+1,a,j=>match b j with
  |.bad e c=>.bad e c
  |.ok i d=>if cG (g.tok d) [44]then eO b g f (a++[i]) (d+1)else match cw g [[93]] d with
   |.ok _ h=>.ok (a++[i]) h
   |.bad e c=>.bad e c
def fS(c:Nat->PR Ty)(b:Rd)(a:Nat):PR (n_ Ty):=if cG (b.tok a) [91]then eO c b (j' b.ts) [] (a+1)else .ok [] a
def ahx(b:Rd)(c:Nat):n_ cP->VS
 |[]=>[ee b c,.box [.bp 0 0],.box [.d .cu]]
 |e::a=>[ee b c,.box [.bp 0 0],.box [.ms 3 5 0 (j' a+1) (j' a+1)],.row 5 ((e::a).map λd=>d.map V.d)]
def zo:n_ V:=[.d (.int .i64 0),.d (.str []),.d (.str []),.d .cu,.d .cu]
def aeN:Nat->Bool:=λa=>aiT a 5||aiT a 13
def adW:Nat->Bool:=λa=>aiT a 6
def MV{c a b:Nat}(f:b<=c)(d:c<4294967296)(e:a=1):(b+a)*88<=en/\b+a<=en:=by
 unfold en;omega
def Zw(a:cP):uJ (a.map V.d)=q' a:=by
 induction a with
 |nil=>rfl
 |cons c a b=>simp only[aiO,uJ,b]
def dF(a:n_ cP):sn (a.map λc=>c.map V.d)=q' a:=by
 induction a with
 |nil=>rfl
 |cons e d b=>simp only[aiO,sn,Zw,b]
def Po(f:Rd)(h:PR (n_ Ty))(e:dt)(a:VS):Prop:=match h with
 |.ok i c=>a=[ee f c]/\∃d,ft i d/\e=.ret (.d d)
 |.bad b g=>∃c,a=[ee f c]/\e=.fJ (dX b g)
def Pp{f:Rd}{d:Nat}{a:VS}{l:n_ Ty}{els:n_ cP}{k:PR (n_ Ty)}(i n:Nat)(j:n=j' els)(e:nth a i=q' (.row 5 (els.map λm=>m.map V.d)))(g:dZ l els)(c:els≠[])(h:k=.ok l d):
  cV 1 (.ret (.ms (i+1) 5 0 n n)) (ee f d::a) (Po f k):=by
 subst h;refine cV.freeze (i+1) (es:=5) (l:=els) e (dF els) (λ_=>⟨Z,by simp[j]⟩) (λb=>?_);have p:qL (i+1) b els (.ret (.ms (i+1) 5 0 n n))=.ret (.d (.ps b (0*5) 5 n els)):=by
  exact KR
 rw[p];refine cV.drop 1 Z (by show(gP 1 (ee f d)&&ml 1 (a.set i .gone) 0)=A';rw[ml];rfl) Z (cV.now Z ?_);exact⟨Z,_,.ps g c,Z⟩
theorem Zx(b:Nat->Nat)(a:cP):jh b (a.map V.d)=a.map V.d:=by
 induction a with
 |nil=>rfl
 |cons d a c=>simp only[aiO,jh,iN,c]
theorem sK(c:Nat)(a:cP):hP c (a.map V.d)=A':=by
 induction a with
 |nil=>rfl
 |cons d a b=>simp only[aiO,hP,bd,b];rfl
theorem k9(d:Nat->Nat)(b:Nat)(a:n_ cP):eb d (.row b (a.map λc=>c.map V.d))=.row b (a.map λc=>c.map V.d):=by
 grind [eb,ai8,aiP,Zx]
theorem fU(d b:Nat)(a:n_ cP):gP d (.row b (a.map λc=>c.map V.d))=A':=by
 grind [gP,aiL,sK]
def ack(d a:Nat)(b:n_ cP)(c:cP):q' (cX.box [.ms d a 0 (j' b+1+1) (j' b+1+1)])=q' (cX.box [.ms d a 0 (j' (b++[c])+1) (j' (b++[c])+1)]):=by simp
def Yv(a:n_ cP):j' a+1<j' a+1+1:=Nat.lt_succ_self _
theorem N7(a:cP)(b:n_ cP):nth (List.take (j' b+1) (List.drop 0 (ajd (λc=>ajd V.d c) (a::b)))++[zo]) (0+(j' b+1))=q' zo:=by
 grind [cx]
theorem YA(b:cP)(c:n_ cP)(a:cP):(List.take (j' c+1) (List.drop 0 (ajd (λa=>ajd V.d a) (b::c)))++[zo]).set (0+(j' c+1)) (a.map V.d)=ajd (λa=>ajd V.d a) (b::(c++[a])):=by
 grind [aiI,List.set_append_right]
def Ss(R:Rd)(y:R.Wf)(ty:Nat->PR Ty)(p:Nat)(w:p<j' R.ts)(u:iW ty R p):
  b7 C cm zg [.bp 0 0] [ee R p] (Po R (fS ty R p)):=by
 have D:=y.len;refine cD ?_;refine sJ R p (R.tok p) [91] (cn w) 0 Z ?_;apply aZ<;>intro A
 ·have E:=y.step w A;refine b7.body aeN (λ_=>Z) ?_;intro J;refine kX R y [[91]] dc p w _ _ 0 Z ?_;rw[cw,X' A,cw];refine ck.iter (λ_:Nat×n_ Ty×n_ cP=>[(0,.bp 0 0),(1,.fn En [] [.bp 2 0,.bp 1 0])]) (λx=>ahx R x.1 x.2.2) (λx=>j' R.ts-x.1)
   (λx=>p<x.1/\x.1<j' R.ts/\j' x.2.2<=x.1/\dZ x.2.1 x.2.2/\∃f,j' R.ts-x.1<=f/\eO ty R (j' R.ts) [] (p+1)=eO ty R f x.2.1 x.1) ?_ (p+1,[],[]) ⟨by show p<p+1;omega,E,aiV _,.nil,_,by show (j' R.ts)-(p+1)<=j' R.ts;omega,rfl⟩
  rintro⟨i,l,b⟩ ⟨v,g,s,h,f,z,he⟩;have v:p<i:=v;have g:i<j' R.ts:=g;have s:j' b<=i:=s;have h:dZ l b:=h;have z:j' R.ts-i<=f:=z;have he:eO ty R (j' R.ts) [] (p+1)=eO ty R f l i:=he;obtain⟨f,rfl⟩:∃k,f=k+1:=⟨f-1,om⟩;have e:fS ty R p=eO ty R (f+1) l i:=by rw[fS,X' A,he]
  rw[eO]at e;cases b with
  |nil=>
   refine b7.body adW (λ_=>Z) ?_;intro G;refine cy ?_;refine u.call i om g 0 _ _ ?_ (λt I q1 e1 c=>?_) (λj H q1 e1=>?_)
   ·exact Z
   ·obtain⟨k,m,n,a,fl,rfl⟩:=c.dL;have⟨F,d⟩:=u.lt i t q1 om g e1;repeat first
     |refine bZ rfl ?_
     |refine cO ?_
    refine cp zo Z ?_;refine dj R q1 (R.tok q1) [44] (cn d) om 0 ?_ (λh2=>?_) (λh2=>?_)
    ·exact Z
    ·refine⟨(q1+1,l++[t],[[.int .i64 (ais k),.str m,.str n,a,fl]]),⟨by show p<q1+1;omega,y.step d h2,by show 1<=q1+1;omega,h.snoc c,f,by show (j' R.ts)-(q1+1)<=f;omega,?_⟩,?_,?_,Z,Z⟩
     ·exact Kq
     ·show (j' R.ts)-(q1+1)<j' R.ts-i;omega
     exact .same ⟨Z,Z,tv⟩ Z
    intro B;refine kX R y [[93]] dc q1 d _ _ 0 ?_ ?_
    ·exact Z
    cases q:cw R [[93]] q1 with
    |ok _ q2=>
     refine Pp (l:=l++[t]) (els:=[[.int .i64 (ais k),.str m,.str n,a,fl]]) 2 1 Z Z (h.snoc c) sm ?_;rw[e,e1];simp only[h2,q];rfl
    |bad j H=>
     intro q2;refine a8 1 ?_;rw[e,e1];simp only[h2,q];exact⟨q2,Z,Z⟩
   refine a8 1 ?_;rw[e,e1];exact⟨q1,Z,Z⟩
  |cons e0 r=>
   refine b7.body adW (λ_=>Z) ?_;intro G;refine cy ?_;refine u.call i om g 0 _ _ ?_ (λt I q1 e1 c=>?_) (λj H q1 e1=>?_)
   ·exact Z
   ·obtain⟨k,m,n,a,fl,rfl⟩:=c.dL;have⟨F,d⟩:=u.lt i t q1 om g e1;have o:j' r+1<=i:=s;refine a6 ?_ ?_
    ·repeat' (first|exact tv|exact rfl|exact aiy _|exact(MV o om rfl).1|exact(MV o om rfl).2|(simp only[List.length_map,aiF];omega)|refine bZ rfl ?_|refine And.intro ?_ ?_)
    refine a6 Z (a6 ⟨Z,Z,by simp,aiy _,MV o om Z⟩ ?_);refine a7 Z (a7 (ej (j' r+1)) ?_);refine a6 ?_ ?_
    ·exact Jy
    refine bZ Z ?_;refine a6 (Yv r) ?_;refine a6 ?_ ?_
    ·exact Jy
    refine cp zo (N7 e0 r) ?_;refine dj R q1 (R.tok q1) [44] (cn d) om 0 ?_ (λh2=>?_) (λh2=>?_)
    ·exact Z
    ·refine⟨(q1+1,l++[t],e0::(r++[[.int .i64 (ais k),.str m,.str n,a,fl]])),⟨by show p<q1+1;omega,y.step d h2,by show(r++[_]).length+1<=q1+1;simp;omega,h.snoc c,f,by show (j' R.ts)-(q1+1)<=f;omega,?_⟩,?_,?_,Z,Z⟩
     ·exact Kq
     ·show (j' R.ts)-(q1+1)<j' R.ts-i;omega
     refine .pick 3 [0,1,2,4] ⟨Z,Z,tv⟩ Z Z Z Z Z dc ⟨Z,Z,Z,Z,?_,Z,?_,fU _ _ _,tv⟩
     ·exact ack 4 5 r [.int .i64 (ais k),.str m,.str n,a,fl]
     rw[k9];exact KB
    intro B;refine kX R y [[93]] dc q1 d _ _ 0 ?_ ?_
    ·exact Z
    cases q:cw R [[93]] q1 with
    |ok _ q2=>
     refine Pp (l:=l++[t]) (els:=e0::(r++[[.int .i64 (ais k),.str m,.str n,a,fl]])) 3 (j' r+1+1) sm ?_ (h.snoc c) sm ?_
     ·exact KB
     rw[e,e1];simp only[h2,q];rfl
    |bad j H=>
     intro q2;refine a8 1 ?_;rw[e,e1];simp only[h2,q];exact⟨q2,Z,Z⟩
   refine a8 1 ?_;rw[e,e1];exact⟨q1,Z,Z⟩
 refine a8 1 ?_;rw[fS,W' (by rw[A];decide)];exact⟨Z,.cu,.nil,Z⟩
def yh(R:Rd)(r:R.Wf)(a:Nat->PR Ty)(c:Nat)(j:c<j' R.ts)(o:iW a R c)(g:Nat){b:VS}{k:dt->VS->Prop}(f:nth b g=q' (ee R c)) 
  (h1:∀l d q,fS a R c=.ok l q->ft l d->k (.ret (.d d)) (b.set g (ee R q))) (h2:∀off e q,fS a R c=.bad off e->k (.fJ (dX off e)) (b.set g (ee R q))):b7 C cm zg [.bp g 0] b k:=by
 refine b7.one (fk:=[.bp 0 0]) (P:=λm n=>Po R (fS a R c) m [.box n]) ((Ss R r a c j o).mono λm p h=>?_) g f Z Z Z (λm cs' h=>?_)
 ·have h':=h;unfold Po at h;exact JU
 unfold Po at h;exact Ja
def dE(c:Nat->PR Ty)(d:Rd)(g:Nat):PR Ty:=match cw d [[91]] g with
 |.bad a b=>.bad a b
 |.ok _ e=>match c e with
  |.bad a b=>.bad a b
  |.ok f q1=>match cw d [[93]] q1 with
   |.bad a b=>.bad a b
   |.ok _ q2=>.ok f q2
def tyK(f:Rd)(g:PR Ty)(e:dt)(b:n_ V):Prop:=match g with
 |.ok h c=>b=zl f c/\∃d,fF h d/\e=.ret (.agg (d.map V.d))
 |.bad a i=>∃c,b=zl f c/\e=.fJ (dX a i)
def ahy:Nat->Bool:=λa=>aiT a 5||aiT a 10
theorem dI{f:Rd}:∀(a:n_ cC) (c b:Nat),cw f a c=.ok () b->b=c+j' a:=by
 intro a;induction a with
 |nil=>intro c b d;cases d;rfl
 |cons s a e=>
  all_goals grind [cw,aiF]
def Io(e:Rd)(q:e.Wf)(m:Nat->PR Ty)(h:Nat)(l:h<j' e.ts)(j:iW m e h):
  b7 C cm tX [.bp 0 0] [ee e h] λr n=>∃c,n=[.box c]/\da r=A'/\hP 0 c=A'/\tyK e (dE m e h) r c:=by
 refine cB ahy (λ_=>Z) ?_;intro B;refine kX e q [[91]] dc h l _ _ 0 Z ?_;cases b:cw e [[91]] h with
 |bad f s=>
  intro o;refine a8 1 ⟨_,Z,Z,Z,?_⟩;rw[dE,b];exact⟨o,Z,Z⟩
 |ok _ o=>
  have k:=eo q _ _ _ l b;have a:=dI _ _ _ b;have a:h<=o:=by rw[a];omega
  refine j.call o a k 0 _ _ ?_ (λw z q1 d i=>?_) (λf s q1 d=>?_)
  ·exact Z
  ·obtain⟨y,D,A,x,v,rfl⟩:=i.dL;have⟨u,p⟩:=j.lt o w q1 a k d;intro t;refine kX e q [[93]] dc q1 p _ _ 0 ?_ ?_
   ·exact Z
   cases g:cw e [[93]] q1 with
   |bad f s=>
    intro q2;refine a8 1 ⟨_,Z,Z,Z,?_⟩;rw[dE,b];simp only[d,g];exact⟨q2,Z,Z⟩
   |ok _ q2=>
    refine a8 1 ⟨_,Z,Z,Z,?_⟩;rw[dE,b];simp only[d,g];exact⟨Z,_,i,Z⟩
  refine a8 1 ⟨_,Z,Z,Z,?_⟩;rw[dE,b];simp only[d];exact⟨q1,Z,Z⟩
end Go.Proofs.YtdocmpeionacbaaGreatDoor
namespace Go.VM
open Go.AM
theorem Gw{a b:UInt8}{d c:cC}:cS (a::d) (b::c)=A'↔a.toNat<b.toNat∨(a=b/\cS d c=A'):=by
 simp only[cS];rcases Nat.lt_trichotomy a.toNat b.toNat with h|h|h
 ·grind [Nat.blt_eq]
 ·have g:a=b:=UInt8.toNat_inj.1 h;subst g;have:ajh a.toNat a.toNat=B':=by rw[aiX];intro h;rw[Nat.blt_eq]at h;omega
  grind [Nat.beq_refl]
 have f:ajh a.toNat b.toNat=B':=by rw[aiX];intro h;rw[Nat.blt_eq]at h;omega
 have e:aiT a.toNat b.toNat=B':=by rw[aiX];intro h;rw[Nat.beq_eq]at h;omega
 all_goals grind
theorem MW:∀a:cC,cS a a=B':=by
 intro a;induction a with
 |nil=>rfl
 |cons d a c=>
  rw[aiX];intro b;rcases Gw.1 b with b|⟨_,b⟩
  ·omega
  rw[c]at b;cases b
theorem zQ:∀e c a:cC,cS e c=A'->cS c a=A'->cS e a=A':=by
 intro e;induction e with
 |nil=>
  intro c a d b;cases a with
  |nil=>cases c<;>cases b
  |cons a f=>rfl
 |cons i e g=>
  intro c a d b;cases c with
  |nil=>cases d
  |cons h c=>
   cases a with
   |nil=>cases b
   |cons f a=>
    all_goals grind [Gw]
theorem Br:∀b a:cC,cS b a=B'->b≠a->cS a b=A':=by
 intro b;induction b with
 |nil=>
  intro a d c;cases a with
  |nil=>exact Y' rfl c
  |cons e a=>cases d
 |cons g b f=>
  intro a d c;cases a with
  |nil=>rfl
  |cons e a=>
   all_goals grind [Gw,UInt8.toNat_inj.1]
section
variable{α:Type} {key:α->cC}
def nJ(key:α->cC)(b:n_ α):Prop:=b.Pairwise λa c=>cS (key a) (key c)=A'
theorem nJ.OD:∀{b a:n_ α},b.Perm a->nJ key b->nJ key a->b=a:=by
 intro b;induction b with
 |nil=>intro a e _ _;exact e.nil_eq
 |cons k m f=>
  intro a e h g;cases a with
  |nil=>exact Y' e.symm.nil_eq sm
  |cons j i=>
   have c:=aiQ.1 h;have d:=aiQ.1 g;have l:k=j:=by
    all_goals grind [MW,ai3.1,zQ]
   subst l;rw[f e.cons_inv c.2 d.2]
def kI(key:α->cC)(a:α):n_ α->n_ α
 |[]=>[a]
 |x::b=>if cS (key x) (key a)then x::kI key a b else a::x::b
def cz(key:α->cC)(c:n_ α):n_ α:=c.foldl (λa b=>kI key b a) []
theorem yi(c:α):∀a:n_ α,(kI key c a).Perm (c::a):=by
 intro a;induction a with
 |nil=>exact .refl _
 |cons d e b=>
  simp only[kI];split
  ·exact(b.cons d).trans (.swap c d e)
  exact .refl _
theorem Zy{i:α}:∀{c:n_ α},nJ key c->(∀e∈c,key e≠key i)->nJ key (kI key i c):=by
 intro c;induction c with
 |nil=>intro _ _;exact List.pairwise_singleton _ _
 |cons e l h=>
  intro j b;have g:=aiQ.1 j;simp only[kI];split
  ·rename_i d;refine aiQ.2 ⟨λf a=>?_,h g.2 (λf a=>b f (by simp[a]))⟩;all_goals grind [ai3.1,yi]
  rename_i d;have k:cS (key i) (key e)=A':=Br _ _ (by simpa using d) (b e sm);refine aiQ.2 ⟨λf a=>?_,j⟩;all_goals grind [ai3.1,zQ]
def xg(b:n_ α)(a:α):cz key (b++[a])=kI key a (cz key b):=by
 simp[cz,List.foldl_append]
def MX:∀(c b:n_ α),(c.foldl (λb d=>kI key d b) b).Perm (b++c):=by
 intro c;induction c with
 |nil=>intro b;simp
 |cons d c e=>
  intro b;refine(e _).trans ?_;refine((yi d b).append_right c).trans ?_;exact(List.perm_middle (l₁:=b) (l₂:=c) (a:=d)).symm
theorem Pq:∀(b a:n_ α),nJ key a->((a++b).map key).Nodup->nJ key (b.foldl (λa e=>kI key e a) a):=by
 intro b;induction b with
 |nil=>intro a d _;exact d
 |cons e b c=>
  intro a d g;refine c _ (Zy d λi h f=>?_) ?_
  ·grind [aiG,List.mem_map.2]
  grind [List.perm_middle,yi]
theorem dU(a:n_ α):(cz key a).Perm a:=MX (key:=key) a []
theorem ii{a:n_ α}(b:(a.map key).Nodup):nJ key (cz key a):=Pq a [] List.Pairwise.nil (by simpa using b)
def DT{a c:n_ α}(e:(a.map key).Nodup)(b:c.Perm a)(d:nJ key c):c=cz key a:=
 nJ.OD (b.trans (dU a).symm) d (ii e)
def nJ.rN{h:n_ α}(k:nJ key h){d g:Nat}{j i:α}(b:h[d]?=q' j)(f:h[g]?=q' i)(a:d<g):cS (key j) (key i)=A':=by
 obtain⟨e,rfl⟩:=ai5.1 b;obtain⟨c,rfl⟩:=ai5.1 f;exact(List.pairwise_iff_getElem.1 k) d g e c a
theorem nJ.le_of_le{g:n_ α}(i:nJ key g){c f:Nat}{d b:α}(a:g[c]?=q' d)(e:g[f]?=q' b)(h:c<=f):d=b∨cS (key d) (key b)=A':=by
 rcases ajb c f with h1|h1
 ·exact .inr (i.rN a e h1)
 grind
theorem Li{d b c a:α}(f:d=b∨cS (key d) (key b)=A')(e:cS (key b) (key c)=A')(g:c=a∨cS (key c) (key a)=A'):cS (key d) (key a)=A':=by
 all_goals grind [zQ]
theorem aeO{h i:n_ α}(p:nJ key h)(n:nJ key i)(k l:Nat)(x:k<=j' h)(w:l<=j' i) 
  (u:∀c j,0<k->h[k-1]?=q' c->i[l]?=q' j->cS (key c) (key j)=A')
  (t:∀c j,0<l->i[l-1]?=q' c->h[k]?=q' j->cS (key c) (key j)=A'):
  ∀c∈h.take k++i.take l,∀j∈h.drop k++i.drop l,cS (key c) (key j)=A':=by
 intro c b j a;have e:∀{q:n_ α} {o:Nat} {c:α},c∈q.take o->∃m,m<o/\q[m]?=q' c:=by
  intro q o c v;have⟨m,r⟩:=ai2 v;all_goals grind
 have d:∀{q:n_ α} {o:Nat} {c:α},c∈q.drop o->∃m,o<=m/\q[m]?=q' c:=by
  intro q o c v;have⟨m,r⟩:=ai2 v
  grind
 rcases aje.1 b with b|b<;>rcases aje.1 a with a|a<;>have⟨m,r,b⟩:=e b<;>have⟨y,s,a⟩:=d a
 ·exact p.rN b a om
 ·have f:k-1<j' h:=om;have g:l<j' i:=by
   grind
  exact Li (p.le_of_le b (ait f) om) (u _ _ om (ait f) (ait g)) (n.le_of_le (ait g) a s)
 ·have f:l-1<j' i:=om;have g:k<j' h:=by
   grind
  exact Li (n.le_of_le b (ait f) om) (t _ _ om (ait f) (ait g)) (p.le_of_le (ait g) a s)
 exact n.rN b a om
def nJ.take{a:n_ α}(c:nJ key a)(b:Nat):nJ key (a.take b):=List.Pairwise.sublist (List.take_sublist b a) c
def nJ.drop{a:n_ α}(c:nJ key a)(b:Nat):nJ key (a.drop b):=List.Pairwise.sublist (List.drop_sublist b a) c
theorem Zz{b a c d:n_ α}(j:nJ key b)(g:nJ key a)(e:b.Perm c)(h:a.Perm d)(m:∀k∈c,∀i∈d,cS (key k) (key i)=A'):nJ key (b++a):=
 ai9.2 ⟨j,g,λk f i l=>m k (e.subset f) i (h.subset l)⟩
def Pr(b a:n_ α)(c d:Nat):((b.take c++a.take d)++(b.drop c++a.drop d)).Perm (b++a):=by
 have e:b++a=b.take c++(b.drop c++(a.take d++a.drop d)):=by rw[aiA,<-aiv,aiA]
 rw[e,aiv];refine List.Perm.append_left _ ?_;rw[<-aiv,<-aiv];exact List.Perm.append_right _ List.perm_append_comm
end
end Go.VM
namespace Go.Proofs.YtdocmpeionacbaaGreatDoor
open Go.AM Go.VM
abbrev oK:=cC×Ty×Bool
structure FE where
 n:cC
 k:Nat
 m:cC
 nm:cC
 a:D
 f:D
 o:Bool
 v:cC
 w:D
def FE.ty(a:FE):cP:=[.int .i64 (ais a.k),.str a.m,.str a.nm,a.a,a.f]
def fe(a:FE):cP:=[.str a.n,.int .i64 (ais a.k),.str a.m,.str a.nm,a.a,a.f,.bool a.o]
def rows(a:n_ FE):n_ (n_ V):=(a.map fe).map λb=>b.map V.d
def fw(a:FE):V:=.agg [.d (.str a.n),.d (.int .i64 (ais a.k)),.d (.str a.m),.d (.str a.nm),.d a.a,.d a.f,.d (.bool a.o)]
def pe(a:FE):cP:=[.str a.n,.str a.v,.int .i64 (ais a.k),.str a.m,.str a.nm,a.a,a.f,.bool a.o,a.w]
def pw(a:FE):V:=.agg [.d (.str a.n),.d (.str a.v),.d (.int .i64 (ais a.k)),.d (.str a.m),.d (.str a.nm),.d a.a,.d a.f,.d (.bool a.o),.d a.w]
inductive po:List oK->List FE->Prop
 |nil:po [] []
 |cons {t:Ty} {x:FE} {l:List oK} {xs:List FE} (h:fF t x.ty) (hl:po l xs):po ((x.n,t,x.o)::l) (x::xs)
def po.snoc{b:n_ oK}{a:n_ FE}{h:Ty}{x:FE}(g:po b a)(f:fF h x.ty):po (b++[(x.n,h,x.o)]) (a++[x]):=by
 induction b generalizing a with
 |nil=>cases g;exact .cons f .nil
 |cons i b c=>cases g with|cons e d=>exact .cons e (c d)
def po.fls{b:n_ oK}{a:n_ FE}(f:po b a):xf b (a.map fe):=by
 induction b generalizing a with
 |nil=>cases f;exact .nil
 |cons g b c=>cases f with|cons e d=>exact .cons e (c d)
def po.names{b:n_ oK}{a:n_ FE}(e:po b a):a.map FE.n=b.map (·.1):=by
 induction b generalizing a with
 |nil=>cases e;rfl
 |cons g b c=>cases e with|cons f d=>simp only[aiO,c d]
def po.len{b:n_ oK}{a:n_ FE}(c:po b a):j' a=j' b:=by
 have:=d_ j' c.names;simpa using this
def po.ins{d:n_ oK}{xs:n_ FE}{t:Ty}{x:FE}(f:po d xs)(c:fF t x.ty):po (kI (·.1) (x.n,t,x.o) d) (kI FE.n x xs):=by
 induction d generalizing xs with
 |nil=>cases f;exact .cons c .nil
 |cons g d e=>
  cases f with
  |cons b a=>
   simp only[kI];split
   ·exact .cons b (e a)
   exact .cons c (.cons b a)
def po.aeP{d:n_ oK}{a:n_ FE}(f:po d a):po (cz (·.1) d) (cz FE.n a):=by
 have:∀{d:n_ oK} {a:n_ FE} {g:n_ oK} {c:n_ FE},po d a->po g c->po (d.foldl (λb k=>kI (·.1) k b) g) (a.foldl (λb k=>kI FE.n k b) c):=by
  intro d;induction d with
  |nil=>intro a g c f e;cases f;exact e
  |cons m d h=>
   intro a g c f e;cases f with
   |cons j i=>have l:=h i (e.ins j);exact l
 exact this f .nil
structure ij where
 n:cC
 v:cC
 ty:Ty
 lM:Bool
inductive Ex where
 |mk (k:Nat) (m n x:cC) (num:Int) (types:List Ty) (labels:List ij) (kids:List Ex)
def Ip(a:ij)(b:cP):cP:=.str a.n:: .str a.v::(b++[.bool a.lM])
inductive od:List ij->List cP->Prop
 |nil:od [] []
 |cons {l:ij} {d:cP} {ls:List ij} {els:List cP} (h:fF l.ty d) (hl:od ls els):od (l::ls) (Ip l d::els)
inductive e9:List ij->D->Prop
 |nil:e9 [] .cu
 |ps {b o cap:Nat} {l:List ij} {els:List cP} (h:od l els):e9 l (.ps b o 8 cap els)
mutual
inductive iz:Ex->cP->Prop
 |mk {k:Nat} {m n x:cC} {num:Int} {types:List Ty} {labels:List ij} {kids:List Ex} {ty lb kd:D} (ht:ft types ty) (hl:e9 labels lb) (hk:gn kids kd):
   iz (.mk k m n x num types labels kids) [.int .i64 (ais k),.str m,.str n,.str x,.int .i64 num,ty,lb,kd]
inductive gn:List Ex->D->Prop
 |nil:gn [] .cu
 |ps {b o cap:Nat} {l:List Ex} {els:List cP} (h:ir l els):gn l (.ps b o 8 cap els)
inductive ir:List Ex->List cP->Prop
 |nil:ir [] []
 |cons {e:Ex} {d:cP} {l:List Ex} {els:List cP} (h:iz e d) (hl:ir l els):ir (e::l) (d::els)
end
def ir.snoc{b:n_ Ex}{a:n_ cP}{i:Ex}{g:cP}(h:ir b a)(c:iz i g):ir (b++[i]) (a++[g]):=by
 induction b generalizing a with
 |nil=>cases h;exact .cons c .nil
 |cons j b d=>cases h with|cons f e=>exact .cons f (d e)
def ir.Wm{l c:n_ Ex}{els b:n_ cP}(h:ir l els)(h':ir c b):ir (l++c) (els++b):=by
 exact Kj
def ir.len{l:n_ Ex}{els:n_ cP}(h:ir l els):j' els=j' l:=by
 exact xL
def od.snoc{b:n_ ij}{a:n_ cP}{g:ij}{h:cP}(i:od b a)(c:fF g.ty h):od (b++[g]) (a++[Ip g h]):=by
 induction b generalizing a with
 |nil=>cases i;exact .cons c .nil
 |cons x b d=>cases i with|cons f e=>exact .cons f (d e)
def od.len{l:n_ ij}{els:n_ cP}(h:od l els):j' els=j' l:=by
 exact xL
def e9.inv{c:n_ ij}{b:D}(h:e9 c b):(c=[]/\b=.cu)∨∃d f e a,b=.ps d f 8 e a/\od c a:=by
 exact Cn
def gn.inv{c:n_ Ex}{b:D}(h:gn c b):(c=[]/\b=.cu)∨∃d f e a,b=.ps d f 8 e a/\ir c a:=by
 exact Cn
def iz.eight{k:Ex}{e:cP}(h:iz k e):∃i j g f a c d b,e=[.int .i64 (ais i),.str j,.str g,.str f,.int .i64 a,c,d,b]:=by
 cases h with|mk _ _ _=>exact⟨_,_,_,_,_,_,_,_,rfl⟩
structure dg where
 n:cC
 v:cC
 ty:Ty
 lM:Bool
 val:List Ex
def dg.rO(a:dg):ij:=⟨a.n,a.v,a.ty,a.lM⟩
inductive l0:List dg->List FE->Prop
 |nil:l0 [] []
 |cons {p:dg} {x:FE} {l:List dg} {xs:List FE} (hn:p.n=x.n) (hv:p.v=x.v) (ho:p.lM=x.o) (ht:fF p.ty x.ty) (hw:gn p.val x.w) (hl:l0 l xs):l0 (p::l) (x::xs)
def l0.snoc{b:n_ dg}{a:n_ FE}{p:dg}{x:FE}(o:l0 b a)(n:p.n=x.n)(f:p.v=x.v)(e:p.lM=x.o)(l:fF p.ty x.ty)(c:gn p.val x.w):l0 (b++[p]) (a++[x]):=by
 induction b generalizing a with
 |nil=>cases o;exact .cons n f e l c .nil
 |cons q b g=>cases o with|cons j h m i k d=>exact .cons j h m i k (g d)
def l0.names{b:n_ dg}{a:n_ FE}(f:l0 b a):a.map FE.n=b.map dg.n:=by
 induction b generalizing a with
 |nil=>cases f;rfl
 |cons k b d=>cases f with|cons e g j h i c=>simp[d c,e]
def l0.len{b:n_ dg}{a:n_ FE}(c:l0 b a):j' a=j' b:=by
 have:=d_ j' c.names;simpa using this
def l0.ins{m:n_ dg}{xs:n_ FE}{c:dg}{x:FE}(o:l0 m xs)(b:c.n=x.n)(g:c.v=x.v)(f:c.lM=x.o)(k:fF c.ty x.ty)(d:gn c.val x.w):l0 (kI dg.n c m) (kI FE.n x xs):=by
 induction m generalizing xs with
 |nil=>cases o;exact .cons b g f k d .nil
 |cons p m n=>
  cases o with
  |cons a h l i j e=>
   simp only[kI];rw[b,a];split
   ·exact .cons a h l i j (n e)
   exact .cons b g f k d (.cons a h l i j e)
def l0.aeP:∀{d:n_ dg} {a:n_ FE},l0 d a->l0 (cz dg.n d) (cz FE.n a):=by
 have key:∀(d:n_ dg) (a:n_ FE) (g:n_ dg) (f:n_ FE),l0 d a->l0 g f->l0 (d.foldl (λc o=>kI dg.n o c) g) (a.foldl (λc o=>kI FE.n o c) f):=by
  intro d;induction d with
  |nil=>intro a g f e b;cases e;exact b
  |cons p d i=>
   intro a g f e b;cases e with
   |cons l j n k m h=>
    simp only[List.foldl_cons];exact i _ _ _ h (b.ins l j n k m)
 intro d a e;exact key d a [] [] e .nil
theorem l0.get{a:n_ dg}{b:n_ FE}(l:l0 a b){i:Nat}(j:i<j' a):∃c,b[i]?=q' c/\a[i].n=c.n/\a[i].v=c.v/\a[i].lM=c.o/\fF a[i].ty c.ty/\gn a[i].val c.w:=by
 induction a generalizing b i with
 |nil=>simp at j
 |cons n a m=>
  cases l with
  |cons f d h e g k=>
   cases i with
   |zero=>exact⟨_,rfl,f,d,h,e,g⟩
   |succ i=>
    simp_all
def j9(d:Nat)(c:cC)(types:n_ Ty)(a:n_ Ex)(b:n_ dg):Ex:=.mk d [] c [] 0 types ((cz dg.n b).map dg.rO) (a++(cz dg.n b).flatMap dg.val)
end Go.Proofs.YtdocmpeionacbaaGreatDoor
namespace Go.VM
open Go.AM
section
variable{α:Type} {key:α->cC}
theorem MY(a e h:n_ α)(c b:α)(g i:Nat)(f:g=j' a)(d:i=j' a+1+j' e):((a++c::(e++b::h)).set g b).set i c=a++b::(e++c::h):=by
 subst f;subst d
 grind
def Ps(a d g:n_ α)(c b:α)(f h:Nat)(i:f=j' a)(e:h=j' a+1+j' d):((a++c::(d++b::g)).set h c).set f b=a++b::(d++c::g):=by
 rw[List.set_comm _ _ om,MY a d g c b f h i e]
theorem va(b d:n_ α)(a:α)(c:Nat)(e:c=j' b):(b++a::d)[c]?=q' a:=by
 grind
theorem Bs(b c g:n_ α)(e a:α)(d:Nat)(f:d=j' b+1+j' c):(b++e::(c++a::g))[d]?=q' a:=by
 grind [va]
def Su(b:n_ α)(a:Nat)(d:a<=j' b):∃c e,b=c++e/\j' c=a:=
 ⟨b.take a,b.drop a,(aiA a b).symm,by simp[d]⟩
def ZA(d:n_ α)(e:0<j' d):∃b a,d=b++[a]:=by
 rcases List.eq_nil_or_concat d with c|⟨b,a,c⟩
 ·subst c;simp at e
 exact⟨b,a,by simpa using c⟩
def Lj(c:n_ α)(d:0<j' c):∃b a,c=b::a:=by
 cases c with
 |nil=>simp at d
 |cons b a=>exact⟨b,a,rfl⟩
theorem Pt{b a:n_ α}{d:α}(g:nJ key (b++a))(f:∀c∈b,cS (key c) (key d)=A')(e:∀c∈a,cS (key d) (key c)=A'):nJ key (b++d::a):=by
 all_goals grind [nJ,aiQ.2,ai3.1]
def ZB{f:n_ α}{c g:α}(e:nJ key (f++[c]))(b:cS (key c) (key g)=A'):∀d∈f++[c],cS (key d) (key g)=A':=by
 intro d a;unfold nJ at e;rw[ai9]at e;rcases aje.1 a with a|a
 ·exact zQ _ _ _ (e.2.2 d a c sm) b
 simp at a;subst a;exact b
def Pu(b a:n_ α)(c:α):(b++c::a).Perm ((b++a)++[c]):=
 List.perm_middle.trans (List.perm_append_singleton c (b++a)).symm
theorem fg(a:n_ α):j' (cz key a)=j' a:=(dU a).length_eq
def pq{d b:n_ α}(e:(d.map key).Nodup)(a:b.Perm d)(c:nJ key b):cz key d=b:=(DT e a c).symm
def zR{c b:n_ α}(a:b.Perm c)(d:(c.map key).Nodup):(b.map key).Nodup:=((a.map key).nodup_iff).2 d
def Uo{b:n_ α}{l:α}(m:nJ key b)(e:Nat)(n:e<=j' b)(f:∀i,0<e->b[e-1]?=q' i->cS (key i) (key l)=A'):∀j∈b.take e,cS (key j) (key l)=A':=by
 intro j h;have⟨o,a⟩:=ai2 h;rw[List.getElem?_take]at a;split at a
 ·rename_i k;have c:e-1<j' b:=om;have d:=f _ om (ait c);rcases m.le_of_le a (ait c) om with rfl|g
  ·exact d
  exact zQ _ _ _ g d
 cases a
def Up{e:n_ α}{l:α}(m:nJ key e)(f:Nat)(g:∀i,e[f]?=q' i->cS (key l) (key i)=A'):∀k∈e.drop f,cS (key l) (key k)=A':=by
 intro k h;have⟨n,a⟩:=ai2 h;rw[ajj]at a;have j:=(ai5.1 a).1;have c:f<j' e:=om;have d:=g _ (ait c);rcases m.le_of_le (ait c) a om with b|b
 ·rw[<-b];exact d
 exact zQ _ _ _ d b
def Lk{h b a:n_ α}{c:α}(d:(b++c::a).Perm h)(i:(h.map key).Nodup)(j:nJ key (b++a))(g:∀e∈b,cS (key e) (key c)=A')(f:∀e∈a,cS (key c) (key e)=A'):cz key h=b++c::a:=
 pq i d (Pt j g f)
def Pv{a:n_ α}{e:α}(c:nJ key a)(i:((e::a).map key).Nodup)(b:Nat)(h:b<=j' a)(g:∀d,0<b->a[b-1]?=q' d->cS (key d) (key e)=A')(f:∀d,a[b]?=q' d->cS (key e) (key d)=A'):
  cz key (e::a)=a.take b++e::a.drop b:=
 Lk (List.perm_middle.trans (by rw[aiA])) i (by rw[aiA];exact c) (Uo c b h g) (Up c b f)
def Sv{a:n_ α}{e:α}(c:nJ key a)(i:((a++[e]).map key).Nodup)(b:Nat)(h:b<=j' a)(g:∀d,0<b->a[b-1]?=q' d->cS (key d) (key e)=A')(f:∀d,a[b]?=q' d->cS (key e) (key d)=A'):
  cz key (a++[e])=a.take b++e::a.drop b:=
 Lk ((Pu _ _ _).trans (by rw[aiA])) i (by rw[aiA];exact c) (Uo c b h g) (Up c b f)
theorem Wp{b a:n_ α}(m:nJ key b)(n:nJ key a)(h:((b++a).map key).Nodup)(d e:Nat)(j:d<=j' b)(l:e<=j' a) 
  (k:∀g f,0<d->b[d-1]?=q' g->a[e]?=q' f->cS (key g) (key f)=A')
  (i:∀g f,0<e->a[e-1]?=q' g->b[d]?=q' f->cS (key g) (key f)=A'):
  cz key (b++a)=cz key (b.take d++a.take e)++cz key (b.drop d++a.drop e)/\((b.take d++a.take e).map key).Nodup/\((b.drop d++a.drop e).map key).Nodup:=by
 have c:=zR (Pr b a d e) h;rw[aiS,aiG]at c;refine⟨pq h (((dU _).append (dU _)).trans (Pr b a d e)) ?_,c.1,c.2.1⟩
 grind [Zz,ii,dU,aeO]
end
section
variable{C:eN} {cU:r3}
theorem vb{D:D'}{fk d:n_ V}{b:Nat}{c:n_ (n_ V)}{P:dt->n_ (n_ V)->Prop}(r:b7 C cU D fk [.row b c] λh k=>∃a,k=[.row b a]/\da h=A'/\(∀g∈a,hP 0 g=A')/\P h a) 
  (n:Nat) {f:VS} {A:dt->VS->Prop} (l:nth f n=q' (.row b c)) (o:∀g∈c,hP 0 g=A') (i:hP 1 fk=A') (x:d=jh (kU [n] (j' f)) fk) (s:∀h a,P h a->A h (f.set n (.row b a))):
  b7 C cU D d f A:=by
 have e:∀(j:Nat->Nat) (p:n_ (n_ V)),(∀g∈p,hP 0 g=A')->eb j (.row b p)=.row b p:=by
  intro j p m;simp only[eb];congr 1;conv=>rhs;rw[<-aji p]
  grind [aiP,gu]
 refine r.frame [n] Z sm (λB z m=>?_) i x (λv t m _=>?_)
 ·cases B with
  |zero=>
   obtain rfl:n=z:=by simpa using m
   refine⟨.row b c,Z,?_,?_⟩
   ·rw[<-cx,l,e _ _ o]
   simp only[gP,aiL];exact λg y=>ig 1 g (o g y)
  |succ B=>simp at m
 obtain⟨a,rfl,q,w,u⟩:=m;rw[oc _ _ q];simp only[aiO,ajc,e _ _ w,merge,aiU];exact s v a u
end
end Go.VM
namespace Go.Proofs.YtdocmpeionacbaaGreatDoor
open Go.AM Go.VM
theorem sL(b:n_ FE):∀a∈rows b,hP 0 a=A':=by
 grind [rows,ai8,sK]
def kG(a:n_ FE):j' (rows a)=j' a:=by simp[rows]
def ew:Bool->Nat
 |false=>7
 |true=>9
def B2:Bool->FE->cP
 |false,a=>fe a
 |true,a=>pe a
def elw:Bool->FE->V
 |false,a=>fw a
 |true,a=>pw a
def dW(c:Bool)(a:n_ FE):n_ (n_ V):=(a.map (B2 c)).map λb=>b.map V.d
def p0:Bool->V
 |false=>.fn sG [] []
 |true=>.fn vD [] []
def aga:Bool->D'
 |false=>mu
 |true=>lX
def agb:Bool->D'
 |false=>oa
 |true=>mX
def agc:Bool->D'
 |false=>li
 |true=>kH
def Wq:Bool->D'
 |false=>mW
 |true=>mi
def ahz:Bool->D'
 |false=>n9
 |true=>mV
def ahA:Bool->D'
 |false=>nI
 |true=>mr
abbrev DU{a b:Bool}(_:a=b):Bool:=a
def N6{a:Bool}(c:n_ FE)(d:Nat)(b:FE):(dW a c).set d ((B2 a b).map V.d)=dW a (c.set d b):=by
 simp only[dW,List.map_set]
theorem iX{c:Bool}{d:n_ FE}{b:Nat}{a:FE}(e:d[b]?=q' a):nth (dW c d) b=q' ((B2 c a).map V.d):=by
 grind [cx,dW]
theorem DV{b:Bool}(c:n_ FE):∀a∈dW b c,hP 0 a=A':=by
 grind [dW,ai8,sK]
theorem Ev(d:Bool)(e b f c g:n_ FE)(Q:j' b=j' c)(m i l t:Nat)(N:m=j' (e++(b++(f++(c++g)))))(Y:i=j' e)(S:l=j' e+(j' b+j' f))(T:t=j' b)(W:m<4294967296):
  b7 C cm (aga d) [.ms 0 (ew d) 0 m m,cl i,cl l,cl t,(p0 d)] [.row (ew d) (dW d (e++(b++(f++(c++g)))))] λR B=>B=[.row (ew d) (dW d (e++(c++(f++(b++g)))))]/\R=.ret (.dP []):=by
 have L:d=d:=rfl;cases d;all_goals
  let d:Bool:=DU L
  have P:m=j' e+(j' b+(j' f+(j' c+j' g))):=by rw[N];simp
  refine cA ?_;refine ck.iter (λa:Nat=>[(0,.ms 0 (ew d) 0 m m),(1,cl i),(2,cl l),(3,cl t),(10,cl a)]) (λa=>[.row (ew d) (dW d (e++(c.take a++(b.drop a++(f++(b.take a++(c.drop a++g)))))))]) (λa=>t-a) (λa=>a<=t) ?_ 0 (aiV _);intro a X;apply aZ<;>intro J
  ·have o:a<t:=eK J;have p:a<j' b:=om;have q:a<j' c:=om;have O:b.drop a=b[a]::b.drop (a+1):=aiu p;have K:c.drop a=c[a]::c.drop (a+1):=aiu q;have w:b.take (a+1)=b.take a++[b[a]]:=by rw[aiW,ait p];rfl
   have y:c.take (a+1)=c.take a++[c[a]]:=by rw[aiW,ait q];rfl
   have D:j' (b.take a)=a:=by simp;omega
   have s:j' (c.take a)=a:=by simp;omega
   have E:j' (b.drop (a+1))=j' b-(a+1):=by simp
   have G:e++(c.take a++(b.drop a++(f++(b.take a++(c.drop a++g)))))=(e++c.take a)++b[a]::((b.drop (a+1)++(f++b.take a))++c[a]::(c.drop (a+1)++g)):=by rw[O,K];simp only[aiv,aiK,aiH]
   have F:e++(c.take (a+1)++(b.drop (a+1)++(f++(b.take (a+1)++(c.drop (a+1)++g)))))=(e++c.take a)++c[a]::((b.drop (a+1)++(f++b.take a))++b[a]::(c.drop (a+1)++g)):=by rw[w,y];simp only[aiv,aiK,aiH]
   have n:i+a=j' (e++c.take a):=by rw[aiB,s];omega
   have r:l+a=j' (e++c.take a)+1+j' (b.drop (a+1)++(f++b.take a)):=by simp only[aiB,s,D,E];omega
   have A:IntKind.i64.wrap (ais i+ais a)=ais (i+a):=dk om;have z:IntKind.i64.wrap (ais l+ais a)=ais (l+a):=dk om;have h:=va (e++c.take a) ((b.drop (a+1)++(f++b.take a))++c[a]::(c.drop (a+1)++g)) b[a] (i+a) n;have j:=Bs (e++c.take a) (b.drop (a+1)++(f++b.take a)) (c.drop (a+1)++g) b[a] c[a] (l+a) r;have gs:=MY (e++c.take a) (b.drop (a+1)++(f++b.take a)) (c.drop (a+1)++g) b[a] c[a] (i+a) (l+a) n r;rw[<-G]at h j gs;rw[<-F]at gs;generalize b[a]=U at h j gs;generalize c[a]=M at h j gs;dsimp only;generalize e++(c.take a++(b.drop a++(f++(b.take a++(c.drop a++g)))))=k at h j gs⊢;have v:nth (dW d k) (0+(i+a))=q' ((B2 d U).map V.d):=by rw[aiD];exact iX h
   have H:nth (dW d k) (0+(l+a))=q' ((B2 d M).map V.d):=by rw[aiD];exact iX j
   have u:nth ((dW d k).set (0+(i+a)) ((B2 d M).map V.d)) (0+(l+a))=q' ((B2 d M).map V.d):=by
    grind [cx]
   have I:i+a<m:=om;have x:l+a<m:=om;repeat first
    |refine bZ A ?_
    |refine bZ z ?_
    |refine a6 I ?_
    |refine a6 x ?_
    |refine cp _ u ?_
    |refine cp _ v ?_
    |refine cp _ H ?_
    |refine cO ?_
   refine⟨a+1,o,ik,.same ⟨Z,Z,Z,Z,int_eq (cF om),tv⟩ ?_,Z,Z⟩;exact xT
  have o:t<=a:=dK J;refine⟨?_,Z⟩;rw[aiI om,aiI om,aiz om,aiz om];simp;exact⟨Z,Z⟩
theorem gw{a b:Nat}(d:b<=a)(c:a<9223372036854775808):IntKind.i64.wrap (ais a-ais b)=ais (a-b):=by
 grind [aiw,wrap64]
def vi{a c:Int}{b:IntKind}(d:a=c):V.d (.int b a)=V.d (.int b c):=by rw[d]
theorem dne{a b:Nat}(c:(!decide (ais a=ais b))=A'):a≠b:=by
 grind
theorem ahB{a b:Nat}(c:(!decide (ais a=ais b))=B'):a=b:=by
 grind
def vd(a:Bool)(c b l m n:n_ FE)(i:j' b=j' m)(h o w s:Nat)(u:n_ FE)(q:u=c++(b++(l++(m++n))))(x:h=j' u)(y:o=j' c)(p:w=j' c+(j' b+j' l))(r:s=j' b)(v:h<4294967296) 
  {f d g:V} (k:f=cl o) (j:d=cl w) (e:g=cl s) {z:dt->VS->Prop} (t:z (.ret (.dP [])) [.row (ew a) (dW a (c++(m++(l++(b++n)))))]):b7 C cm (aga a) [.ms 0 (ew a) 0 h h,f,d,g,(p0 a)] [.row (ew a) (dW a u)] z:=by
 subst k j e q;refine(Ev a c b l m n i h o w s x y p r v).mono (λD A B=>?_);rw[B.1,B.2];exact t
def MZ(e:Bool)(p o r x:n_ FE)(G:0<j' o)(J:0<j' r)(k K n L:Nat)(H:k=j' (p++(o++(r++x))))(O:K=j' p)(I:n=j' p+j' o)(N:L=j' p+(j' o+j' r))(y:k<4294967296):
  b7 C cm (agb e) [.ms 0 (ew e) 0 k k,cl K,cl n,cl L,(p0 e)] [.row (ew e) (dW e (p++(o++(r++x))))] λM D=>D=[.row (ew e) (dW e (p++(r++(o++x))))]/\M=.ret (.dP []):=by
 have F:e=e:=rfl;cases e;all_goals
  let e:Bool:=DU F
  have B:k=j' p+(j' o+(j' r+j' x)):=by rw[H];simp
  refine cA ?_;refine ck.arr (fx:=[(0,.ms 0 (ew e) 0 k k),(2,cl n),(4,(p0 e)),(10,cl (j' o)),(11,cl (j' r))]) (gA:=[.row (ew e) (dW e (p++(o++(r++x))))]) (.same ⟨Z,Z,Z,int_eq (by rw[gw om om];congr 1;omega),int_eq (by rw[gw om om];congr 1;omega),tv⟩ Z) ?_;refine ck.iter (λf:n_ FE×n_ FE×n_ FE×n_ FE=>[(0,.ms 0 (ew e) 0 k k),(2,cl n),(4,(p0 e)),(10,cl (j' f.2.1)),(11,cl (j' f.2.2.1))]) (λf=>[.row (ew e) (dW e (f.1++(f.2.1++(f.2.2.1++f.2.2.2))))]) (λf=>j' f.2.1+j' f.2.2.1)
   (λf=>0<j' f.2.1/\0<j' f.2.2.1/\n=j' f.1+j' f.2.1/\k=j' f.1+(j' f.2.1+(j' f.2.2.1+j' f.2.2.2))/\p++(r++(o++x))=f.1++(f.2.2.1++(f.2.1++f.2.2.2))) ?_ (p,o,r,x) ⟨G,J,I,B,rfl⟩
  rintro⟨c,a,b,d⟩ ⟨u,t,q,l,v⟩;have u:0<j' a:=u;have t:0<j' b:=t;have q:n=j' c+j' a:=q;have l:k=j' c+(j' a+(j' b+j' d)):=l;have v:p++(r++(o++x))=c++(b++(a++d)):=v;apply aZ<;>intro E
  ·have m:=dne E;apply aZ<;>intro A
   ·have s:j' b<j' a:=eK A;obtain⟨h,g,rfl,w⟩:=Su a (j' b) om;simp only[aiB]at u q l m s;refine vd e c h g b d w k (n-j' (h++g)) n (j' b) _ sm (by simp;omega) (by simp;omega) om om y (vi (gw (by simp;omega) om)) Z Z ?_;refine⟨(c++b,g,h,d),⟨by show 0<j' g;omega,by show 0<j' h;omega,by show n=j' (c++b)+j' g;simp;omega,by show k=j' (c++b)+(j' g+(j' h+j' d));simp;omega,?_⟩,by show (j' g)+j' h<j' (h++g)+j' b;simp;omega,.same ⟨Z,Z,Z,int_eq ?_,int_eq (by rw[w]),tv⟩ ?_,Z,Z⟩
    ·show _=(c++b)++(h++(g++d));rw[v];simp
    ·rw[gw (by simp;omega) (by simp;omega)];congr 1;simp;omega
    show [cX.row (ew e) (dW e (c++(b++(g++(h++d)))))]=[.row (ew e) (dW e ((c++b)++(g++(h++d))))];rw[aiv]
   have s:j' a<=j' b:=dK A;obtain⟨j,i,rfl,z⟩:=Su b (j' b-j' a) om;simp only[aiB]at t l m s z;refine vd e c a j i d om k (n-j' a) (n+j' (j++i)-j' a) (j' a) _ sm (by simp;omega) om (by simp;omega) Z y (vi (gw om om)) (vi ?_) Z ?_
   ·rw[dk (by simp;omega),gw (by simp;omega) (by simp;omega)]
   refine⟨(c,i,j,a++d),⟨by show 0<j' i;omega,by show 0<j' j;omega,by show n=j' c+j' i;omega,by show k=j' c+(j' i+(j' j+j' (a++d)));simp;omega,?_⟩,by show (j' i)+j' j<j' a+j' (j++i);simp;omega,.same ⟨Z,Z,Z,int_eq (d_ ais (show (j' a)=j' i by omega)),int_eq ?_,tv⟩ Z,Z,Z⟩
   ·show _=c++(j++(i++(a++d)));rw[v];simp
   rw[gw (by simp;omega) (by simp;omega)];congr 1;simp;omega
  have m:=ahB E;refine vd e c a [] b d m k (n-j' a) n (j' a) _ sm (by simp;omega) om (by simp;omega) Z y (vi (gw om om)) Z Z ?_;refine⟨?_,Z⟩;rw[v];rfl
def aeQ(a b:cC):C.ext gl ([D.str a,D.str b].map cK)=q' (cK (.int .i64 (AL a b))):=by
 exact KN
def Sw(c b:cC){a:VS}{e:dt->VS->Prop}(d:e (.ret (.d (.int .i64 (AL c b)))) a):b7 C cm sF [cv c,cv b] a e:=by
 refine cA ?_;refine cA ?_;refine zI (.int .i64 (AL c b)) (aeQ c b) Z ?_;exact d
theorem DW{a b:cC}:decide (AL a b<0)=cS a b:=by
 grind [AL]
def yj(b:Bool)(d c:FE){a:VS}{f:dt->VS->Prop}(e:f (.ret (.d (.int .i64 (AL d.n c.n)))) a):b7 C cm (match b with|false=>sG|true=>vD) [elw b d,elw b c] a f:=by
 cases b;all_goals
  refine cI ?_ Z Z e;refine cD ?_;refine Sw d.n c.n ?_;refine cV.drop 0 ?_ ?_ ?_ ?_
  ·exact Z
  ·exact Z
  ·exact Z
  exact cV.now Z ⟨Z,Z⟩
def agd(b:Bool)(a e c d:Nat):Tm:=[(0,.ms 0 (ew b) 0 a a),(1,cl e),(2,cl c),(3,(p0 b)),(8,cl d)]
def adX(b:Bool)(a e c d f:Nat):Tm:=[(0,.ms 0 (ew b) 0 a a),(1,cl e),(2,cl c),(3,(p0 b)),(8,cl d),(9,cl f)]
theorem Ew(d:Bool)(j b m:n_ FE)(ao:(b.map FE.n).Nodup)(B h S:Nat)(aj:B=j' (j++(b++m)))(W:h=j' j)(ar:S=j' j+j' b)(av:B<4294967296):
  b7 C cm (agc d) [.ms 0 (ew d) 0 B B,cl h,cl S,(p0 d)] [.row (ew d) (dW d (j++(b++m)))] λaq ad=>ad=[.row (ew d) (dW d (j++(cz FE.n b++m)))]/\aq=.ret (.dP []):=by
 have hw:d=d:=rfl;cases d;all_goals
  let d:Bool:=DU hw
  have al:B=j' j+(j' b+j' m):=by rw[aj];simp
  refine cA ?_;have ak:cz FE.n (b.take 1)=b.take 1:=by cases b<;>rfl
  refine ck.arr (fx:=agd d B h S (h+1)) (gA:=[.row (ew d) (dW d (j++(cz FE.n (b.take 1)++(b.drop 1++m))))]) (.same ⟨Z,Z,Z,Z,int_eq (cF om),tv⟩ ?_) ?_
  ·show [cX.row (ew d) (dW d (j++(b++m)))]=_;rw[ak,<-aiv (b.take 1),aiA]
  refine ck.iter (λc:Nat=>agd d B h S (h+c)) (λc=>[.row (ew d) (dW d (j++(cz FE.n (b.take c)++(b.drop c++m))))]) (λc=>j' b-c) (λc=>1<=c/\(c<=j' b∨c=1)) ?_ 1 ⟨aiy _,.inr Z⟩;rintro c ⟨ap,an⟩;apply aZ<;>intro af
  ·have l:c<j' b:=by have:=eK af;omega
   have L:b[c]?=q' b[c]:=ait l;have x:b.take (c+1)=b.take c++[b[c]]:=by rw[aiW,L];rfl
   have J:b.drop c=b[c]::b.drop (c+1):=aiu l;have t:((b.take (c+1)).map FE.n).Nodup:=by
    grind [List.map_take,List.take_sublist]
   generalize b[c]=k at x J L;have T:((b.take c).map FE.n).Nodup:=by rw[x,aiS,aiG]at t;exact t.1
   have Y:∀f∈b.take c,f.n≠k.n:=by
    grind [aiG,ai4]
   have z:=ii (key:=FE.n) T;have I:=dU (key:=FE.n) (b.take c);have w:j' (cz FE.n (b.take c))=c:=by rw[fg];simp;omega
   have H:∀f∈cz FE.n (b.take c),f.n≠k.n:=λf ah=>Y f (I.subset ah);have q:∀i e,i++e=cz FE.n (b.take c)->(∀f∈i,cS f.n k.n=A')->(∀f∈e,cS k.n f.n=A')->cz FE.n (b.take (c+1))=i++k::e:=by
    intro i e g ag o;refine pq t ?_ (Pt (by rw[g];exact z) ag o);rw[x];refine(Pu i e k).trans ?_;rw[g];exact I.append_right _
   generalize cz FE.n (b.take c)=M at z w H q;have am:j' (b.drop (c+1))=j' b-(c+1):=by simp
   refine ck.arr (fx:=adX d B h S (h+c) (h+j' M)) (gA:=[.row (ew d) (dW d (j++(M++(k::([]++(b.drop (c+1)++m))))))]) (.same ⟨Z,Z,Z,Z,Z,by rw[w];rfl,tv⟩ ?_) ?_
   ·show [cX.row (ew d) (dW d (j++(M++(b.drop c++m))))]=_;rw[J];rfl
   refine ck.iter (λF:n_ FE×n_ FE=>adX d B h S (h+c) (h+j' F.1)) (λF=>[.row (ew d) (dW d (j++(F.1++(k::(F.2++(b.drop (c+1)++m))))))]) (λF=>j' F.1) (λF=>F.1++F.2=M/\∀f∈F.2,cS k.n f.n=A') ?_ (M,[]) ⟨by simp,by simp⟩;rintro⟨i,e⟩ ⟨g,o⟩;have g:i++e=M:=g;have o:∀f∈e,cS k.n f.n=A':=o;have P:j' i+j' e=c:=by rw[<-w,<-g];simp
   apply aZ<;>intro n
   ·have y:0<j' i:=by have:h<h+j' i:=eK n;omega
    obtain⟨a,f,rfl⟩:=ZA i y;have G:j' (a++[f])=j' a+1:=by simp
    have ai:j++((a++[f])++(k::(e++(b.drop (c+1)++m))))=(j++a)++f::([]++k::(e++(b.drop (c+1)++m))):=by simp only[aiv,aiK,aiH]
    have ae:j++(a++(k::((f::e)++(b.drop (c+1)++m))))=(j++a)++k::([]++f::(e++(b.drop (c+1)++m))):=by simp only[aiv,aiK,aiH]
    have K:h+j' a=j' (j++a):=by simp[W]
    have N:=va (j++a) ([]++k::(e++(b.drop (c+1)++m))) f (h+j' a) K;have X:=Bs (j++a) [] (e++(b.drop (c+1)++m)) f k (h+(j' a+1)) (by simp[W];omega);have gs:=Ps (j++a) [] (e++(b.drop (c+1)++m)) f k (h+j' a) (h+(j' a+1)) K (by simp[W];omega);rw[<-ai]at N X gs;rw[<-ae]at gs;have E:h+(j' a+1)<B:=by rw[G]at P;omega
    have A:h+j' a<B:=om;have aa:f∈M:=by rw[<-g];simp
    have U:=H f aa;have O:nJ FE.n (a++[f]):=by
     have:=z;rw[<-g]at this;exact(ai9.1 this).1
    dsimp only at n⊢;rw[G]at n⊢;generalize Q:j++((a++[f])++(k::(e++(b.drop (c+1)++m))))=u at N X gs⊢;have v:IntKind.i64.wrap (ais (h+(j' a+1))-1)=ais (h+j' a):=by
     have:=gw (a:=h+(j' a+1)) (b:=1) om om
     grind
    have s:nth (dW d u) (0+(h+(j' a+1)))=q' ((B2 d k).map V.d):=by rw[aiD];exact iX X
    have r:nth (dW d u) (0+(h+j' a))=q' ((B2 d f).map V.d):=by rw[aiD];exact iX N
    have p:nth ((dW d u).set (0+(h+(j' a+1))) ((B2 d f).map V.d)) (0+(h+j' a))=q' ((B2 d f).map V.d):=by
     grind [cx]
    repeat first
     |refine bZ v ?_
     |refine bZ rfl ?_
     |refine a6 E ?_
     |refine a6 A ?_
     |refine cp _ p ?_
     |refine cp _ s ?_
     |refine cp _ r ?_
     |refine b9 n ?_
     |refine cO ?_
    refine yj d k f ?_;repeat first
     |refine bZ v ?_
     |refine bZ rfl ?_
     |refine a6 E ?_
     |refine a6 A ?_
     |refine cp _ p ?_
     |refine cp _ s ?_
     |refine cp _ r ?_
     |refine b9 n ?_
     |refine cO ?_
    apply aZ<;>intro ac
    ·have D:cS k.n f.n=A':=by rw[<-DW];exact ac
     repeat first
      |refine bZ v ?_
      |refine bZ rfl ?_
      |refine a6 E ?_
      |refine a6 A ?_
      |refine cp _ p ?_
      |refine cp _ s ?_
      |refine cp _ r ?_
      |refine b9 n ?_
      |refine cO ?_
     refine⟨(a,f::e),⟨by rw[<-g];simp,λd hw=>?_⟩,by show (j' a)<j' a+1;omega,.same ⟨Z,Z,Z,Z,Z,int_eq v,tv⟩ ?_,Z,Z⟩
     ·rcases ai3.1 hw with rfl|hw
      ·exact D
      exact o d hw
     show _=[cX.row (ew d) (dW d (j++(a++(k::((f::e)++(b.drop (c+1)++m))))))];exact xT
    have D:cS k.n f.n=B':=by rw[<-DW];exact ac
    have ab:cS f.n k.n=A':=Br _ _ D (λaw=>U aw.symm);refine⟨c+1,⟨om,.inl l⟩,ik,.same ⟨Z,Z,Z,Z,int_eq (cF om),tv⟩ ?_,Z,Z⟩;have:=q (a++[f]) e g (ZB O ab) o;show [cX.row (ew d) (dW d u)]=[cX.row (ew d) (dW d (j++(cz FE.n (b.take (c+1))++(b.drop (c+1)++m))))];rw[this,<-Q];simp<;>exact⟨rfl,rfl⟩
   have y:j' i=0:=by have au:h+j' i<=h:=dK n;omega
   repeat first|refine a7 n ?_|refine cO ?_
   have R:=aiC y;subst R;refine⟨c+1,⟨om,.inl l⟩,ik,.same ⟨Z,Z,Z,Z,int_eq (cF om),tv⟩ ?_,Z,Z⟩;have:=q [] e g sm o;show _=[cX.row (ew d) (dW d (j++(cz FE.n (b.take (c+1))++(b.drop (c+1)++m))))];rw[this];simp<;>exact⟨rfl,rfl⟩
  have l:j' b<=c:=by have:=dK af;omega
  refine⟨?_,Z⟩;rw[aiI l,aiz l];rfl
def age{a:Int}(c:0<=a)(b:a<18446744073709551616):IntKind.u64.wrap a=a:=by
 exact Ci
theorem half{i j:Nat}(a:i+j<9223372036854775808):IntKind.i64.wrap (ajg (IntKind.u64.wrap (IntKind.i64.wrap (ais i+ais j))) (2^(min 1 IntKind.u64.bits)))=ais ((i+j)/2):=by
 rw[dk a,age (by simp only[aiw];omega) (by simp only[aiw];omega)];have:ajg (ais (i+j)) (2^(min 1 IntKind.u64.bits))=ais ((i+j)/2):=by
  show ajg (ais (i+j)) 2=_
  grind [Int.fdiv_eq_ediv_of_nonneg,aiw]
 grind [wrap64,aiw]
def mT2(b:Bool)(a e f c t1 d t2 g:Nat):Tm:=[(0,.ms 0 (ew b) 0 a a),(1,cl e),(2,cl f),(3,cl c),(4,(p0 b)),(t1,cl d),(t2,cl g)]
theorem Pw(c:Bool)(j:n_ FE)(d:FE)(a k:n_ FE)(af:nJ FE.n a)(U:((d::a).map FE.n).Nodup)(x e h S:Nat)(ak:x=j' (j++(d::(a++k))))(al:e=j' j)(av:h=e+1)(ae:S=h+j' a)(au:x<4294967296):
  b7 C cm (Wq c) [.ms 0 (ew c) 0 x x,cl e,cl h,cl S,(p0 c)] [.row (ew c) (dW c (j++(d::(a++k))))] λar W=>W=[.row (ew c) (dW c (j++(cz FE.n (d::a)++k)))]/\ar=.ret (.dP []):=by
 have w:c=c:=rfl;cases c;all_goals
  let c:Bool:=DU w
  have ap:x=j' j+(j' a+j' k+1):=by rw[ak];simp
  have M:∀f∈a,f.n≠d.n:=by
   grind [List.nodup_cons,ai4]
  have T:IntKind.i64.wrap (ais h-ais e)=1:=by
   rw[gw om om,show h-e=1 from by omega];rfl
  have am:(j++(d::(a++k)))[e]?=q' d:=va j (a++k) d e al;have ag:∀s (i:s<j' a),(j++(d::(a++k)))[h+s]?=q' a[s]:=by
   grind
  refine cA ?_;refine aZ (λab=>?_) (λab=>Y' (ab.symm.trans (a_ T)) dc);refine ck.iter (λu:Nat×Nat=>mT2 c x e h S 10 (h+u.1) 11 (h+u.2)) (λ_=>[.row (ew c) (dW c (j++(d::(a++k))))]) (λu=>u.2-u.1)
   (λu=>u.1<=u.2/\u.2<=j' a/\(∀f,0<u.1->a[u.1-1]?=q' f->cS f.n d.n=A')/\(∀f,a[u.2]?=q' f->cS d.n f.n=A')) ?_ (0,j' a) ⟨aiV _,aiy _,λf i=>Y' i (aja _),λf i=>by rw[ai0 (aiy _)]at i;cases i⟩ (.same ⟨rfl,rfl,rfl,rfl,rfl,rfl,by rw[<-ae];rfl,tv⟩ rfl)
  rintro⟨s,m⟩ ⟨F,q,D,A⟩;have F:s<=m:=F;have q:m<=j' a:=q;have D:∀f,0<s->a[s-1]?=q' f->cS f.n d.n=A':=D;have A:∀f,a[m]?=q' f->cS d.n f.n=A':=A;apply aZ<;>intro P
  ·have Q:s<m:=by have ad:h+s<h+m:=eK P;omega
   have g:=half (i:=h+s) (j:=h+m) om;obtain⟨i,aj⟩:∃i,(h+s+(h+m))/2=h+i:=⟨(s+m)/2,om⟩;rw[aj]at g;have aa:s<=i:=om;have N:i<m:=om;have H:=ag i om;have z:a[i]?=q' a[i]:=ait om;have I:a[i]∈a:=ai7 _;generalize a[i]=f at H z I;have r:nth (dW c (j++(d::(a++k)))) (0+(h+i))=q' ((B2 c f).map V.d):=by rw[aiD];exact iX H
   have l:nth (dW c (j++(d::(a++k)))) (0+e)=q' ((B2 c d).map V.d):=by rw[aiD];exact iX am
   have t:h+i<x:=om;have p:e<x:=om;repeat first
    |refine bZ g ?_
    |refine bZ rfl ?_
    |refine cp _ r ?_
    |refine cp _ l ?_
    |refine a6 t ?_
    |refine a6 p ?_
    |refine cO ?_
   refine yj c f d ?_;repeat first
    |refine bZ g ?_
    |refine bZ rfl ?_
    |refine cp _ r ?_
    |refine cp _ l ?_
    |refine a6 t ?_
    |refine a6 p ?_
    |refine cO ?_
   apply aZ<;>intro R
   ·have y:cS f.n d.n=A':=by rw[<-DW];exact R
    refine⟨(i+1,m),⟨N,q,λc _ w=>?_,A⟩,by show m-(i+1)<m-s;omega,.same ⟨Z,Z,Z,Z,Z,int_eq ?_,Z,tv⟩ Z,Z,Z⟩
    ·have:a[i]?=q' c:=w;rw[z]at this;cases this;exact y
    rw[g];exact cF om
   have y:cS f.n d.n=B':=by rw[<-DW];exact R
   have O:cS d.n f.n=A':=Br _ _ y (M f I);refine⟨(s,i),⟨aa,by show i<=j' a;omega,D,λc w=>?_⟩,by show i-s<m-s;omega,.same ⟨Z,Z,Z,Z,Z,Z,int_eq g,tv⟩ Z,Z,Z⟩;have:a[i]?=q' c:=w;rw[z]at this;cases this;exact O
  have Q:m<=s:=by have ad:h+m<=h+s:=dK P;omega
  obtain rfl:s=m:=om;have J:=Pv af U s q D A;refine ck.iter (λb:Nat=>mT2 c x e h S 10 (h+s) 13 (e+b)) (λb=>[.row (ew c) (dW c (j++(a.take b++(d::(a.drop b++k)))))]) (λb=>s-b) (λb=>b<=s) ?_ 0 (aiV _);intro b aq;have an:IntKind.i64.wrap (ais (h+s)-1)=ais (e+s):=by
   have:=gw (a:=h+s) (b:=1) om om
   grind
  apply aZ<;>intro ao
  ·have n:b<s:=by
    grind [aiw]
   have G:b<j' a:=om;have ac:a.drop b=a[b]::a.drop (b+1):=aiu G;have ah:a.take (b+1)=a.take b++[a[b]]:=by rw[aiW,ait G];rfl
   have L:j' (a.take b)=b:=by simp;omega
   have Y:j++(a.take b++(d::(a.drop b++k)))=(j++a.take b)++d::([]++a[b]::(a.drop (b+1)++k)):=by rw[ac];simp only[aiv,aiK,aiH]
   have X:j++(a.take (b+1)++(d::(a.drop (b+1)++k)))=(j++a.take b)++a[b]::([]++d::(a.drop (b+1)++k)):=by rw[ah];simp only[aiv,aiK,aiH]
   have o:e+b=j' (j++a.take b):=by rw[aiB,L];omega
   have E:=va (j++a.take b) ([]++a[b]::(a.drop (b+1)++k)) d (e+b) o;have B:=Bs (j++a.take b) [] (a.drop (b+1)++k) d a[b] (e+b+1) (by rw[<-o];rfl);have gs:=MY (j++a.take b) [] (a.drop (b+1)++k) d a[b] (e+b) (e+b+1) o (by rw[<-o];rfl);rw[<-Y]at E B gs;rw[<-X]at gs;generalize a[b]=f at E B gs;generalize ai:j++(a.take b++(d::(a.drop b++k)))=v at E B gs;have l:nth (dW c v) (0+(e+b))=q' ((B2 c d).map V.d):=by rw[aiD];exact iX E
   have r:nth (dW c v) (0+(e+b+1))=q' ((B2 c f).map V.d):=by rw[aiD];exact iX B
   have K:nth ((dW c v).set (0+(e+b)) ((B2 c f).map V.d)) (0+(e+b+1))=q' ((B2 c f).map V.d):=by
    grind [cx]
   have g:IntKind.i64.wrap (ais (e+b)+1)=ais (e+b+1):=cF om;have t:e+b+1<x:=om;have p:e+b<x:=om;repeat first
    |refine bZ g ?_
    |refine bZ rfl ?_
    |refine cp _ K ?_
    |refine cp _ l ?_
    |refine cp _ r ?_
    |refine a6 t ?_
    |refine a6 p ?_
    |refine cO ?_
   refine⟨b+1,n,ik,.same ⟨Z,Z,Z,Z,Z,Z,int_eq g,tv⟩ ?_,Z,Z⟩;exact xT
  have n:b=s:=by
   grind [aiw]
  subst n;refine⟨?_,Z⟩;rw[J];simp<;>exact⟨rfl,rfl⟩
theorem Px(d:Bool)(i a:n_ FE)(e:FE)(k:n_ FE)(ao:j' a≠1)(aj:nJ FE.n a)(aa:((a++[e]).map FE.n).Nodup)(w c t N:Nat)(al:w=j' (i++(a++(e::k))))(ax:c=j' i)(ac:t=c+j' a)(au:N=t+1)(aw:w<4294967296):
  b7 C cm (Wq d) [.ms 0 (ew d) 0 w w,cl c,cl t,cl N,(p0 d)] [.row (ew d) (dW d (i++(a++(e::k))))] λar ab=>ab=[.row (ew d) (dW d (i++(cz FE.n (a++[e])++k)))]/\ar=.ret (.dP []):=by
 have u:d=d:=rfl;cases d;all_goals
  let d:Bool:=DU u
  have ap:w=j' i+(j' a+(j' k+1)):=by rw[al];simp
  have Q:∀g∈a,g.n≠e.n:=by
   grind [aiG,ai4]
  have Y:IntKind.i64.wrap (ais t-ais c)≠1:=by
   rw[gw om om,show t-c=j' a from by omega];exact nj
  have U:IntKind.i64.wrap (ais N-ais t)=1:=by
   rw[gw om om,show N-t=1 from by omega];rfl
  have am:(i++(a++(e::k)))[t]?=q' e:=by
   grind [aiv,va]
  have ak:∀s (f:s<j' a),(i++(a++(e::k)))[c+s]?=q' a[s]:=by
   intro s f;rw[List.getElem?_append_right om,show c+s-j' i=s from om,List.getElem?_append_left f,ait f]
  refine cA ?_;refine a7 (Z' Y) ?_;refine b9 (a_ U) ?_;refine ck.iter (λr:Nat×Nat=>mT2 d w c t N 14 (c+r.1) 15 (c+r.2)) (λ_=>[.row (ew d) (dW d (i++(a++(e::k))))]) (λr=>r.2-r.1)
   (λr=>r.1<=r.2/\r.2<=j' a/\(∀g,0<r.1->a[r.1-1]?=q' g->cS g.n e.n=A')/\(∀g,a[r.2]?=q' g->cS e.n g.n=A')) ?_ (0,j' a) ⟨aiV _,aiy _,λg f=>Y' f (aja _),λg f=>by rw[ai0 (aiy _)]at f;cases f⟩ (.same ⟨rfl,rfl,rfl,rfl,rfl,rfl,by rw[<-ac];rfl,tv⟩ rfl)
  rintro⟨s,m⟩ ⟨F,l,D,A⟩;have F:s<=m:=F;have l:m<=j' a:=l;have D:∀g,0<s->a[s-1]?=q' g->cS g.n e.n=A':=D;have A:∀g,a[m]?=q' g->cS e.n g.n=A':=A;apply aZ<;>intro T
  ·have W:s<m:=by have K:c+s<c+m:=eK T;omega
   have h:=half (i:=c+s) (j:=c+m) om;obtain⟨f,ai⟩:∃f,(c+s+(c+m))/2=c+f:=⟨(s+m)/2,om⟩;rw[ai]at h;have af:s<=f:=om;have R:f<m:=om;have J:=ak f om;have x:a[f]?=q' a[f]:=ait om;have I:a[f]∈a:=ai7 _;generalize a[f]=g at J x I;have p:nth (dW d (i++(a++(e::k)))) (0+(c+f))=q' ((B2 d g).map V.d):=by rw[aiD];exact iX J
   have j:nth (dW d (i++(a++(e::k)))) (0+t)=q' ((B2 d e).map V.d):=by rw[aiD];exact iX am
   have q:c+f<w:=om;have o:t<w:=om;repeat first
    |refine bZ h ?_
    |refine bZ rfl ?_
    |refine cp _ p ?_
    |refine cp _ j ?_
    |refine a6 q ?_
    |refine a6 o ?_
    |refine cO ?_
   refine yj d e g ?_;repeat first
    |refine bZ h ?_
    |refine bZ rfl ?_
    |refine cp _ p ?_
    |refine cp _ j ?_
    |refine a6 q ?_
    |refine a6 o ?_
    |refine cO ?_
   apply aZ<;>intro X
   ·have y:cS e.n g.n=B':=by rw[<-DW];simpa using X
    have S:cS g.n e.n=A':=Br _ _ y (λf=>Q g I f.symm);refine⟨(f+1,m),⟨R,l,λd _ u=>?_,A⟩,by show m-(f+1)<m-s;omega,.same ⟨Z,Z,Z,Z,Z,int_eq ?_,Z,tv⟩ Z,Z,Z⟩
    ·have:a[f]?=q' d:=u;rw[x]at this;cases this;exact S
    rw[h];exact cF om
   have y:cS e.n g.n=A':=by rw[<-DW];simpa using X
   refine⟨(s,f),⟨af,by show f<=j' a;omega,D,λd u=>?_⟩,by show f-s<m-s;omega,.same ⟨Z,Z,Z,Z,Z,Z,int_eq h,tv⟩ Z,Z,Z⟩;have:a[f]?=q' d:=u;rw[x]at this;cases this;exact y
  have W:m<=s:=by have K:c+m<=c+s:=dK T;omega
  obtain rfl:s=m:=om;have M:=Sv aj aa s l D A;refine ck.iter (λb:Nat=>mT2 d w c t N 14 (c+s) 17 (c+b)) (λb=>[.row (ew d) (dW d (i++(a.take b++(e::(a.drop b++k)))))]) (λb=>b) (λb=>s<=b/\b<=j' a) ?_ (j' a) ⟨l,aiy _⟩ (.same ⟨Z,Z,Z,Z,Z,Z,by rw[<-ac];rfl,tv⟩ (by rw[ai1,List.drop_length];rfl));rintro b ⟨aq,an⟩;apply aZ<;>intro H
  ·have z:s<b:=by have K:c+s<c+b:=eK H;omega
   obtain⟨b,rfl⟩:∃av,b=av+1:=⟨b-1,om⟩;have G:b<j' a:=om;have ag:a.drop b=a[b]::a.drop (b+1):=aiu G;have ah:a.take (b+1)=a.take b++[a[b]]:=by rw[aiW,ait G];rfl
   have P:j' (a.take b)=b:=by simp;omega
   have ae:i++(a.take (b+1)++(e::(a.drop (b+1)++k)))=(i++a.take b)++a[b]::([]++e::(a.drop (b+1)++k)):=by rw[ah];simp only[aiv,aiK,aiH]
   have ad:i++(a.take b++(e::(a.drop b++k)))=(i++a.take b)++e::([]++a[b]::(a.drop (b+1)++k)):=by rw[ag];simp only[aiv,aiK,aiH]
   have n:c+b=j' (i++a.take b):=by rw[aiB,P];omega
   have E:=va (i++a.take b) ([]++e::(a.drop (b+1)++k)) a[b] (c+b) n;have B:=Bs (i++a.take b) [] (a.drop (b+1)++k) a[b] e (c+(b+1)) (by rw[<-n];rfl);have gs:=Ps (i++a.take b) [] (a.drop (b+1)++k) a[b] e (c+b) (c+(b+1)) n (by rw[<-n];rfl);rw[<-ae]at E B gs;rw[<-ad]at gs;generalize a[b]=g at E B gs;generalize L:i++(a.take (b+1)++(e::(a.drop (b+1)++k)))=v at E B gs;have j:nth (dW d v) (0+(c+(b+1)))=q' ((B2 d e).map V.d):=by rw[aiD];exact iX B
   have p:nth (dW d v) (0+(c+b))=q' ((B2 d g).map V.d):=by rw[aiD];exact iX E
   have O:nth ((dW d v).set (0+(c+(b+1))) ((B2 d g).map V.d)) (0+(c+b))=q' ((B2 d g).map V.d):=by
    grind [cx]
   have h:IntKind.i64.wrap (ais (c+(b+1))-1)=ais (c+b):=by
    have:=gw (a:=c+(b+1)) (b:=1) om om
    grind
   have q:c+(b+1)<w:=om;have o:c+b<w:=om;subst L;repeat first
    |refine bZ h ?_
    |refine bZ rfl ?_
    |refine cp _ O ?_
    |refine cp _ j ?_
    |refine cp _ p ?_
    |refine a6 q ?_
    |refine a6 o ?_
    |refine cO ?_
   refine⟨b,⟨om,om⟩,by show b<b+1;omega,.same ⟨Z,Z,Z,Z,Z,Z,int_eq h,tv⟩ ?_,Z,Z⟩;exact xT
  have z:b=s:=by have K:c+b<=c+s:=dK H;omega
  subst z;refine⟨?_,Z⟩;rw[M];simp<;>exact⟨rfl,rfl⟩
def M0(c:Bool)(l:Nat):Prop:=∀(f b a g:n_ FE),0<j' b->0<j' a->nJ FE.n b->nJ FE.n a->((b++a).map FE.n).Nodup->∀(e h i j:Nat),e=j' (f++(b++(a++g)))->h=j' f->i=h+j' b->j=i+j' a->e<4294967296->j' b+j' a<=l->
  b7 C cm (Wq c) [.ms 0 (ew c) 0 e e,cl h,cl i,cl j,(p0 c)] [.row (ew c) (dW c (f++(b++(a++g))))] λk d=>d=[.row (ew c) (dW c (f++(cz FE.n (b++a)++g)))]/\k=.ret (.dP [])
def Gx(c:Bool)(G:Nat)(B:M0 c G)(d a b g:n_ FE)(y:0<j' a)(v:0<j' b)(x:nJ FE.n a)(r:nJ FE.n b)(k:((a++b).map FE.n).Nodup)(e o p w:Nat)(H:n_ FE)(s:H=d++(a++(b++g)))(D:o=j' d)(A:p=o+j' a)(q:w=p+j' b)(z:e=j' d+(j' a+(j' b+j' g))∨e=j' (d++(a++(b++g))))(u:e<4294967296)(E:j' a+j' b<=G) 
  {j l i:V} (n:j=cl o) (f:l=cl p) (m:i=cl w) {F:dt->VS->Prop} (t:F (.ret (.dP [])) [.row (ew c) (dW c (d++(cz FE.n (a++b)++g)))]):b7 C cm (Wq c) [.ms 0 (ew c) 0 e e,j,l,i,(p0 c)] [.row (ew c) (dW c H)] F:=by
 subst n f m s;refine(B d a b g y v x r k e o p w ?_ D A q u E).mono (λJ I h=>?_)
 ·rcases z with h|h
  ·rw[h];simp
  exact h
 rw[h.1,h.2];exact t
def Py(a:Bool)(b c d l:n_ FE)(r:0<j' c)(v:0<j' d)(h m s q:Nat)(y:n_ FE)(n:y=b++(c++(d++l)))(t:h=j' b+(j' c+(j' d+j' l)))(w:m=j' b)(u:s=j' b+j' c)(B:q=j' b+j' c+j' d)(p:h<4294967296) 
  {g i f:V} (k:g=cl m) (e:i=cl s) (j:f=cl q) {x:dt->VS->Prop} (o:x (.ret (.dP [])) [.row (ew a) (dW a (b++(d++(c++l))))]):b7 C cm (agb a) [.ms 0 (ew a) 0 h h,g,i,f,(p0 a)] [.row (ew a) (dW a y)] x:=by
 subst k e j n;refine(MZ a b c d l r v h m s q (by rw[t];simp) w u om p).mono (λD z A=>?_);rw[A.1,A.2];exact o
def ahC:Nat->Bool:=λa=>aiT a 1000032||aiT a 1000041||aiT a 1000043
def m2T(d:Bool)(b h c g a e f:Nat):Tm:=[(0,.ms 0 (ew d) 0 b b),(1,cl h),(2,cl c),(3,cl g),(4,(p0 d)),(18,cl a),(19,cl (a+c)),(20,cl e),(21,cl f)]
def m4T(d:Bool)(c g h f a e b:Nat):Tm:=[(0,.ms 0 (ew d) 0 c c),(1,cl g),(2,cl h),(3,cl f),(4,(p0 d)),(18,cl a),(20,cl e),(24,cl b)]
def m3T(d:Bool)(c h b g a e f:Nat):Tm:=[(0,.ms 0 (ew d) 0 c c),(1,cl h),(2,cl b),(3,cl g),(4,(p0 d)),(18,cl a),(19,cl (a+b)),(20,cl e),(21,cl f),(22,cl (a+b-1))]
def ar1{a d c b:Nat}(g:b=a+d-c)(e:b<=d)(f:c<=d):a-c=0:=om
def ar2{a d c b:Nat}(g:b=a+d-c)(e:b<=a)(f:c<=a):d-c=0:=om
def ar3{a d c b:Nat}(g:b=a+d-c)(e:d<b)(f:c<=d):0<a-c:=om
def ar5{a d c b:Nat}(g:b=a+d-c)(e:a<b)(f:c<=a):0<d-c:=om
abbrev aeR(b a:Nat):Int:=IntKind.i64.wrap (ajg (IntKind.u64.wrap (IntKind.i64.wrap (ais b+ais a))) (2^(min 1 IntKind.u64.bits)))
theorem Pz(f:Bool)(aL:Nat)(aT:M0 f aL)(j c d n:n_ FE)(bE:1<j' c)(bI:1<j' d)(aE:nJ FE.n c)(aC:nJ FE.n d)(bs:((c++d).map FE.n).Nodup)(w b e h:Nat)(bD:w=j' (j++(c++(d++n))))(bB:b=j' j)(bO:e=b+j' c)(bN:h=e+j' d)(aD:w<4294967296)(bP:j' c+j' d<=aL+1):
  b7 C cm (Wq f) [.ms 0 (ew f) 0 w w,cl b,cl e,cl h,(p0 f)] [.row (ew f) (dW f (j++(c++(d++n))))] λJ bt=>bt=[.row (ew f) (dW f (j++(cz FE.n (c++d)++n)))]/\J=.ret (.dP []):=by
 have bA:f=f:=rfl;cases f;all_goals
  let f:Bool:=DU bA
  have bG:w=j' j+(j' c+(j' d+j' n)):=by rw[bD];simp
  have aG:∀p∈c,∀f∈d,p.n≠f.n:=by
   grind [aiG,ai4]
  have aR:IntKind.i64.wrap (ais e-ais b)≠1:=by
   rw[gw om om,show e-b=j' c from by omega];exact nj
  have aO:IntKind.i64.wrap (ais h-ais e)≠1:=by
   rw[gw om om,show h-e=j' d from by omega];exact nj
  have bw:∀s (aB:s<j' c),(j++(c++(d++n)))[b+s]?=q' c[s]:=by
   grind
  have bC:∀s (aB:s<j' d),(j++(c++(d++n)))[e+s]?=q' d[s]:=by
   grind
  obtain⟨a,aS⟩:∃a,(b+h)/2=a:=⟨_,rfl⟩;have H:aeR b h=ais a:=by rw[<-aS];exact half om
  have T:IntKind.i64.wrap (aeR b h+ais e)=ais (a+e):=by rw[H,dk om]
  have bz:IntKind.i64.wrap (ais (a+e)-1)=ais (a+e-1):=gw (b:=1) om om;refine b7.body ahC (λ_=>Z) ?_;refine a7 (Z' aR) ?_;refine a7 (Z' aO) ?_;refine bZ Z ?_;apply de (ι:=Nat×Nat) (T:=λp=>m2T f w b e h a p.1 p.2) (S:=λ_=>[.row (ew f) (dW f (j++(c++(d++n))))])
   (I:=λp=>b<=p.1/\p.1<=p.2/\p.2<=e/\p.2<=a/\a+e<=p.1+h/\(p.1=b∨(h<=a+e/\p.1=a+e-h))/\(p.2=e∨p.2=a))
  ·intro E;apply aZ<;>intro bJ
   ·have ay:a<e:=by
     grind
    have bv:IntKind.i64.wrap (IntKind.i64.wrap (aeR b h+ais e)-ais h)=ais (a+e-h):=by
     rw[T];exact gw om om
    exact ck.arr (fx:=m2T f w b e h a (a+e-h) a) (gA:=[.row (ew f) (dW f (j++(c++(d++n))))]) (.same ⟨Z,Z,Z,Z,Z,int_eq H,int_eq T,int_eq bv,int_eq H,tv⟩ Z) (E (a+e-h,a) ⟨by show b<=a+e-h;omega,by show a+e-h<=a;omega,by show a<=e;omega,aiy _,by show a+e<=a+e-h+h;omega,.inr ⟨om,Z⟩,.inr Z⟩)
   have ay:e<=a:=by
    grind
   exact ck.arr (fx:=m2T f w b e h a b e) (gA:=[.row (ew f) (dW f (j++(c++(d++n))))]) (.same ⟨Z,Z,Z,Z,Z,int_eq H,int_eq T,Z,Z,tv⟩ Z) (E (b,e) ⟨aiy _,by show b<=e;omega,aiy _,ay,by show a+e<=b+h;omega,.inl Z,.inl Z⟩)
  rintro⟨v,u⟩ ⟨f1,f2,f3,f4,f7,f5,f6⟩;have f1:b<=v:=f1;have f2:v<=u:=f2;have f3:u<=e:=f3;have f4:u<=a:=f4;have f7:a+e<=v+h:=f7;have f5:v=b∨(h<=a+e/\v=a+e-h):=f5;have f6:u=e∨u=a:=f6;refine ck.iter (λp:Nat×Nat=>m3T f w b e h a p.1 p.2) (λ_=>[.row (ew f) (dW f (j++(c++(d++n))))]) (λp=>p.2-p.1)
   (λp=>v<=p.1/\p.1<=p.2/\p.2<=u/\(∀z B,v<p.1->c[p.1-1-b]?=q' z->d[a-p.1]?=q' B->cS z.n B.n=A')/\(∀z B,p.2<u->d[a-1-p.2]?=q' z->c[p.2-b]?=q' B->cS z.n B.n=A')) ?_ (v,u) ⟨aiy _,f2,aiy _,λz B aB=>Y' aB (aja _),λz B aB=>Y' aB (aja _)⟩ (.same ⟨rfl,rfl,rfl,rfl,rfl,rfl,rfl,rfl,rfl,int_eq bz,tv⟩ rfl)
  rintro⟨s,J⟩ ⟨aJ,bn,aK,ah,ag⟩;have aJ:v<=s:=aJ;have bn:s<=J:=bn;have aK:J<=u:=aK;have ah:∀z B,v<s->c[s-1-b]?=q' z->d[a-s]?=q' B->cS z.n B.n=A':=ah;have ag:∀z B,J<u->d[a-1-J]?=q' z->c[J-b]?=q' B->cS z.n B.n=A':=ag;apply aZ<;>intro aV
  ·have aW:s<J:=eK aV;have F:=half (i:=s) (j:=J) om;obtain⟨i,bx⟩:∃i,(s+J)/2=i:=⟨_,rfl⟩;rw[bx]at F;have bc:s<=i:=om;have bu:i<J:=om;have aq:a-1-i<j' d:=om;have ak:i-b<j' c:=om;have am:=bC (a-1-i) aq;have al:=bw (i-b) ak;have P:d[a-1-i]?=q' d[a-1-i]:=ait aq;have X:c[i-b]?=q' c[i-b]:=ait ak;have N:=aG c[i-b] (ai7 _) d[a-1-i] (ai7 _);generalize c[i-b]=z at al X N;generalize d[a-1-i]=B at am P N;have ar:nth (dW f (j++(c++(d++n)))) (0+(e+(a-1-i)))=q' ((B2 f B).map V.d):=by rw[aiD];exact iX am
   have au:nth (dW f (j++(c++(d++n)))) (0+i)=q' ((B2 f z).map V.d):=by rw[aiD,show i=b+(i-b)from by omega];exact iX al
   have ap:e+(a-1-i)<w:=om;have az:i<w:=om;have aA:IntKind.i64.wrap (ais (a+e-1)-IntKind.i64.wrap (ajg (IntKind.u64.wrap (IntKind.i64.wrap (ais s+ais J))) (2^(min 1 IntKind.u64.bits))))=ais (e+(a-1-i)):=by
    rw[F,gw om om];congr 1;omega
   repeat first
    |refine bZ aA ?_
    |refine bZ F ?_
    |refine bZ rfl ?_
    |refine cp _ ar ?_
    |refine cp _ au ?_
    |refine a6 ap ?_
    |refine a6 az ?_
    |refine cO ?_
   refine yj f B z ?_;repeat first
    |refine bZ aA ?_
    |refine bZ F ?_
    |refine bZ rfl ?_
    |refine cp _ ar ?_
    |refine cp _ au ?_
    |refine a6 ap ?_
    |refine a6 az ?_
    |refine cO ?_
   apply aZ<;>intro bo
   ·have U:cS B.n z.n=B':=by rw[<-DW];simpa using bo
    have be:cS z.n B.n=A':=Br _ _ U (λaB=>N aB.symm);refine⟨(i+1,J),⟨by show v<=i+1;omega,bu,aK,λaI aH _ r l=>?_,ag⟩,by show J-(i+1)<J-s;omega,.same ⟨Z,Z,Z,Z,Z,Z,Z,int_eq ?_,Z,Z,tv⟩ Z,Z,Z⟩
    ·have r:c[i+1-1-b]?=q' aI:=r;have l:d[a-(i+1)]?=q' aH:=l;rw[show i+1-1-b=i-b from om,X]at r;rw[show a-(i+1)=a-1-i from om,P]at l;cases r;cases l;exact be
    rw[F];exact cF om
   have U:cS B.n z.n=A':=by rw[<-DW];simpa using bo
   refine⟨(s,i),⟨aJ,bc,by show i<=u;omega,ah,λaI aH _ r l=>?_⟩,by show i-s<J-s;omega,.same ⟨Z,Z,Z,Z,Z,Z,Z,Z,int_eq F,Z,tv⟩ Z,Z,Z⟩;have r:d[a-1-i]?=q' aI:=r;have l:c[i-b]?=q' aH:=l;rw[P]at r;rw[X]at l;cases r;cases l;exact U
  have aW:J<=s:=dK aV;obtain rfl:s=J:=om;have aF:=Wp (key:=FE.n) aE aC bs (s-b) (a-s) om om
   (λz B t r l=>by
    rcases ajb v s with h1|h1
    ·exact ah z B h1 (by rw[show s-1-b=s-b-1 from by omega];exact r) l
    exfalso;rcases f5 with h2|h2
    ·omega
    rw[ai0 om]at l;cases l)
   (λz B t r l=>by
    rcases ajb s u with h1|h1
    ·exact ag z B h1 (by rw[show a-1-s=a-s-1 from by omega];exact r) l
    exfalso;rcases f6 with h2|h2
    ·rw[ai0 om]at l;cases l
    omega)
  have⟨L,A,y⟩:=aF;have av:=aE.take (s-b);have ao:=aE.drop (s-b);have aw:=aC.take (a-s);have ax:=aC.drop (a-s);have x:j' (c.take (s-b))=s-b:=by simp;omega
  have m:j' (c.drop (s-b))=e-s:=by simp;omega
  have o:j' (d.take (a-s))=a-s:=by simp;omega
  have G:j' (d.drop (a-s))=h-(a+e-s):=by simp;omega
  have bK:c=c.take (s-b)++c.drop (s-b):=(aiA _ _).symm;have bL:d=d.take (a-s)++d.drop (a-s):=(aiA _ _).symm;have aa:((c.take (s-b)).map FE.n).Nodup:=by rw[aiS,aiG]at A;exact A.1
  have ac:((d.take (a-s)).map FE.n).Nodup:=by rw[aiS,aiG]at A;exact A.2.1
  have ai:((c.drop (s-b)).map FE.n).Nodup:=by rw[aiS,aiG]at y;exact y.1
  have ad:((d.drop (a-s)).map FE.n).Nodup:=by rw[aiS,aiG]at y;exact y.2.1
  have K:j++(c++(d++n))=j++(c.take (s-b)++(c.drop (s-b)++(d.take (a-s)++(d.drop (a-s)++n)))):=by
   grind
  obtain⟨g,D⟩:∃g,g=a+e-s:=⟨_,rfl⟩;have q:IntKind.i64.wrap (ais (a+e)-ais s)=ais g:=by rw[gw om om,D]
  have M:j' (j++(c.take (s-b)))=s:=by rw[aiB,x];omega
  have an:j' ((d.drop (a-s))++n)=h-(a+e-s)+j' n:=by rw[aiB,G]
  have aQ:j' ((c.drop (s-b))++((d.drop (a-s))++n))=e-s+(h-(a+e-s)+j' n):=by rw[aiB,m,an]
  have bm:j' (j++cz FE.n ((c.take (s-b))++(d.take (a-s))))=a:=by rw[aiB,fg,aiB,x,o];omega
  have aP:s<=a:=om;have bg:s<=e:=om;have aN:s=j' (j++(c.take (s-b))):=M.symm;have aX:e=j' (j++(c.take (s-b)))+j' ((c.drop (s-b))):=by rw[M,m];omega
  have bp:g=j' (j++(c.take (s-b)))+j' ((c.drop (s-b)))+j' ((d.take (a-s))):=by rw[M,m,o];omega
  have br:w=j' (j++(c.take (s-b)))+(j' ((c.drop (s-b)))+(j' ((d.take (a-s)))+j' ((d.drop (a-s))++n))):=by rw[M,m,o,an];omega
  have bq:s=b+j' ((c.take (s-b))):=by rw[x];omega
  have ba:a=s+j' ((d.take (a-s))):=by rw[o];omega
  have bi:w=j' j+(j' ((c.take (s-b)))+(j' ((d.take (a-s)))+j' ((c.drop (s-b))++((d.drop (a-s))++n)))):=by rw[x,o,aQ];omega
  have aM:j' ((c.take (s-b)))+j' ((d.take (a-s)))<=aL:=by rw[x,o];omega
  have bb:a=j' (j++cz FE.n ((c.take (s-b))++(d.take (a-s)))):=bm.symm;have bj:g=a+j' ((c.drop (s-b))):=by rw[m];omega
  have aU:h=g+j' ((d.drop (a-s))):=by rw[G];omega
  have bf:w=j' (j++cz FE.n ((c.take (s-b))++(d.take (a-s))))+(j' ((c.drop (s-b)))+(j' ((d.drop (a-s)))+j' n)):=by rw[bm,m,G];omega
  have bl:j' ((c.drop (s-b)))+j' ((d.drop (a-s)))<=aL:=by rw[m,G];omega
  apply de (ι:=Unit) (T:=λ_=>m4T f w b e h a s g) (S:=λ_=>[.row (ew f) (dW f (j++((c.take (s-b))++((d.take (a-s))++((c.drop (s-b))++((d.drop (a-s))++n))))))]) (I:=λ_=>True)
  ·intro E;apply aZ<;>intro ae
   ·have W:s<e:=eK ae;repeat refine b9 ae ?_
    apply aZ<;>intro ab
    ·have R:e<g:=by rw[q]at ab;exact eK ab
     refine cN ?_;refine Py f (j++(c.take (s-b))) (c.drop (s-b)) (d.take (a-s)) ((d.drop (a-s))++n) (by rw[m];exact ai6 W) (by rw[o];exact ar3 D R bg) w s e g _ (by rw[K];simp only[aiv]) br aN aX bp aD Z Z (vi q) ?_;refine ck.arr (fx:=m4T f w b e h a s g) (gA:=[.row (ew f) (dW f (j++((c.take (s-b))++((d.take (a-s))++((c.drop (s-b))++((d.drop (a-s))++n))))))]) (.same ⟨Z,Z,Z,Z,Z,Z,Z,int_eq q,tv⟩ (by simp only[aiv])) (E () trivial)
    have R:g<=e:=by rw[q]at ab;exact dK ab
    refine cN ?_;refine ck.arr (fx:=m4T f w b e h a s g) (gA:=[.row (ew f) (dW f (j++((c.take (s-b))++((d.take (a-s))++((c.drop (s-b))++((d.drop (a-s))++n))))))]) (.same ⟨Z,Z,Z,Z,Z,Z,Z,int_eq q,tv⟩ ?_) (E () trivial);have t:(d.take (a-s))=[]:=aiC (by rw[o];exact ar1 D R bg);rw[t]at K⊢;rw[K];rfl
   have W:e<=s:=dK ae;repeat refine a7 ae ?_
   refine ck.arr (fx:=m4T f w b e h a s g) (gA:=[.row (ew f) (dW f (j++((c.take (s-b))++((d.take (a-s))++((c.drop (s-b))++((d.drop (a-s))++n))))))]) (.same ⟨Z,Z,Z,Z,Z,Z,Z,int_eq q,tv⟩ ?_) (E () trivial);have t:(c.drop (s-b))=[]:=aiC (by rw[m];exact aiZ W);rw[t]at K⊢;rw[K];rfl
  intro _ _;apply de (ι:=Unit) (T:=λ_=>m4T f w b e h a s g) (S:=λ_=>[.row (ew f) (dW f (j++(cz FE.n ((c.take (s-b))++(d.take (a-s)))++((c.drop (s-b))++((d.drop (a-s))++n)))))]) (I:=λ_=>True)
  ·intro E;apply aZ<;>intro af
   ·have Y:b<s:=eK af;repeat refine b9 af ?_
    apply aZ<;>intro bk
    ·have Q:s<a:=eK bk;refine cN ?_;refine Gx f aL aT j (c.take (s-b)) (d.take (a-s)) ((c.drop (s-b))++((d.drop (a-s))++n)) (by rw[x];exact ai6 Y) (by rw[o];exact ai6 Q) av aw A w b s a _ Z bB bq ba (.inl bi) aD aM Z Z Z ?_;refine ck.arr (fx:=m4T f w b e h a s g) (gA:=[.row (ew f) (dW f (j++(cz FE.n ((c.take (s-b))++(d.take (a-s)))++((c.drop (s-b))++((d.drop (a-s))++n)))))]) .eS (E () trivial)
    have Q:a<=s:=dK bk;refine cN ?_;refine ck.arr (fx:=m4T f w b e h a s g) (gA:=[.row (ew f) (dW f (j++(cz FE.n ((c.take (s-b))++(d.take (a-s)))++((c.drop (s-b))++((d.drop (a-s))++n)))))]) (.same ⟨Z,Z,Z,Z,Z,Z,Z,Z,tv⟩ ?_) (E () trivial);have t:(d.take (a-s))=[]:=aiC (by rw[o];exact aiZ Q);rw[t,aiU,pq aa (List.Perm.refl _) av];rfl
   have Y:s<=b:=dK af;repeat refine a7 af ?_
   refine ck.arr (fx:=m4T f w b e h a s g) (gA:=[.row (ew f) (dW f (j++(cz FE.n ((c.take (s-b))++(d.take (a-s)))++((c.drop (s-b))++((d.drop (a-s))++n)))))]) (.same ⟨Z,Z,Z,Z,Z,Z,Z,Z,tv⟩ ?_) (E () trivial);have t:(c.take (s-b))=[]:=aiC (by rw[x];exact aiZ Y);rw[t];simp only[aiH];rw[pq ac (List.Perm.refl _) aw]
  intro _ _;apply aZ<;>intro aj
  ·have S:a<g:=eK aj;repeat refine b9 aj ?_
   apply aZ<;>intro bh
   ·have O:g<h:=eK bh;refine cN ?_;refine Gx f aL aT (j++cz FE.n ((c.take (s-b))++(d.take (a-s)))) (c.drop (s-b)) (d.drop (a-s)) n (by rw[m];exact ar5 D S aP) (by rw[G,<-D];exact ai6 O) ao ax y w a g h _ (by simp only[aiv]) bb bj aU (.inl bf) aD bl Z Z Z ?_;refine⟨?_,Z⟩;rw[L];simp only[aiv]<;>first|exact rfl|exact⟨rfl,rfl⟩
   have O:h<=g:=dK bh;refine cN ?_;refine⟨?_,Z⟩;have t:(d.drop (a-s))=[]:=aiC (by rw[G,<-D];exact aiZ O);rw[L,t,aiU,pq ai (List.Perm.refl _) ao];simp only[aiv,aiH]<;>first|exact rfl|exact⟨rfl,rfl⟩
  have S:g<=a:=dK aj;repeat refine a7 aj ?_
  refine⟨?_,Z⟩;have t:(c.drop (s-b))=[]:=aiC (by rw[m];exact ar2 D S aP);rw[L,t];simp only[aiH];rw[pq ad (List.Perm.refl _) ax];simp only[aiv]<;>first|exact rfl|exact⟨rfl,rfl⟩
end Go.Proofs.YtdocmpeionacbaaGreatDoor
