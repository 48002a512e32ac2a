/- Part of the proof. -/
import Derived.Test.YtpejealjkmhkgaaGreatDoorKAt
import Derived.Test.YtpejealjkmhkgaaGreatDoorKAs
set_option linter.all false
set_option maxHeartbeats 16000000
set_option maxRecDepth 100000
open Int renaming ofNat_eq_natCast->YL,ofNat->YM
open List renaming find?_cons->YN,length_cons->YP,isPrefixOf_iff_prefix->YQ,getElem?_eq_getElem->YR,drop_of_length_le->YT,drop_eq_getElem_cons->YW
open Bool renaming false_and->YO,true_and->YU,and_false->YX,true_or->YY
open Nat renaming not_le_of_lt->YS,le_refl->YV
namespace Go.Proofs.YtpejealjkmhkgaaGreatDoor
open Go.AM Go.VM
abbrev ou:FuncId:=5
abbrev rl:FuncId:=8
abbrev um:FuncId:=11
abbrev uo:FuncId:=12
abbrev u2:FuncId:=18
abbrev lx:FuncId:=19
abbrev j6:FuncId:=23
abbrev k2:FuncId:=24
abbrev rm:FuncId:=25
abbrev sl:FuncId:=26
abbrev qD:FuncId:=36
abbrev dk:FuncId:=37
abbrev nW:FuncId:=38
abbrev qE:FuncId:=39
abbrev cR:FuncId:=40
abbrev nX:FuncId:=41
abbrev F.strings_Contains:FuncId:=45
abbrev mL:FuncId:=55
abbrev ez:FuncId:=56
abbrev ys:FuncId:=63
abbrev B5:FuncId:=65
abbrev B6:FuncId:=66
abbrev uq:FuncId:=67
abbrev B7:FuncId:=68
abbrev B8:FuncId:=69
abbrev ur:FuncId:=70
abbrev us:FuncId:=71
abbrev B9:FuncId:=72
abbrev uu:FuncId:=73
abbrev Ca:FuncId:=83
abbrev p1:FuncId:=85
abbrev rn:FuncId:=86
abbrev uv:FuncId:=87
abbrev sn:FuncId:=88
abbrev oW:FuncId:=89
abbrev kv:FuncId:=90
abbrev oX:FuncId:=92
abbrev qF:FuncId:=94
abbrev jq:FuncId:=95
abbrev nY:FuncId:=96
abbrev pv:FuncId:=97
abbrev k3:FuncId:=98
abbrev oY:FuncId:=99
abbrev oZ:FuncId:=100
abbrev kw:FuncId:=101
abbrev wh:FuncId:=104
abbrev yU:FuncId:=106
abbrev rH:FuncId:=110
abbrev mM:FuncId:=113
abbrev so:FuncId:=114
abbrev mN:FuncId:=115
abbrev tT:FuncId:=116
abbrev sp:FuncId:=117
abbrev qG:FuncId:=118
abbrev u3:FuncId:=119
abbrev p2:FuncId:=120
abbrev rI:FuncId:=121
abbrev qH:FuncId:=122
abbrev sq:FuncId:=125
abbrev jr:FuncId:=126
abbrev wi:FuncId:=127
abbrev xJ:FuncId:=128
abbrev xK:FuncId:=129
abbrev mO:FuncId:=130
abbrev sr:FuncId:=131
abbrev hB:FuncId:=132
abbrev iI:FuncId:=133
abbrev o5:FuncId:=134
abbrev yV:FuncId:=135
abbrev ia:FuncId:=136
abbrev iJ:FuncId:=137
abbrev Cb:FuncId:=145
abbrev o6:FuncId:=146
abbrev AA:FuncId:=147
abbrev rp:FuncId:=148
abbrev Cc:FuncId:=149
abbrev rq:FuncId:=150
abbrev ss:FuncId:=151
abbrev eA:FuncId:=153
abbrev rr:FuncId:=154
abbrev yW:FuncId:=156
abbrev AB:FuncId:=157
abbrev lr:FuncId:=158
abbrev tU:FuncId:=159
abbrev ng:FuncId:=160
abbrev hY:FuncId:=161
abbrev p3:FuncId:=162
abbrev iR:FuncId:=163
abbrev mP:FuncId:=164
abbrev rs:FuncId:=165
abbrev wj:FuncId:=166
abbrev qI:FuncId:=167
abbrev eB:FuncId:=169
abbrev Cd:FuncId:=170
abbrev wk:FuncId:=171
abbrev nh:FuncId:=172
abbrev hZ:FuncId:=173
abbrev su:FuncId:=183
abbrev px:FuncId:=185
abbrev AC:FuncId:=188
abbrev Eu:FuncId:=189
abbrev mQ:FuncId:=191
abbrev jU:FuncId:=192
abbrev jZ:FuncId:=193
abbrev nZ:FuncId:=194
abbrev yX:FuncId:=195
abbrev sv:FuncId:=196
abbrev Ce:FuncId:=197
abbrev Gu:FuncId:=198
abbrev wl:FuncId:=199
abbrev yY:FuncId:=200
abbrev hP:FuncId:=202
abbrev tV:FuncId:=203
abbrev iZ:FuncId:=204
abbrev tW:FuncId:=205
abbrev wo:FuncId:=206
abbrev tX:FuncId:=207
abbrev wq:FuncId:=208
abbrev kL:FuncId:=215
abbrev o7:FuncId:=216
abbrev o8:FuncId:=217
abbrev wu:FuncId:=219
abbrev yZ:FuncId:=220
abbrev mA:FuncId:=221
abbrev j7:FuncId:=222
abbrev ru:FuncId:=223
abbrev wv:FuncId:=224
abbrev kj:FuncId:=225
abbrev uw:FuncId:=226
abbrev dO:FuncId:=227
abbrev kl:FuncId:=228
abbrev mR:FuncId:=229
abbrev p4:FuncId:=231
abbrev u4:FuncId:=237
abbrev tY:FuncId:=238
abbrev tZ:FuncId:=239
abbrev Ev:FuncId:=240
abbrev ux:FuncId:=241
abbrev y0:FuncId:=242
abbrev AD:FuncId:=243
abbrev rv:FuncId:=244
abbrev ry:FuncId:=245
abbrev rz:FuncId:=246
abbrev gr:FuncId:=249
abbrev k4:FuncId:=253
abbrev kx:FuncId:=255
abbrev ww:FuncId:=256
abbrev o9:FuncId:=257
abbrev mB:FuncId:=258
abbrev jV:FuncId:=259
abbrev p5:FuncId:=261
abbrev Gv:FuncId:=262
abbrev mS:FuncId:=264
abbrev ni:FuncId:=265
abbrev mC:FuncId:=266
abbrev gQ:FuncId:=267
abbrev je:FuncId:=271
abbrev ky:FuncId:=272
abbrev eb:FuncId:=273
abbrev iK:FuncId:=274
abbrev j0:FuncId:=275
abbrev wx:FuncId:=276
abbrev k5:FuncId:=282
abbrev kz:FuncId:=283
abbrev sw:FuncId:=284
abbrev rJ:FuncId:=287
abbrev j8:FuncId:=288
abbrev jP:FuncId:=289
abbrev rA:FuncId:=290
abbrev p6:FuncId:=291
abbrev ua:FuncId:=293
abbrev lR:FuncId:=294
abbrev sx:FuncId:=295
abbrev sy:FuncId:=298
abbrev n0:FuncId:=299
abbrev p7:FuncId:=300
abbrev RV:TypeId:=124
def e4(c:UInt8):Bool:=decide (97<=YM c.toNat)&&decide (YM c.toNat<=122)
def dY(c:UInt8):Bool:=decide (65<=YM c.toNat)&&decide (YM c.toNat<=90)
def isDigit(c:UInt8):Bool:=decide (48<=YM c.toNat)&&decide (YM c.toNat<=57)
def isWord(c:UInt8):Bool:=e4 c||dY c||isDigit c||decide (YM c.toNat=95)
variable{a:dC->VS->Prop} {d:VS}
theorem qJ(c:UInt8)(g:a (.ret (ct (e4 c))) d):b1 C b7 Ce [gq c] d a:=by
 refine b9 ?_;apply aZ<;>intro b
 ·exact a8 b (a8 b (db (by simp only[e4,b,YU]) g))
 ·exact a6 b (a6 b (db (by simp only[e4,b,YO]) g))
theorem qK(c:UInt8)(g:a (.ret (ct (dY c))) d):b1 C b7 yZ [gq c] d a:=by
 refine b9 ?_;apply aZ<;>intro b
 ·exact a8 b (a8 b (db (by simp only[dY,b,YU]) g))
 ·exact a6 b (a6 b (db (by simp only[dY,b,YO]) g))
theorem n1(c:UInt8)(g:a (.ret (ct (isDigit c))) d):b1 C b7 ux [gq c] d a:=by
 refine b9 ?_;apply aZ<;>intro b
 ·exact a8 b (a8 b (db (by simp only[isDigit,b,YU]) g))
 ·exact a6 b (a6 b (db (by simp only[isDigit,b,YO]) g))
theorem xL(c:UInt8)(i:a (.ret (ct (isWord c))) d):b1 C b7 wl [gq c] d a:=by
 refine b9 ?_;refine qJ c ?_;apply aZ<;>intro g
 ·exact a8 g (a8 g (db (by simp only[isWord,g,YY]) i))
 ·refine a6 g (qK c ?_);refine a6 g ?_;apply aZ<;>intro b
  ·exact a8 b (a8 b (db (by simp only[isWord,b,YY,Bool.or_true]) i))
  ·refine a6 b (n1 c ?_);refine a6 b ?_;apply aZ<;>intro h
   ·exact a8 h (a8 h (db (by simp only[isWord,h,YY,Bool.or_true]) i))
   ·exact a6 h (a6 h (db (by simp only[isWord,g,b,h,Bool.false_or]) i))
structure AE (g:Nat) (p:UInt8->Bool):Prop where
 is:(C.ff.get g).isSome=true
 spec:∀(c:UInt8) {σ:VS} {K:dC->VS->Prop},K (.ret (ct (p c))) σ->b1 C b7 g [gq c] σ K
theorem zr:AE wl isWord:=⟨rfl,fun b=>xL b⟩
theorem AF:AE ux isDigit:=⟨rfl,fun b=>n1 b⟩
variable{f:Nat}
theorem sA{p:UInt8->Bool}(l:AE f p)(b:List UInt8)(m:b.length<4294967296)(j:a (.ret (ct (b.all p))) d):b1 C b7 Gu [cq b,.fn f [] []] d a:=by
 refine b9 ?_;refine cl.less (eW:=[(8,b3 0),(7,b3 b.length),(4,ct false),(1,.fn f [] []),(0,cq b)]) ⟨Z,Z,Z,Z,Z,tv⟩ ?_;refine cl.iter (fun c:Nat=>[(8,b3 c),(7,b3 b.length),(4,ct false),(1,.fn f [] []),(0,cq b)]) (fun _=>d) (fun c=>b.length-c) (fun c=>c<=b.length/\(b.take c).all p=true) ?_ 0 ⟨om,by simp⟩;rintro c ⟨n,h⟩;apply aZ<;>intro i
 ·have i:c<b.length:=by simpa using i
  have g:b[c]?=some b[c]:=YR i;refine b0 Z (b4 b[c] (by rw[cv];exact g) ?_);refine a8 l.is ?_;refine l.spec b[c] ?_;apply aZ<;>intro k
  ·refine db ?_ j
   symm
   rw[List.all_eq_false];exact⟨b[c],List.getElem_mem i,by simpa using k⟩
  ·refine⟨c+1,⟨om,?_⟩,om,.same ⟨int_eq ?_,Z,Z,Z,Z,tv⟩ Z,Z,Z⟩
   ·rw[List.take_add_one,g];simp only[List.all_append,h,Option.toList,List.all_cons,List.all_nil,Bool.and_true,YU];simpa using k
   ·exact cp om
 ·have i:¬c<b.length:=by simpa using i
  refine db ?_ j;rw[List.take_of_length_le om]at h;exact h.symm
theorem Cf(b t:List UInt8)(h:b.length<4294967281)(c:a (.ret (ct (jX t b))) d):b1 C b7 F.strings_Contains [cq b,cq t] d a:=by
 refine dy (args:=[.str b,.str t]) (x:=.bool (jX t b)) ?_ Z c;have:Nat.blt b.length 4294967281=true:=by rw[oN];exact decide_eq_true h
 simp only[b7,Gs,List.map_cons,List.map_nil,cx];show(match Nat.blt b.length 4294967281 with|true=>_|false=>_)=_;rw[this]
def zs:List UInt8:=[32,97,110,100,32,97,110,121,32,97,115,32,98,111,111,108,32,100,101,112,114,101,99,97,116,101,100,32,101,108,115,101,32,101,120,112,111,114,116,32,102,97,108,115,101,32,102,110,32,102,111,108,100,32,102,114,111,109,32,105,102,32,105,109,112,111,114,116,32,105,110,32,105,110,116,32,108,101,110,103,116,104,32,108,101,116,32,108,105,115,116,32,109,97,116,99,104,32,109,111,100,117,108,101,32,110,111,110,101,32,110,111,116,32,111,114,32,116,101,120,116,32,116,104,101,110,32,116,114,117,101,32,116,121,112,101,32,117,115,101,32]
def O9(b:List UInt8):Bool:=jX (([32]++b)++[32]) zs
theorem qL(b:List UInt8)(g:b.length<4294967296)(c:a (.ret (ct (O9 b))) d):b1 C b7 yY [cq b] d a:=by
 refine b9 ?_;refine a1 ?_ ?_
 ·show 1+b.length<=_;omega
 refine a1 ?_ ?_
 ·show(_::b).length+1<=_;simp only[YP];omega
 refine Cf zs (([32]++b)++[32]) (by simp only[zs,YP,List.length_nil];omega) ?_;exact c
def cM(b:List UInt8):Bool:=decide (b≠[])&&decide (b.length<=32)&&(b.head?.any e4)&&b.all isWord&& !(O9 b)
def dB(b:List UInt8):Bool:=decide (b≠[])&&decide (b.length<=32)&&(b.head?.any dY)&&b.all isWord
theorem fV(s:List UInt8)(n:s.length<4294967296)(h:a (.ret (ct (cM s))) d):b1 C b7 sr [cq s] d a:=by
 refine b9 ?_;apply aZ<;>intro j
 ·repeat refine a8 j ?_
  cases s with
  |nil=>simp at j
  |cons k l=>
   apply aZ<;>intro g
   ·have i:(k::l).length<=32:=CL g;refine a8 g (b0 Z (b4 k Z ?_));refine a8 g (qJ k ?_);refine a8 g ?_;apply aZ<;>intro c
    ·refine a8 c (sA zr (k::l) om ?_);refine a8 c ?_;apply aZ<;>intro b
     ·refine a8 b (qL (k::l) om ?_);refine a8 b ?_;refine a8 b ?_;refine db ?_ h;have b:(k::l).all isWord=true:=b;simp only[cM,decide_eq_true i,c,b,List.head?_cons,Option.any_some];simp
     ·repeat refine a6 b ?_
      refine db ?_ h;have b:(k::l).all isWord=false:=b;simp[cM,b]
    ·repeat refine a6 c ?_
     refine db ?_ h;have c:e4 k=false:=c;simp[cM,c]
   ·repeat refine a6 g ?_
    refine db ?_ h;have i:¬(k::l).length<=32:=YS (wc g);simp only[cM,decide_eq_false i,YX,YO]
 ·repeat refine a6 j ?_
  refine db ?_ h;have m:s=[]:=by simpa using j
  subst m;rfl
theorem fk(s:List UInt8)(m:s.length<4294967296)(h:a (.ret (ct (dB s))) d):b1 C b7 AB [cq s] d a:=by
 refine b9 ?_;apply aZ<;>intro i
 ·repeat refine a8 i ?_
  cases s with
  |nil=>simp at i
  |cons j l=>
   apply aZ<;>intro c
   ·have g:(j::l).length<=32:=CL c;refine a8 c (b0 Z (b4 j Z ?_));refine a8 c (qK j ?_);refine a8 c ?_;apply aZ<;>intro b
    ·refine a8 b (sA zr (j::l) om ?_);refine a8 b ?_;refine db ?_ h;simp only[dB,decide_eq_true g,b,List.head?_cons,Option.any_some];simp
    ·repeat refine a6 b ?_
     refine db ?_ h;have b:dY j=false:=b;simp[dB,b]
   ·repeat refine a6 c ?_
    refine db ?_ h;have g:¬(j::l).length<=32:=YS (wc c);simp only[dB,decide_eq_false g,YX,YO]
 ·repeat refine a6 i ?_
  refine db ?_ h;have k:s=[]:=by simpa using i
  subst k;rfl
theorem Mt(g:List UInt8)(c:UInt8):C.ext jV ([D.str g,sc c].map cx)=some (cx (.int .i64 (indexByte g c.toNat 0))):=by
 have b:Nat.blt c.toNat 256=true:=by rw[oN];exact decide_eq_true c.toNat_lt
 show ext jV [.string ⟨⟨g⟩⟩,.int .u8 (YM c.toNat)]=_;simp only[ext,b];rfl
theorem rB(b:List UInt8)(c:UInt8)(g:a (.ret (.d (.int .i64 (indexByte b c.toNat 0)))) d):b1 C b7 p4 [cq b,gq c] d a:=by
 refine b9 ?_;refine Ep (.int .i64 (indexByte b c.toNat 0)) (Mt b c) Z ?_;exact g
theorem n2(g:List UInt8)(c:UInt8)(b:a (.ret (.d (.int .i64 (indexByte g c.toNat 0)))) d):b1 C b7 tY [cq g,gq c] d a:=by
 refine b9 ?_;refine rB g c ?_;exact b
def c3(b p:List UInt8):Bool:=p.isPrefixOf b
theorem u5{b p:List UInt8}(g:p.length<=b.length):decide ((b.take p.length).drop 0=p)=c3 b p:=by
 rw[List.drop_zero,c3,Bool.eq_iff_iff,decide_eq_true_eq,YQ];exact⟨fun c=>⟨b.drop p.length,by have:=List.take_append_drop p.length b;rw[c]at this;exact this⟩,fun⟨h,c⟩=>by rw[<-c];simp⟩
theorem CO{c p:List UInt8}(g:c.length<p.length):c3 c p=false:=by
 rw[c3,Bool.eq_false_iff];intro b;rw[YQ]at b;have:=b.length_le;omega
theorem mD(g p:List UInt8)(c:a (.ret (ct (c3 g p))) d):b1 C b7 p5 [cq g,cq p] d a:=by
 refine b9 ?_;apply aZ<;>intro b
 ·repeat refine a8 b ?_
  refine b0 Z ?_;refine a1 ⟨Nat.zero_le _,CL b⟩ ?_;repeat refine a8 b ?_
  exact db (u5 (CL b)) c
 ·repeat refine a6 b ?_
  exact db (CO (wc b)).symm c
theorem ed(c p:List UInt8)(b:a (.ret (ct (c3 c p))) d):b1 C b7 tZ [cq c,cq p] d a:=by
 refine b9 ?_;refine mD c p ?_;exact b
def dp(p:UInt8->Bool)(l:List UInt8):Nat:=(l.takeWhile p).length
theorem iz(p:UInt8->Bool)(c:UInt8)(l:List UInt8):dp p (c::l)=if p c then dp p l+1 else 0:=by
 simp only[dp,List.takeWhile_cons];split<;>simp_all
theorem n3(p:UInt8->Bool)(l:List UInt8):dp p l<=l.length:=by
 induction l with
 |nil=>simp[dp]
 |cons c l b=>rw[iz];split<;>simp<;>omega
theorem xM{p:UInt8->Bool}(n:AE f p)(c:List UInt8)(b:Nat)(q:b<=c.length)(r:c.length<4294967296)(k:a (.ret (b3 (b+dp p (c.drop b)))) d):
  b1 C b7 Ev [cq c,b3 b,.fn f [] []] d a:=by
 refine b9 ?_;refine cl.less (eW:=[(1,b3 b),(6,b3 0),(2,.fn f [] []),(0,cq c)]) ⟨Z,Z,Z,Z,tv⟩ ?_;refine cl.iter (fun g:Nat=>[(1,b3 g),(6,b3 0),(2,.fn f [] []),(0,cq c)]) (fun _=>d) (fun g=>c.length-g) (fun g=>g<=c.length/\g+dp p (c.drop g)=b+dp p (c.drop b)) ?_ b ⟨q,Z⟩;rintro g ⟨s,h⟩;apply aZ<;>intro j
 ·have i:=fF j;have l:c[g]?=some c[g]:=YR i;have o:c.drop g=c[g]::c.drop (g+1):=YW i;rw[o,iz]at h;repeat refine a8 j ?_
  refine b0 Z (b4 c[g] (by rw[cv];exact l) ?_);refine a8 j ?_;refine a8 n.is ?_;refine n.spec c[g] ?_;refine a8 j ?_;apply aZ<;>intro m
  ·rw[if_pos m]at h;exact⟨g+1,⟨om,om⟩,om,.same ⟨int_eq (cp om),Z,Z,Z,tv⟩ Z,Z,Z⟩
  ·rw[if_neg (by rw[m];simp)]at h;exact iU (show _=b3 (b+dp p (c.drop b))by rw[<-h];rfl) k
 ·have i:=dR j;rw[YT i]at h;simp only[dp,List.takeWhile_nil,List.length_nil]at h;repeat refine a6 j ?_
  exact iU (show _=b3 (b+dp p (c.drop b))by simp only[dp];rw[<-h];rfl) k
theorem CP{n:Int}(c:0<=n)(b:n<256):IntKind.u8.wrap n=n:=by
 have:IntKind.u8.wrap n=n%256:=rfl;rw[this];omega
def j1(c:UInt8):Option Nat:=if isDigit c then some (c.toNat-48)else if decide (97<=c.toNat)&&decide (c.toNat<=102)then some (c.toNat-87)else none
def js(c:UInt8):V:=match j1 c with
 |some b=>.dV [.d (.int .u8 (YM b)),ct true]
 |none=>.dV [.d (.int .u8 0),ct false]
theorem wy{c:UInt8}(b:isDigit c=true):48<=c.toNat/\c.toNat<=57:=by
 simp only[isDigit,Bool.and_eq_true]at b;exact⟨CL (a:=48) b.1,CL (b:=57) b.2⟩
theorem AG(c:UInt8)(h:a (.ret (js c)) d):b1 C b7 Gv [gq c] d a:=by
 refine b9 ?_;refine n1 c ?_;apply aZ<;>intro j
 ·refine iU ?_ h;have l:=wy j;simp only[js,j1,j,if_pos];show V.dV [V.d (.int .u8 (IntKind.u8.wrap (YM c.toNat-48))),_]=_;rw[CP (by simp only[YL];omega) (by simp only[YL];omega)];have:YM c.toNat-48=YM (c.toNat-48):=by simp only[YL];omega
  rw[this];rfl
 ·apply aZ<;>intro i
  ·have g:97<=c.toNat:=CL (a:=97) i;repeat refine a8 i ?_
   apply aZ<;>intro k
   ·have b:c.toNat<=102:=CL (b:=102) k;refine iU ?_ h;simp only[js,j1,j,decide_eq_true g,decide_eq_true b,Bool.and_self,if_pos];show V.dV [V.d (.int .u8 (IntKind.u8.wrap (IntKind.u8.wrap (YM c.toNat-97)+10))),_]=_;rw[CP (n:=YM c.toNat-97) (by simp only[YL];omega) (by simp only[YL];omega)];rw[CP (by simp only[YL];omega) (by simp only[YL];omega)];have:YM c.toNat-97+10=YM (c.toNat-87):=by simp only[YL];omega
    rw[this];rfl
   ·have b:¬c.toNat<=102:=YS (wc (b:=102) k);refine iU ?_ h;simp only[js,j1,j,decide_eq_false b,YX];rfl
  ·have g:¬97<=c.toNat:=YS (wc (a:=97) i);repeat refine a6 i ?_
   refine iU ?_ h;simp only[js,j1,j,decide_eq_false g,YO];rfl
def n4:List (List UInt8):=[[61,61,61],[58,58],[62,58],[60,58],[61,62],[61,61],[43,43]]
def wz:List UInt8:=[40,41,91,93,123,125,60,62,44,58,61,46,43,45,42,124,63,47]
def fN(b:List UInt8):List UInt8:=match n4.find? (c3 b)with
 |some g=>g
 |none=>match b with
  |[]=>[]
  |c::_=>if 0<=indexByte wz c.toNat 0 then [c]else []
theorem Gw(s:List UInt8)(c:a (.ret (cq (fN s))) d):b1 C b7 AD [cq s] d a:=by
 refine b9 ?_;refine cl.loop ?_;refine b0 (m:=0) Z (a1 dc ?_);refine ed s [61,61,61] ?_;refine aZ (fun b=>?_) (fun h=>?_)
 ·refine iU ?_ c;have b:c3 s [61,61,61]=true:=b;simp only[fN,n4,YN,b];rfl
 have h:c3 s [61,61,61]=false:=h;refine cl.loop ?_;refine b0 (m:=1) Z (a1 dc ?_);refine ed s [58,58] ?_;refine aZ (fun b=>?_) (fun i=>?_)
 ·refine iU ?_ c;have b:c3 s [58,58]=true:=b;simp only[fN,n4,YN,h,b];rfl
 have i:c3 s [58,58]=false:=i;refine cl.loop ?_;refine b0 (m:=2) Z (a1 dc ?_);refine ed s [62,58] ?_;refine aZ (fun b=>?_) (fun g=>?_)
 ·refine iU ?_ c;have b:c3 s [62,58]=true:=b;simp only[fN,n4,YN,h,i,b];rfl
 have g:c3 s [62,58]=false:=g;refine cl.loop ?_;refine b0 (m:=3) Z (a1 dc ?_);refine ed s [60,58] ?_;refine aZ (fun b=>?_) (fun j=>?_)
 ·refine iU ?_ c;have b:c3 s [60,58]=true:=b;simp only[fN,n4,YN,h,i,g,b];rfl
 have j:c3 s [60,58]=false:=j;refine cl.loop ?_;refine b0 (m:=4) Z (a1 dc ?_);refine ed s [61,62] ?_;refine aZ (fun b=>?_) (fun k=>?_)
 ·refine iU ?_ c;have b:c3 s [61,62]=true:=b;simp only[fN,n4,YN,h,i,g,j,b];rfl
 have k:c3 s [61,62]=false:=k;refine cl.loop ?_;refine b0 (m:=5) Z (a1 dc ?_);refine ed s [61,61] ?_;refine aZ (fun b=>?_) (fun l=>?_)
 ·refine iU ?_ c;have b:c3 s [61,61]=true:=b;simp only[fN,n4,YN,h,i,g,j,k,b];rfl
 have l:c3 s [61,61]=false:=l;refine cl.loop ?_;refine b0 (m:=6) Z (a1 dc ?_);refine ed s [43,43] ?_;refine aZ (fun b=>?_) (fun n=>?_)
 ·refine iU ?_ c;have b:c3 s [43,43]=true:=b;simp only[fN,n4,YN,h,i,g,j,k,l,b];rfl
 have n:c3 s [43,43]=false:=n;have o:n4.find? (c3 s)=none:=by simp only[n4,YN,h,i,g,j,k,l,n,List.find?_nil]
 refine cl.loop ?_;apply aZ<;>intro b
 ·repeat refine a8 b ?_
  cases s with
  |nil=>simp at b
  |cons q r=>
   refine b0 (m:=0) Z (b4 q Z ?_);refine n2 wz q ?_;apply aZ<;>intro g
   ·refine b0 (m:=1) Z (a1 ⟨om,by simp⟩ ?_);refine iU ?_ c;simp only[fN,o];rw[if_pos (of_decide_eq_true g)];rfl
   ·refine iU ?_ c;simp only[fN,o];rw[if_neg (of_decide_eq_false g)];rfl
 ·repeat refine a6 b ?_
  have p:s=[]:=by simpa using b
  subst p;exact iU Z c
def cZ:Bool->List UInt8->Nat
 |_,[]=>0
 |true,b::c=>1+cZ (decide (b≠10)) c
 |false,b::c=>if b=47/\c.head? =some 47 then 1+cZ true c else if b=32∨b=9∨b=10∨b=13 then 1+cZ false c else 0
theorem j9(b:Bool)(l:List UInt8):cZ b l<=l.length:=by
 induction l generalizing b with
 |nil=>cases b<;>simp[cZ]
 |cons g h c=>
  cases b with
  |true=>simp only[cZ,YP];have:=c (decide (g≠10));omega
  |false=>
   simp only[cZ,YP];split
   ·have:=c true;omega
   ·split
    ·have:=c false;omega
    ·omega
def pa(c:UInt8):Prop:=c=32∨c=9∨c=10∨c=13
instance (c:UInt8):Decidable (pa c):=by unfold pa;infer_instance
theorem CQ(c:UInt8):decide (0<=indexByte [32,9,10,13] c.toNat 0)=decide (pa c):=by
 have l:∀j:UInt8,Nat.beq j.toNat c.toNat=decide (c=j):=fun j=>by
  rw[KJ];exact decide_eq_decide.2 ⟨fun k=>(UInt8.toNat_inj.1 k).symm,fun k=>by rw[k]⟩
 simp only[indexByte,l,pa];by_cases b:c=32
 ·simp[b]
 ·by_cases g:c=9
  ·simp[b,g]
  ·by_cases h:c=10
   ·simp[b,g,h]
   ·by_cases i:c=13
    ·simp[b,g,h,i]
    ·simp[b,g,h,i]
variable{e:List UInt8}
theorem kF{c:UInt8}(g:pa c):cZ false (c::e)=1+cZ false e:=by
 have b:¬(c=47/\e.head? =some 47):=by
  rintro⟨rfl,_⟩;revert g;decide
 simp only[cZ,if_neg b];exact if_pos g
theorem I6{c:UInt8}(i:¬pa c)(h:c3 (c::e) [47,47]=false):cZ false (c::e)=0:=by
 have g:¬(c=47/\e.head? =some 47):=by
  rintro⟨rfl,b⟩;cases e with
  |nil=>cases b
  |cons j e=>simp at b;subst b;simp[c3]at h
 simp only[cZ,if_neg g];exact if_neg i
theorem Cg{l:List UInt8}(b:c3 l [47,47]=true):cZ false l=cZ true l:=by
 rw[c3,YQ]at b;obtain⟨c,rfl⟩:=b;show cZ false (47::47::c)=cZ true (47::47::c);rfl
theorem VD:∀(c:List UInt8) (b:Nat),(indexByte c 10 b= -1/\cZ true c=c.length)∨∃h,h<c.length/\indexByte c 10 b=YM (b+h)/\c[h]?=some 10/\cZ true c=h+cZ false (c.drop h):=by
 intro c;induction c with
 |nil=>intro b;exact .inl ⟨rfl,rfl⟩
 |cons n m o=>
  intro b;by_cases i:n=10
  ·subst i;refine .inr ⟨0,by simp,by simp[indexByte],rfl,?_⟩;rw[List.drop_zero,kF dc];simp[cZ]
  ·have r:Nat.beq n.toNat 10=false:=nR fun s=>i (UInt8.toNat_inj.1 s);have j:indexByte (n::m) 10 b=indexByte m 10 (b+1):=by simp only[indexByte,r]
   have l:cZ true (n::m)=1+cZ true m:=by simp only[cZ,ne_eq,i,not_false_eq_true,decide_true]
   rcases o (b+1)with⟨k,g⟩|⟨h,k,g,p,q⟩
   ·exact .inl ⟨by rw[j,k],by rw[l,g,YP];omega⟩
   ·refine .inr ⟨h+1,by simp;omega,by rw[j,g];congr 1;omega,by simpa using p,by rw[l,q,List.drop_succ_cons];omega⟩
theorem sB(c:List UInt8)(b:Nat)(t:b<=c.length)(z:c.length<4294967296)(q:a (.ret (b3 (b+cZ false (c.drop b)))) d):
  b1 C b7 AC [cq c,b3 b] d a:=by
 refine b9 ?_;refine cl.less (eW:=[(1,b3 b),(4,b3 0),(0,cq c)]) ⟨Z,Z,Z,tv⟩ ?_;refine cl.iter (fun g:Nat=>[(1,b3 g),(4,b3 0),(0,cq c)]) (fun _=>d) (fun g=>c.length-g) (fun g=>g<=c.length/\g+cZ false (c.drop g)=b+cZ false (c.drop b)) ?_ b ⟨t,Z⟩;rintro g ⟨A,h⟩;apply aZ<;>intro y
 ·have l:=fF y;have m:c[g]?=some c[g]:=YR l;have n:c.drop g=c[g]::c.drop (g+1):=YW l;refine b0 Z (b4 c[g] (by rw[cv];exact m) ?_);refine n2 [32,9,10,13] c[g] ?_;apply aZ<;>intro p
  ·have k:pa c[g]:=by
    have:decide (0<=indexByte [32,9,10,13] c[g].toNat 0)=true:=p;rw[CQ]at this;exact of_decide_eq_true this
   rw[n,kF k]at h;exact⟨g+1,⟨om,om⟩,om,.same ⟨int_eq (cp om),Z,Z,tv⟩ Z,Z,Z⟩
  ·have k:¬pa c[g]:=by
    have:decide (0<=indexByte [32,9,10,13] c[g].toNat 0)=false:=p;rw[CQ]at this;exact of_decide_eq_false this
   refine b0 Z (a1 ⟨om,YV _⟩ ?_);refine ed _ [47,47] ?_;rw[List.take_length];apply aZ<;>intro s
   ·have j:c3 (c.drop g) [47,47]=true:=s;rw[Cg j]at h;refine b0 Z (a1 ⟨om,YV _⟩ ?_);refine n2 _ 10 ?_;rw[List.take_length];rcases VD (c.drop g) 0 with⟨o,i⟩|⟨x,o,i,r,v⟩
    ·refine a6 (by show decide (0<=indexByte (c.drop g) 10 0)=false;rw[o];rfl) ?_;rw[i,List.length_drop]at h;exact⟨c.length,⟨YV _,by rw[YT (YV _)];simp only[cZ];omega⟩,om,.same ⟨rfl,rfl,rfl,tv⟩ rfl,rfl,rfl⟩
    ·rw[Nat.zero_add]at i;refine a8 (by show decide (0<=indexByte (c.drop g) 10 0)=true;rw[i];exact decide_eq_true sm) ?_;rw[v,List.drop_drop]at h;rw[List.length_drop]at o;have w:x≠0:=fun B=>by
      subst B;rw[List.getElem?_drop,Nat.add_zero,m]at r;injection r with u;exact k (.inr (.inr (.inl u)))
     exact⟨g+x,⟨om,om⟩,om,.same ⟨int_eq (by show IntKind.i64.wrap (YM g+indexByte (c.drop g) 10 0)=_;rw[i];exact dg om),rfl,rfl,tv⟩ rfl,rfl,rfl⟩
   ·have j:c3 (c[g]::c.drop (g+1)) [47,47]=false:=by rw[<-n];exact s
    rw[n,I6 k j]at h;exact iU (show _=b3 (b+cZ false (c.drop b))by rw[<-h];rfl) q
 ·have l:=dR y;rw[YT l]at h;simp only[cZ]at h;exact iU (show _=b3 (b+cZ false (c.drop b))by rw[<-h];rfl) q
end Go.Proofs.YtpejealjkmhkgaaGreatDoor
