/- Part of the proof. -/
import Derived.Test.YtpejealjkmhkgaaGreatDoorKAx
set_option linter.all false
set_option maxHeartbeats 16000000
set_option maxRecDepth 100000
open List renaming length_drop->abK,getElem?_eq_getElem->abL,drop_eq_getElem_cons->aev,all_eq_true->aeN,length_cons->aeO,drop_of_length_le->aeP,drop_drop->aeQ,map_congr_left->aeR
open Bool renaming and_eq_true->aet,not_eq_false'->aeU
open Nat renaming not_lt_zero->aeu,le_of_ble_eq_true->aeM,le_refl->aeT
open Int renaming ofNat->aeS
namespace Go.Proofs.YtpejealjkmhkgaaGreatDoor
open Go.AM Go.VM
inductive Ml where
 |ok (kind:Nat) (text:cq) (n:Nat)
 |err (e:Nat)
def nM(t:cq)(n:Nat):Ml:=if Tg t then .ok 5 t n else if cK t then .ok 1 t n else if dX t then .ok 2 t n else .err 4
def mZ(l t:cq)(n:Nat)(c:UInt8):Ml:=if 19<t.length∨(1<t.length/\c=48)∨(l.drop n).head?.any isWord=true then .err 3 else .ok 3 t n
def oa:cq->Ml
 |[]=>.err 3
 |c::a=>
  if k9 c||iT c then nM ((c::a).take (et isWord (c::a))) (et isWord (c::a))
  else if isDigit c then mZ (c::a) ((c::a).take (et isDigit (c::a))) (et isDigit (c::a)) c
  else if c=34 then match fv a with
   |some (d,b)=>.ok 4 d (b+1)
   |none=>.err 3
  else if jE (c::a)=[]then .err 3 else .ok 6 (jE (c::a)) (jE (c::a)).length
def Wj(b:Nat)(t:cq)(a:Nat):V:=.agg [bW b,cn t,bW a]
def JK(a:Nat)(e:Ml)(d:cO):Prop:=match e with
 |.ok c b f=>d=.ret (.dS [Wj c b a,bW (a+f),bW 0])
 |.err g=>∃c b,d=.ret (.dS [Wj c b a,bW a,bW g])
theorem gQ{a:Nat}{g:Ml}{d:V}{f e:cN}(i:JK a g (.ret d))(b:bd 0 d=true):cU 0 (.ret d) [f,e] fun h c=>c=[]/\cM h=true/\JK a g h:=
 .drop 0 rfl rfl b (.now rfl ⟨rfl,b,i⟩)
theorem P8(l:cq):(jE l).length<=3:=by
 unfold jE;split
 ·rename_i b a;have:=List.mem_of_find?_eq_some a;simp only[uX,List.mem_cons,List.not_mem_nil,or_false]at this;rcases this with rfl|rfl|rfl|rfl|rfl|rfl|rfl<;>simp
 ·split
  ·simp
  ·split<;>simp
theorem FF(s:cq)(gf:Nat)(p:gf<s.length)(hs:s.length<4294967296){σ:VS}{K:cO->VS->Prop}(A:∀E,JK gf (oa (s.drop gf)) E->K E σ):
  bV C ca Hp [cn s,bW gf] σ K:=by
 refine bV.closed (P:=JK gf (oa (s.drop gf))) ?_ Z A;have o:s.drop gf=s[gf]::s.drop (gf+1):=aev p;refine cm ?_;refine bZ Z (cc s[gf] (by rw[ck];exact abL p) ?_);have j:(k9 s[gf]||iT s[gf])=true->oa (s.drop gf)=nM ((s.drop gf).take (et isWord (s.drop gf))) (et isWord (s.drop gf)):=fun h=>by
  rw[o];simp only[oa,h,if_true]
 have hsl:(s.take (gf+et isWord (s.drop gf))).drop gf=(s.drop gf).take (et isWord (s.drop gf)):=by rw[List.drop_take];congr 1;omega
 have hle:gf+et isWord (s.drop gf)<=s.length:=by have:=y0 isWord (s.drop gf);rw[abK]at this;omega
 have htl:((s.drop gf).take (et isWord (s.drop gf))).length<4294967296:=by rw[List.length_take,abK];omega
 refine sJ s[gf] ?_;apply aZ<;>intro i
 ·have x5:=j (by rw[i];rfl);repeat refine cg i ?_
  exact Yf
 ·repeat refine a7 i ?_
  refine sK s[gf] ?_;repeat refine a7 i ?_
  apply aZ<;>intro n
  ·have x5:=j (by rw[n];simp);exact Yf
  ·have m:(k9 s[gf]||iT s[gf])=false:=by rw[i,n];rfl
   refine pZ s[gf] ?_;apply aZ<;>intro h2
   ·have x5:oa (s.drop gf)=mZ (s.drop gf) ((s.drop gf).take (et isDigit (s.drop gf))) (et isDigit (s.drop gf)) s[gf]:=by
     rw[o];simp only[oa,m,h2,if_true];rfl
    have q:(s.take (gf+et isDigit (s.drop gf))).drop gf=(s.drop gf).take (et isDigit (s.drop gf)):=by rw[List.drop_take];congr 1;omega
    have r:gf+et isDigit (s.drop gf)<=s.length:=by have:=y0 isDigit (s.drop gf);rw[abK]at this;omega
    refine E4 Il s gf om hs ?_;refine bZ Z (bZ Z (a6 ⟨om,r⟩ ?_));refine cf ?_;refine cf ?_;refine cf ?_;rw[<-q]at x5;have B:∀{y:Prop} [Decidable y],y->(if y then Ml.err 3 else Ml.ok 3 ((s.take (gf+et isDigit (s.drop gf))).drop gf) (et isDigit (s.drop gf)))=.err 3:=fun h=>if_pos h;have fe:∀{F:V},(∃I J,cO.ret F=.ret (.dS [Wj I J gf,bW gf,bW 3]))->oa (s.drop gf)=.err 3->JK gf (oa (s.drop gf)) (.ret F):=fun i h2=>by rw[h2];exact i
    apply aZ<;>intro c
    ·repeat refine cg c ?_
     refine gQ (fe ⟨3,_,Z⟩ ?_) Z;rw[x5,mZ,if_pos (.inl (ee (a:=19) c))]
    ·have L:=dq (a:=19) c;repeat refine a7 c ?_
     apply aZ<;>intro f
     ·have x:=ee (a:=1) f;repeat (first|refine cg f ?_|refine a7 c ?_)
      apply aZ<;>intro e
      ·have l:s[gf]=48:=UInt8.toNat_inj.1 (AJ (b:=48) e);repeat (first|refine cg e ?_|refine a7 c ?_)
       refine gQ (fe ⟨3,_,Z⟩ ?_) Z;rw[x5,mZ,if_pos (.inr (.inl ⟨x,l⟩))]
      ·have l:s[gf]≠48:=fun D=>ED (b:=48) e (by rw[D];rfl);repeat (first|refine a7 e ?_|refine a7 c ?_)
       apply aZ<;>intro d
       ·have g:gf+et isDigit (s.drop gf)<s.length:=ee d;have hdr:(s.drop gf).drop (et isDigit (s.drop gf))=s[gf+et isDigit (s.drop gf)]::s.drop (gf+et isDigit (s.drop gf)+1):=by rw[aeQ];exact aev g
        repeat (first|refine cg d ?_|refine a7 c ?_|refine a7 e ?_)
        refine bZ Z (cc s[gf+et isDigit (s.drop gf)] (by rw[ck];exact abL g) ?_);repeat (first|refine cg d ?_|refine a7 c ?_|refine a7 e ?_)
        refine An s[gf+et isDigit (s.drop gf)] ?_;repeat (first|refine cg d ?_|refine a7 c ?_|refine a7 e ?_)
        apply aZ<;>intro hE
        ·repeat (first|refine cg hE ?_|refine a7 c ?_|refine a7 e ?_)
         exact aci
        ·repeat (first|refine a7 hE ?_|refine a7 c ?_|refine a7 e ?_)
         refine gQ ?_ Z;rw[x5,mZ,if_neg]
         ·rfl
         ·rintro(h|⟨h,k⟩|h)
          ·omega
          ·exact l k
          ·exact aaj
       ·have g:s.length<=gf+et isDigit (s.drop gf):=dq d;repeat (first|refine a7 d ?_|refine a7 c ?_|refine a7 e ?_)
        refine gQ ?_ Z;rw[x5,mZ,if_neg]
        ·rfl
        ·rintro(h|⟨h,k⟩|h)
         ·omega
         ·exact l k
         ·rw[aeQ,aeP g]at h;cases h
     ·have x:=dq (a:=1) f;repeat (first|refine a7 f ?_|refine a7 c ?_)
      apply aZ<;>intro d
      ·have g:gf+et isDigit (s.drop gf)<s.length:=ee d;have hdr:(s.drop gf).drop (et isDigit (s.drop gf))=s[gf+et isDigit (s.drop gf)]::s.drop (gf+et isDigit (s.drop gf)+1):=by rw[aeQ];exact aev g
       repeat (first|refine cg d ?_|refine a7 c ?_|refine a7 f ?_)
       refine bZ Z (cc s[gf+et isDigit (s.drop gf)] (by rw[ck];exact abL g) ?_);repeat (first|refine cg d ?_|refine a7 c ?_|refine a7 f ?_)
       refine An s[gf+et isDigit (s.drop gf)] ?_;repeat (first|refine cg d ?_|refine a7 c ?_|refine a7 f ?_)
       apply aZ<;>intro hE
       ·repeat (first|refine cg hE ?_|refine a7 c ?_|refine a7 f ?_)
        exact aci
       ·repeat (first|refine a7 hE ?_|refine a7 c ?_|refine a7 f ?_)
        refine gQ ?_ Z;rw[x5,mZ,if_neg]
        ·rfl
        ·rintro(h|⟨h,k⟩|h)
         ·omega
         ·omega
         ·exact aaj
      ·have g:s.length<=gf+et isDigit (s.drop gf):=dq d;repeat (first|refine a7 d ?_|refine a7 c ?_|refine a7 f ?_)
       refine gQ ?_ Z;rw[x5,mZ,if_neg]
       ·rfl
       ·rintro(h|⟨h,k⟩|h)
        ·omega
        ·omega
        ·rw[aeQ,aeP g]at h;cases h
   ·have a:oa (s.drop gf)=if s[gf]=34 then(match fv (s.drop (gf+1))with
      |some (b,v)=>.ok 4 b (v+1)
      |none=>.err 3)else if jE (s.drop gf)=[]then .err 3 else .ok 6 (jE (s.drop gf)) (jE (s.drop gf)).length:=by
     rw[o];simp only[oa,m,h2];rfl
    apply aZ<;>intro h3
    ·have t:s[gf]=34:=UInt8.toNat_inj.1 (AJ (b:=34) h3);rw[if_pos t]at a;refine Hs s gf p hs ?_;cases w:fv (s.drop (gf+1))with
     |none=>
      rw[w]at a;refine gQ ?_ Z;rw[a];exact⟨0,[],Z⟩
     |some H=>
      obtain⟨b,v⟩:=H;rw[w]at a;refine gQ ?_ Z;rw[a];show cO.ret _=cO.ret (.dS [_,bW (gf+(v+1)),_]);rw[show gf+(v+1)=gf+1+v from by omega];rfl
    ·have t:s[gf]≠34:=fun D=>ED (b:=34) h3 (by rw[D];rfl);rw[if_neg t]at a;refine bZ Z (a6 ⟨om,aeT _⟩ ?_);rw[List.take_length];refine JH (s.drop gf) ?_;apply aZ<;>intro h4
     ·have u:jE (s.drop gf)=[]:=of_decide_eq_true h4;refine gQ ?_ Z;rw[a,if_pos u];exact⟨6,_,Z⟩
     ·have u:jE (s.drop gf)≠[]:=of_decide_eq_false h4;refine cf ?_;refine cf ?_;refine cf ?_;refine cf ?_;refine gQ ?_ Z;rw[a,if_neg u];have G:(jE (s.drop gf)).length<=3:=P8 _;show cO.ret (.dS [_,V.d (.int .i64 (IntKind.i64.wrap (aeS gf+aeS (jE (s.drop gf)).length))),_])=cO.ret (.dS [_,bW (gf+(jE (s.drop gf)).length),_]);rw[c4 om];rfl
structure Tok where
 kind:Nat
 text:cq
 off:Nat
def rq(t:Tok):cH:=[.int .i64 (aeS t.kind),.str t.text,.int .i64 (aeS t.off)]
inductive Ao where
 |ok (l:List Tok)
 |err (off e:Nat)
def Ao.cons(t:Tok):Ao->Ao
 |.ok c=>.ok (t::c)
 |.err a b=>.err a b
def Ao.P9(b:List Tok):Ao->Ao
 |.ok d=>.ok (b++d)
 |.err a c=>.err a c
theorem Ht(a:Ao):a.P9 []=a:=by cases a<;>rfl
theorem EQ(b:List Tok)(t:Tok)(a:Ao):(a.cons t).P9 b=a.P9 (b++[t]):=by cases a<;>simp[Ao.cons,Ao.P9]
def jF(s:cq):Nat->Nat->Ao
 |0,_=>.ok []
 |f+1,a=>
  if s.length<=a then .ok [⟨0,[],s.length⟩]
  else match oa (s.drop a)with
   |.err e=>.err a e
   |.ok d c b=>(jF s f (a+b+dZ false (s.drop (a+b)))).cons ⟨d,c,a⟩
def jl(s:cq):Ao:=if 65536<s.length then .err 0 7 else jF s (s.length+1) (dZ false s)
theorem Tk:∀(h:Nat) (j:cq),j.length<=h->∀p f,fv j=some (p,f)->1<=f/\f<=j.length:=by
 intro h;induction h with
 |zero=>
  intro j i p f a;cases j with
  |nil=>rw[fv.eq_def]at a;cases a
  |cons _ _=>simp at i
 |succ h v=>
  intro j i p f a;cases j with
  |nil=>rw[fv.eq_def]at a;cases a
  |cons o l=>
   have n:l.length<=h:=by simpa using i
   have step:∀(k:cq) (t:Nat) (s:UInt8),k.length+t<=l.length+1->k.length<=h->((fv k).map fun w=>(s::w.1,w.2+t))=some (p,f)->1<=f/\f<=(o::l).length:=by
    intro k t s d c b;cases g:fv k with
    |none=>rw[g]at b;cases b
    |some u=>
     rw[g]at b;cases b;have:=v k c u.1 u.2 g;simp only[aeO];omega
   by_cases d:o=34
   ·subst d;rw[De]at a;cases a;simp
   ·by_cases c:o<32
    ·rw[JI d c]at a;cases a
    ·by_cases b:o=92
     ·subst b;rw[p6]at a;cases l with
      |nil=>cases a
      |cons x e=>
       have m:e.length+1<=h:=by simpa using n
       simp only at a;split at a
       ·exact step e 2 _ sm om a
       ·split at a
        ·exact step e 2 _ sm om a
        ·split at a
         ·cases e with
          |nil=>cases a
          |cons s q=>
           cases q with
           |nil=>cases a
           |cons u r=>
            simp only at a;split at a
            ·exact step r 4 _ sm (by simp at m;omega) a
            ·cases a
         ·cases a
     ·rw[Df d c b]at a;exact step l 1 o om n a
theorem Tl(l:cq):(jE l).length<=l.length:=by
 unfold jE;split
 ·rename_i b a;have:=List.find?_some a;have:eB l b=true:=this;rw[eB,List.isPrefixOf_iff_prefix]at this;exact this.length_le
 ·split
  ·simp
  ·split<;>simp
theorem Mm{c:UInt8}(a:(k9 c||iT c)=true):isWord c=true:=by
 simp only[isWord];rw[a];rfl
theorem y7{l:cq}{j n:Nat}{t:cq}(a:oa l=.ok j t n):0<n/\n<=l.length:=by
 cases l with
 |nil=>cases a
 |cons h g=>
  simp only[oa]at a;have c:=y0 isWord (h::g);have f:=y0 isDigit (h::g);split at a
  ·rename_i d;have b:0<et isWord (h::g):=by rw[p5,if_pos (Mm d)];omega
   unfold nM at a;split at a
   ·cases a;exact⟨b,c⟩
   ·split at a
    ·cases a;exact⟨b,c⟩
    ·split at a
     ·cases a;exact⟨b,c⟩
     ·cases a
  ·split at a
   ·rename_i d;have b:0<et isDigit (h::g):=by rw[p5,if_pos d];omega
    unfold mZ at a;split at a
    ·cases a
    ·cases a;exact⟨b,f⟩
   ·split at a
    ·split at a
     ·rename_i k m i;cases a;have:=Tk _ _ (aeT _) _ _ i;simp only[aeO];omega
     ·cases a
    ·split at a
     ·cases a
     ·rename_i e;cases a;exact⟨List.length_pos_iff.2 e,Tl _⟩
def Tn(d:Ao)(c:cO):Prop:=match d with
 |.ok g=>∃e b,c=.ret (.dS [.d (.ps e 0 3 b (g.map rq)),bW 0,bW 0])
 |.err a f=>c=.ret (.dS [.d .ci,bW a,bW f])
def xfz:Nat->Bool:=fun a=>Nat.beq a 22
def oF(a:List Tok):cN:=.row 3 (a.map fun b=>(rq b).map V.d)
def adJ(s:cq)(b:ki):List Tok->VS
 |[]=>[.box [.d .ci],.box [.d (.int .i64 0)],.box [.d (.int .i64 0)],.box [.d .ci],.box [cn s],.eI false,.loop b]
 |c::a=>[.box [.d .ci],.box [.d (.int .i64 0)],.box [.d (.int .i64 0)],.box [.ms 7 3 0 (a.length+1) (a.length+1)],.box [cn s],.eI false,.loop b,oF (c::a)]
def To(s:cq)(a:Nat×List Tok):Prop:=
 a.1<=s.length/\a.2.length<=a.1/\∃b,s.length-a.1<b/\jF s (s.length+1) (dZ false s)=(jF s b a.1).P9 a.2
theorem JL{s:cq}{a f e n:Nat}{t:cq}{acc:List Tok}(j:a<s.length)(i:s.length-a<f+1)(h:acc.length<=a)(c:oa (s.drop a)=.ok e t n) 
  (d:jF s (s.length+1) (dZ false s)=(jF s (f+1) a).P9 acc):To s (a+n+dZ false (s.drop (a+n)),acc++[⟨e,t,a⟩]):=by
 have g:=y7 c;rw[abK]at g;have b:=y3 false (s.drop (a+n));rw[abK]at b;refine⟨by show a+n+dZ false (s.drop (a+n))<=s.length;omega,by show(acc++[_]).length<=a+n+dZ false (s.drop (a+n));simp;omega,f,by show s.length-(a+n+dZ false (s.drop (a+n)))<f;omega,?_⟩;rw[d];show _=(jF s f (a+n+dZ false (s.drop (a+n)))).P9 (acc++[⟨e,t,a⟩]);rw[<-EQ];congr 1;rw[jF,if_neg om,c]
theorem Iq{l:cq}{b:Nat}(a:oa l=.err b):b≠0:=by
 cases l with
 |nil=>cases a;decide
 |cons c d=>
  simp only[oa,nM,mZ]at a;repeat' split at a
  all_goals first|(cases a;decide)|cases a
theorem Vy{s:cq}{b f e:Nat}{a:List Tok}(h:s.length<=65536)(g:b<s.length)(d:oa (s.drop b)=.err e) 
  (c:jF s (s.length+1) (dZ false s)=(jF s (f+1) b).P9 a):jl s=.err b e:=by
 rw[jl,if_neg om,c,jF,if_neg om,d];rfl
theorem Tp{s:cq}{d f:Nat}{a:List Tok}(e:s.length<=65536)(c:s.length<=d) 
  (b:jF s (s.length+1) (dZ false s)=(jF s (f+1) d).P9 a):jl s=.ok (a++[⟨0,[],s.length⟩]):=by
 rw[jl,if_neg om,b,jF,if_pos c];rfl
theorem l3{a:Nat}(b:(!decide (aeS a=0))=false):a=0:=by
 rw[aeU]at b;exact AJ (b:=0) b
theorem Qa(b:Nat->Nat)(a:List Tok):dF b (oF a)=oF a:=by
 simp only[oF,dF];congr 1;rw[List.map_map];exact aeR fun c _=>Z
theorem Wk(b:Nat)(a:List Tok):fW b (oF a)=true:=by
 simp only[oF,fW,List.all_map];exact aeN.2 fun c _=>Z
theorem Mn(a:List Tok):qC (a.map fun b=>(rq b).map V.d)=some (a.map rq):=by
 induction a with
 |nil=>rfl
 |cons b d c=>
  show(match some (rq b),qC (d.map fun b=>(rq b).map V.d)with
   |some e,some f=>some (e::f)
   |_,_=>none)=_
  rw[c];rfl
theorem kz(n:Nat):Nat.beq n n=true:=Nat.beq_refl n
theorem Oe{σ:VS}(b:Nat)(a:List Tok)(n:Nat)(e:n=a.length)(g:nth σ b=some (oF a)):
  cU 0 (.ret (.dS [.ms b 3 0 n n,bW 0,bW 0])) σ fun f d=>d=[]/\cM f=true/\Tn (.ok a) f:=by
 refine cU.freeze b g (Mn a) ⟨fun _=>⟨Z,by simp[e]⟩,tv,tv,tv⟩ (fun c=>?_);refine cU.drop 0 (by cases σ.set b cN.gone<;>rfl) (by rw[mJ]) ?_ ?_
 ·show PY 0 (.ret (.dS [o5 b c (a.map rq) (.ms b 3 0 n n),bW 0,bW 0]))=true;rw[o5,kz];rfl
 ·refine cU.now Z ⟨Z,?_,c,n,?_⟩
  ·show cM (.ret (.dS [o5 b c (a.map rq) (.ms b 3 0 n n),bW 0,bW 0]))=true;rw[o5,kz];rfl
  ·show cO.ret (.dS [o5 b c (a.map rq) (.ms b 3 0 n n),bW 0,bW 0])=_;rw[o5,kz];show cO.ret (.dS [.d (.ps c (0*3) 3 n (((a.map rq).drop 0).take n)),bW 0,bW 0])=_;rw[eT _ _ (by simp[e])]
theorem Dh(a:List Tok)(n:Nat)(b:n=a.length)(t:Tok):some (cN.row 3 (((a.map fun t=>(rq t).map V.d).drop 0).take n++[(rq t).map V.d]))=some (oF (a++[t])):=by
 rw[oF,List.map_append,eT _ _ (by simp[b])];rfl
theorem Qb{b:Nat->Nat}(a:List Tok)(n:Nat)(c:n=a.length)(t:Tok):some (cN.row 3 (((a.map fun t=>(rq t).map V.d).drop 0).take n++[(rq t).map V.d]))=some (dF b (oF (a++[t]))):=by
 rw[Qa,Dh a n c t]
theorem Wl(a:List Tok)(t:Tok):some (cN.box [.ms 10 3 0 (a.length+1+1) (a.length+1+1)])=some (cN.box [.ms 10 3 0 ((a++[t]).length+1) ((a++[t]).length+1)]):=by simp
theorem Of{b n:Nat}{a:List Tok}{e:Tok}(d:(e::a).length<=b)(c:b<=65536)(f:n=1):(a.length+1+n)*32<=fy/\a.length+1+n<=fy:=by
 simp only[aeO]at d;unfold fy;omega
theorem Tq(s:cq)(u:s.length<4294967296){σ:VS}{K:cO->VS->Prop}(q:∀e,Tn (jl s) e->K e σ):bV C ca A6 [cn s] σ K:=by
 refine bV.closed (P:=Tn (jl s)) ?_ Z q;refine cv xfz (fun _=>Z) ?_;apply aZ<;>intro h
 ·exact aeJ
 ·have h':=dq (a:=65536) h;refine cj ?_;refine cj ?_;refine uY s 0 om om ?_;have l:=y3 false s;refine cd.less (dB:=[(3,bW (dZ false s)),(0,.tR 6),(1,.bp 4 0)]) ⟨int_eq (by rw[Nat.zero_add];rfl),Z,Z,tv⟩ ?_;refine cd.iter (fun n:Nat×List Tok=>[(3,bW n.1),(0,.tR 6),(1,.bp 4 0)]) (fun n=>adJ s _ n.2) (fun n=>s.length-n.1) (To s) ?_ (dZ false s,[]) ⟨l,Nat.zero_le _,s.length+1,om,(Ht _).symm⟩;rintro⟨b,f⟩ ⟨m,c,o,i,hp⟩;have m:b<=s.length:=m;have c:f.length<=b:=c;have i:s.length-b<o:=i;have hp:jF s (s.length+1) (dZ false s)=(jF s o b).P9 f:=hp;obtain⟨o,rfl⟩:∃k,o=k+1:=⟨o-1,om⟩;cases f with
  |nil=>
   apply aZ<;>intro h
   ·have hl:b<s.length:=ee h;refine FF s b hl om (fun e hr=>?_);cases ht:oa (s.drop b)with
    |ok k t g=>
     rw[ht]at hr;obtain rfl:e=_:=hr;refine iA.intro ?_;have j:=y7 ht;rw[abK]at j;intro p;refine a6 Z (a6 ⟨aeM Z,aeM Z⟩ ?_);refine uY s (b+g) om om ?_;have d:=y3 false (s.drop (b+g));rw[abK]at d;refine⟨(b+g+dZ false (s.drop (b+g)),[]++[⟨k,t,b⟩]),?_,?_,?_,Z,Z⟩
     ·exact JL (acc:=[]) hl i c ht hp
     ·show s.length-(b+g+dZ false (s.drop (b+g)))<s.length-b;omega
     ·exact .pick 7 [0,1,2,3,4,5,6,9] ⟨Z,Z,Z,tv⟩ Z Z Z Z Z dc ⟨Z,Z,Z,Z,Z,Z,Z,Z,Z,Z,Z,Z,Z,Z,Z,Z,tv⟩
    |err v=>
     exact YD
   ·have hl:s.length<=b:=dq h;refine iA.intro ?_;intro p;refine a6 Z (a6 ⟨aeM Z,aeM Z⟩ ?_);rw[Tp h' hl hp];exact Oe 8 [⟨0,[],s.length⟩] 1 Z Z
  |cons a e=>
   apply aZ<;>intro h
   ·have hl:b<s.length:=ee h;refine FF s b hl om (fun r hr=>?_);cases ht:oa (s.drop b)with
    |ok k t g=>
     rw[ht]at hr;obtain rfl:r=_:=hr;refine iA.intro ?_;have j:=y7 ht;rw[abK]at j;intro p;refine a6 Z (a6 ⟨Z,Z,by simp[oF],aeT _,Of c om Z⟩ ?_);refine a7 Z (a7 (fG (e.length+1)) ?_);refine uY s (b+g) om om ?_;have d:=y3 false (s.drop (b+g));rw[abK]at d;refine⟨(b+g+dZ false (s.drop (b+g)),(a::e)++[⟨k,t,b⟩]),?_,?_,?_,Z,Z⟩
     ·exact JL hl i c ht hp
     ·show s.length-(b+g+dZ false (s.drop (b+g)))<s.length-b;omega
     ·refine .pick 7 [0,1,2,3,4,5,6,10] ⟨Z,Z,Z,tv⟩ Z Z Z Z Z dc ⟨Z,Z,Z,Z,Z,Z,?_,Z,Z,Z,Z,Z,Z,Z,?_,Wk _ _,tv⟩
      ·exact Wl e ⟨k,t,b⟩
      ·exact Qb (a::e) (e.length+1) Z ⟨k,t,b⟩
    |err v=>
     exact YD
   ·have hl:s.length<=b:=dq h;refine iA.intro ?_;intro p;refine a6 Z (a6 ⟨Z,Z,by simp[oF],aeT _,Of c om Z⟩ ?_);refine a7 Z (a7 (fG (e.length+1)) ?_);rw[Tp h' hl hp];refine Oe 9 (a::e++[⟨0,[],s.length⟩]) (e.length+1+1) sm ?_;exact Dh (a::e) (e.length+1) Z ⟨0,[],s.length⟩
end Go.Proofs.YtpejealjkmhkgaaGreatDoor
namespace Go.VM
open Go.AM
section
variable{C:dR} {cF:ql}
theorem mv(b:Nat->Nat)(a:cO)(d:cM a=true):nZ b a=a:=by
 cases a with
 |ret c=>simp only[nZ];rw[km _ c d]
 |eH c=>simp only[nZ];rw[km _ c d]
mutual
theorem Og:∀(k:Nat) (v:V),bd 0 v=true->bd k v=true
 |_,.d _,_=>by simp only[bd]
 |_,.bp _ _,h=>by simp only[bd]at h;exact absurd (gw h) (aeu _)
 |_,.ptr _ _ _ _,h=>by simp only[bd]at h;exact absurd (gw h) (aeu _)
 |_,.fp _ _ _,_=>by simp only[bd]
 |_,.ms _ _ _ _ _,h=>by simp only[bd]at h;exact absurd (gw h) (aeu _)
 |_,.map _,h=>by simp only[bd]at h;exact absurd (gw h) (aeu _)
 |k,.fn _ a c,h=>by simp only[bd,aet]at h⊢;exact⟨gx k a h.1,gx k c h.2⟩
 |_,.tR _,h=>by simp only[bd]at h;exact absurd (gw h) (aeu _)
 |k,.iface _ v,h=>by simp only[bd]at h⊢;exact Og k v h
 |k,.agg l,h=>by simp only[bd]at h⊢;exact gx k l h
 |k,.dS l,h=>by simp only[bd]at h⊢;exact gx k l h
theorem gx:∀(k:Nat) (l:List V),fu 0 l=true->fu k l=true
 |_,[],_=>by simp only[fu]
 |k,v::l,h=>by simp only[fu,aet]at h⊢;exact⟨Og k v h.1,gx k l h.2⟩
end
theorem bV.one{f:FuncId}{dM c b:List V}{P:cO->List V->Prop}(m:bV C cF f dM [.box b] fun d g=>∃a,g=[.box a]/\cM d=true/\fu 0 a=true/\P d a) 
  (i:Nat) {σ:VS} {K:cO->VS->Prop} (h:nth σ i=some (.box b)) (j:fu 0 b=true) (e:fu 1 dM=true) (s:c=hU (jT [i] σ.length) dM) (n:∀d a,P d a->K d (σ.set i (.box a))):
  bV C cF f c σ K:=by
 refine m.frame [i] Z sm (fun u t k=>?_) e s (fun q o k _=>?_)
 ·cases u with
  |zero=>
   obtain rfl:i=t:=by simpa using k
   refine⟨.box b,Z,?_,gx 1 b j⟩;rw[<-ck,h];simp only[dF,fL _ b j]
  |succ u=>simp at k
 ·obtain⟨a,rfl,l,r,p⟩:=k;rw[mv _ _ l];simp only[List.map_cons,List.map_nil,dF,fL _ a r,merge,List.append_nil];exact n q a p
theorem u3{σ:VS}{d:Nat}{o:cN}(c:nth σ d=some o):σ.set d o=σ:=by
 rw[ck]at c;obtain⟨a,b⟩:=List.getElem?_eq_some_iff.1 c;rw[<-b];exact List.set_getElem_self a
end
end Go.VM
namespace Go.Proofs.YtpejealjkmhkgaaGreatDoor
open Go.AM Go.VM
structure Rd where
 b:Nat
 cap:Nat
 ts:List Tok
def xa(a:Rd)(p:Nat):List V:=[.d (.ps a.b 0 3 a.cap (a.ts.map rq)),bW p]
def dp(a:Rd)(p:Nat):cN:=.box (xa a p)
def Wm(t:Tok):V:=Wj t.kind t.text t.off
theorem Hu{b:Rd}{p:Nat}{t:Tok}(a:b.ts[p]?=some t):nth (b.ts.map rq) p=some (rq t):=by
 rw[ck,List.getElem?_map,a];rfl
theorem eF(c:Rd)(p:Nat)(t:Tok)(b:c.ts[p]?=some t)(d:Nat){σ:VS}{K:cO->VS->Prop}(a:nth σ d=some (dp c p))(e:K (.ret (Wm t)) σ):bV C ca EF [.bp d 0] σ K:=by
 refine bV.one (dM:=[.bp 0 0]) (P:=fun g f=>g=.ret (Wm t)/\f=xa c p) ?_ d a Z Z Z (fun g i h=>by rw[h.1,h.2];show K _ (σ.set d (dp c p));rw[u3 a];exact e);refine cm ?_;refine bZ Z ?_;refine cc (rq t) (Hu b) ?_;repeat refine a6 (by repeat' (first|exact tv|exact rfl|refine bZ rfl ?_|refine cc (rq t) (Hu b) ?_|refine And.intro ?_ ?_)) ?_
 refine a8 1 ⟨xa c p,Z,Z,Z,Z,Z⟩
def eu(t:Tok)(p:Nat):Nat:=if t.kind=0 then p else p+1
theorem dK(c:Rd)(p:Nat)(t:Tok)(e:c.ts[p]?=some t)(k:p<4294967296)(f:Nat){σ:VS}{K:cO->VS->Prop}(d:nth σ f=some (dp c p))(g:K (.ret (Wm t)) (σ.set f (dp c (eu t p)))):bV C ca EK [.bp f 0] σ K:=by
 refine bV.one (dM:=[.bp 0 0]) (P:=fun i h=>i=.ret (Wm t)/\h=xa c (eu t p)) ?_ f d Z Z Z (fun i j b=>by rw[b.1,b.2];exact g);refine cm ?_;refine bZ Z ?_;refine cc (rq t) (Hu e) ?_;repeat refine a6 (by repeat' (first|exact tv|exact rfl|refine bZ rfl ?_|refine cc (rq t) (Hu e) ?_|refine And.intro ?_ ?_)) ?_
 apply aZ<;>intro b
 ·have a:t.kind≠0:=fun l=>by rw[l]at b;cases b
  refine a8 1 ⟨xa c (p+1),?_,Z,Z,Z,?_⟩
  ·show [cN.box [_,V.d (.int .i64 (IntKind.i64.wrap (aeS p+1)))]]=_;rw[cp om];rfl
  ·rw[eu,if_neg a]
 ·have a:t.kind=0:=l3 b;refine a8 1 ⟨xa c p,Z,Z,Z,Z,?_⟩;rw[eu,if_pos a]
def dt(a b:Nat):V:=.iface We (.agg [bW a,bW b])
theorem fK(d:V)(a c:Nat){σ:VS}{K:cO->VS->Prop}(b:K (.eH (dt a c)) σ):bV C ca EG [d,bW a,bW c] σ K:=by
 refine cj ?_;exact b
def c5(t:Tok)(s:cq):Bool:=decide (t.text=s)&&(decide (t.kind=5)||decide (t.kind=6))
theorem Mo{c:Rd}{p:Nat}{e:Bool}{f:Bool}{o:cN}(g:e=f):cU 1 (.ret (bX e)) [.box (xa c p),o] fun d b=>∃a,b=[.box a]/\cM d=true/\fu 0 a=true/\(d=.ret (bX f)/\a=xa c p):=
 .drop 1 rfl rfl rfl (.now rfl ⟨xa c p,rfl,rfl,rfl,by rw[g],rfl⟩)
theorem qV(d:Rd)(p:Nat)(t:Tok)(s:cq)(h:d.ts[p]?=some t)(e:Nat){σ:VS}{K:cO->VS->Prop}(c:nth σ e=some (dp d p))(f:K (.ret (bX (c5 t s))) σ):bV C ca ko [.bp e 0,cn s] σ K:=by
 refine bV.one (dM:=[.bp 0 0,cn s]) (P:=fun i g=>i=.ret (bX (c5 t s))/\g=xa d p) ?_ e c Z Z Z (fun i j a=>by rw[a.1,a.2];show K _ (σ.set e (dp d p));rw[u3 c];exact f);refine cm ?_;refine eF d p t h 0 Z ?_;apply aZ<;>intro a
 ·repeat refine cg a ?_
  apply aZ<;>intro b
  ·repeat first|refine cg b ?_|refine cg a ?_
   refine Mo ?_;rw[c5,a,show t.kind=5 from AJ (b:=5) b];rfl
  ·repeat first|refine a7 b ?_|refine cg a ?_
   refine Mo ?_;have:t.kind≠5:=ED (b:=5) b;rw[c5,a,decide_eq_false this,Bool.true_and,Bool.false_or];exact decide_eq_decide.2 (by simp only[Int.ofNat_eq_natCast];omega)
 ·repeat refine a7 a ?_
  refine Mo ?_;rw[c5,a];rfl
theorem sL{t:Tok}{s:cq}(a:c5 t s=true):t.kind≠0:=by
 simp only[c5,aet,Bool.or_eq_true,decide_eq_true_eq]at a;omega
theorem cI(e:Rd)(p:Nat)(t:Tok)(s:cq)(d:e.ts[p]?=some t)(f:p<4294967296)(c:Nat){σ:VS}{K:cO->VS->Prop}(a:nth σ c=some (dp e p)) 
  (g:c5 t s=true->K (.ret (bX true)) (σ.set c (dp e (p+1)))) (h:c5 t s=false->K (.ret (bX false)) σ):bV C ca EI [.bp c 0,cn s] σ K:=by
 refine cj ?_;refine qV e p t s d c a ?_;apply aZ<;>intro i
 ·exact h (by simpa using i)
 ·have b:c5 t s=true:=by simpa using i
  refine dK e p t d f c a ?_;have j:eu t p=p+1:=by rw[eu,if_neg (sL b)]
  rw[j];exact g b
theorem se(c:Rd)(p b:Nat)(t:Tok)(k:c.ts[p]?=some t)(h:p<4294967296)(f:Nat){σ:VS}{K:cO->VS->Prop}(e:nth σ f=some (dp c p)) 
  (j:t.kind=b->K (.ret (cn t.text)) (σ.set f (dp c (eu t p)))) (l:t.kind≠b->K (.eH (dt t.off 3)) (σ.set f (dp c (eu t p)))):bV C ca uJ [.bp f 0,bW b] σ K:=by
 refine bV.one (dM:=[.bp 0 0,bW b]) (P:=fun i g=>g=xa c (eu t p)/\((t.kind=b/\i=.ret (cn t.text))∨(t.kind≠b/\i=.eH (dt t.off 3)))) ?_ f e Z Z Z ?_
 ·refine cm ?_;refine dK c p t k h 0 Z ?_;apply aZ<;>intro a
  ·have d:t.kind≠b:=fun m=>by
    rw[m]at a;rw[Bool.not_eq_true',decide_eq_false_iff_not]at a;exact a Z
   refine fK _ t.off 3 ?_;exact a8 1 ⟨xa c (eu t p),Z,Z,Z,Z,.inr ⟨d,Z⟩⟩
  ·have d:t.kind=b:=by
    rw[aeU]at a;exact AJ a
   exact a8 1 ⟨xa c (eu t p),Z,Z,Z,Z,.inl ⟨d,Z⟩⟩
 ·rintro i g ⟨rfl,⟨a,rfl⟩|⟨a,rfl⟩⟩
  ·exact j a
  ·exact l a
theorem kH(c:Rd)(p:Nat)(t:Tok)(g:c.ts[p]?=some t)(d:p<4294967296)(b:Nat){σ:VS}{K:cO->VS->Prop}(a:nth σ b=some (dp c p)) 
  (f:t.kind=1->K (.ret (cn t.text)) (σ.set b (dp c (p+1)))) (h:t.kind≠1->K (.eH (dt t.off 3)) (σ.set b (dp c (eu t p)))):bV C ca wR [.bp b 0] σ K:=by
 refine cj ?_;refine se c p 1 t g d b a (fun e=>?_) (fun e=>?_)
 ·have i:eu t p=p+1:=by rw[eu,if_neg om]
  rw[i];exact f e
 ·exact h e
inductive PR (α:Type)where
 |ok (a:α) (p:Nat)
 |bad (off e:Nat)
structure Rd.Wf (R:Rd):Prop where
 len:R.ts.length<4294967296
 go:∀p t,R.ts[p]?=some t->t.kind≠0->p+1<R.ts.length
def Rd.tok(a:Rd)(p:Nat):Tok:=(a.ts[p]?).getD ⟨0,[],0⟩
theorem bY{a:Rd}{p:Nat}(b:p<a.ts.length):a.ts[p]?=some (a.tok p):=by
 rw[Rd.tok,abL b];rfl
theorem Rd.Wf.step{a:Rd}(d:a.Wf){p:Nat}{s:cq}(c:p<a.ts.length)(b:c5 (a.tok p) s=true):p+1<a.ts.length:=d.go p _ (bY c) (sL b)
theorem Rd.Wf.eu{a:Rd}(c:a.Wf){p:Nat}(b:p<a.ts.length):eu (a.tok p) p<a.ts.length:=by
 unfold YtpejealjkmhkgaaGreatDoor.eu;split
 ·exact b
 ·exact c.go p _ (bY b) (by assumption)
def cu(b:Rd):List cq->Nat->PR Unit
 |[],a=>.ok () a
 |s::c,a=>if c5 (b.tok a) s then cu b c (a+1)else .bad (b.tok a).off 3
theorem da{c:Rd}(h:c.Wf):∀(e:List cq) (d a:Nat),d<c.ts.length->cu c e d=.ok () a->a<c.ts.length:=by
 intro e;induction e with
 |nil=>intro d a f b;cases b;exact f
 |cons s e g=>
  intro d a f b;rw[cu]at b;split at b
  ·exact g _ _ (h.step f (by assumption)) b
  ·cases b
def PRK{b:Type}(e:Rd)(d:Nat)(σ:VS)(K:cO->VS->Prop)(val:b->V):PR b->Prop
 |.ok f c=>K (.ret (val f)) (σ.set d (dp e c))
 |.bad a g=>∀c,K (.eH (dt a g)) (σ.set d (dp e c))
def eW(l:List cq):List cH:=l.map fun a=>[.str a]
theorem ep(a:Rd)(A:a.Wf)(l:List cq)(B:l.length<4294967296)(p:Nat)(y:p<a.ts.length)(b c v:Nat){σ:VS}{K:cO->VS->Prop}(t:nth σ v=some (dp a p)) 
  (m:PRK a v σ K (fun _=>.dS []) (cu a l p)):bV C ca wQ [.bp v 0,.d (.ps b 0 1 c (eW l))] σ K:=by
 refine bV.one (dM:=[.bp 0 0,.d (.ps b 0 1 c (eW l))]) (P:=fun w o=>match cu a l p with
  |.ok _ e=>w=.ret (.dS [])/\o=xa a e
  |.bad n z=>w=.eH (dt n z)/\∃e,o=xa a e) ?_ v t rfl rfl rfl ?_
 ·refine cj ?_;refine cd.less (dB:=[(8,bW 0),(7,bW l.length),(6,.d (.ps b 0 1 c (eW l))),(0,.bp 0 0)]) ⟨Z,int_eq (by simp[eW]),Z,Z,tv⟩ ?_;refine cd.iter (fun j:Nat×Nat=>[(8,bW j.1),(7,bW l.length),(6,.d (.ps b 0 1 c (eW l))),(0,.bp 0 0)]) (fun j=>[.box (xa a j.2)]) (fun j=>l.length-j.1)
   (fun j=>j.1<=l.length/\j.2<a.ts.length/\cu a l p=cu a (l.drop j.1) j.2) ?_ (0,p) ⟨Nat.zero_le _,y,rfl⟩
  rintro⟨d,f⟩ ⟨u,h,i⟩;have u:d<=l.length:=u;have h:f<a.ts.length:=h;have i:cu a l p=cu a (l.drop d) f:=i;have x:=A.len;apply aZ<;>intro q
  ·have g:d<l.length:=ee q;refine bZ Z ?_;refine cc [.str l[d]] (by rw[ck,eW,List.getElem?_map,abL g];rfl) ?_;have r:l.drop d=l[d]::l.drop (d+1):=aev g;refine cI a f (a.tok f) l[d] (bY h) om 0 Z (fun k=>?_) (fun k=>?_)
   ·refine⟨(d+1,f+1),⟨g,A.step h k,?_⟩,?_,.eS,Z,Z⟩
    ·show cu a l p=cu a (l.drop (d+1)) (f+1);rw[i,r,cu,if_pos k]
    ·show l.length-(d+1)<l.length-d;omega
   ·refine eF a f (a.tok f) (bY h) 0 Z ?_;refine fK _ (a.tok f).off 3 ?_;refine⟨xa a f,Z,Z,Z,?_⟩;rw[i,r,cu,if_neg (by rw[k];decide)];exact⟨Z,f,Z⟩
  ·have g:l.length<=d:=dq q;refine⟨xa a f,Z,Z,Z,?_⟩;rw[i,aeP g];exact⟨Z,Z⟩
 ·intro w o q;cases s:cu a l p with
  |ok D e=>rw[s]at q m;obtain⟨rfl,rfl⟩:=q;exact m
  |bad n z=>rw[s]at q m;obtain⟨rfl,e,rfl⟩:=q;exact m e
end Go.Proofs.YtpejealjkmhkgaaGreatDoor
namespace Go.VM
open Go.AM
section
variable{C:dR} {cF:ql}
theorem fh(f:Nat->Nat)(o:cN)(a:fW 0 o=true):dF f o=o:=by
 cases o with
 |box g=>simp only[dF];rw[fL _ g a]
 |row d c=>
  simp only[dF];congr 1;simp only[fW,aeN]at a;conv=>rhs;rw[<-List.map_id c]
  exact aeR fun e b=>fL _ e (a e b)
 |map d m=>
  simp only[dF];congr 1;simp only[fW,aeN,aet]at a;conv=>rhs;rw[<-List.map_id d]
  exact aeR fun e b=>by
   obtain⟨h,i,k⟩:=e;have:=a _ b;simp only[O8,km _ h this.1,km _ i this.2,id]
 |loop l=>simp only[fW,aet]at a;exact absurd (gw a.2) (aeu _)
 |eI j=>rfl
 |gone=>rfl
theorem lp(c:Nat)(o:cN)(b:fW 0 o=true):fW c o=true:=by
 cases o with
 |box e=>exact gx c e b
 |row f g=>simp only[fW,aeN]at b⊢;exact fun d a=>gx c d (b d a)
 |map f j=>simp only[fW,aeN,aet]at b⊢;exact fun d a=>⟨Og c _ (b d a).1,Og c _ (b d a).2⟩
 |loop i=>simp only[fW,aet]at b;exact absurd (gw b.2) (aeu _)
 |eI h=>rfl
 |gone=>rfl
theorem bV.two{f:FuncId}{dM c:List V}{e d:cN}{P:cO->cN->cN->Prop}(r:bV C cF f dM [e,d] fun j o=>∃b a,o=[b,a]/\cM j=true/\fW 0 b=true/\fW 0 a=true/\P j b a) 
  (i h:Nat) (k:i≠h) {σ:VS} {K:cO->VS->Prop} (v:nth σ i=some e) (q:nth σ h=some d) (m:fW 0 e=true) (n:fW 0 d=true) (l:fu 2 dM=true) (y:c=hU (jT [i,h] σ.length) dM)
  (s:∀j b a,P j b a->K j ((σ.set i b).set h a)):bV C cF f c σ K:=by
 refine r.frame [i,h] Z (by simp[k]) (fun B p g=>?_) l y (fun u t g _=>?_)
 ·match B,g with
  |0,g=>
   obtain rfl:i=p:=by simpa using g
   exact⟨e,Z,by rw[<-ck,v,fh _ _ m],lp _ _ m⟩
  |1,g=>
   obtain rfl:h=p:=by simpa using g
   exact⟨d,Z,by rw[<-ck,q,fh _ _ n],lp _ _ n⟩
  |B+2,g=>simp at g
 ·obtain⟨b,a,rfl,z,A,w,x⟩:=g;rw[mv _ _ z];simp only[List.map_cons,List.map_nil,fh _ _ A,fh _ _ w,merge,List.append_nil];exact s u b a x
end
end Go.VM
namespace Go.Proofs.YtpejealjkmhkgaaGreatDoor
open Go.AM Go.VM
def eC:Nat->List cq->List rL
 |_,[]=>[]
 |k,a::b=>⟨cn a,bX true,k⟩::eC (k+1) b
theorem Ts(l:List cq)(s:cq):∀a,eC a (l++[s])=eC a l++[⟨cn s,bX true,a+l.length⟩]:=by
 induction l with
 |nil=>intro a;rfl
 |cons c l b=>
  intro a;show _::eC (a+1) (l++[s])=_;rw[b];simp only[eC,List.cons_append,aeO];rw[show a+1+l.length=a+(l.length+1)from by omega]
def pg(a:List cq):cN:=.map (eC 0 a) a.length
theorem JM(a:List cq)(s:cq):pg (a++[s])=.map (eC 0 a++[⟨cn s,bX true,a.length⟩]) (a.length+1):=by
 rw[pg,Ts,Nat.zero_add,List.length_append];rfl
theorem iM(a:List cq):fW 0 (pg a)=true:=by
 have:∀(b:List cq) (d:Nat),(eC d b).all (fun e=>bd 0 e.key&&bd 0 e.val)=true:=by
  intro b;induction b with
  |nil=>intro d;rfl
  |cons f b c=>intro d;simp only[eC,List.all_cons,c];rfl
 exact this a 0
theorem Ap{s:cq}:∀{a:List cq} {c b:Nat},s ∉ a->eN .string (cn s) (eC c a) b=some none:=by
 intro a;induction a with
 |nil=>intro c b _;rfl
 |cons g h d=>
  intro c b f;show(match decide (s=g)with
   |true=>some (some (b,bX true))
   |false=>eN .string (cn s) (eC (c+1) h) (b+1))=_
  rw[decide_eq_false (fun e=>f (by simp[e]))];exact d (fun e=>f (by simp[e]))
theorem Qc{s:cq}:∀{a:List cq} {k i:Nat},s∈a->∃e,eN .string (cn s) (eC k a) i=some (some (e,bX true)):=by
 intro a;induction a with
 |nil=>intro k i b;simp at b
 |cons f h c=>
  intro k i b;by_cases g:s=f
  ·refine⟨i,?_⟩;show(match decide (s=f)with
    |true=>some (some (i,bX true))
    |false=>eN .string (cn s) (eC (k+1) h) (i+1))=_
   rw[decide_eq_true g]
  ·obtain⟨e,d⟩:=c (k:=k+1) (i:=i+1) (by simpa [g]using b);refine⟨e,?_⟩;show(match decide (s=f)with
    |true=>some (some (i,bX true))
    |false=>eN .string (cn s) (eC (k+1) h) (i+1))=_
   rw[decide_eq_false g];exact d
theorem p7(b:Rd)(w:b.Wf)(p:Nat)(k:p<b.ts.length)(a:List cq)(g h:Nat)(i:g≠h){σ:VS}{K:cO->VS->Prop}(l:nth σ g=some (dp b p))(t:nth σ h=some (pg a)) 
  (o:(b.tok p).kind=1->(b.tok p).text ∉ a->K (.ret (cn (b.tok p).text)) ((σ.set g (dp b (p+1))).set h (pg (a++[(b.tok p).text]))))
  (n:(b.tok p).kind=1->(b.tok p).text∈a->K (.eH (dt (b.tok p).off 5)) ((σ.set g (dp b (p+1))).set h (pg a)))
  (s:(b.tok p).kind≠1->K (.eH (dt (b.tok p).off 3)) ((σ.set g (dp b (eu (b.tok p) p))).set h (pg a))):bV C ca C8 [.bp g 0,.map h] σ K:=by
 refine bV.two (dM:=[.bp 0 0,.map 1]) (P:=fun m f e=>
  ((b.tok p).kind=1/\(b.tok p).text ∉ a/\m=.ret (cn (b.tok p).text)/\f=dp b (p+1)/\e=pg (a++[(b.tok p).text]))∨
  ((b.tok p).kind=1/\(b.tok p).text∈a/\m=.eH (dt (b.tok p).off 5)/\f=dp b (p+1)/\e=pg a)∨
  ((b.tok p).kind≠1/\m=.eH (dt (b.tok p).off 3)/\f=dp b (eu (b.tok p) p)/\e=pg a)) ?_ g h i l t rfl (iM a) rfl rfl ?_
 ·have q:=w.len;refine cj ?_;refine eF b p (b.tok p) (bY k) 0 Z ?_;refine kH b p (b.tok p) (bY k) om 0 Z (fun d=>?_) (fun d=>?_)
  ·by_cases c:(b.tok p).text∈a
   ·obtain⟨v,u⟩:=Qc (k:=0) (i:=0) c;refine cc (some (v,bX true)) u ?_;refine fK _ (b.tok p).off 5 ?_;exact⟨_,_,Z,Z,Z,iM a,.inr (.inl ⟨d,c,Z,Z,Z⟩)⟩
   ·refine cc none (Ap c) ?_;refine cc none (Ap c) ?_;refine⟨dp b (p+1),pg (a++[(b.tok p).text]),?_,Z,Z,iM _,.inl ⟨d,c,Z,Z,Z⟩⟩;rw[JM];rfl
  ·exact⟨_,_,Z,Z,Z,iM a,.inr (.inr ⟨d,Z,Z,Z⟩)⟩
 ·rintro m f e (⟨j,r,rfl,rfl,rfl⟩|⟨j,r,rfl,rfl,rfl⟩|⟨j,rfl,rfl,rfl⟩)
  ·exact o j r
  ·exact n j r
  ·exact s j
end Go.Proofs.YtpejealjkmhkgaaGreatDoor
