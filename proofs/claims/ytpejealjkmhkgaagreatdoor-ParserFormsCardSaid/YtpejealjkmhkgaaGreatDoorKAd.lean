/- Part of the proof. -/
import Derived.Test.YtpejealjkmhkgaaGreatDoorKAc
import Derived.Laws.StructEq
import Derived.Laws.World
set_option linter.all false
set_option maxHeartbeats 16000000
set_option maxRecDepth 100000
open Array renaming getElem?_toList->abK,length_toList->aeO
open Bool renaming false_eq_true->abL,not_false->aeT
open Nat renaming eq_of_beq_eq_true->aet,le_of_ble_eq_true->aeu,blt_eq->aeM,mul_le_mul_right->aeN,add_assoc->aeP,ble->aeQ,add_mul->aeR
open Int renaming ofNat->aev
open List renaming getElem?_append_left->aeS,getElem?_eq_none->aeU
namespace Go.AM
open Go.RowKit (Below)
variable{q:Bool} {E:TI} {r:Nat} {j:Array Value} {F H d m:Value} {g:Array (String×TypeId)} {k y:Array TypeId} {A D:Operand}
section
variable{C:dR} {w0:World} {N0:Nat} {G:Nat->Prop} {ρ:Ren} {st dC:St} {w:World} {v:Value}
theorem uq{t:TypeId}{s:TypeDesc}{p b h i:Value}(c:C.P.underlying t=some s)(e:cX ρ p h)(f:cX ρ b i)(a:jm s p b=some q)(n:Nat):
  (Op.equalIn (n+1) t h i).run C.P w=.ok q w:=by
 unfold jm at a;split at a
 ·cases e;cases f;cases a;exact run_equalIn_bool' w n t _ _ c
 ·rename_i o v p x b;split at a
  ·rename_i l;have:=sk.1 l;subst this;cases e;cases f;cases a;rw[run_equalIn_int w n t v o _ _ c,vB]
  ·cases a
 ·cases e;cases f;cases a;rw[run_equalIn_string w n t _ _ c,toList_data,toList_data,pz,qy]
 ·cases a
theorem ur(b:nQ C){t:TypeId}(c:C.tt.get t=some E)(a:E.agg=false)(e:j[r]?=some d):
  (part t j r).run C.P w=.ok d w:=by
 unfold part;simp only[Sem.run_bind,BS b c,Result.andThen_ok,a,abL,if_false,e,Sem.run_pure]
theorem Gs(e:nQ C){xs G i l:Array Value}(L:cT ρ xs.toList i.toList)(K:cT ρ G.toList l.toList)(n:Nat):
  ∀{f:List Field} {J:Bool},ua C xs.toList G.toList f=some J->(Op.eqFields (n+1) i l f).run C.P w=.ok J w:=by
 intro f;induction f with
 |nil=>intro J b;simp[ua]at b;subst b;rfl
 |cons P f N=>
  intro J b;simp only[ua]at b;split at b
  ·cases b
  ·rename_i M;have o:P.name≠ "_" :=by simpa using M
   split at b
   ·rename_i R S T c I v;split at b
    ·cases b
    ·rename_i a;rw[ck]at I v;obtain⟨Q,s,t⟩:=L.get I;obtain⟨O,p,x⟩:=K.get v;rw[abK]at s p;split at b
     ·rename_i h;have:=uq (w:=w) (e.und _ _ c) t x h n;simp only[Op.eqFields,ne_eq,o,not_false_eq_true,if_true,Sem.run_bind,ur e c a s,ur e c a p,Result.andThen_ok,this,Bool.not_true,abL,if_false];exact N b
     ·rename_i h;cases b;have:=uq (w:=w) (e.und _ _ c) t x h n;simp only[Op.eqFields,ne_eq,o,not_false_eq_true,if_true,Sem.run_bind,ur e c a s,ur e c a p,Result.andThen_ok,this,aeT,Sem.run_pure]
     ·cases b
   ·cases b
theorem Lu{n:Nat}{t b:TypeId}(hu:C.P.underlying t=some (.pointer b))(a:Option Addr):(Op.equalIn (n+1) t (.pointer none) (.pointer a)).run C.P w=.ok a.isNone w:=by
 exact Bo
theorem Lv{n:Nat}{t a:TypeId}(hu:C.P.underlying t=some (.pointer a))(b:Addr):(Op.equalIn (n+1) t (.pointer (some b)) (.pointer none)).run C.P w=.ok false w:=by
 exact Bo
theorem Sv{n:Nat}{t c:TypeId}(b:C.P.underlying t=some (.pointer c))(p a:Addr):(Op.equalIn (n+1) t (.pointer (some p)) (.pointer (some a))).run C.P w=
  (do if(<-sizeOf c)≠0 then sameAddr p a else if p==a then pure true else pure ((<-choose .zeroSizeEq)=1):Sem Bool).run C.P w:=by
 rw[Op.equalIn,Sem.run_bind,run_underlying b,Result.andThen_ok]
theorem Lw{n:Nat}{t:TypeId}(hu:C.P.underlying t=some (.interface g)):(Op.equalIn (n+1) t .nilIface .nilIface).run C.P w=.ok true w:=by
 exact Bo
theorem Pj{n:Nat}{t:TypeId}(hu:C.P.underlying t=some (.interface g))(a:TypeId)(b:Value):(Op.equalIn (n+1) t .nilIface (.iface a b)).run C.P w=.ok false w:=by
 exact Bo
theorem Pk{n:Nat}{t:TypeId}(hu:C.P.underlying t=some (.interface g))(a:TypeId)(b:Value):(Op.equalIn (n+1) t (.iface a b) .nilIface).run C.P w=.ok false w:=by
 exact Bo
theorem Pl{n:Nat}{t h:TypeId}(hu:C.P.underlying t=some (.slice h))(a:Option Addr)(f b c e:Nat):(Op.equalIn (n+1) t (.slice none f b) (.slice a c e)).run C.P w=.ok a.isNone w:=by
 exact Bo
theorem Pm{n:Nat}{t h:TypeId}(hu:C.P.underlying t=some (.slice h))(e:Addr)(f b c a:Nat):(Op.equalIn (n+1) t (.slice (some e) f b) (.slice none c a)).run C.P w=.ok false w:=by
 exact Bo
theorem Lx{n:Nat}{t c b:TypeId}(hu:C.P.underlying t=some (.map c b))(a:Option Nat):(Op.equalIn (n+1) t (.map none) (.map a)).run C.P w=.ok a.isNone w:=by
 exact Bo
theorem Ly{n:Nat}{t c b:TypeId}(hu:C.P.underlying t=some (.map c b))(a:Nat):(Op.equalIn (n+1) t (.map (some a)) (.map none)).run C.P w=.ok false w:=by
 exact Bo
theorem Lz{n:Nat}{t:TypeId}(hu:C.P.underlying t=some (.func k y q)):(Op.equalIn (n+1) t .nilFunc .nilFunc).run C.P w=.ok true w:=by
 exact Bo
theorem Pn{n:Nat}{t:TypeId}(hu:C.P.underlying t=some (.func k y q))(f:Fn)(a b:Array Value):(Op.equalIn (n+1) t .nilFunc (.func f a b)).run C.P w=.ok false w:=by
 exact Bo
theorem Po{n:Nat}{t:TypeId}(hu:C.P.underlying t=some (.func k y q))(f:Fn)(a b:Array Value):(Op.equalIn (n+1) t (.func f a b) .nilFunc).run C.P w=.ok false w:=by
 exact Bo
theorem zQ(a:BinOp)(t:TypeId)(c b:Operand)(p e:Option Addr):(eqGuard a t c b (.pointer p) (.pointer e)).run C.P w=.ok () w:=by cases a<;>rfl
theorem VJ(a:BinOp)(t:TypeId)(c b:Operand)(e:TypeId)(f:Value):(eqGuard a t c b .nilIface (.iface e f)).run C.P w=.ok () w:=by cases a<;>rfl
theorem VL(a:BinOp)(t:TypeId)(c b:Operand)(e:TypeId)(f:Value):(eqGuard a t c b (.iface e f) .nilIface).run C.P w=.ok () w:=by cases a<;>rfl
theorem IJ(a:BinOp)(t:TypeId)(h f:Operand)(p i:Option Addr)(l b c e:Nat):(eqGuard a t h f (.slice p l b) (.slice i c e)).run C.P w=.ok () w:=by cases a<;>rfl
theorem Fl(a:BinOp)(t:TypeId)(c b:Operand)(p e:Option Nat):(eqGuard a t c b (.map p) (.map e)).run C.P w=.ok () w:=by cases a<;>rfl
theorem Sw(a:BinOp)(t:TypeId)(c b:Operand):(eqGuard a t c b .nilFunc .nilFunc).run C.P w=.ok () w:=by cases a<;>rfl
theorem Sx(a:BinOp)(t:TypeId)(h c:Operand)(f:Fn)(e b:Array Value):(eqGuard a t h c .nilFunc (.func f e b)).run C.P w=.ok () w:=by cases a<;>rfl
theorem Sy(a:BinOp)(t:TypeId)(h c:Operand)(f:Fn)(e b:Array Value):(eqGuard a t h c (.func f e b) .nilFunc).run C.P w=.ok () w:=by cases a<;>rfl
theorem VN(a:BinOp)(t:TypeId)(f c:Operand)(e b:Bool):(eqGuard a t f c (.bool e) (.bool b)).run C.P w=.ok () w:=by cases a<;>rfl
theorem NP(a:BinOp)(t:TypeId)(f e:Operand)(h c:IntKind)(i b:Int):(eqGuard a t f e (.int h i) (.int c b)).run C.P w=.ok () w:=by cases a<;>rfl
theorem NQ(a:BinOp)(t:TypeId)(f c:Operand)(e b:ByteArray):(eqGuard a t f c (.string e) (.string b)).run C.P w=.ok () w:=by cases a<;>rfl
theorem Sz(a:BinOp)(t:TypeId)(c b:Operand)(e:(kA c||kA b)=true):(eqGuard a t c b .nilIface .nilIface).run C.P w=.ok () w:=by
 cases a<;>cases c<;>cases b<;>first|rfl|(simp[kA]at e;done)
theorem NR(I:nQ C){t:TypeId}{V b G v:Value}(f:cX ρ V G)(e:cX ρ b v)(h:O9 C t A D V b=some q)(M:BinOp):
  (∀n,(Op.equalIn (n+2) t G v).run C.P w=.ok q w)/\(eqGuard M t A D G v).run C.P w=.ok () w:=by
 unfold O9 at h;split at h
 ·cases h
 ·rename_i d P;have a:=I.und _ _ P;split at h
  ·rename_i c;cases h;cases f;rw[c]at a;cases e<;>exact⟨fun n=>Lu a _,zQ _ _ _ _ _ _⟩
  ·rename_i i c;cases h;cases e;rw[c]at a;cases f
   ·exact(i Z).elim
   ·exact⟨fun n=>Lv a _,zQ _ _ _ _ _ _⟩
  ·rename_i r k m _ c;rw[c]at a;split at h
   ·rename_i R X J W N T;split at h
    ·rename_i l;simp only[Bool.and_eq_true]at l;have Q:=aeM.mp l.1;have:=aet l.2;subst this;cases h;obtain⟨O,S,rfl⟩:=qx f;obtain⟨j,s,rfl⟩:=qx e;rw[S]at s;cases s;refine⟨?_,zQ _ _ _ _ _ _⟩;have i:R.size≠0:=om;have p:((⟨O.b,O.d+J,none⟩:Addr)==⟨O.b,O.d+N,none⟩)=Nat.beq J N:=by
      rw[Bool.eq_iff_iff,Nat.beq_eq,beq_iff_eq,Addr.mk.injEq];constructor
      ·rintro⟨_,h,_⟩;omega
      ·rintro h;exact⟨rfl,om,rfl⟩
     intro n;rw[Sv a];simp only[Sem.run_bind,Result.andThen_ok,fO I T,ne_eq,i,not_false_eq_true,if_true,sameAddr,beq_self_eq_true,Sem.run_pure,p]
    ·cases h
   ·cases h
  ·rename_i c;rw[c]at a;split at h
   ·rename_i U;cases h;cases f;cases e;exact⟨fun n=>Lw a,Sz _ _ _ _ U⟩
   ·cases h
  ·rename_i c;rw[c]at a;cases h;cases f;cases e;exact⟨fun n=>Pj a _ _,VJ _ _ _ _ _ _⟩
  ·rename_i c;rw[c]at a;cases h;cases f;cases e;exact⟨fun n=>Pk a _ _,VL _ _ _ _ _ _⟩
  ·rename_i o Y g c;rw[c]at a;simp only at h;split at h
   ·cases h
   ·rename_i x;rw[Bool.or_eq_false_iff]at x;cases f with
    |agg f=>
     cases e with
     |agg e=>
      have L:C.P.fieldsOf t=o:=by unfold Program.fieldsOf;rw[a]
      have K:C.P.underlying t=some (.struct (C.P.fieldsOf t)):=by rw[L];exact a
      refine⟨?_,run_eqGuard_agg w M t A D _ _ x.1⟩;intro n;rw[run_equalIn_agg w (n+1) t _ _ K x.2,L];exact Gs I f e n h
  ·rename_i c;rw[c]at a;cases h;cases f;cases e<;>exact⟨fun n=>Pl a _ _ _ _ _,IJ _ _ _ _ _ _ _ _ _ _⟩
  ·rename_i i c;rw[c]at a;cases h;cases e;cases f<;>first|exact(i _ _ rfl).elim|exact(i rfl).elim|exact⟨fun n=>Pm a _ _ _ _ _,IJ _ _ _ _ _ _ _ _ _ _⟩
  ·rename_i c;rw[c]at a;cases h;cases f;cases e<;>exact⟨fun n=>Lx a _,Fl _ _ _ _ _ _⟩
  ·rename_i i c;rw[c]at a;cases h;cases e;cases f<;>first|exact(i rfl).elim|exact⟨fun n=>Ly a _,Fl _ _ _ _ _ _⟩
  ·rename_i c;rw[c]at a;cases h;cases f;cases e;exact⟨fun n=>Lz a,Sw _ _ _ _⟩
  ·rename_i c;rw[c]at a;cases h;cases f;cases e<;>exact⟨fun n=>Pn a _ _ _,Sx _ _ _ _ _ _ _⟩
  ·rename_i c;rw[c]at a;cases h;cases e;cases f<;>exact⟨fun n=>Po a _ _ _,Sy _ _ _ _ _ _ _⟩
  ·refine⟨fun n=>uq a f e h (n+1),?_⟩;unfold jm at h;split at h
   ·cases f;cases e;exact VN _ _ _ _ _ _
   ·cases f;cases e;exact NP _ _ _ _ _ _ _ _
   ·cases f;cases e;exact NQ _ _ _ _ _ _
   ·cases h
end
variable{z:List Value}
section
variable{C:dR} {w0:World} {N0:Nat} {G:Nat->Prop} {ρ:Ren} {st dC:St} {w:World} {v:Value}
theorem Cu{t:TypeId}{a b:Value}(e:∀c,(Op.equalIn (c+2) t a b).run C.P w=.ok q w):(Op.equal t a b).run C.P w=.ok q w:=e 9998
theorem binOp_eql{t:TypeId}{a b:Value}(h1:∀f c h e,¬(a=.int f c/\b=.int h e))(h2:∀c e,¬(a=.string c/\b=.string e))(h3:∀f c,a≠.float f c)(h4:∀f c e,a≠.complex f c e):
  binOp .eql t a b=(do pure (.bool (<-Op.equal t a b)))/\binOp .neq t a b=(do pure (.bool (!(<-Op.equal t a b)))):=by
 constructor
 ·exact YY
 ·exact YY
theorem cX.NS(f:cX ρ d m):(∀b a,m≠.float b a)/\(∀b a e,m≠.complex b a e):=by
 cases f<;>exact⟨(fun _ _ c=>by cases c),(fun _ _ _ c=>by cases c)⟩
theorem VO(I:nQ C){n:BinOp}{t:TypeId}{J b i h:Value}(c:cX ρ J i)(f:cX ρ b h)(a:Gj C n t A D J b=some v):
  (do eqGuard n t A D i h;binOp n t i h:Sem Value).run C.P w=.ok v w/\cX ρ v v:=by
 unfold Gj at a;split at a
 ·rename_i K S l R;cases c;cases f;have L:(eqGuard n t A D (.int K S) (.int l R)).run C.P w=.ok () w:=NP _ _ _ _ _ _ _ _;rw[Sem.run_bind,L,Result.andThen_ok];split at a
  ·refine⟨Gr a t,?_⟩;unfold uc at a;split at a<;>first|cases a|skip
   split at a<;>cases a<;>exact .int _ _
  ·rename_i G;split at a
   ·rename_i M;have:=sk.1 M;subst this;refine⟨Ls a G t,?_⟩;unfold ub at a;split at a<;>first|(cases a;first|exact .int _ _|exact .bool _)|(split at a<;>cases a<;>exact .int _ _)|cases a
   ·cases a
 ·cases c;cases f;rw[Sem.run_bind,NQ,Result.andThen_ok];refine⟨Lt a t,?_⟩;unfold xg at a;split at a<;>first|(cases a;exact .bool _)|(split at a<;>cases a<;>exact .string _)|cases a
 ·rename_i O G;have x:∀K A l D,¬(i=.int K A/\h=.int l D):=by
   rintro K A l D ⟨rfl,rfl⟩;cases c;cases f;exact O _ _ _ _ Z Z
  have p:∀A D,¬(i=.string A/\h=.string D):=by
   rintro A D ⟨rfl,rfl⟩;cases c;cases f;exact G _ _ Z Z
  obtain⟨P,N⟩:=binOp_eql (t:=t) x p c.NS.1 c.NS.2;split at a
  ·cases e:O9 C t A D J b with
   |none=>rw[e]at a;cases a
   |some Q=>
    rw[e]at a;cases a;obtain⟨s,o⟩:=NR (w:=w) I c f e .eql;refine⟨?_,.bool _⟩;rw[Sem.run_bind,o,Result.andThen_ok,P,Sem.run_bind,Cu s,Result.andThen_ok,Sem.run_pure]
  ·cases e:O9 C t A D J b with
   |none=>rw[e]at a;cases a
   |some Q=>
    rw[e]at a;cases a;obtain⟨s,o⟩:=NR (w:=w) I c f e .neq;refine⟨?_,.bool _⟩;rw[Sem.run_bind,o,Result.andThen_ok,N,Sem.run_bind,Cu s,Result.andThen_ok,Sem.run_pure]
  ·cases a
theorem aax{c:UnOp}(a:cX ρ d m)(b:aUn c d=some v):(Op.unary c m).run C.P w=.ok v w/\cX ρ v v:=by
 unfold aUn at b;split at b
 ·cases a;cases b;exact⟨rfl,.int _ _⟩
 ·cases a;cases b;exact⟨rfl,.int _ _⟩
 ·cases a;cases b;exact⟨rfl,.bool _⟩
 ·cases b
theorem Gt(c:cX ρ d m)(b:ng d st=some (.val v dC)):
  v=d/\dC=st/\m≠.pointer none/\m≠.nilIface/\m≠.nilFunc/\∀e h f,m≠.func (.method e) h f:=by
 unfold ng at b;split at b<;>first|(obtain⟨rfl,rfl⟩:=c9 b)|cases b
 all_goals cases c
 all_goals exact⟨rfl,rfl,(fun a=>by cases a),(fun a=>by cases a),(fun a=>by cases a),(fun _ _ _ a=>by cases a)⟩
theorem yp(e:nQ C){t:TypeId}(h:cX ρ d m)(a:gU C t d st=some (.val v dC)):
  (Instr.makeInterface t m).run C.P w=.ok (.iface t m) w/\v=.iface t d/\dC=st/\cX ρ v (.iface t m):=by
 unfold gU at a;split at a
 ·rename_i i f;split at a
  ·cases a
  ·rename_i b;obtain⟨rfl,rfl⟩:=c9 a;refine⟨?_,Z,Z,.iface t h⟩;unfold Instr.makeInterface;rw[Sem.run_bind,ed e f,Result.andThen_ok];split
   ·rename_i c l;exact absurd l (b c)
   ·rfl
 ·cases a
theorem D9{C:dR}{a:Array Field}{e b:Nat}(f:gJ C a r=some (e,b)):∃h c,a[r]?=some h/\C.tt.get h.type=some c/\h.offset=e/\c.size=b:=by
 unfold gJ at f;split at f
 ·rename_i h i;split at f
  ·rename_i c l;cases f;rw[ck,abK]at i;exact⟨h,c,i,l,Z,Z⟩
  ·cases f
 ·cases f
theorem Ea(h:nQ C){t:TypeId}(I:cX ρ d m)(a:fI C t d r st=some (.val v dC)):
  ∃e,(Instr.fieldAt t m r).run C.P w=.ok e w/\cX ρ v e/\dC=st:=by
 unfold fI at a;split at a
 ·rename_i N O L n;obtain⟨K,x,rfl⟩:=qx I;split at a
  ·rename_i i l;split at a
   ·rename_i J o p;split at a
    ·rename_i b;obtain⟨rfl,rfl⟩:=c9 a;obtain⟨M,G,s,f,rfl,rfl⟩:=D9 p;have c:G.size≠0:=by have:=aeM.mp b;omega
     refine⟨.pointer (some ⟨K.b,K.d+(L+M.offset),none⟩),?_,.ptr x,Z⟩;simp only[Instr.fieldAt,Sem.run_bind,ed h n,l,Result.andThen_ok,s,Instr.sureAddr,Sem.run_pure,fieldPlace,fO h f,if_neg c,kS,aeP]
    ·cases a
   ·cases a
  ·cases a
 ·cases a
theorem IK(f:nQ C){t:TypeId}(i:cT ρ z j.toList)(c:Cn C t z r=some d):
  ∃e,(part t j r).run C.P w=.ok e w/\cX ρ d e:=by
 unfold Cn at c;split at c
 ·rename_i b h;split at c
  ·rename_i a;split at c
   ·rename_i l;cases c;refine⟨.agg (j.extract r (r+b.size)),?_,.agg ?_⟩
    ·simp only[part,Sem.run_bind,BS f h,a,Result.andThen_ok,if_true,fO f h,Sem.run_pure]
    ·have:(j.extract r (r+b.size)).toList=(j.toList.drop r).take b.size:=by
      simp[List.extract_eq_take_drop]
     rw[this];simpa using(i.drop r).take b.size
   ·cases c
  ·rename_i a;rw[ck]at c;obtain⟨e,n,o⟩:=i.get c;rw[abK]at n;exact⟨e,ur f h a n,o⟩
 ·cases c
theorem Pp(e:nQ C){t:TypeId}(b:cX ρ d m)(a:xh C t d r st=some (.val v dC)):
  ∃c,(Instr.field t m r).run C.P w=.ok c w/\cX ρ v c/\dC=st:=by
 unfold xh at a;split at a
 ·rename_i G x l;cases b with
  |agg b=>
   split at a
   ·rename_i f i;split at a
    ·rename_i p h;split at a
     ·rename_i J o;obtain⟨rfl,rfl⟩:=c9 a;rw[ck,abK]at h;obtain⟨n,I,s⟩:=IK (w:=w) e b o;refine⟨n,?_,s,Z⟩;simp only[Instr.field,Sem.run_bind,ed e l,i,Result.andThen_ok,h,asAgg,Sem.run_pure,I]
     ·cases a
    ·cases a
   ·cases a
 ·cases a
theorem Eb(h:nQ C){t:TypeId}(J:cX ρ d m)(I:cX ρ F H)(b:gv C t d F st=some (.val v dC)):
  ∃G,(Instr.indexAt t m H).run C.P w=.ok G w/\cX ρ v G/\dC=st:=by
 unfold gv at b;split at b
 ·rename_i O S M f P N o l;split at b
  ·rename_i p i;split at b
   ·rename_i s e;split at b
    ·rename_i c;obtain⟨rfl,rfl⟩:=c9 b;have n:=aeM.mp c;cases I;cases J with
     |jp U R=>omega
     |@slice _ _ _ _ L K x T Q=>
      refine⟨.pointer (some ⟨K.b,K.d+(M+o*s.size),none⟩),?_,.ptr x,Z⟩;have a:(0:Int)<=aev o/\aev o<(f:Int):=by simp;omega
      simp only[Instr.indexAt,asIntOf,Sem.run_bind,Sem.run_pure,ed h l,i,Result.andThen_ok,if_pos a,fO h e,kS,aeP];simp
    ·cases b
   ·cases b
  ·cases b
 ·rename_i O S M N o l;split at b
  ·rename_i f p i;split at b
   ·rename_i s e;split at b
    ·rename_i c;obtain⟨rfl,rfl⟩:=c9 b;have n:=aeM.mp c;cases I;obtain⟨K,x,rfl⟩:=qx J;refine⟨.pointer (some ⟨K.b,K.d+(M+o*s.size),none⟩),?_,.ptr x,Z⟩;have a:(0:Int)<=aev o/\aev o<(f:Int):=by simp;omega
     simp only[Instr.indexAt,asIntOf,Sem.run_bind,Sem.run_pure,ed h l,i,Result.andThen_ok,Instr.sureAddr,if_pos a,fO h e,kS,aeP];simp
    ·cases b
   ·cases b
  ·cases b
 ·cases b
theorem Pq(c:nQ C){t:TypeId}(e:cX ρ d m)(x:cX ρ F H)(a:ue C t d F st=some (.val v dC)):
  ∃l,(Instr.index t m H).run C.P w=.ok l w/\cX ρ v l/\dC=st:=by
 unfold ue at a;split at a
 ·rename_i P s L o h;split at a
  ·rename_i f;split at a
   ·rename_i Q n;obtain⟨rfl,rfl⟩:=c9 a;cases x;cases e;rw[ck,abK]at n;have G:s[o]?=some Q:=n;refine⟨.int .u8 Q.toNat,?_,.int _ _,Z⟩;have J:(0:Int)<=aev o:=by simp
    simp only[Instr.index,asIntOf,Sem.run_bind,Sem.run_pure,ed c h,f,Result.andThen_ok,if_pos J];simp[G]
   ·cases a
  ·cases a
 ·rename_i P S L o h;split at a
  ·rename_i I M f;split at a
   ·rename_i T p;split at a
    ·rename_i i;split at a
     ·rename_i V O;obtain⟨rfl,rfl⟩:=c9 a;cases x;cases e with
      |agg e=>
       have K:=aeM.mp i;obtain⟨N,U,R⟩:=IK (w:=w) c e O;refine⟨N,?_,R,Z⟩;have b:(0:Int)<=aev o/\aev o<(I:Int):=by simp;omega
       simp only[Instr.index,asIntOf,Sem.run_bind,Sem.run_pure,ed c h,f,Result.andThen_ok,if_pos b,fO c p];simpa using U
     ·cases a
    ·cases a
   ·cases a
  ·cases a
 ·cases a
theorem IL(a:cX ρ d m)(b:pB d r st=some (.val v dC)):
  ∃c,(Instr.extract m r).run C.P w=.ok c w/\cX ρ v c/\dC=st:=by
 unfold pB at b;split at b
 ·cases a with
  |tuple a=>
   split at b
   ·rename_i l e;obtain⟨rfl,rfl⟩:=c9 b;rw[ck]at e;obtain⟨f,h,i⟩:=a.get e;rw[abK]at h;exact⟨f,by simp[Instr.extract,h],i,Z⟩
   ·cases b
 ·cases b
theorem Gu(a:E.zero.all flat=true)(b:Iz E.agg E.zero=some d)(ρ:Ren):cX ρ d d:=by
 unfold Iz at b;split at b
 ·cases b;exact .agg (jI a ρ)
 ·split at b
  ·rename_i c;cases b;rw[c]at a;exact uo (by simpa using a) ρ
  ·cases b
theorem Cv(h:nQ C){xt t:TypeId}(G:cX ρ d m)(b:jg C d t q st=some (.val v dC)):
  ∃n,(Instr.typeAssert m xt t q).run C.P w=.ok n w/\cX ρ v n/\dC=st:=by
 unfold jg at b;split at b
 ·cases b
 ·rename_i K f;obtain⟨J,s,p⟩:=mg h f w;have c:=p.mk;split at b
  ·cases b
  ·rename_i hd;have hu:=ed h f w;split at b
   ·rename_i M L;cases G with
    |@iface _ _ o x=>
    split at b
    ·rename_i i;have:=aet i;subst this;obtain⟨rfl,rfl⟩:=c9 b;cases q with
     |true=>
      refine⟨.tuple #[o,.bool true],?_,.tuple (.cons x (.cons (.bool _) .nil)),Z⟩;exact YO
     |false=>
      refine⟨o,?_,x,Z⟩;exact YO
    ·rename_i i;have l:=Nat.ne_of_beq_eq_false i;split at b
     ·rename_i I a;rw[c]at a;cases a;obtain⟨rfl,rfl⟩:=c9 b;refine⟨.tuple #[J,.bool false],?_,.tuple (.cons (Gu (h.yn _ _ f) c ρ) (.cons (.bool _) .nil)),Z⟩;unfold Instr.typeAssert;rw[Sem.run_bind,hu,Result.andThen_ok];split<;>first|(rename_i e;exact absurd e (hd _))|(rename_i e _;exact absurd e (hd _))|skip
      all_goals first|(rename_i e;cases e;rw[if_neg l];simp[s])|(rename_i e;cases e)|simp_all
     ·cases b
   ·cases G;split at b
    ·rename_i I a;rw[c]at a;cases a;obtain⟨rfl,rfl⟩:=c9 b;refine⟨.tuple #[J,.bool false],?_,.tuple (.cons (Gu (h.yn _ _ f) c ρ) (.cons (.bool _) .nil)),Z⟩;unfold Instr.typeAssert;rw[Sem.run_bind,hu,Result.andThen_ok];split<;>first|(rename_i e;exact absurd e (hd _))|(rename_i e _;exact absurd e (hd _))|skip
     all_goals first|(simp[s];done)|(rename_i e;cases e)|simp_all
    ·cases b
   ·cases b
end
variable{B u:Option Addr}
section
variable{C:dR} {w0:World} {N0:Nat} {G:Nat->Prop} {ρ:Ren} {st dC:St} {w:World} {v:Value}
theorem di.drewN(a:di w0 N0 G ρ st w)(b:Nat):di w0 N0 G ρ st {w with drawn:=b}:=a.Sr ⟨rfl,rfl,rfl,Nat.le_refl _,fun _ _=>rfl⟩
theorem Gv(N:di w0 N0 G ρ st w)(e:cX ρ d m){es n:Nat}{xs:List Value}(b:rf d=some n)(a:ii st es n d=some xs)(p:Program):
  ∃c,(Builtin.lenOf m).run p w=.ok n w/\(Builtin.firstCells es n m).run p w=.ok c w/\cT ρ xs c.toList:=by
 unfold rf at b;split at b
 ·rename_i t C v;cases b;cases e with
  |me=>simp[ii]at a;subst a;exact⟨#[],rfl,rfl,.nil⟩
  |jp t L=>
   refine⟨#[],Z,?_,?_⟩
   ·simp[Builtin.firstCells,loadCells,loadCellsFrom]
   ·obtain⟨x,P,f⟩:=t;cases f with
    |some R=>simp[ii]at a
    |none=>
     simp only[ii,Nat.zero_mul]at a;have:=fk a;cases xs with
     |nil=>exact .nil
     |cons Q M=>simp at this
  |slice l i K=>
   simp only[ii]at a;obtain⟨h,O,J⟩:=N.read l a p;exact⟨h,Z,O,J⟩
 ·rename_i s;cases b;cases e;simp only[ii,Option.some.injEq]at a;subst a;refine⟨(s.extract 0 s.data.toList.length).data.map fun x=>.int .u8 x.toNat,?_,Z,?_⟩
  ·show Result.ok s.size w=_;rw[size_data]
  ·have:(s.extract 0 s.data.toList.length)=s:=by
    rw[<-size_data];exact ByteArray.extract_zero_size
   rw[this];simp only[ofBytes,List.take_length,Array.toList_map];generalize s.data.toList=I;induction I with
   |nil=>exact .nil
   |cons d I o=>exact .cons (.int _ _) o
 ·cases b
theorem xk(a:di w0 N0 G ρ st w){es dP fo b o len n:Nat}{c:List Value}(e:st.get b=some (.cells c es dP fo)):di w0 N0 G ρ (iU st es dP fo b o len n c) w:=
 a.weaken pG (fun _ _ f=>lq f) (Fj a.wf (a.wf.lt _ _ e))
theorem ri{es b o len e n:Nat}{xs:List Value}(i:¬len+n<=e)(a:fP st es (some ⟨b,o,none⟩) len e n xs=some (.val v dC)):
  ∃s f h c,st.get b=some (.cells s es f h)/\gq st b o (len*es)=some c/\v=.slice (some ⟨st.n,0,none⟩) (len+n) (len+n)/\dC=grown st es f h b o len n s c xs:=by
 unfold fP at a;have l:aeQ (len+n) e=false:=by
  cases t:aeQ (len+n) e with
  |false=>rfl
  |true=>exact absurd (aeu t) i
 simp only[l]at a;split at a
 ·rename_i s C f h x;split at a
  ·rename_i c p w;have:=aet p;subst this;obtain⟨rfl,rfl⟩:=c9 a;exact⟨s,f,h,c,x,w,Z,Z⟩
  ·cases a
 ·cases a
theorem zR(h:di w0 N0 G ρ st w){es len L c n:Nat}{xs:List Value}(ap:Program)(p:cX ρ (.slice u len L) (.slice B len c)) 
  (s:cT ρ xs j.toList) (ah:xs.length=n*es) (F:xs.all fM=true) (f:fP st es u len L n xs=some (.val v dC)) (N:len+n<=c) (aO:0<es):
  ∃ai w',((match B with|some an=>storeCells (an.add (len*es)) j.toList|none=>pure ()):Sem Unit).run ap w=.ok () w'/\Kept w0 N0 G ρ dC v (.slice B (len+n) c) w' ai:=by
 by_cases g:len+n<=L
 ·have H:aeQ (len+n) L=true:=Nat.ble_eq_true_of_le g;unfold fP at f;simp only[H]at f;cases p with
  |me=>
   obtain⟨rfl,rfl⟩:=c9 f;have:n=0:=om;subst this;exact⟨ρ,w,Z,Ren.le_refl _,h,.me⟩
  |jp an ay=>
   have S:n=0:=om;subst S;have al:xs=[]:=by cases xs with|nil=>rfl|cons _ _=>simp at ah
   subst al;have K:j.toList=[]:=by cases ab:j.toList with|nil=>rfl|cons _ _=>rw[ab]at s;cases s
   obtain⟨b,o,aw⟩:=an;cases aw with
   |some aX=>cases f
   |none=>obtain⟨rfl,rfl⟩:=c9 f;exact⟨ρ,w,by rw[K];rfl,Ren.le_refl _,h,.jp _ _⟩
  |@slice b o _ _ _ l hl A U=>
   cases xs with
   |nil=>
    obtain⟨rfl,rfl⟩:=c9 f;have K:j.toList=[]:=by cases ab:j.toList with|nil=>rfl|cons _ _=>rw[ab]at s;cases s
    exact⟨ρ,w,by rw[K];rfl,Ren.le_refl _,h,.slice hl A U⟩
   |cons aW aU=>
    simp only at f;split at f
    ·rename_i aL aA;obtain⟨rfl,rfl⟩:=c9 f;obtain⟨w',Y,ac,_⟩:=h.write hl aA s ap;refine⟨ρ,w',?_,Ren.le_refl _,ac,.slice hl A U⟩;simp only[kS,aeP];exact Y
    ·cases f
 ·cases p with
  |me=>omega
  |jp an ay=>omega
  |@slice b o _ _ _ l hl A U=>
   obtain⟨ag,C,T,aI,hg,Y,rfl,rfl⟩:=ri g f;have E:=xk (es:=es) (o:=o) (len:=len) (n:=n) h hg;obtain⟨aD,I,z,aa,e,ak⟩:=h.obj _ _ _ hl hg;have ad:=ak.es;have aQ:=ak.size;have q:=s.length;simp only[aeO]at q;have aB:(len+n)*es<=c*es:=aeN _ N;have aq:(len+n)*es=len*es+n*es:=aeR _ _ _;rw[ad]at U;obtain⟨w',aj,p⟩:=uj (P:=ap) j.toList w l.b (l.d+o+len*es) 0 aD I z aa e (by simp;omega) (fun aR aT ax=>ak.Lm aR (by simp at ax;omega)) (s.NO F);obtain⟨O,af,az,am⟩:=p.here;have D:=h.xT _ _ hl;have aG:=h.Fi;have ao:=p.size;have aF:=fk Y;obtain⟨aS,aK,f0,aV,d,aE,rfl⟩:=o8 Y;rw[hg]at d;cases d;refine⟨ρ.add st.n ⟨l.b,l.d+o,es,l.sz⟩,w',?_,?_,?_,?_⟩
   ·simp only[kS];exact aj
   ·exact ei h.ij
   ·have S:(iU st es C T b o len n ag).n=st.n:=pG;have P:=E.extend (dC:=grown st es C T b o len n ag ((ag.drop o).take (len*es)) xs) (w':=w') (o:=.cells ((ag.drop o).take (len*es)++xs) es C (T+o)) (l:=⟨l.b,l.d+o,es,l.sz⟩)
     (by rw[S];rfl) (by intro x;rw[S];exact kC x) (ym h.wf hg) ⟨p.os,p.tape,p.output,om,fun x s=>p.other x om⟩ (by simpa using D.2.1) (by simp;omega) ?_ ?_ ?_
    ·rw[S]at P;exact P
    ·intro x W r D7 hgx;by_cases zG:W.b=l.b
     ·cases r with
      |dead=>trivial
      |cells cx aC y m=>
       have Bq:=(lq hgx).resolve_left (by intro e;cases e);have V:y=C/\l.d+m=W.d+T:=by
        by_cases hxb:x=b
        ·subst hxb;rw[hg]at Bq;cases Bq;rw[hl]at D7;cases D7;exact⟨Z,Z⟩
        ·have:=h.sep _ _ _ _ _ _ hl D7 zG.symm hg Bq (fun e=>hxb e.symm);exact⟨this.1.symm,this.2⟩
       obtain⟨rfl,av⟩:=V;have aM:=Gp h.wf hg hgx;obtain⟨aP,ar,aN,aH,k,Q⟩:=h.obj _ _ _ D7 Bq;rw[zG,e]at k;cases k;rw[zG];refine⟨O,I,z,aa,af,Q.es,by rw[az];exact Q.size,Q.fits,fun i v hi'=>?_,Q.Lm⟩;have au:i<cx.length:=by
        exact ach
       obtain⟨J,a,t⟩:=Q.cell _ _ hi';refine⟨J,?_,t⟩;rw[am,if_neg (by simp;omega)];exact a
      |_=>
       exact YX
     ·rw[p.other _ zG];exact E.obj _ _ _ D7 hgx
    ·have R:=ei (l:=⟨l.b,l.d+o,es,l.sz⟩) E.ij;refine⟨O,I,z,aa,af,Z,by simp;omega,?_,fun i v hi'=>?_,ak.Lm⟩
     ·simp;omega
     ·have X:((ag.drop o).take (len*es)).length=len*es:=by simp;omega
      show ∃J,O[l.d+o+i]?=some J/\_;rw[am];by_cases ae:i<len*es
      ·rw[aeS om,List.getElem?_take,if_pos ae,List.getElem?_drop]at hi';obtain⟨J,a,t⟩:=ak.cell _ _ hi';refine⟨J,?_,t.mono R⟩;rw[if_neg om,<-a];congr 1;omega
      ·rw[List.getElem?_append_right om,X]at hi';obtain⟨J,a,t⟩:=s.get hi';have aJ:i-len*es<j.toList.length:=by
        rcases Nat.lt_or_ge (i-len*es) j.toList.length with hh|hh
        ·exact hh
        ·rw[aeU hh]at a;cases a
       refine⟨J,?_,t.mono R⟩;rw[if_pos om,<-a];congr 1;omega
    ·intro x W r D7 hgx zG;cases r with
     |dead=>trivial
     |cells cx aC y m=>
      have Bq:=(lq hgx).resolve_left (by intro e;cases e);show y=C/\W.d+(T+o)=l.d+o+m;by_cases hxb:x=b
      ·subst hxb;rw[hg]at Bq;cases Bq;rw[hl]at D7;cases D7;exact⟨Z,om⟩
      ·have:=h.sep _ _ _ _ _ _ hl D7 zG.symm hg Bq (fun e=>hxb e.symm);exact⟨this.1.symm,by have:=this.2;omega⟩
     |_=>
      exact YX
   ·have M:cX (ρ.add st.n ⟨l.b,l.d+o,es,l.sz⟩) (.slice (some ⟨st.n,0,none⟩) (len+n) (len+n)) (.slice (some ⟨l.b,l.d+o+0,none⟩) (len+n) c):=
     .slice (l:=⟨l.b,l.d+o,es,l.sz⟩) (c7 _ _ _) N (by simp;omega)
    exact M
theorem NT{a b:Nat}(e:¬a<=b):aeQ a b=false:=by
 cases c:aeQ a b with
 |false=>rfl
 |true=>exact absurd (aeu c) e
theorem Gw(V:di w0 N0 G ρ st w){es len P x n:Nat}{xs:List Value}(av:Program)(ad:cX ρ (.slice u len P) (.slice B len x)) 
  (ae:cT ρ xs j.toList) (aq:xs.length=n*es) (t:fP st es u len P n xs=some (.val v dC)) (ak:x<len+n) (h:TypeId):
  ∃c,(Builtin.firstCells es len (.slice B len x)).run av w=.ok c w/\∀(b:Array Value) (a:Nat),len+n<=a->b.size=(a-(len+n))*es->
   ∃L,Kept w0 N0 G ρ dC v (.slice (some ⟨w.heap.size,0,none⟩) (len+n) a) {w with heap:=w.heap.push (.cells (c++j++b) h)} L:=by
 have g:=ae.length;simp only[aeO]at g;have J:∀(Zz:St) (aj al:Nat) (e:List Value) (c b:Array Value) (a:Nat) (p:St),di w0 N0 G ρ Zz w->Zz.n=st.n->p.n=st.n+1->(∀S,p.get S=if S=st.n then some (.cells (e++xs) es aj al)else Zz.get S)->WF p->
   cT ρ e c.toList->e.length=len*es->len+n<=a->b.size=(a-(len+n))*es->
   ∃L,Kept w0 N0 G ρ p (.slice (some ⟨st.n,0,none⟩) (len+n) (len+n)) (.slice (some ⟨w.heap.size,0,none⟩) (len+n) a) {w with heap:=w.heap.push (.cells (c++j++b) h)} L:=by
  intro Zz aj al e c b a p C W au H d O X ac ar;have q:=O.length;simp only[aeO]at q;have am:a*es=(len+n)*es+(a-(len+n))*es:=by rw[<-aeR];congr 1;omega
  have ag:(len+n)*es=len*es+n*es:=aeR _ _ _;have aa:(c++j++b).size=a*es:=by simp;omega
  have m:=V.Fi;have K:∀y,y<w.heap.size->(w.heap.push (.cells (c++j++b) h))[y]?=w.heap[y]?:=fun y C=>by rw[Array.getElem?_push,if_neg om]
  have R:=C.extend (dC:=p) (w':={w with heap:=w.heap.push (.cells (c++j++b) h)}) (o:=.cells (e++xs) es aj al) (l:=⟨w.heap.size,0,es,a*es⟩)
   om (by intro S;rw[W];exact H S) d ⟨rfl,rfl,rfl,by simp,fun y C=>K y om⟩ m sm
   (fun S Y an i s=>by rw[show({w with heap:=w.heap.push (.cells (c++j++b) h)}:World).heap[Y.b]?=w.heap[Y.b]? from K _ (C.xT _ _ i).2.2];exact C.obj _ _ _ i s)
   ?_ (fun S Y an i s ap=>by have:=(C.xT _ _ i).2.2;simp at ap;omega)
  ·rw[W]at R;refine⟨_,ei V.ij,R,?_⟩;exact .slice (l:=⟨w.heap.size,0,es,a*es⟩) (c7 _ _ _) ac sm
  ·have k:=ei (l:=⟨w.heap.size,0,es,a*es⟩) C.ij;refine⟨c++j++b,h,0,0,by simp,Z,aa,?_,fun ah v F=>?_,fun ah _ T=>om⟩
   ·simp;omega
   ·obtain⟨D,M,E⟩:=(O.append ae).get F;refine⟨D,?_,E.mono k⟩;show(c++j++b)[0+ah]?=some D;rw[Nat.zero_add];have A:ah<(c.toList++j.toList).length:=by
     rcases Nat.lt_or_ge ah (c.toList++j.toList).length with T|T
     ·exact T
     ·rw[aeU T]at M;cases M
    rw[<-abK];simp only[Array.toList_append];rw[aeS A];exact M
 have f:¬len+n<=P:=by cases ad<;>omega
 cases ad with
 |me=>
  unfold fP at t;have I:aeQ (0+n) 0=false:=NT f;simp only[I]at t;obtain⟨rfl,rfl⟩:=c9 t;refine⟨#[],Z,fun b a i s=>?_⟩;have:=J st st.n 0 [] #[] b a (st.new (.cells xs es st.n 0)) V rfl rfl (fun S=>by simpa using dm st _ S) (V.wf.new rfl) .nil sm i s;simpa using this
 |jp aw ay=>
  obtain⟨az,o,ai⟩:=aw;cases ai with
  |some aC=>
   unfold fP at t;have I:aeQ (0+n) 0=false:=NT f;simp only[I]at t;cases t
  |none=>
   obtain⟨aA,Q,r,e,N,U,rfl,rfl⟩:=ri f t;have X:=fk U;have z:e=[]:=by cases e with|nil=>rfl|cons _ _=>simp at X
   subst z;refine⟨#[],by simp[Builtin.firstCells,loadCells,loadCellsFrom],fun b a i s=>?_⟩;exact J _ Q (r+o) [] #[] b a _ (xk V N) pG Z kC (ym V.wf N) .nil sm i s
 |@slice az o _ _ _ l ao aB ax=>
  obtain⟨aA,Q,r,e,N,U,rfl,rfl⟩:=ri f t;obtain⟨c,ab,af⟩:=V.read ao U av;refine⟨c,ab,fun b a i s=>?_⟩;exact J _ Q (r+o) e c b a _ (xk V N) pG Z kC (ym V.wf N) af (fk U) i s
theorem Pr(a:Nat):∀(b c:Nat),c<2*a+192->Builtin.growBy a b c<2*a+193:=by
 intro b;induction b with
 |zero=>intro c f;simp[Builtin.growBy];omega
 |succ b e=>
  intro c f;simp only[Builtin.growBy];split
  ·omega
  ·exact e _ om
theorem LA{a c:Nat}(b:c<a):Builtin.nextslicecap a c<=2*a+192:=by
 unfold Builtin.nextslicecap;split
 ·omega
 ·split
  ·omega
  ·have:=Pr a 4 c om;omega
theorem LB(n:nQ C)(au:di w0 N0 G ρ st w){ty:TypeId}(f:cT ρ z j.toList)(e:o6 C k.toList z st=some (.val v dC)):
  rh w0 N0 G ρ dC v ((Builtin.append_ k ty j).run C.P w):=by
 obtain⟨k⟩:=k;obtain⟨j⟩:=j;unfold o6 at e;split at e
 ·rename_i q A s aY d;simp only at d f;subst d;cases f with
  |@cons _ aJ _ _ y f=>
  cases f with
  |@cons _ F _ _ m f=>
  cases f;split at e
  ·rename_i aU aO aH a aQ Y T;split at e
   ·rename_i h ap;split at e
    ·rename_i p o;split at e
     ·cases e
     ·rename_i l;split at e
      ·cases e
      ·rename_i t aa;split at e
       ·cases e
       ·rename_i aT N;split at e
        ·rename_i J;simp only[Bool.and_eq_true]at J;obtain⟨⟨⟨⟨⟨aC,ax⟩,aD⟩,aI⟩,aM⟩,aF⟩:=J;have an:=aeM.mp aC;have U:=aet ax;have W:=aeu aI;have S:=aeu aM;have ae:=aet aF;unfold fy at W S;have ag:∃c b,aJ=.slice c a b:=by cases y<;>exact⟨_,_,rfl⟩
         obtain⟨c,b,rfl⟩:=ag;have am:(⟨[q,A]⟩:Array TypeId)[0]?=some q:=rfl;have al:(⟨[q,A]⟩:Array TypeId)[1]?=some A:=rfl;have ac:(⟨[.slice c a b,F]⟩:Array Value)[0]?=some (.slice c a b):=rfl;have aj:(⟨[.slice c a b,F]⟩:Array Value)[1]?=some F:=rfl;by_cases x:a+t<=b
         ·obtain⟨ar,B,u,H⟩:=Gv au m aa N C.P;obtain⟨M,aK,K,I⟩:=zR au C.P y H U aD e x an;refine⟨M,.slice c (a+t) b,aK,?_,I⟩;simp only[Builtin.append_,am,al,ac,aj];rw[cb _ (ed n Y w)];simp only[ap];rw[cb _ (fO n o w),cb _ (ed n T w)];split
          ·rename_i ab az;exact absurd az (l ab)
          ·rw[cb _ (Sem.run_pure (P:=C.P) (w:=w) false)];simp only[abL,if_false];rw[cb _ B];simp only[if_pos x,aeT,if_true];rw[cb _ u];cases c with
           |none=>simp only[Sem.run_pure]at K⊢;cases K;rfl
           |some aX=>simp only at K⊢;rw[cb _ K,Sem.run_pure]
         ·have V:b<a+t:=om;have aL:(Question.appendCap (a+t) b h).forced=false:=rfl;obtain⟨aE,L,ad⟩:=Fk n o w;have D:(typeInfo h).run C.P {w with drawn:=w.drawn+1}=.ok aE {w with drawn:=w.drawn+1}:=by
           obtain⟨aG,aW,O,_⟩:=n.VH _ _ o;have ai:(typeInfo h).run C.P w=.ok aG w:=by simp[typeInfo,O]
           rw[L]at ai;cases ai;simp[typeInfo,O]
          have aq:=au.drewN (w.drawn+1);obtain⟨ar,aR,u,H⟩:=Gv aq m aa N C.P;obtain⟨av,B,_,_⟩:=Gv au m aa N C.P;obtain⟨aN,ay,aB⟩:=Gw aq C.P y H U e V h;obtain⟨aP,aw,af⟩:=mg n o {w with drawn:=w.drawn+1};have ah:aP.cells.size=p.size:=by rw[<-ae,<-af.cells];simp
          generalize X:(Question.appendCap (a+t) b h).cut (w.tape w.drawn (Question.appendCap (a+t) b h))=i;have R:a+t<=i:=by rw[<-X];exact Nat.le_add_right _ _
          obtain⟨M,I⟩:=aB (Builtin.zeroCells aP.cells (i-(a+t))) i R (by simp[Builtin.zeroCells,ah]);refine⟨M,_,_,?_,I⟩;have g:¬(((a+t:Nat):Int)>IntKind.i64.max/\(false=true∨aE.bytes=0)):=by
           rintro⟨O,_⟩;simp[IntKind.max,IntKind.signed,IntKind.bits]at O;omega
          have ak:¬(Builtin.nextslicecap (a+t) b*aE.bytes>2^48):=by
           have aA:=LA V;rw[ad];have r:1<=a+t:=om;have aS:p.bytes<=1099511627776:=Nat.le_trans (by have:=aeN p.bytes r;omega) W;have O:Builtin.nextslicecap (a+t) b*p.bytes<=(2*(a+t)+192)*p.bytes:=aeN _ aA;have aV:(2*(a+t)+192)*p.bytes=2*((a+t)*p.bytes)+192*p.bytes:=by rw[aeR,Nat.mul_assoc]
           omega
          have Q:∀(ab:Nat) (E:World),(askRoom ab).run C.P E=.ok () E:=by
           intro ab E;unfold askRoom;split
           ·rfl
           ·rfl
          have ao:(choose (Question.appendCap (a+t) b h)).run C.P w=.ok i {w with drawn:=w.drawn+1}:=by
           simp only[choose,Sem.run,aL,abL,if_false,X]
          simp only[Builtin.append_,am,al,ac,aj];rw[cb _ (ed n Y w)];simp only[ap];rw[cb _ (fO n o w),cb _ (ed n T w)];split
          ·rename_i ab az;exact absurd az (l ab)
          ·rw[cb _ (Sem.run_pure (P:=C.P) (w:=w) false)];simp only[abL,if_false];rw[cb _ B];simp only[if_neg x,aeT,if_true];rw[cb _ L];simp only[abL]at g;simp only[if_neg g];rw[cb _ L];simp only[if_neg ak];rw[cb _ ao,cb _ D,cb _ (Q _ _),cb _ ay,cb _ u,cb _ aw,cb _ (iz _ _),Sem.run_pure]
        ·cases e
    ·cases e
   ·cases e
  ·cases e
 ·cases e
end
end Go.AM
