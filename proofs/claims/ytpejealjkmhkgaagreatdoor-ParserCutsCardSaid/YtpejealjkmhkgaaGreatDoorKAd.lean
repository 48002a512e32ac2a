/- Part of the proof. -/
import Derived.Test.YtpejealjkmhkgaaGreatDoorKAc
import Derived.Laws.StructEq
import Derived.Laws.World
set_option linter.all false
set_option maxHeartbeats 16000000
set_option maxRecDepth 100000
open Array renaming getElem?_toList->YL,length_toList->YT
open Bool renaming false_eq_true->YM,not_false->YY
open Nat renaming eq_of_beq_eq_true->YN,le_of_ble_eq_true->YO,blt_eq->YR,mul_le_mul_right->YS,add_assoc->YU,ble->YV,add_mul->YW,lt_or_ge->YZ
open List renaming getElem?_eq_none->YP,getElem?_append_left->YX
open Int renaming ofNat->YQ
namespace Go.AM
open Go.RowKit (Below)
variable{j:Bool} {z:TI} {k:Nat} {g:Array Value} {A B a i:Value} {d:Array (String×TypeId)} {h q:Array TypeId} {u y:Operand}
section
variable{C:dU} {w0:World} {N0:Nat} {G:Nat->Prop} {ρ:Ren} {st dI:St} {w:World} {v:Value}
theorem r6{t:TypeId}{E:TypeDesc}{D b o p:Value}(e:C.P.underlying t=some E)(f:cY ρ D o)(l:cY ρ b p)(c:io E D b=some j)(n:Nat):
  (Op.equalIn (n+1) t o p).run C.P w=.ok j w:=by
 unfold io at c;split at c
 ·cases f;cases l;cases c;exact run_equalIn_bool' w n t _ _ e
 ·rename_i v F D G b;split at c
  ·rename_i s;have:=ql.1 s;subst this;cases f;cases l;cases c;rw[run_equalIn_int w n t F v _ _ e,pL]
  ·cases c
 ·cases f;cases l;cases c;rw[run_equalIn_string w n t _ _ e,toList_data,toList_data,nC,oG]
 ·cases c
theorem r7(c:l6 C){t:TypeId}(e:C.tt.get t=some z)(b:z.agg=false)(hx:g[k]?=some a):
  (part t g k).run C.P w=.ok a w:=by
 unfold part;simp only[Sem.run_bind,zh c e,Result.andThen_ok,b,YM,if_false,hx,Sem.run_pure]
theorem Dv(f:l6 C){xs H p s:Array Value}(L:cU ρ xs.toList p.toList)(K:cU ρ H.toList s.toList)(n:Nat):
  ∀{l:List Field} {J:Bool},rR C xs.toList H.toList l=some J->(Op.eqFields (n+1) p s l).run C.P w=.ok J w:=by
 intro l;induction l with
 |nil=>intro J c;simp[rR]at c;subst c;rfl
 |cons P l N=>
  intro J c;simp only[rR]at c;split at c
  ·cases c
  ·rename_i M;have t:P.name≠ "_" :=by simpa using M
   split at c
   ·rename_i R S T e I F;split at c
    ·cases c
    ·rename_i b;rw[cv]at I F;obtain⟨Q,D,E⟩:=L.get I;obtain⟨O,v,G⟩:=K.get F;rw[YL]at D v;split at c
     ·rename_i o;have:=r6 (w:=w) (f.WD _ _ e) E G o n;simp only[Op.eqFields,ne_eq,t,not_false_eq_true,if_true,Sem.run_bind,r7 f e b D,r7 f e b v,Result.andThen_ok,this,Bool.not_true,YM,if_false];exact N c
     ·rename_i o;cases c;have:=r6 (w:=w) (f.WD _ _ e) E G o n;simp only[Op.eqFields,ne_eq,t,not_false_eq_true,if_true,Sem.run_bind,r7 f e b D,r7 f e b v,Result.andThen_ok,this,YY,Sem.run_pure]
     ·cases c
   ·cases c
theorem Ii{n:Nat}{t e:TypeId}(b:C.P.underlying t=some (.pointer e))(c:Option Addr):(Op.equalIn (n+1) t (.pointer none) (.pointer c)).run C.P w=.ok c.isNone w:=by
 rw[Op.equalIn,Sem.run_bind,run_underlying b,Result.andThen_ok];rfl
theorem Ij{n:Nat}{t c:TypeId}(b:C.P.underlying t=some (.pointer c))(e:Addr):(Op.equalIn (n+1) t (.pointer (some e)) (.pointer none)).run C.P w=.ok false w:=by
 rw[Op.equalIn,Sem.run_bind,run_underlying b,Result.andThen_ok];rfl
theorem Om{n:Nat}{t e:TypeId}(c:C.P.underlying t=some (.pointer e))(p b:Addr):(Op.equalIn (n+1) t (.pointer (some p)) (.pointer (some b))).run C.P w=
  (do if(<-sizeOf e)≠0 then sameAddr p b else if p==b then pure true else pure ((<-choose .zeroSizeEq)=1):Sem Bool).run C.P w:=by
 rw[Op.equalIn,Sem.run_bind,run_underlying c,Result.andThen_ok]
theorem Ik{n:Nat}{t:TypeId}(b:C.P.underlying t=some (.interface d)):(Op.equalIn (n+1) t .nilIface .nilIface).run C.P w=.ok true w:=by
 rw[Op.equalIn,Sem.run_bind,run_underlying b,Result.andThen_ok];rfl
theorem LJ{n:Nat}{t:TypeId}(b:C.P.underlying t=some (.interface d))(e:TypeId)(c:Value):(Op.equalIn (n+1) t .nilIface (.iface e c)).run C.P w=.ok false w:=by
 rw[Op.equalIn,Sem.run_bind,run_underlying b,Result.andThen_ok];rfl
theorem LK{n:Nat}{t:TypeId}(b:C.P.underlying t=some (.interface d))(e:TypeId)(c:Value):(Op.equalIn (n+1) t (.iface e c) .nilIface).run C.P w=.ok false w:=by
 rw[Op.equalIn,Sem.run_bind,run_underlying b,Result.andThen_ok];rfl
theorem LL{n:Nat}{t p:TypeId}(e:C.P.underlying t=some (.slice p))(f:Option Addr)(o b c l:Nat):(Op.equalIn (n+1) t (.slice none o b) (.slice f c l)).run C.P w=.ok f.isNone w:=by
 rw[Op.equalIn,Sem.run_bind,run_underlying e,Result.andThen_ok];rfl
theorem LM{n:Nat}{t p:TypeId}(e:C.P.underlying t=some (.slice p))(l:Addr)(o b c f:Nat):(Op.equalIn (n+1) t (.slice (some l) o b) (.slice none c f)).run C.P w=.ok false w:=by
 rw[Op.equalIn,Sem.run_bind,run_underlying e,Result.andThen_ok];rfl
theorem Il{n:Nat}{t f e:TypeId}(b:C.P.underlying t=some (.map f e))(c:Option Nat):(Op.equalIn (n+1) t (.map none) (.map c)).run C.P w=.ok c.isNone w:=by
 rw[Op.equalIn,Sem.run_bind,run_underlying b,Result.andThen_ok];rfl
theorem Im{n:Nat}{t f e:TypeId}(b:C.P.underlying t=some (.map f e))(c:Nat):(Op.equalIn (n+1) t (.map (some c)) (.map none)).run C.P w=.ok false w:=by
 rw[Op.equalIn,Sem.run_bind,run_underlying b,Result.andThen_ok];rfl
theorem Io{n:Nat}{t:TypeId}(b:C.P.underlying t=some (.func h q j)):(Op.equalIn (n+1) t .nilFunc .nilFunc).run C.P w=.ok true w:=by
 rw[Op.equalIn,Sem.run_bind,run_underlying b,Result.andThen_ok];rfl
theorem LN{n:Nat}{t:TypeId}(c:C.P.underlying t=some (.func h q j))(f:Fn)(e b:Array Value):(Op.equalIn (n+1) t .nilFunc (.func f e b)).run C.P w=.ok false w:=by
 rw[Op.equalIn,Sem.run_bind,run_underlying c,Result.andThen_ok];rfl
theorem LO{n:Nat}{t:TypeId}(c:C.P.underlying t=some (.func h q j))(f:Fn)(e b:Array Value):(Op.equalIn (n+1) t (.func f e b) .nilFunc).run C.P w=.ok false w:=by
 rw[Op.equalIn,Sem.run_bind,run_underlying c,Result.andThen_ok];rfl
theorem xj(b:BinOp)(t:TypeId)(e c:Operand)(p f:Option Addr):(eqGuard b t e c (.pointer p) (.pointer f)).run C.P w=.ok () w:=by cases b<;>rfl
theorem Rt(b:BinOp)(t:TypeId)(e c:Operand)(f:TypeId)(l:Value):(eqGuard b t e c .nilIface (.iface f l)).run C.P w=.ok () w:=by cases b<;>rfl
theorem Ru(b:BinOp)(t:TypeId)(e c:Operand)(f:TypeId)(l:Value):(eqGuard b t e c (.iface f l) .nilIface).run C.P w=.ok () w:=by cases b<;>rfl
theorem Fu(e:BinOp)(t:TypeId)(n l:Operand)(p o:Option Addr)(s b c f:Nat):(eqGuard e t n l (.slice p s b) (.slice o c f)).run C.P w=.ok () w:=by cases e<;>rfl
theorem Cx(b:BinOp)(t:TypeId)(e c:Operand)(p f:Option Nat):(eqGuard b t e c (.map p) (.map f)).run C.P w=.ok () w:=by cases b<;>rfl
theorem On(b:BinOp)(t:TypeId)(e c:Operand):(eqGuard b t e c .nilFunc .nilFunc).run C.P w=.ok () w:=by cases b<;>rfl
theorem Oo(c:BinOp)(t:TypeId)(n e:Operand)(f:Fn)(l b:Array Value):(eqGuard c t n e .nilFunc (.func f l b)).run C.P w=.ok () w:=by cases c<;>rfl
theorem Oq(c:BinOp)(t:TypeId)(n e:Operand)(f:Fn)(l b:Array Value):(eqGuard c t n e (.func f l b) .nilFunc).run C.P w=.ok () w:=by cases c<;>rfl
theorem Rv(c:BinOp)(t:TypeId)(l e:Operand)(f b:Bool):(eqGuard c t l e (.bool f) (.bool b)).run C.P w=.ok () w:=by cases c<;>rfl
theorem Kv(c:BinOp)(t:TypeId)(l f:Operand)(n e:IntKind)(o b:Int):(eqGuard c t l f (.int n o) (.int e b)).run C.P w=.ok () w:=by cases c<;>rfl
theorem Kw(c:BinOp)(t:TypeId)(l e:Operand)(f b:ByteArray):(eqGuard c t l e (.string f) (.string b)).run C.P w=.ok () w:=by cases c<;>rfl
theorem Ot(b:BinOp)(t:TypeId)(e c:Operand)(f:(jH e||jH c)=true):(eqGuard b t e c .nilIface .nilIface).run C.P w=.ok () w:=by
 cases b<;>cases e<;>cases c<;>first|rfl|(simp[jH]at f;done)
theorem Kx(I:l6 C){t:TypeId}{V b H F:Value}(l:cY ρ V H)(f:cY ρ b F)(n:Lz C t u y V b=some j)(M:BinOp):
  (∀s,(Op.equalIn (s+2) t H F).run C.P w=.ok j w)/\(eqGuard M t u y H F).run C.P w=.ok () w:=by
 unfold Lz at n;split at n
 ·cases n
 ·rename_i a P;have c:=I.WD _ _ P;split at n
  ·rename_i e;cases n;cases l;rw[e]at c;cases f<;>exact⟨fun s=>Ii c _,xj _ _ _ _ _ _⟩
  ·rename_i o e;cases n;cases f;rw[e]at c;cases l
   ·exact(o Z).elim
   ·exact⟨fun s=>Ij c _,xj _ _ _ _ _ _⟩
  ·rename_i k h i _ e;rw[e]at c;split at n
   ·rename_i R X J W N T;split at n
    ·rename_i p;simp only[Bool.and_eq_true]at p;have Q:=YR.mp p.1;have:=YN p.2;subst this;cases n;obtain⟨O,S,rfl⟩:=oF l;obtain⟨g,E,rfl⟩:=oF f;rw[S]at E;cases E;refine⟨?_,xj _ _ _ _ _ _⟩;have o:R.size≠0:=om;have D:((⟨O.b,O.d+J,none⟩:Addr)==⟨O.b,O.d+N,none⟩)=Nat.beq J N:=by
      rw[Bool.eq_iff_iff,Nat.beq_eq,beq_iff_eq,Addr.mk.injEq];constructor
      ·rintro⟨_,n,_⟩;omega
      ·rintro n;exact⟨rfl,om,rfl⟩
     intro s;rw[Om c];simp only[Sem.run_bind,Result.andThen_ok,e1 I T,ne_eq,o,not_false_eq_true,if_true,sameAddr,beq_self_eq_true,Sem.run_pure,D]
    ·cases n
   ·cases n
  ·rename_i e;rw[e]at c;split at n
   ·rename_i U;cases n;cases l;cases f;exact⟨fun s=>Ik c,Ot _ _ _ _ U⟩
   ·cases n
  ·rename_i e;rw[e]at c;cases n;cases l;cases f;exact⟨fun s=>LJ c _ _,Rt _ _ _ _ _ _⟩
  ·rename_i e;rw[e]at c;cases n;cases l;cases f;exact⟨fun s=>LK c _ _,Ru _ _ _ _ _ _⟩
  ·rename_i v Y d e;rw[e]at c;simp only at n;split at n
   ·cases n
   ·rename_i G;rw[Bool.or_eq_false_iff]at G;cases l with
    |agg l=>
     cases f with
     |agg f=>
      have L:C.P.fieldsOf t=v:=by unfold Program.fieldsOf;rw[c]
      have K:C.P.underlying t=some (.struct (C.P.fieldsOf t)):=by rw[L];exact c
      refine⟨?_,run_eqGuard_agg w M t u y _ _ G.1⟩;intro s;rw[run_equalIn_agg w (s+1) t _ _ K G.2,L];exact Dv I l f s n
  ·rename_i e;rw[e]at c;cases n;cases l;cases f<;>exact⟨fun s=>LL c _ _ _ _ _,Fu _ _ _ _ _ _ _ _ _ _⟩
  ·rename_i o e;rw[e]at c;cases n;cases f;cases l<;>first|exact(o _ _ rfl).elim|exact(o rfl).elim|exact⟨fun s=>LM c _ _ _ _ _,Fu _ _ _ _ _ _ _ _ _ _⟩
  ·rename_i e;rw[e]at c;cases n;cases l;cases f<;>exact⟨fun s=>Il c _,Cx _ _ _ _ _ _⟩
  ·rename_i o e;rw[e]at c;cases n;cases f;cases l<;>first|exact(o rfl).elim|exact⟨fun s=>Im c _,Cx _ _ _ _ _ _⟩
  ·rename_i e;rw[e]at c;cases n;cases l;cases f;exact⟨fun s=>Io c,On _ _ _ _⟩
  ·rename_i e;rw[e]at c;cases n;cases l;cases f<;>exact⟨fun s=>LN c _ _ _,Oo _ _ _ _ _ _ _⟩
  ·rename_i e;rw[e]at c;cases n;cases f;cases l<;>exact⟨fun s=>LO c _ _ _,Oq _ _ _ _ _ _ _⟩
  ·refine⟨fun s=>r6 c l f n (s+1),?_⟩;unfold io at n;split at n
   ·cases l;cases f;exact Rv _ _ _ _ _ _
   ·cases l;cases f;exact Kv _ _ _ _ _ _ _ _
   ·cases l;cases f;exact Kw _ _ _ _ _ _
   ·cases n
end
variable{r:List Value}
section
variable{C:dU} {w0:World} {N0:Nat} {G:Nat->Prop} {ρ:Ren} {st dI:St} {w:World} {v:Value}
theorem zN{t:TypeId}{c b:Value}(f:∀e,(Op.equalIn (e+2) t c b).run C.P w=.ok j w):(Op.equal t c b).run C.P w=.ok j w:=f 9998
theorem binOp_eql{t:TypeId}{c b:Value}(p:∀o e v f,¬(c=.int o e/\b=.int v f))(l:∀e f,¬(c=.string e/\b=.string f))(s:∀o e,c≠.float o e)(n:∀o e f,c≠.complex o e f):
  binOp .eql t c b=(do pure (.bool (<-Op.equal t c b)))/\binOp .neq t c b=(do pure (.bool (!(<-Op.equal t c b)))):=by
 constructor
 ·cases c<;>first|(exfalso;exact s _ _ rfl)|(exfalso;exact n _ _ _ rfl)|(cases b<;>first|rfl|(exfalso;exact p _ _ _ _ ⟨rfl,rfl⟩)|(exfalso;exact l _ _ ⟨rfl,rfl⟩))
 ·cases c<;>first|(exfalso;exact s _ _ rfl)|(exfalso;exact n _ _ _ rfl)|(cases b<;>first|rfl|(exfalso;exact p _ _ _ _ ⟨rfl,rfl⟩)|(exfalso;exact l _ _ ⟨rfl,rfl⟩))
theorem cY.Ky(l:cY ρ a i):(∀c b,i≠.float c b)/\(∀c b f,i≠.complex c b f):=by
 cases l<;>exact⟨(fun _ _ e=>by cases e),(fun _ _ _ e=>by cases e)⟩
theorem Rw(I:l6 C){s:BinOp}{t:TypeId}{J b o n:Value}(e:cY ρ J o)(l:cY ρ b n)(c:Dl C s t u y J b=some v):
  (do eqGuard s t u y o n;binOp s t o n:Sem Value).run C.P w=.ok v w/\cY ρ v v:=by
 unfold Dl at c;split at c
 ·rename_i K S p R;cases e;cases l;have L:(eqGuard s t u y (.int K S) (.int p R)).run C.P w=.ok () w:=Kv _ _ _ _ _ _ _ _;rw[Sem.run_bind,L,Result.andThen_ok];split at c
  ·refine⟨Du c t,?_⟩;unfold rT at c;split at c<;>first|cases c|skip
   split at c<;>cases c<;>exact .int _ _
  ·rename_i H;split at c
   ·rename_i M;have:=ql.1 M;subst this;refine⟨Ig c H t,?_⟩;unfold rS at c;split at c<;>first|(cases c;first|exact .int _ _|exact .bool _)|(split at c<;>cases c<;>exact .int _ _)|cases c
   ·cases c
 ·cases e;cases l;rw[Sem.run_bind,Kw,Result.andThen_ok];refine⟨Ih c t,?_⟩;unfold uH at c;split at c<;>first|(cases c;exact .bool _)|(split at c<;>cases c<;>exact .string _)|cases c
 ·rename_i O H;have G:∀K u p y,¬(o=.int K u/\n=.int p y):=by
   rintro K u p y ⟨rfl,rfl⟩;cases e;cases l;exact O _ _ _ _ Z Z
  have E:∀u y,¬(o=.string u/\n=.string y):=by
   rintro u y ⟨rfl,rfl⟩;cases e;cases l;exact H _ _ Z Z
  obtain⟨P,N⟩:=binOp_eql (t:=t) G E e.Ky.1 e.Ky.2;split at c
  ·cases f:Lz C t u y J b with
   |none=>rw[f]at c;cases c
   |some Q=>
    rw[f]at c;cases c;obtain⟨F,D⟩:=Kx (w:=w) I e l f .eql;refine⟨?_,.bool _⟩;rw[Sem.run_bind,D,Result.andThen_ok,P,Sem.run_bind,zN F,Result.andThen_ok,Sem.run_pure]
  ·cases f:Lz C t u y J b with
   |none=>rw[f]at c;cases c
   |some Q=>
    rw[f]at c;cases c;obtain⟨F,D⟩:=Kx (w:=w) I e l f .neq;refine⟨?_,.bool _⟩;rw[Sem.run_bind,D,Result.andThen_ok,N,Sem.run_bind,zN F,Result.andThen_ok,Sem.run_pure]
  ·cases c
theorem T0{e:UnOp}(b:cY ρ a i)(c:WC e a=some v):(Op.unary e i).run C.P w=.ok v w/\cY ρ v v:=by
 unfold WC at c;split at c
 ·cases b;cases c;exact⟨rfl,.int _ _⟩
 ·cases b;cases c;exact⟨rfl,.int _ _⟩
 ·cases b;cases c;exact⟨rfl,.bool _⟩
 ·cases c
theorem Dw(e:cY ρ a i)(c:lE a st=some (.val v dI)):
  v=a/\dI=st/\i≠.pointer none/\i≠.nilIface/\i≠.nilFunc/\∀f n l,i≠.func (.method f) n l:=by
 unfold lE at c;split at c<;>first|(obtain⟨rfl,rfl⟩:=c7 c)|cases c
 all_goals cases e
 all_goals exact⟨rfl,rfl,(fun b=>by cases b),(fun b=>by cases b),(fun b=>by cases b),(fun _ _ _ b=>by cases b)⟩
theorem vG(f:l6 C){t:TypeId}(n:cY ρ a i)(b:gH C t a st=some (.val v dI)):
  (Instr.makeInterface t i).run C.P w=.ok (.iface t i) w/\v=.iface t a/\dI=st/\cY ρ v (.iface t i):=by
 unfold gH at b;split at b
 ·rename_i o l;split at b
  ·cases b
  ·rename_i c;obtain⟨rfl,rfl⟩:=c7 b;refine⟨?_,Z,Z,.iface t n⟩;unfold Instr.makeInterface;rw[Sem.run_bind,dT f l,Result.andThen_ok];split
   ·rename_i e p;exact absurd p (c e)
   ·rfl
 ·cases b
theorem BC{C:dU}{b:Array Field}{f c:Nat}(l:gC C b k=some (f,c)):∃n e,b[k]?=some n/\C.tt.get n.type=some e/\n.offset=f/\e.size=c:=by
 unfold gC at l;split at l
 ·rename_i n o;split at l
  ·rename_i e p;cases l;rw[cv,YL]at o;exact⟨n,e,o,p,Z,Z⟩
  ·cases l
 ·cases l
theorem BD(n:l6 C){t:TypeId}(I:cY ρ a i)(b:fa C t a k st=some (.val v dI)):
  ∃f,(Instr.fieldAt t i k).run C.P w=.ok f w/\cY ρ v f/\dI=st:=by
 unfold fa at b;split at b
 ·rename_i N O L s;obtain⟨K,G,rfl⟩:=oF I;split at b
  ·rename_i o p;split at b
   ·rename_i J D E;split at b
    ·rename_i c;obtain⟨rfl,rfl⟩:=c7 b;obtain⟨M,H,F,l,rfl,rfl⟩:=BC E;have e:H.size≠0:=by have:=YR.mp c;omega
     refine⟨.pointer (some ⟨K.b,K.d+(L+M.offset),none⟩),?_,.ptr G,Z⟩;simp only[Instr.fieldAt,Sem.run_bind,dT n s,p,Result.andThen_ok,F,Instr.sureAddr,Sem.run_pure,fieldPlace,e1 n l,if_neg e,j4,YU]
    ·cases b
   ·cases b
  ·cases b
 ·cases b
theorem Fv(n:l6 C){t:TypeId}(p:cU ρ r g.toList)(f:zG C t r k=some a):
  ∃l,(part t g k).run C.P w=.ok l w/\cY ρ a l:=by
 unfold zG at f;split at f
 ·rename_i c o;split at f
  ·rename_i b;split at f
   ·rename_i s;cases f;refine⟨.agg (g.extract k (k+c.size)),?_,.agg ?_⟩
    ·simp only[part,Sem.run_bind,zh n o,b,Result.andThen_ok,if_true,e1 n o,Sem.run_pure]
    ·have:(g.extract k (k+c.size)).toList=(g.toList.drop k).take c.size:=by
      simp[List.extract_eq_take_drop]
     rw[this];simpa using(p.drop k).take c.size
   ·cases f
  ·rename_i b;rw[cv]at f;obtain⟨l,e,v⟩:=p.get f;rw[YL]at e;exact⟨l,r7 n o b e,v⟩
 ·cases f
theorem LP(l:l6 C){t:TypeId}(hx:cY ρ a i)(b:uI C t a k st=some (.val v dI)):
  ∃f,(Instr.field t i k).run C.P w=.ok f w/\cY ρ v f/\dI=st:=by
 unfold uI at b;split at b
 ·rename_i G H s;cases hx with
  |agg hx=>
   split at b
   ·rename_i n o;split at b
    ·rename_i E c;split at b
     ·rename_i I p;obtain⟨rfl,rfl⟩:=c7 b;rw[cv,YL]at c;obtain⟨D,e,F⟩:=Fv (w:=w) l hx p;refine⟨D,?_,F,Z⟩;simp only[Instr.field,Sem.run_bind,dT l s,o,Result.andThen_ok,c,asAgg,Sem.run_pure,e]
     ·cases b
    ·cases b
   ·cases b
 ·cases b
theorem BE(n:l6 C){t:TypeId}(J:cY ρ a i)(I:cY ρ A B)(c:gf C t a A st=some (.val v dI)):
  ∃H,(Instr.indexAt t i B).run C.P w=.ok H w/\cY ρ v H/\dI=st:=by
 unfold gf at c;split at c
 ·rename_i O S M l P N D p;split at c
  ·rename_i E o;split at c
   ·rename_i F f;split at c
    ·rename_i e;obtain⟨rfl,rfl⟩:=c7 c;have s:=YR.mp e;cases I;cases J with
     |iu U R=>omega
     |@slice _ _ _ _ L K G T Q=>
      refine⟨.pointer (some ⟨K.b,K.d+(M+D*F.size),none⟩),?_,.ptr G,Z⟩;have b:(0:Int)<=YQ D/\YQ D<(l:Int):=by simp;omega
      simp only[Instr.indexAt,asIntOf,Sem.run_bind,Sem.run_pure,dT n p,o,Result.andThen_ok,if_pos b,e1 n f,j4,YU];simp
    ·cases c
   ·cases c
  ·cases c
 ·rename_i O S M N D p;split at c
  ·rename_i l E o;split at c
   ·rename_i F f;split at c
    ·rename_i e;obtain⟨rfl,rfl⟩:=c7 c;have s:=YR.mp e;cases I;obtain⟨K,G,rfl⟩:=oF J;refine⟨.pointer (some ⟨K.b,K.d+(M+D*F.size),none⟩),?_,.ptr G,Z⟩;have b:(0:Int)<=YQ D/\YQ D<(l:Int):=by simp;omega
     simp only[Instr.indexAt,asIntOf,Sem.run_bind,Sem.run_pure,dT n p,o,Result.andThen_ok,Instr.sureAddr,if_pos b,e1 n f,j4,YU];simp
    ·cases c
   ·cases c
  ·cases c
 ·cases c
theorem LQ(f:l6 C){t:TypeId}(hx:cY ρ a i)(G:cY ρ A B)(b:rU C t a A st=some (.val v dI)):
  ∃p,(Instr.index t i B).run C.P w=.ok p w/\cY ρ v p/\dI=st:=by
 unfold rU at b;split at b
 ·rename_i P s L E n;split at b
  ·rename_i l;split at b
   ·rename_i Q D;obtain⟨rfl,rfl⟩:=c7 b;cases G;cases hx;rw[cv,YL]at D;have H:s[E]?=some Q:=D;refine⟨.int .u8 Q.toNat,?_,.int _ _,Z⟩;have J:(0:Int)<=YQ E:=by simp
    simp only[Instr.index,asIntOf,Sem.run_bind,Sem.run_pure,dT f n,l,Result.andThen_ok,if_pos J];simp[H]
   ·cases b
  ·cases b
 ·rename_i P S L E n;split at b
  ·rename_i I M l;split at b
   ·rename_i T F;split at b
    ·rename_i o;split at b
     ·rename_i U O;obtain⟨rfl,rfl⟩:=c7 b;cases G;cases hx with
      |agg hx=>
       have K:=YR.mp o;obtain⟨N,e,R⟩:=Fv (w:=w) f hx O;refine⟨N,?_,R,Z⟩;have c:(0:Int)<=YQ E/\YQ E<(I:Int):=by simp;omega
       simp only[Instr.index,asIntOf,Sem.run_bind,Sem.run_pure,dT f n,l,Result.andThen_ok,if_pos c,e1 f F];simpa using e
     ·cases b
    ·cases b
   ·cases b
  ·cases b
 ·cases b
theorem Fw(b:cY ρ a i)(c:nE a k st=some (.val v dI)):
  ∃e,(Instr.extract i k).run C.P w=.ok e w/\cY ρ v e/\dI=st:=by
 unfold nE at c;split at c
 ·cases b with
  |tuple b=>
   split at c
   ·rename_i p f;obtain⟨rfl,rfl⟩:=c7 c;rw[cv]at f;obtain⟨l,n,o⟩:=b.get f;rw[YL]at n;exact⟨l,by simp[Instr.extract,n],o,rfl⟩
   ·cases c
 ·cases c
theorem Dx(b:z.zero.all flat=true)(c:Fi z.agg z.zero=some a)(ρ:Ren):cY ρ a a:=by
 unfold Fi at c;split at c
 ·cases c;exact .agg (iO b ρ)
 ·split at c
  ·rename_i e;cases c;rw[e]at b;exact r5 (by simpa using b) ρ
  ·cases c
theorem zO(o:l6 C){xt t:TypeId}(J:cY ρ a i)(f:ik C a t j st=some (.val v dI)):
  ∃E,(Instr.typeAssert i xt t j).run C.P w=.ok E w/\cY ρ v E/\dI=st:=by
 unfold ik at f;split at f
 ·cases f
 ·rename_i M n;obtain⟨L,H,G⟩:=kW o n w;have l:=G.mk;split at f
  ·cases f
  ·rename_i c;have p:=dT o n w;split at f
   ·rename_i O N;cases J with
    |@iface _ _ F I=>
    split at f
    ·rename_i s;have:=YN s;subst this;obtain⟨rfl,rfl⟩:=c7 f;cases j with
     |true=>
      refine⟨.tuple #[F,.bool true],?_,.tuple (.cons I (.cons (.bool _) .nil)),Z⟩;unfold Instr.typeAssert;rw[Sem.run_bind,p,Result.andThen_ok];split<;>first|(rename_i b;exact absurd b (c _))|(rename_i b _;exact absurd b (c _))|skip
      all_goals first|rfl|(rename_i b;cases b)|simp_all
     |false=>
      refine⟨F,?_,I,Z⟩;unfold Instr.typeAssert;rw[Sem.run_bind,p,Result.andThen_ok];split<;>first|(rename_i b;exact absurd b (c _))|(rename_i b _;exact absurd b (c _))|skip
      all_goals first|rfl|(rename_i b;cases b)|simp_all
    ·rename_i s;have D:=Nat.ne_of_beq_eq_false s;split at f
     ·rename_i K e;rw[l]at e;cases e;obtain⟨rfl,rfl⟩:=c7 f;refine⟨.tuple #[L,.bool false],?_,.tuple (.cons (Dx (o.vD _ _ n) l ρ) (.cons (.bool _) .nil)),Z⟩;unfold Instr.typeAssert;rw[Sem.run_bind,p,Result.andThen_ok];split<;>first|(rename_i b;exact absurd b (c _))|(rename_i b _;exact absurd b (c _))|skip
      all_goals first|(rename_i b;cases b;rw[if_neg D];simp[H])|(rename_i b;cases b)|simp_all
     ·cases f
   ·cases J;split at f
    ·rename_i K e;rw[l]at e;cases e;obtain⟨rfl,rfl⟩:=c7 f;refine⟨.tuple #[L,.bool false],?_,.tuple (.cons (Dx (o.vD _ _ n) l ρ) (.cons (.bool _) .nil)),Z⟩;unfold Instr.typeAssert;rw[Sem.run_bind,p,Result.andThen_ok];split<;>first|(rename_i b;exact absurd b (c _))|(rename_i b _;exact absurd b (c _))|skip
     all_goals first|(simp[H];done)|(rename_i b;cases b)|simp_all
    ·cases f
   ·cases f
end
variable{m x:Option Addr}
section
variable{C:dU} {w0:World} {N0:Nat} {G:Nat->Prop} {ρ:Ren} {st dI:St} {w:World} {v:Value}
theorem dj.drewN(b:dj w0 N0 G ρ st w)(c:Nat):dj w0 N0 G ρ st {w with drawn:=c}:=b.Oj ⟨rfl,rfl,rfl,Nat.le_refl _,fun _ _=>rfl⟩
theorem Dy(N:dj w0 N0 G ρ st w)(f:cY ρ a i){es n:Nat}{xs:List Value}(c:po a=some n)(b:gX st es n a=some xs)(C:Program):
  ∃e,(Builtin.lenOf i).run C w=.ok n w/\(Builtin.firstCells es n i).run C w=.ok e w/\cU ρ xs e.toList:=by
 unfold po at c;split at c
 ·rename_i D H E;cases c;cases f with
  |kT=>simp[gX]at b;subst b;exact⟨#[],rfl,rfl,.nil⟩
  |iu D L=>
   refine⟨#[],Z,?_,?_⟩
   ·simp[Builtin.firstCells,loadCells,loadCellsFrom]
   ·obtain⟨F,P,l⟩:=D;cases l with
    |some R=>simp[gX]at b
    |none=>
     simp only[gX,Nat.zero_mul]at b;have:=eZ b;cases xs with
     |nil=>exact .nil
     |cons Q M=>simp at this
  |slice t p K=>
   simp only[gX]at b;obtain⟨o,O,J⟩:=N.read t b C;exact⟨o,Z,O,J⟩
 ·rename_i s;cases c;cases f;simp only[gX,Option.some.injEq]at b;subst b;refine⟨(s.extract 0 s.data.toList.length).data.map fun F=>.int .u8 F.toNat,?_,Z,?_⟩
  ·show Result.ok s.size w=_;rw[size_data]
  ·have:(s.extract 0 s.data.toList.length)=s:=by
    rw[<-size_data];exact ByteArray.extract_zero_size
   rw[this];simp only[ofBytes,List.take_length,Array.toList_map];generalize s.data.toList=I;induction I with
   |nil=>exact .nil
   |cons a I v=>exact .cons (.int _ _) v
 ·cases c
theorem uK(e:dj w0 N0 G ρ st w){es dS fo b o len n:Nat}{c:List Value}(f:st.get b=some (.cells c es dS fo)):dj w0 N0 G ρ (h6 st es dS fo b o len n c) w:=
 e.weaken nJ (fun _ _ l=>jk l) (Cv e.wf (e.wf.lt _ _ f))
theorem pr{es b o len f n:Nat}{xs:List Value}(s:¬len+n<=f)(c:fv st es (some ⟨b,o,none⟩) len f n xs=some (.val v dI)):
  ∃C l p e,st.get b=some (.cells C es l p)/\fY st b o (len*es)=some e/\v=.slice (some ⟨st.n,0,none⟩) (len+n) (len+n)/\dI=grown st es l p b o len n C e xs:=by
 unfold fv at c;have t:YV (len+n) f=false:=by
  cases D:YV (len+n) f with
  |false=>rfl
  |true=>exact absurd (YO D) s
 simp only[t]at c;split at c
 ·rename_i C G l p F;split at c
  ·rename_i e w E;have:=YN w;subst this;obtain⟨rfl,rfl⟩:=c7 c;exact⟨C,l,p,e,F,E,Z,Z⟩
  ·cases c
 ·cases c
theorem xk(L:dj w0 N0 G ρ st w){es len R E n:Nat}{xs:List Value}(aC:Program)(H:cY ρ (.slice m len R) (.slice x len E)) 
  (I:cU ρ xs g.toList) (au:xs.length=n*es) (ah:xs.all fs=true) (F:fv st es m len R n xs=some (.val v dI)) (T:len+n<=E) (ba:0<es):
  ∃av w',((match x with|some aA=>storeCells (aA.add (len*es)) g.toList|none=>pure ()):Sem Unit).run aC w=.ok () w'/\Kept w0 N0 G ρ dI v (.slice x (len+n) E) w' av:=by
 by_cases y:len+n<=R
 ·have aj:YV (len+n) R=true:=Nat.ble_eq_true_of_le y;unfold fv at F;simp only[aj]at F;cases H with
  |kT=>
   obtain⟨rfl,rfl⟩:=c7 F;have:n=0:=om;subst this;exact⟨ρ,w,Z,Ren.le_refl _,L,.kT⟩
  |iu aA aJ=>
   have Y:n=0:=om;subst Y;have ay:xs=[]:=by cases xs with|nil=>rfl|cons _ _=>simp at au
   subst ay;have P:g.toList=[]:=by cases al:g.toList with|nil=>rfl|cons _ _=>rw[al]at I;cases I
   obtain⟨u,o,aH⟩:=aA;cases aH with
   |some bk=>cases F
   |none=>obtain⟨rfl,rfl⟩:=c7 F;exact⟨ρ,w,by rw[P];rfl,Ren.le_refl _,L,.iu _ _⟩
  |@slice u o _ _ _ l t ae d=>
   cases xs with
   |nil=>
    obtain⟨rfl,rfl⟩:=c7 F;have P:g.toList=[]:=by cases al:g.toList with|nil=>rfl|cons _ _=>rw[al]at I;cases I
    exact⟨ρ,w,by rw[P];rfl,Ren.le_refl _,L,.slice t ae d⟩
   |cons bj bh=>
    simp only at F;split at F
    ·rename_i aW aL;obtain⟨rfl,rfl⟩:=c7 F;obtain⟨w',q,an,_⟩:=L.write t aL I aC;refine⟨ρ,w',?_,Ren.le_refl _,an,.slice t ae d⟩;simp only[j4,YU];exact q
    ·cases F
 ·cases H with
  |kT=>omega
  |iu aA aJ=>omega
  |@slice u o _ _ _ l t ae d=>
   obtain⟨ar,K,a,aT,f,q,rfl,rfl⟩:=pr y F;have ag:=uK (es:=es) (o:=o) (len:=len) (n:=n) L f;obtain⟨aO,M,ad,ak,Q,ax⟩:=L.obj _ _ _ t f;have ao:=ax.es;have bc:=ax.size;have aa:=I.length;simp only[YT]at aa;have aM:(len+n)*es<=E*es:=YS _ T;have aD:(len+n)*es=len*es+n*es:=YW _ _ _;rw[ao]at d;obtain⟨w',aw,H⟩:=r1 (P:=aC) g.toList w l.b (l.d+o+len*es) 0 aO M ad ak Q (by simp;omega) (fun be bg aI=>ax.H9 be (by simp at aI;omega)) (I.Ku ah);obtain⟨U,aq,aK,az⟩:=H.here;have af:=L.vt _ _ t;have aR:=L.Cu;have aB:=H.size;have aQ:=eZ q;obtain⟨bf,aV,f0,bi,r,aP,rfl⟩:=mX q;rw[f]at r;cases r;refine⟨ρ.add st.n ⟨l.b,l.d+o,es,l.sz⟩,w',?_,?_,?_,?_⟩
   ·simp only[j4];exact aw
   ·exact er L.gY
   ·have Y:(h6 st es K a u o len n ar).n=st.n:=nJ;have V:=ag.extend (dI:=grown st es K a u o len n ar ((ar.drop o).take (len*es)) xs) (w':=w') (o:=.cells ((ar.drop o).take (len*es)++xs) es K (a+o)) (l:=⟨l.b,l.d+o,es,l.sz⟩)
     (by rw[Y];rfl) (by intro k;rw[Y];exact jJ k) (vC L.wf f) ⟨H.os,H.tape,H.output,om,fun k I=>H.other k om⟩ (by simpa using af.2.1) (by simp;omega) ?_ ?_ ?_
    ·rw[Y]at V;exact V
    ·intro k i ab c C;by_cases s:i.b=l.b
     ·cases ab with
      |dead=>trivial
      |cells B aN ac A=>
       have b:=(jk C).resolve_left (by intro Q;cases Q);have h:ac=K/\l.d+A=i.d+a:=by
        by_cases e:k=u
        ·subst e;rw[f]at b;cases b;rw[t]at c;cases c;exact⟨Z,Z⟩
        ·have:=L.sep _ _ _ _ _ _ t c s.symm f b (fun Q=>e Q.symm);exact⟨this.1.symm,this.2⟩
       obtain⟨rfl,aG⟩:=h;have aX:=Dr L.wf f C;obtain⟨bb,aE,aY,aS,z,W⟩:=L.obj _ _ _ c b;rw[s,Q]at z;cases z;rw[s];refine⟨U,M,ad,ak,aq,W.es,by rw[aK];exact W.size,W.fits,fun ai v p=>?_,W.H9⟩;have aF:ai<B.length:=by
        rcases YZ ai B.length with N|N
        ·exact N
        ·rw[YP N]at p;cases p
       obtain⟨O,D,J⟩:=W.cell _ _ p;refine⟨O,?_,J⟩;rw[az,if_neg (by simp;omega)];exact D
      |_=>
       have b:=(jk C).resolve_left (by intro Q;cases Q);have e:u≠k:=by intro am;subst am;rw[f]at b;cases b
       exact(L.sep _ _ _ _ _ _ t c s.symm f b e).elim
     ·rw[H.other _ s];exact ag.obj _ _ _ c C
    ·have X:=er (l:=⟨l.b,l.d+o,es,l.sz⟩) ag.gY;refine⟨U,M,ad,ak,aq,Z,by simp;omega,?_,fun ai v p=>?_,ax.H9⟩
     ·simp;omega
     ·have j:((ar.drop o).take (len*es)).length=len*es:=by simp;omega
      show ∃O,U[l.d+o+ai]?=some O/\_;rw[az];by_cases ap:ai<len*es
      ·rw[YX om,List.getElem?_take,if_pos ap,List.getElem?_drop]at p;obtain⟨O,D,J⟩:=ax.cell _ _ p;refine⟨O,?_,J.mono X⟩;rw[if_neg om,<-D];congr 1;omega
      ·rw[List.getElem?_append_right om,j]at p;obtain⟨O,D,J⟩:=I.get p;have aU:ai-len*es<g.toList.length:=by
        rcases YZ (ai-len*es) g.toList.length with N|N
        ·exact N
        ·rw[YP N]at D;cases D
       refine⟨O,?_,J.mono X⟩;rw[if_pos om,<-D];congr 1;omega
    ·intro k i ab c C s;cases ab with
     |dead=>trivial
     |cells B aN ac A=>
      have b:=(jk C).resolve_left (by intro Q;cases Q);show ac=K/\i.d+(a+o)=l.d+o+A;by_cases e:k=u
      ·subst e;rw[f]at b;cases b;rw[t]at c;cases c;exact⟨Z,om⟩
      ·have:=L.sep _ _ _ _ _ _ t c s.symm f b (fun Q=>e Q.symm);exact⟨this.1.symm,by have:=this.2;omega⟩
     |_=>
      have b:=(jk C).resolve_left (by intro Q;cases Q);have e:u≠k:=by intro am;subst am;rw[f]at b;cases b
      exact(L.sep _ _ _ _ _ _ t c s.symm f b e).elim
   ·have S:cY (ρ.add st.n ⟨l.b,l.d+o,es,l.sz⟩) (.slice (some ⟨st.n,0,none⟩) (len+n) (len+n)) (.slice (some ⟨l.b,l.d+o+0,none⟩) (len+n) E):=
     .slice (l:=⟨l.b,l.d+o,es,l.sz⟩) (c6 _ _ _) T (by simp;omega)
    exact S
theorem Kz{c b:Nat}(f:¬c<=b):YV c b=false:=by
 cases e:YV c b with
 |false=>rfl
 |true=>exact absurd (YO e) f
theorem Dz(V:dj w0 N0 G ρ st w){es len P F n:Nat}{xs:List Value}(av:Program)(ad:cY ρ (.slice m len P) (.slice x len F)) 
  (ae:cU ρ xs g.toList) (aq:xs.length=n*es) (E:fv st es m len P n xs=some (.val v dI)) (ak:F<len+n) (s:TypeId):
  ∃e,(Builtin.firstCells es len (.slice x len F)).run av w=.ok e w/\∀(c:Array Value) (b:Nat),len+n<=b->c.size=(b-(len+n))*es->
   ∃L,Kept w0 N0 G ρ dI v (.slice (some ⟨w.heap.size,0,none⟩) (len+n) b) {w with heap:=w.heap.push (.cells (e++g++c) s)} L:=by
 have d:=ae.length;simp only[YT]at d;have J:∀(Tq:St) (aj al:Nat) (f:List Value) (e c:Array Value) (b:Nat) (C:St),dj w0 N0 G ρ Tq w->Tq.n=st.n->C.n=st.n+1->(∀S,C.get S=if S=st.n then some (.cells (f++xs) es aj al)else Tq.get S)->WF C->
   cU ρ f e.toList->f.length=len*es->len+n<=b->c.size=(b-(len+n))*es->
   ∃L,Kept w0 N0 G ρ C (.slice (some ⟨st.n,0,none⟩) (len+n) (len+n)) (.slice (some ⟨w.heap.size,0,none⟩) (len+n) b) {w with heap:=w.heap.push (.cells (e++g++c) s)} L:=by
  intro Tq aj al f e c b C H W au B a O X ac ar;have j:=O.length;simp only[YT]at j;have am:b*es=(len+n)*es+(b-(len+n))*es:=by rw[<-YW];congr 1;omega
  have ag:(len+n)*es=len*es+n*es:=YW _ _ _;have aa:(e++g++c).size=b*es:=by simp;omega
  have i:=V.Cu;have K:∀q,q<w.heap.size->(w.heap.push (.cells (e++g++c) s))[q]?=w.heap[q]?:=fun q H=>by rw[Array.getElem?_push,if_neg om]
  have R:=H.extend (dI:=C) (w':={w with heap:=w.heap.push (.cells (e++g++c) s)}) (o:=.cells (f++xs) es aj al) (l:=⟨w.heap.size,0,es,b*es⟩)
   om (by intro S;rw[W];exact B S) a ⟨rfl,rfl,rfl,by simp,fun q H=>K q om⟩ i sm
   (fun S Y an t D=>by rw[show({w with heap:=w.heap.push (.cells (e++g++c) s)}:World).heap[Y.b]?=w.heap[Y.b]? from K _ (H.vt _ _ t).2.2];exact H.obj _ _ _ t D)
   ?_ (fun S Y an t D ap=>by have:=(H.vt _ _ t).2.2;simp at ap;omega)
  ·rw[W]at R;refine⟨_,er V.gY,R,?_⟩;exact .slice (l:=⟨w.heap.size,0,es,b*es⟩) (c6 _ _ _) ac sm
  ·have h:=er (l:=⟨w.heap.size,0,es,b*es⟩) H.gY;refine⟨e++g++c,s,0,0,by simp,rfl,aa,?_,fun ah v A=>?_,fun ah _ T=>om⟩
   ·simp;omega
   ·obtain⟨y,M,z⟩:=(O.append ae).get A;refine⟨y,?_,z.mono h⟩;show(e++g++c)[0+ah]?=some y;rw[Nat.zero_add];have u:ah<(e.toList++g.toList).length:=by
     rcases YZ ah (e.toList++g.toList).length with T|T
     ·exact T
     ·rw[YP T]at M;cases M
    rw[<-YL];simp only[Array.toList_append];rw[YX u];exact M
 have p:¬len+n<=P:=by cases ad<;>omega
 cases ad with
 |kT=>
  unfold fv at E;have I:YV (0+n) 0=false:=Kz p;simp only[I]at E;obtain⟨rfl,rfl⟩:=c7 E;refine⟨#[],Z,fun c b t D=>?_⟩;have:=J st st.n 0 [] #[] c b (st.new (.cells xs es st.n 0)) V rfl rfl (fun S=>by simpa using dl st _ S) (V.wf.new rfl) .nil sm t D;simpa using this
 |iu aw ay=>
  obtain⟨az,o,ai⟩:=aw;cases ai with
  |some aC=>
   unfold fv at E;have I:YV (0+n) 0=false:=Kz p;simp only[I]at E;cases E
  |none=>
   obtain⟨aA,Q,k,f,N,U,rfl,rfl⟩:=pr p E;have X:=eZ U;have r:f=[]:=by cases f with|nil=>rfl|cons _ _=>simp at X
   subst r;refine⟨#[],by simp[Builtin.firstCells,loadCells,loadCellsFrom],fun c b t D=>?_⟩;exact J _ Q (k+o) [] #[] c b _ (uK V N) nJ Z jJ (vC V.wf N) .nil sm t D
 |@slice az o _ _ _ l ao aB ax=>
  obtain⟨aA,Q,k,f,N,U,rfl,rfl⟩:=pr p E;obtain⟨e,ab,af⟩:=V.read ao U av;refine⟨e,ab,fun c b t D=>?_⟩;exact J _ Q (k+o) f e c b _ (uK V N) nJ Z jJ (vC V.wf N) af (eZ U) t D
theorem LR(b:Nat):∀(c e:Nat),e<2*b+192->Builtin.growBy b c e<2*b+193:=by
 intro c;induction c with
 |zero=>intro e l;simp[Builtin.growBy];omega
 |succ c f=>
  intro e l;simp only[Builtin.growBy];split
  ·omega
  ·exact f _ om
theorem Ip{b c:Nat}(e:c<b):Builtin.nextslicecap b c<=2*b+192:=by
 unfold Builtin.nextslicecap;split
 ·omega
 ·split
  ·omega
  ·have:=LR b 4 c om;omega
theorem Iq(t:l6 C)(au:dj w0 N0 G ρ st w){ty:TypeId}(l:cU ρ r g.toList)(f:mV C h.toList r st=some (.val v dI)):
  pq w0 N0 G ρ dI v ((Builtin.append_ h ty g).run C.P w):=by
 obtain⟨h⟩:=h;obtain⟨g⟩:=g;unfold mV at f;split at f
 ·rename_i j u s aY a;simp only at a l;subst a;cases l with
  |@cons _ aJ _ _ q l=>
  cases l with
  |@cons _ A _ _ i l=>
  cases l;split at f
  ·rename_i aU aO aH b aQ Y T;split at f
   ·rename_i n ap;split at f
    ·rename_i E D;split at f
     ·cases f
     ·rename_i p;split at f
      ·cases f
      ·rename_i F aa;split at f
       ·cases f
       ·rename_i aT N;split at f
        ·rename_i J;simp only[Bool.and_eq_true]at J;obtain⟨⟨⟨⟨⟨aC,ax⟩,aD⟩,aI⟩,aM⟩,aF⟩:=J;have an:=YR.mp aC;have U:=YN ax;have W:=YO aI;have S:=YO aM;have ae:=YN aF;unfold eF at W S;have ag:∃e c,aJ=.slice e b c:=by cases q<;>exact⟨_,_,rfl⟩
         obtain⟨e,c,rfl⟩:=ag;have am:(⟨[j,u]⟩:Array TypeId)[0]?=some j:=rfl;have al:(⟨[j,u]⟩:Array TypeId)[1]?=some u:=rfl;have ac:(⟨[.slice e b c,A]⟩:Array Value)[0]?=some (.slice e b c):=rfl;have aj:(⟨[.slice e b c,A]⟩:Array Value)[1]?=some A:=rfl;by_cases H:b+F<=c
         ·obtain⟨ar,x,m,B⟩:=Dy au i aa N C.P;obtain⟨M,aK,K,I⟩:=xk au C.P q B U aD f H an;refine⟨M,.slice e (b+F) c,aK,?_,I⟩;simp only[Builtin.append_,am,al,ac,aj];rw[b5 _ (dT t Y w)];simp only[ap];rw[b5 _ (e1 t D w),b5 _ (dT t T w)];split
          ·rename_i ab az;exact absurd az (p ab)
          ·rw[b5 _ (Sem.run_pure (P:=C.P) (w:=w) false)];simp only[YM,if_false];rw[b5 _ x];simp only[if_pos H,YY,if_true];rw[b5 _ m];cases e with
           |none=>simp only[Sem.run_pure]at K⊢;cases K;rfl
           |some aX=>simp only at K⊢;rw[b5 _ K,Sem.run_pure]
         ·have V:c<b+F:=om;have aL:(Question.appendCap (b+F) c n).forced=false:=rfl;obtain⟨aE,L,ad⟩:=Cw t D w;have y:(typeInfo n).run C.P {w with drawn:=w.drawn+1}=.ok aE {w with drawn:=w.drawn+1}:=by
           obtain⟨aG,aW,O,_⟩:=t.Rr _ _ D;have ai:(typeInfo n).run C.P w=.ok aG w:=by simp[typeInfo,O]
           rw[L]at ai;cases ai;simp[typeInfo,O]
          have aq:=au.drewN (w.drawn+1);obtain⟨ar,aR,m,B⟩:=Dy aq i aa N C.P;obtain⟨av,x,_,_⟩:=Dy au i aa N C.P;obtain⟨aN,ay,aB⟩:=Dz aq C.P q B U f V n;obtain⟨aP,aw,af⟩:=kW t D {w with drawn:=w.drawn+1};have ah:aP.cells.size=E.size:=by rw[<-ae,<-af.cells];simp
          generalize X:(Question.appendCap (b+F) c n).cut (w.tape w.drawn (Question.appendCap (b+F) c n))=o;have R:b+F<=o:=by rw[<-X];exact Nat.le_add_right _ _
          obtain⟨M,I⟩:=aB (Builtin.zeroCells aP.cells (o-(b+F))) o R (by simp[Builtin.zeroCells,ah]);refine⟨M,_,_,?_,I⟩;have d:¬(((b+F:Nat):Int)>IntKind.i64.max/\(false=true∨aE.bytes=0)):=by
           rintro⟨O,_⟩;simp[IntKind.max,IntKind.signed,IntKind.bits]at O;omega
          have ak:¬(Builtin.nextslicecap (b+F) c*aE.bytes>2^48):=by
           have aA:=Ip V;rw[ad];have k:1<=b+F:=om;have aS:E.bytes<=1099511627776:=Nat.le_trans (by have:=YS E.bytes k;omega) W;have O:Builtin.nextslicecap (b+F) c*E.bytes<=(2*(b+F)+192)*E.bytes:=YS _ aA;have aV:(2*(b+F)+192)*E.bytes=2*((b+F)*E.bytes)+192*E.bytes:=by rw[YW,Nat.mul_assoc]
           omega
          have Q:∀(ab:Nat) (z:World),(askRoom ab).run C.P z=.ok () z:=by
           intro ab z;unfold askRoom;split
           ·rfl
           ·rfl
          have ao:(choose (Question.appendCap (b+F) c n)).run C.P w=.ok o {w with drawn:=w.drawn+1}:=by
           simp only[choose,Sem.run,aL,YM,if_false,X]
          simp only[Builtin.append_,am,al,ac,aj];rw[b5 _ (dT t Y w)];simp only[ap];rw[b5 _ (e1 t D w),b5 _ (dT t T w)];split
          ·rename_i ab az;exact absurd az (p ab)
          ·rw[b5 _ (Sem.run_pure (P:=C.P) (w:=w) false)];simp only[YM,if_false];rw[b5 _ x];simp only[if_neg H,YY,if_true];rw[b5 _ L];simp only[YM]at d;simp only[if_neg d];rw[b5 _ L];simp only[if_neg ak];rw[b5 _ ao,b5 _ y,b5 _ (Q _ _),b5 _ ay,b5 _ m,b5 _ aw,b5 _ (gg _ _),Sem.run_pure]
        ·cases f
    ·cases f
   ·cases f
  ·cases f
 ·cases f
end
end Go.AM
