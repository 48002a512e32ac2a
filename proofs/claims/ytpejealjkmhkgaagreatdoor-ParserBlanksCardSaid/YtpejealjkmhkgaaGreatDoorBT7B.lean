/- Proved: ParserBlanks returns true at every string and every slice of bytes, and leaves its arguments as they were (the tied card). The condition is the row's own. The parts: contracts for every function that the law reaches, over a machine that is proved sound for the model (Am, Vm texts); 'awake' is run by the kernel. -/
import Derived.Test.YtpejealjkmhkgaaGreatDoorBAh
import Derived.Test.YtpejealjkmhkgaaGreatDoorBAi
import Derived.Test.YtpejealjkmhkgaaGreatDoorBAo
import Derived.Test.YtpejealjkmhkgaaGreatDoorBAp
import Derived.ChangeSlices
import Derived.ReadAgain
import Derived.Lib.AtoiErrMem
import Derived.Test.YtpejealjkmhkgaaGreatDoorTie
import Derived.Test.YtpejealjkmhkgaaGreatDoorCards
import Derived.WalkKit
import Derived.ProofKit
import Derived.OpenShut
import Derived.LaidMore
import Derived.Lay
import Derived.SevenTiedAt
import Derived.Stop.Joined
set_option linter.all false
set_option maxHeartbeats 16000000
set_option maxRecDepth 100000
open Nat renaming eq_of_beq_eq_true->agj
open List renaming mem_singleton->agk
namespace Go.Proofs.YtpejealjkmhkgaaGreatDoor
open Go.AM
open Go.RowKit (Below)
theorem Nv{d:Option (CR×dW×St)}(b:isTrue d=true):∃a c,d=some (.ret (.bool true),a,c):=by
 unfold isTrue at b;split at b
 ·exact⟨_,_,Z⟩
 ·cases b
theorem mixed:C.P.follows .mixedOrders=true:=by kernel_rfl
theorem Rr{f:Ren}{j b c:Value}(g:flat j=true)(k:flat b=true)(l:flat c=true){a:Array Value}(m:cT f [j,b,c] a.toList):a= #[j,b,c]:=by
 obtain⟨n,o,rfl,i,d⟩:=vs1 m;cases d with
 |cons d e=>
  cases e with
  |cons e h=>
   cases h;rw[rK g i,rK k d,rK l e]
theorem aap{a:World}{b:Nat}:E6 C a b:=afg Vb Vd Vc ael rfl
theorem Vf{f:World}(i:xF f):CF C f f.heap.size ca:=by
 intro u e t c;unfold ca at c;split at c
 ·split at c
  ·exact JD i u e t c
  ·rename_i b;have b:=agj b;subst b;split at c
   ·rename_i s;split at c
    ·rename_i k;split at c
     ·rename_i x n;cases c;refine .inl ⟨Z,fun l d q a h p=>?_⟩;have g:=Rr rfl rfl rfl a;subst g;have o:s.size<=9223372036854775806:=by
       have:Nat.ble (s.data.toList.length+1) 281474976710656=true:=k;rw[Nat.ble_eq]at this;have y:=Lib.size_eq s;omega
      refine(Any.strconv_ParseUint_10_at64_ok EE s o x n q).mono ?_;rintro y r ⟨rfl,j⟩;refine⟨Z,?_⟩;rcases j with rfl|rfl
      ·exact .refl _ _
      ·exact Lib.bytesWorld_below _ _ _
     ·cases c
    ·cases c
   ·cases c
 ·rename_i b;have b:=agj b;subst b;split at c
  ·cases c;refine .inl ⟨Z,fun l d q a h p=>?_⟩;have g:=cS a;subst g;obtain⟨v,w,m⟩:=Nv P4;exact Jd aap tok fok Tf mixed Te (JD (i.below h)) m Z Z
  ·cases c
theorem afC(n:ByteArray)(p:List UInt8)(b:Go.VM.D)(f:Value)(c:List Value)(e:World)(m:xF e)(i:KO p b){d:Ren}(j:di e e.heap.size (fun _=>False) d (rA c) e)(g:Go.VM.xw ⟨fun k=>(rA c).get k,fun k=>k=0,fun _=>False⟩ b)(o:cX d (Go.VM.cz b) f):
  Calls Tryz.prog 6 #[.string n,f] e fun u h=>u=.returned (.bool true)/\Below e.heap.size e h:=by
 obtain⟨x,v,q,t,r,s,l,rfl⟩:=Go.VM.b4.af5 c (args:=[.str n.data.toList,b]) (Rq n.data.toList i) (fun w a=>by
  rcases List.mem_cons.1 a with rfl|a
  ·exact .str _
  ·obtain rfl:=agk.1 a;exact g)
 exact OP aap tok fok Tf mixed Te (Vf m) j l (.cons (uo Z _) (.cons o .nil)) Z
section
variable{H:Type} {enc:TypeId×Value->H}
theorem KZ{K:Assume}{D:Checked}{p:Os}{f:FuncId}{fn:Func}{v:ChangeSpec}{k:List PathCond}{apart j d i:Bool}{X:World->Array Value->Prop} 
  (N:∀(e w':World) (a:Array Value),e.heap=w'.heap->X e a->X w' a)
  (own:ownKnob D.prog.godebug=none) (l:p.Started) (n:D.prog.inits.idxOf? f=none) (B:D.prog.funcs[f]?=some fn)
  (m:∃(e:World) (b:Tape) (g:Input),e.os=p/\(e.forCall b g).Shaped D.prog/\g.vars=[]/\Input.okWide D.prog (e.forCall b g) .any e.heap.size f g/\
   ((v.pre enc D.prog fn k apart (e.forCall b g).memory g.args/\X (e.forCall b g).memory g.args)/\sizedMet enc D.prog fn (OpenSpec.ofChange v) apart (e.forCall b g).memory g.args)/\K.holds D.prog (lone (Frame.enter D.prog f g.args .normal) [] (e.forCall b g)))
  (h:∀(y:World) (o:Nat) (a:Array Value) (s q:List (DataW H)) (c:List MemPlace),
   (∀(L:Nat) M w,fn.params[L]?=some M->a[L]?=some w->Value.okWide D.prog y .any o M w)->
   DataW.Whole enc D.prog fn.params.toList v.vars apart y a.toList s q c->y.ShapedOpen D.prog->
   Calls D.prog f a y fun F E=>∃w,F=.returned w/\v.post enc D.prog fn apart j d i y a w E):
  ReturnsInHanded K D p f .any (fun e a=>(v.pre enc D.prog fn k apart e a/\X e a)/\sizedMet enc D.prog fn (OpenSpec.ofChange v) apart e a) (v.post enc D.prog fn apart j d i):=by
 refine returnsInHanded_of_calls own l n m ?_;intro e b g _ A _ z u _;obtain⟨_,_,_,C,t,_,_,_,_,r⟩:=z;have F:C=fn:=Option.some.inj (t.symm.trans B);subst F;obtain⟨⟨⟨s,q,c,G,_⟩,_⟩,_⟩:=u;have x:=DataW.Whole.of_heap (w':=e.forCall b g) (by rfl) G;refine(h (e.forCall b g) e.heap.size g.args s q c r x A).mono fun F E ⟨w,J,I⟩=>?_;subst J;exact ChangeSpec.post_blind I
end
theorem agf{j:World}{e:Addr}{i:Value}(c:j.cell? e=some i):∃d h a,j.heap[e.block]?=some (Obj.cells d h a)/\d[e.off]?=some i:=by
 have g:=World.cell?_spot c;obtain⟨k,l,b⟩:=e;obtain rfl:b=none:=g;unfold World.cell? at c;dsimp only at c⊢;split at c
 ·rename_i d h a f;simp only[Option.isSome_none,Bool.false_eq_true,if_false]at c;exact⟨d,h,a,f,c⟩
 ·cases c
theorem agh(l:List UInt8):(l.map fun b=>[Go.VM.uy b]).flatten=l.map Go.VM.uy:=by
 induction l with
 |nil=>rfl
 |cons c l a=>simp[a]
theorem walk{H:Type}{enc:TypeId×Value->H}(s:ByteArray)(G:Value)(u:World)(r:xF u){D:Nat}(F:Value.okWide Tryz.prog u .any D 57 G){d1:DataW H}{Y:List MemPlace}(S:DataW.Trod enc Tryz.prog u 0 (fun _=>true) true 57 G d1 Y):
  Calls Tryz.prog 6 #[.string s,G] u fun z P=>z=.returned (.bool true)/\Below u.heap.size u P:=by
 obtain⟨an,o,a,rfl⟩:=Go.WideShapes.okWide_slice Tryz.underlying57 F;obtain⟨ae,X⟩:=S;have x:∃(aa:Nat) (b:Array Value) (z:TypeId) (i:Nat×Nat),u.heap[aa]?=some (Obj.cells b z i):=by
  obtain⟨_,ap,r⟩:=r;obtain⟨b,z,i,t,_⟩:=agf r;exact⟨_,b,z,i,t⟩
 rcases Go.ChangeShapes.open_ints Tryz.underlying57 Tryz.underlying5 (by kernel_rfl) X with⟨h,ad⟩|⟨ah,T,R,q,h,_,am,ag,J,ad,e,K⟩
 ·simp[Value.cells]at h;obtain⟨rfl,rfl,rfl⟩:=h;obtain⟨aa,b,z,i,d⟩:=x;exact afC s [] .ci _ [] u r .nil (KS (d:=0) d sm (fun y ai t=>by simp at t)) .ci .me
 ·simp[Value.cells]at h;obtain⟨rfl,rfl,rfl⟩:=h;simp only[if_true]at J;cases a with
  |zero=>
   obtain rfl:o=0:=om;obtain⟨aa,b,z,i,d⟩:=x;exact afC s [] (.ps 0 0 1 0 []) _ [] u r .ps (KS (d:=0) d sm (fun y ai t=>by simp at t)) (.ps (c:=[]) (f:=0) (p:=0) Z sm sm Z sm Z) (.jp _ _)
  |succ a=>
   obtain⟨b,z,i,d,_⟩:=agf (e 0 om);have g:ah.spot=none:=by have:=World.cell?_spot (e 0 om);simpa [Addr.add]using this
   obtain⟨I,v,E⟩:=ah;have g:E=none:=g;subst g;have d:u.heap[I]?=some (Obj.cells b z i):=d;have C:∀y,y<a+1->b[v+y]?=some (.int .u8 (q.getD y 0)):=fun y ac=>by
    have L:=e y om;rw[Addr.add_lit]at L;obtain⟨W,U,M,n,Q⟩:=agf L;have n:u.heap[I]?=some (Obj.cells W U M):=n;rw[d]at n;cases n;exact Q
   have aj:v+(a+1)<=b.size:=by
    have:=(Array.getElem?_eq_some_iff.1 (C a om)).1;omega
   obtain⟨j,B⟩:∃j:List UInt8,j=(q.take o).map fun al=>UInt8.ofNat al.toNat:=⟨_,rfl⟩;have w:j.length=o:=by rw[B];simp;omega
   have A:∀k∈q,Go.VM.uy (UInt8.ofNat k.toNat)=Go.VM.D.int .u8 k:=fun k t=>by
    have d:=Go.bounds_u8 (K k t);show Go.VM.D.int .u8 (Int.ofNat (UInt8.ofNat k.toNat).toNat)=_;rw[UInt8.toNat_ofNat'];congr 1;simp only[Int.ofNat_eq_natCast];omega
   refine afC s j (.ps 0 0 1 (a+1) (j.map fun c=>[Go.VM.uy c])) _ (q.map fun k=>.int .u8 k) u r .ps (KS (d:=v) d (by simp;omega) (fun y ai t=>?_)) (.ps (c:=q.map fun k=>.int .u8 k) (f:=0) (p:=0) Z sm (by simp;omega) ?_ (fun z af V N=>by obtain⟨c,_,rfl⟩:=List.mem_map.1 af;obtain rfl:=agk.1 N;exact .int _ _) Z) ?_
   ·rw[List.getElem?_map]at t;cases m:q[y]? with
    |none=>rw[m]at t;cases t
    |some k=>
     rw[m]at t;obtain⟨ac,ak⟩:=List.getElem?_eq_some_iff.1 m;cases t;refine⟨?_,Z⟩;rw[C y om,List.getD_eq_getElem?_getD,m];rfl
   ·rw[List.drop_zero,List.length_map,Nat.mul_one,w,<-List.map_take,agh,B,List.map_map,List.map_map];refine List.map_congr_left fun k J=>?_;show Value.int .u8 k=Go.VM.cz (Go.VM.uy (UInt8.ofNat k.toNat));rw[A k (List.mem_of_mem_take J)];rfl
   ·have O:Go.VM.cz (.ps 0 0 1 (a+1) (j.map fun c=>[Go.VM.uy c]))=.slice (some ⟨0,0,none⟩) o (a+1):=by
     show Value.slice _ (j.map fun c=>[Go.VM.uy c]).length _=_;rw[List.length_map,w]
    rw[O];exact .slice (l:=⟨I,v,1,b.size,false⟩) Z (Nat.le_refl _) (by show v+0+(a+1)*1<=b.size;omega)
namespace parserBlanks
open Go.ChangeShapes Go.WideShapes Go.ChangeAt Go.RowKit
theorem own:ownKnob Tryz.prog.godebug=none:=by kernel_rfl
noncomputable def laid:List (String×DataW Unit):=Rows.parserBlanksRow.laid
theorem kids:Kids Tryz.prog (· <Tryz.prog.types.size):=kids_rows (by kernel_rfl) (by kernel_rfl)
theorem full:∀b a,b<Tryz.prog.types.size->Tryz.prog.underlying b=some (.slice a)->0<Tryz.prog.cellsOf a:=slices_full_of Tryz.prog (by kernel_rfl)
theorem agi:57<Tryz.prog.types.size:=of_decide_eq_true (by kernel_rfl)
theorem Rs{b:World}(d:b.ShapedOpen Tryz.prog):xF b:=by
 obtain⟨e,a⟩:=wN.s1_3 b d;refine⟨?_,e,a⟩;cases c:b.heap.size with
 |zero=>
  have:b.heap= #[]:=Array.size_eq_zero_iff.1 c;exact absurd a (by unfold World.cell?;simp[this])
 |succ f=>omega
theorem lifted(os:Os)(c:os.Started)(H:Type)(enc:TypeId×Value->H):
  ReturnsInHanded {} Tryz.checked os 6 .any (fun j args=>(Rows.parserBlanksSpec.pre enc Tryz.prog Tryz.f6 [] false j args/\laidMetH Tryz.prog laid j)/\sizedMet enc Tryz.prog Tryz.f6 (OpenSpec.ofChange Rows.parserBlanksSpec) false j args)
   (Rows.parserBlanksSpec.post enc Tryz.prog Tryz.f6 false true false false):=by
 refine KZ (D:=Tryz.checked) (X:=fun j _=>laidMetH Tryz.prog laid j) (fun _ _ _ A B=>B.of_heap A) own c (by kernel_rfl) Tryz.func6
  (ChangeSpec.witness_shaped (enc:=enc) (C:=Tryz.checked) (os:=os) (X:=fun j _=>laidMetH Tryz.prog laid j) false (World.laidAll Tryz.prog os laid) #[.string ⟨#[]⟩,.slice none 0 0] 8 (World.laidAll_os _ _ _)
   (World.shaped_of_ZipB (by kernel_rfl) (by kernel_rfl)) (by kernel_rfl) (by kernel_rfl) (by kernel_rfl)
   (by rw[MakeChecks.laidMetH_plain _ _ _ (by kernel_rfl)];exact laidMet_laidAll _ (by kernel_rfl) (by kernel_rfl))) ?_
 intro w f args x O p b l u;have a:∀(K:Nat) M J,Tryz.f6.params[K]?=some M->args[K]?=some J->Value.okWide Tryz.prog w .any f M J:=b;have e:=l;obtain⟨n,R,d,G,rfl,N,L⟩:=l;have o:DataW.TrodAll enc Tryz.prog w 0 (fun _=>true) true Tryz.f6.params.toList args.toList x n:=d;rw[Tryz.params6]at o a;obtain⟨F,g,d0,d1,P,q,rfl,rfl,rfl,v,m⟩:=trodAll_two o;obtain⟨rfl,rfl⟩:=trodVars_none G;obtain⟨s,rfl,rfl,rfl,y⟩:=Go.ChangeMaps.open_string Tryz.underlying9 (a 0 9 F rfl rfl) v;clear d b;refine(walk s g w (Rs u) (a 1 57 g Z Z) m).mono fun Q I ⟨E,k⟩=>?_;subst E;have i:Rows.parserBlanksSpec.fn H ([.lit (.string s.data.toList),d1]++[])={results:=[.lit (.bool true)],args:=[.lit (.string s.data.toList),d1]}:=by simp[Rows.parserBlanksSpec]
 have r:DataW.Trod enc Tryz.prog I 0 (fun _=>true) true 57 g d1 q:=by
  obtain⟨z,t⟩:=m;exact⟨z,DataW.trod_carry z _ _ _ t (fun n h=>k.same (DataW.trod_lt z _ _ _ t n h))⟩
 refine⟨_,Z,_,_,_,[],q,[],e,?_,?_,?_,k.frame _,fun B=>by cases B⟩
 ·rw[i];exact trodAll_mk1 (shut_bool Tryz.underlying4 true)
 ·rw[i];refine trodAll_cons_mk (Go.ChangeMaps.shut_string Tryz.underlying9 y) (trodAll_mk1 ?_);exact DataW.Trod.respare kids full agi r (fun n h=>by simpa using e.lt n (by simp[h]))
 ·rw[i];rfl
theorem q1:(Rows.parserBlanksRow.inPlace==Tryz.prog.inPlace 6)=true:=by kernel_rfl
theorem q2:(Rows.parserBlanksRow.unfollowed==Tryz.prog.unfollowed 6)=true:=by kernel_rfl
theorem q3:(Rows.parserBlanksRow.recurses==Tryz.prog.recurses 6)=true:=by kernel_rfl
theorem q4:(Rows.parserBlanksRow.named==Tryz.prog.varsNamed 6)=true:=by kernel_rfl
theorem closed:joinedFacts Tryz.prog 6 Tryz.f6 Rows.parserBlanksSpec Rows.parserBlanksRow=true:=by
 unfold joinedFacts;rw[q1,q2,q3,q4]
 kernel_rfl
theorem over:Rows.ParserBlanksSaid:=
 OpenClaim.holds_of_wide 6 Tryz.f6 rfl rfl rfl rfl rfl rfl rfl ⟨rfl,rfl,rfl,rfl,rfl⟩ rfl rfl rfl rfl rfl (by kernel_rfl) Tryz.func6 closed
  (of_decide_eq_true (by kernel_rfl)) (by unfold Func.isWrapper;first|(rw[if_pos (by decide+kernel)];kernel_rfl)|(rw[if_neg (by decide+kernel)];exact⟨rfl,rfl⟩))
  (fun b a H enc _=>lifted b a H enc)
end parserBlanks
theorem parserBlanks_holds:Rows.ParserBlanksCardSaid:=
 Claim7.holds_tied_plain_at .later [] [.data,.data,.data,.data,.sentinel,.sentinel,.pinned] true (true, "a679378e0f47ce08780b36d44421d505cb42da38c6aa7107c5796f77ea77d0f6") true
  parserBlanks.over (fun _ f=>by cases f) (by kernel_rfl) (fun _ f=>by cases f) parserBlanks_row_tie rfl ⟨rfl,rfl⟩ (by kernel_rfl) rfl
  (fun h fn e b=>by
   obtain rfl:h=6:=Option.some.inj ((show Tryz.prog.funcNamed "modcert/modcertlaw05.ParserBlanks" =some 6 by kernel_rfl).symm.trans e)|>.symm;obtain rfl:fn=Tryz.f6:=(Option.some.inj (Tryz.func6.symm.trans b)).symm;exact⟨by kernel_rfl,fun j g c=>by
    rw[Tryz.params6]at c;have d:g∈ [9,57]:=by simpa using Array.mem_of_getElem? c
    have a:([9,57].all fun i=> !Tryz.prog.wantsStandIn i)=true:=by kernel_rfl
    exact(show Tryz.prog.wantsStandIn g=false by simpa using List.all_eq_true.1 a g d)⟩)
  (by kernel_rfl)
#print axioms parserBlanks_holds
end Go.Proofs.YtpejealjkmhkgaaGreatDoor
