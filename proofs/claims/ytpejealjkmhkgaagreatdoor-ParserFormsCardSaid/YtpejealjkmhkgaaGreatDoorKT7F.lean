/- Proved: ParserForms returns true at every string, and leaves its argument as it was (the tied card). The condition is the row's own. The parts: contracts for every function that the law reaches, over a machine that is proved sound for the model (Am, Vm texts); 'awake' is run by the kernel. -/
import Derived.Test.YtpejealjkmhkgaaGreatDoorKAv
import Derived.Test.YtpejealjkmhkgaaGreatDoorKAw
import Derived.Test.YtpejealjkmhkgaaGreatDoorKBs
import Derived.Lib.AtoiErrMem
import Derived.Test.YtpejealjkmhkgaaGreatDoorTie
import Derived.Test.YtpejealjkmhkgaaGreatDoorCards
import Derived.WalkKit
import Derived.ProofKit
import Derived.OpenShut
import Derived.LaidMore
import Derived.Lay
import Derived.SevenTiedAt
import Derived.Stop.Joined
set_option linter.all false
set_option maxHeartbeats 16000000
set_option maxRecDepth 100000
open Nat renaming eq_of_beq_eq_true->abK
namespace Go.Proofs.YtpejealjkmhkgaaGreatDoor
open Go.AM
open Go.RowKit (Below)
theorem Nv{d:Option (CR×dW×St)}(b:isTrue d=true):∃a c,d=some (.ret (.bool true),a,c):=by
 unfold isTrue at b;split at b
 ·exact⟨_,_,Z⟩
 ·cases b
theorem mixed:C.P.follows .mixedOrders=true:=by kernel_rfl
theorem Rr{f:Ren}{j b c:Value}(g:flat j=true)(k:flat b=true)(l:flat c=true){a:Array Value}(m:cT f [j,b,c] a.toList):a= #[j,b,c]:=by
 obtain⟨n,o,rfl,i,d⟩:=vs1 m;cases d with
 |cons d e=>
  cases e with
  |cons e h=>
   cases h;rw[rK g i,rK k d,rK l e]
theorem Vf{f:World}(i:xF f):CF C f f.heap.size ca:=by
 intro u e t c;unfold ca at c;split at c
 ·split at c
  ·exact JD i u e t c
  ·rename_i b;have b:=abK b;subst b;split at c
   ·rename_i s;split at c
    ·rename_i k;split at c
     ·rename_i x n;cases c;refine .inl ⟨Z,fun l d q a h p=>?_⟩;have g:=Rr rfl rfl rfl a;subst g;have o:s.size<=9223372036854775806:=by
       have:Nat.ble (s.data.toList.length+1) 281474976710656=true:=k;rw[Nat.ble_eq]at this;have y:=Lib.size_eq s;omega
      refine(Any.strconv_ParseUint_10_at64_ok EE s o x n q).mono ?_;rintro y r ⟨rfl,j⟩;refine⟨Z,?_⟩;rcases j with rfl|rfl
      ·exact .refl _ _
      ·exact Lib.bytesWorld_below _ _ _
     ·cases c
    ·cases c
   ·cases c
 ·rename_i b;have b:=abK b;subst b;split at c
  ·cases c;refine .inl ⟨Z,fun l d q a h p=>?_⟩;have g:=cS a;subst g;obtain⟨v,w,m⟩:=Nv P4;exact Jd tok fok Tf mixed Te (JD (i.below h)) m Z Z
  ·cases c
theorem walk(s:ByteArray)(a:World)(b:xF a):
  Calls Tryz.prog 4 #[.string s] a fun i d=>i=.returned (.bool true)/\Below a.heap.size a d:=by
 obtain⟨m,n,g,k,h,j,e,rfl⟩:=Go.VM.bV.run (args:=[.str s.data.toList]) (Rq s.data.toList) (fun f l c=>by
  obtain rfl:=List.mem_singleton.1 c;exact .str _)
 exact Jd tok fok Tf mixed Te (Vf b) e Z Z
section
variable{H:Type} {enc:TypeId×Value->H}
theorem KZ{K:Assume}{D:Checked}{p:Os}{f:FuncId}{fn:Func}{s:ChangeSpec}{k:List PathCond}{apart j d i:Bool}{X:World->Array Value->Prop} 
  (N:∀(e w':World) (a:Array Value),e.heap=w'.heap->X e a->X w' a)
  (own:ownKnob D.prog.godebug=none) (l:p.Started) (n:D.prog.inits.idxOf? f=none) (B:D.prog.funcs[f]?=some fn)
  (m:∃(e:World) (b:Tape) (g:Input),e.os=p/\(e.forCall b g).Shaped D.prog/\g.vars=[]/\Input.okWide D.prog (e.forCall b g) .any e.heap.size f g/\
   ((s.pre enc D.prog fn k apart (e.forCall b g).memory g.args/\X (e.forCall b g).memory g.args)/\sizedMet enc D.prog fn (OpenSpec.ofChange s) apart (e.forCall b g).memory g.args)/\K.holds D.prog (lone (Frame.enter D.prog f g.args .normal) [] (e.forCall b g)))
  (h:∀(y:World) (o:Nat) (a:Array Value) (t q:List (DataW H)) (c:List MemPlace),
   (∀(L:Nat) M w,fn.params[L]?=some M->a[L]?=some w->Value.okWide D.prog y .any o M w)->
   DataW.Whole enc D.prog fn.params.toList s.vars apart y a.toList t q c->y.ShapedOpen D.prog->
   Calls D.prog f a y fun F E=>∃w,F=.returned w/\s.post enc D.prog fn apart j d i y a w E):
  ReturnsInHanded K D p f .any (fun e a=>(s.pre enc D.prog fn k apart e a/\X e a)/\sizedMet enc D.prog fn (OpenSpec.ofChange s) apart e a) (s.post enc D.prog fn apart j d i):=by
 refine returnsInHanded_of_calls own l n m ?_;intro e b g _ A _ z v _;obtain⟨_,_,_,C,u,_,_,_,_,r⟩:=z;have F:C=fn:=Option.some.inj (u.symm.trans B);subst F;obtain⟨⟨⟨t,q,c,G,_⟩,_⟩,_⟩:=v;have x:=DataW.Whole.of_heap (w':=e.forCall b g) (by rfl) G;refine(h (e.forCall b g) e.heap.size g.args t q c r x A).mono fun F E ⟨w,J,I⟩=>?_;subst J;exact ChangeSpec.post_blind I
end
namespace parserForms
open Go.ChangeShapes Go.WideShapes Go.ChangeAt Go.RowKit
theorem own:ownKnob Tryz.prog.godebug=none:=by kernel_rfl
noncomputable def laid:List (String×DataW Unit):=Rows.parserFormsRow.laid
theorem Rs{b:World}(d:b.ShapedOpen Tryz.prog):xF b:=by
 obtain⟨e,a⟩:=wN.s1_3 b d;refine⟨?_,e,a⟩;cases c:b.heap.size with
 |zero=>
  have:b.heap= #[]:=Array.size_eq_zero_iff.1 c;exact absurd a (by unfold World.cell?;simp[this])
 |succ f=>omega
theorem lifted(os:Os)(b:os.Started)(H:Type)(enc:TypeId×Value->H):
  ReturnsInHanded {} Tryz.checked os 4 .any (fun h args=>(Rows.parserFormsSpec.pre enc Tryz.prog Tryz.f4 [] false h args/\laidMetH Tryz.prog laid h)/\sizedMet enc Tryz.prog Tryz.f4 (OpenSpec.ofChange Rows.parserFormsSpec) false h args)
   (Rows.parserFormsSpec.post enc Tryz.prog Tryz.f4 false true false false):=by
 refine KZ (D:=Tryz.checked) (X:=fun h _=>laidMetH Tryz.prog laid h) (fun _ _ _ v w=>w.of_heap v) own b (by kernel_rfl) Tryz.func4
  (ChangeSpec.witness_shaped (enc:=enc) (C:=Tryz.checked) (os:=os) (X:=fun h _=>laidMetH Tryz.prog laid h) false (World.laidAll Tryz.prog os laid) #[.string ⟨#[]⟩] 8 (World.laidAll_os _ _ _)
   (World.shaped_of_ZipB (by kernel_rfl) (by kernel_rfl)) (by kernel_rfl) (by kernel_rfl) (by kernel_rfl)
   (by rw[MakeChecks.laidMetH_plain _ _ _ (by kernel_rfl)];exact laidMet_laidAll _ (by kernel_rfl) (by kernel_rfl))) ?_
 intro p f args t K k a i l;have c:∀(A:Nat) G z,Tryz.f4.params[A]?=some G->args[A]?=some z->Value.okWide Tryz.prog p .any f G z:=a;have e:=i;obtain⟨L,P,d,y,rfl,I,E⟩:=i;have j:DataW.TrodAll enc Tryz.prog p 0 (fun _=>true) true Tryz.f4.params.toList args.toList t L:=d;rw[Tryz.params4]at j c;obtain⟨m,F,d0,B,M,J,n,rfl,rfl,o,r⟩:=trodAll_cons j;obtain⟨rfl,rfl,rfl⟩:=trodAll_nil r;obtain rfl:args= #[m]:=by cases args;simp_all
 obtain⟨rfl,rfl⟩:=trodVars_none y;obtain⟨s,rfl,rfl,rfl,u⟩:=Go.ChangeMaps.open_string Tryz.underlying9 (c 0 9 m rfl rfl) o;clear d a;simp only[List.append_nil]at e;refine(walk s p (Rs l)).mono fun O N ⟨x,q⟩=>?_;subst x;have g:Rows.parserFormsSpec.fn H ([.lit (.string s.data.toList)]++[])={results:=[.lit (.bool true)],args:=[.lit (.string s.data.toList)]}:=by simp[Rows.parserFormsSpec]
 refine⟨_,Z,_,_,_,[],[],[],e,?_,?_,?_,q.frame _,fun w=>by cases w⟩
 ·rw[g];exact trodAll_mk1 (shut_bool Tryz.underlying4 true)
 ·rw[g];exact trodAll_cons_mk (Go.ChangeMaps.shut_string Tryz.underlying9 u) trodAll_mk0
 ·rw[g];rfl
theorem q1:(Rows.parserFormsRow.inPlace==Tryz.prog.inPlace 4)=true:=by kernel_rfl
theorem q2:(Rows.parserFormsRow.unfollowed==Tryz.prog.unfollowed 4)=true:=by kernel_rfl
theorem q3:(Rows.parserFormsRow.recurses==Tryz.prog.recurses 4)=true:=by kernel_rfl
theorem q4:(Rows.parserFormsRow.named==Tryz.prog.varsNamed 4)=true:=by kernel_rfl
theorem closed:joinedFacts Tryz.prog 4 Tryz.f4 Rows.parserFormsSpec Rows.parserFormsRow=true:=by
 unfold joinedFacts;rw[q1,q2,q3,q4]
 kernel_rfl
theorem over:Rows.ParserFormsSaid:=
 OpenClaim.holds_of_wide 4 Tryz.f4 rfl rfl rfl rfl rfl rfl rfl ⟨rfl,rfl,rfl,rfl,rfl⟩ rfl rfl rfl rfl rfl (by kernel_rfl) Tryz.func4 closed
  (of_decide_eq_true (by kernel_rfl)) (by unfold Func.isWrapper;first|(rw[if_pos (by decide+kernel)];kernel_rfl)|(rw[if_neg (by decide+kernel)];exact⟨rfl,rfl⟩))
  (fun b a H enc _=>lifted b a H enc)
end parserForms
theorem parserForms_holds:Rows.ParserFormsCardSaid:=
 Claim7.holds_tied_plain_at .later [] [.data,.data,.data,.data,.sentinel,.sentinel,.pinned] true (true, "a679378e0f47ce08780b36d44421d505cb42da38c6aa7107c5796f77ea77d0f6") true
  parserForms.over (fun _ f=>by cases f) (by kernel_rfl) (fun _ f=>by cases f) parserForms_row_tie rfl ⟨rfl,rfl⟩ (by kernel_rfl) rfl
  (fun h fn e b=>by
   obtain rfl:h=4:=Option.some.inj ((show Tryz.prog.funcNamed "modcert/modcertlaw05.ParserForms" =some 4 by kernel_rfl).symm.trans e)|>.symm;obtain rfl:fn=Tryz.f4:=(Option.some.inj (Tryz.func4.symm.trans b)).symm;exact⟨by kernel_rfl,fun j g c=>by
    rw[Tryz.params4]at c;have d:g∈ [9]:=by simpa using Array.mem_of_getElem? c
    have a:([9].all fun i=> !Tryz.prog.wantsStandIn i)=true:=by kernel_rfl
    exact(show Tryz.prog.wantsStandIn g=false by simpa using List.all_eq_true.1 a g d)⟩)
  (by kernel_rfl)
#print axioms parserForms_holds
end Go.Proofs.YtpejealjkmhkgaaGreatDoor
