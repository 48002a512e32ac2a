/- Proved: ParserModules returns true at every string, and leaves its argument as it was (the tied card). The condition is the row's own. The parts: contracts for every function that the law reaches, over a machine that is proved sound for the model (Am, Vm texts); 'awake' is run by the kernel. -/
import Derived.Test.YtdocmpeionacbaaGreatDoorKAg
import Derived.Test.YtdocmpeionacbaaGreatDoorKAh
import Derived.Test.YtdocmpeionacbaaGreatDoorKAo
import Derived.Lib.AtoiErrMem
import Derived.Test.YtdocmpeionacbaaGreatDoorTie
import Derived.Test.YtdocmpeionacbaaGreatDoorCards
import Derived.WalkKit
import Derived.ProofKit
import Derived.OpenShut
import Derived.LaidMore
import Derived.Lay
import Derived.SevenTiedAt
import Derived.Stop.Joined
set_option linter.all false
set_option maxHeartbeats 16000000
set_option maxRecDepth 100000
open Nat renaming eq_of_beq_eq_true->ais
open Bool renaming true->A',false->B'
namespace Go.Proofs.YtdocmpeionacbaaGreatDoor
open Go.AM
open Go.RowKit (Below)
theorem TL{d:Option (CR×eM×St)}(b:isTrue d=A'):∃a c,d=some (.ret (.bool A'),a,c):=by
 unfold isTrue at b;split at b
 ·exact⟨_,_,Z⟩
 cases b
theorem mixed:C.P.follows .mixedOrders=A':=by kernel_rfl
theorem X7{d:Ren}{j f i:Value}(e:flat j=A')(k:flat f=A')(l:flat i=A'){a:Array Value}(m:du d [j,f,i] a.toList):a= #[j,f,i]:=by
 obtain⟨n,o,rfl,g,b⟩:=vs1 m;cases b with
 |cons b c=>
  cases c with
  |cons c h=>
   cases h;rw[tJ e g,tJ k b,tJ l c]
theorem abF{f:World}(i:zJ f):FT C f f.heap.size cm:=by
 intro u e t c;unfold cm at c;split at c
 ·split at c
  ·exact Pe i u e t c
  rename_i b;have b:=ais b;subst b;split at c
  ·rename_i s;split at c
   ·rename_i k;split at c
    ·rename_i x n;cases c;refine .inl ⟨Z,λl d q a h p=>?_⟩;have g:=X7 rfl rfl rfl a;subst g;have o:s.size<=9223372036854775806:=by
      have:Nat.ble (s.data.toList.length+1) 281474976710656=A':=k;rw[Nat.ble_eq]at this;have y:=Lib.size_eq s;omega
     refine(Any.strconv_ParseUint_10_at64_ok H7 s o x n q).mono ?_;rintro y r ⟨rfl,j⟩;refine⟨Z,?_⟩;rcases j with rfl|rfl
     ·exact .refl _ _
     exact Lib.bytesWorld_below _ _ _
    cases c
   cases c
  cases c
 rename_i b;have b:=ais b;subst b;split at c
 ·cases c;refine .inl ⟨Z,λl d q a h p=>?_⟩;have g:=dB a;subst g;obtain⟨v,w,m⟩:=TL Wi;exact OM tok fok Zm mixed Zl (Pe (i.below h)) m Z Z
 cases c
theorem walk(d:ByteArray)(a:World)(b:zJ a):
  Calls Tryz.prog 3 #[.string d] a λj e=>j=.returned (.bool A')/\Below a.heap.size a e:=by
 obtain⟨n,o,h,l,i,k,f,rfl⟩:=Go.VM.b7.run (args:=[.str d.data.toList]) (X6 d.data.toList) (λg m c=>by
  obtain rfl:=List.mem_singleton.1 c;exact .str _)
 exact OM tok fok Zm mixed Zl (abF b) f Z Z
section
variable{H:Type} {enc:TypeId×Value->H}
theorem Q5{K:Assume}{D:Checked}{o:Os}{w:FuncId}{fn:Func}{u:ChangeSpec}{j:n_ PathCond}{apart i d h:Bool}{X:World->Array Value->Prop} 
  (N:∀(e w':World) (a:Array Value),e.heap=w'.heap->X e a->X w' a)
  (own:ownKnob D.prog.godebug=none) (k:o.Started) (m:D.prog.inits.idxOf? w=none) (B:D.prog.funcs[w]?=some fn)
  (l:∃(e:World) (b:Tape) (f:Input),e.os=o/\(e.forCall b f).Shaped D.prog/\f.vars=[]/\Input.okWide D.prog (e.forCall b f) .any e.heap.size w f/\
   ((u.pre enc D.prog fn j apart (e.forCall b f).memory f.args/\X (e.forCall b f).memory f.args)/\sizedMet enc D.prog fn (OpenSpec.ofChange u) apart (e.forCall b f).memory f.args)/\K.holds D.prog (lone (Frame.enter D.prog w f.args .normal) [] (e.forCall b f)))
  (g:∀(y:World) (n:Nat) (a:Array Value) (r p:n_ (DataW H)) (c:n_ MemPlace),
   (∀(L:Nat) M v,fn.params[L]?=some M->a[L]?=some v->Value.okWide D.prog y .any n M v)->
   DataW.Whole enc D.prog fn.params.toList u.vars apart y a.toList r p c->y.ShapedOpen D.prog->
   Calls D.prog w a y λF E=>∃v,F=.returned v/\u.post enc D.prog fn apart i d h y a v E):
  ReturnsInHanded K D o w .any (λe a=>(u.pre enc D.prog fn j apart e a/\X e a)/\sizedMet enc D.prog fn (OpenSpec.ofChange u) apart e a) (u.post enc D.prog fn apart i d h):=by
 refine returnsInHanded_of_calls own k m l ?_;intro e b f _ A _ z t _;obtain⟨_,_,_,C,s,_,_,_,_,q⟩:=z;have F:C=fn:=Option.some.inj (s.symm.trans B);subst F;obtain⟨⟨⟨r,p,c,G,_⟩,_⟩,_⟩:=t;have x:=DataW.Whole.of_heap (w':=e.forCall b f) (by rfl) G;refine(g (e.forCall b f) e.heap.size f.args r p c q x A).mono λF E ⟨v,J,I⟩=>?_;subst J;exact ChangeSpec.post_blind I
end
namespace parserModules
open Go.ChangeShapes Go.WideShapes Go.ChangeAt Go.RowKit
theorem own:ownKnob Tryz.prog.godebug=none:=by kernel_rfl
noncomputable def laid:n_ (String×DataW Unit):=Rows.parserModulesRow.laid
theorem X9{b:World}(d:b.ShapedOpen Tryz.prog):zJ b:=by
 obtain⟨e,a⟩:=zb.s1_3 b d;refine⟨?_,e,a⟩;cases c:b.heap.size with
 |zero=>
  have:b.heap= #[]:=Array.size_eq_zero_iff.1 c;exact Y' a (by unfold World.cell?;simp[this])
 |succ f=>omega
theorem lifted(os:Os)(b:os.Started)(H:Type)(enc:TypeId×Value->H):
  ReturnsInHanded {} Tryz.checked os 3 .any (λh args=>(Rows.parserModulesSpec.pre enc Tryz.prog Tryz.f3 [] B' h args/\laidMetH Tryz.prog laid h)/\sizedMet enc Tryz.prog Tryz.f3 (OpenSpec.ofChange Rows.parserModulesSpec) B' h args)
   (Rows.parserModulesSpec.post enc Tryz.prog Tryz.f3 B' A' B' B'):=by
 refine Q5 (D:=Tryz.checked) (X:=λh _=>laidMetH Tryz.prog laid h) (λ_ _ _ v w=>w.of_heap v) own b (by kernel_rfl) Tryz.func3
  (ChangeSpec.witness_shaped (enc:=enc) (C:=Tryz.checked) (os:=os) (X:=λh _=>laidMetH Tryz.prog laid h) B' (World.laidAll Tryz.prog os laid) #[.string ⟨#[]⟩] 8 (World.laidAll_os _ _ _)
   (World.shaped_of_ZipB (by kernel_rfl) (by kernel_rfl)) (by kernel_rfl) (by kernel_rfl) (by kernel_rfl)
   (by rw[MakeChecks.laidMetH_plain _ _ _ (by kernel_rfl)];exact laidMet_laidAll _ (by kernel_rfl) (by kernel_rfl))) ?_
 intro p f args t K k a i l;have c:∀(A:Nat) G z,Tryz.f3.params[A]?=some G->args[A]?=some z->Value.okWide Tryz.prog p .any f G z:=a;have e:=i;obtain⟨L,P,d,y,rfl,I,E⟩:=i;have j:DataW.TrodAll enc Tryz.prog p 0 (λ_=>A') A' Tryz.f3.params.toList args.toList t L:=d;rw[Tryz.params3]at j c;obtain⟨m,F,d0,B,M,J,n,rfl,rfl,o,r⟩:=trodAll_cons j;obtain⟨rfl,rfl,rfl⟩:=trodAll_nil r;obtain rfl:args= #[m]:=by cases args;simp_all
 obtain⟨rfl,rfl⟩:=trodVars_none y;obtain⟨s,rfl,rfl,rfl,u⟩:=Go.ChangeMaps.open_string Tryz.underlying9 (c 0 9 m rfl rfl) o;clear d a;simp only[List.append_nil]at e;refine(walk s p (X9 l)).mono λO N ⟨x,q⟩=>?_;subst x;have g:Rows.parserModulesSpec.fn H ([.lit (.string s.data.toList)]++[])={results:=[.lit (.bool A')],args:=[.lit (.string s.data.toList)]}:=by simp[Rows.parserModulesSpec]
 refine⟨_,Z,_,_,_,[],[],[],e,?_,?_,?_,q.frame _,λw=>by cases w⟩
 ·rw[g];exact trodAll_mk1 (shut_bool Tryz.underlying4 A')
 ·rw[g];exact trodAll_cons_mk (Go.ChangeMaps.shut_string Tryz.underlying9 u) trodAll_mk0
 rw[g];rfl
theorem q1:(Rows.parserModulesRow.inPlace==Tryz.prog.inPlace 3)=A':=by kernel_rfl
theorem q2:(Rows.parserModulesRow.unfollowed==Tryz.prog.unfollowed 3)=A':=by kernel_rfl
theorem q3:(Rows.parserModulesRow.recurses==Tryz.prog.recurses 3)=A':=by kernel_rfl
theorem q4:(Rows.parserModulesRow.named==Tryz.prog.varsNamed 3)=A':=by kernel_rfl
theorem closed:joinedFacts Tryz.prog 3 Tryz.f3 Rows.parserModulesSpec Rows.parserModulesRow=A':=by
 unfold joinedFacts;rw[q1,q2,q3,q4]
 kernel_rfl
theorem over:Rows.ParserModulesSaid:=
 OpenClaim.holds_of_wide 3 Tryz.f3 rfl rfl rfl rfl rfl rfl rfl ⟨rfl,rfl,rfl,rfl,rfl⟩ rfl rfl rfl rfl rfl (by kernel_rfl) Tryz.func3 closed
  (f_ (by kernel_rfl)) (by unfold Func.isWrapper;first|(rw[X' (by decide+kernel)];kernel_rfl)|(rw[W' (by decide+kernel)];exact⟨rfl,rfl⟩))
  (λb a H enc _=>lifted b a H enc)
end parserModules
theorem parserModules_holds:Rows.ParserModulesCardSaid:=
 Claim7.holds_tied_plain_at .later [] [.data,.data,.data,.data,.sentinel,.sentinel,.pinned] A' (A', "7f2b2699dff6c05166dcfe1ae3019b14fabac247348fdd375a07a44c9747dc1c") A'
  parserModules.over (λ_ f=>by cases f) (by kernel_rfl) (λ_ f=>by cases f) parserModules_row_tie rfl ⟨rfl,rfl⟩ (by kernel_rfl) rfl
  (λh fn e b=>by
   obtain rfl:h=3:=Option.some.inj ((show Tryz.prog.funcNamed "modcert/modcertlaw05.ParserModules" =some 3 by kernel_rfl).symm.trans e)|>.symm;obtain rfl:fn=Tryz.f3:=(Option.some.inj (Tryz.func3.symm.trans b)).symm;exact⟨by kernel_rfl,λj g c=>by
    rw[Tryz.params3]at c;have d:g∈ [9]:=by simpa using Array.mem_of_getElem? c
    have a:([9].all λi=> !Tryz.prog.wantsStandIn i)=A':=by kernel_rfl
    exact(show Tryz.prog.wantsStandIn g=B' by simpa using List.all_eq_true.1 a g d)⟩)
  (by kernel_rfl)
#print axioms parserModules_holds
end Go.Proofs.YtdocmpeionacbaaGreatDoor
