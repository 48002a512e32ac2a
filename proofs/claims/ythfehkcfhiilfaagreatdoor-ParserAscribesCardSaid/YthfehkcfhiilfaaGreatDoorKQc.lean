/- Contracts: parser.Expr, parser.Module, and the law ParserAscribes over the lifted machine. -/
import Derived.Test.YthfehkcfhiilfaaGreatDoorKQb
import Derived.Test.YthfehkcfhiilfaaGreatDoorKYc
import Derived.Test.YthfehkcfhiilfaaGreatDoorKRe
import Derived.Test.YthfehkcfhiilfaaGreatDoorKQa
import Derived.Test.YthfehkcfhiilfaaGreatDoorKGa
namespace Go.Proofs.YthfehkcfhiilfaaGreatDoor set_option linter.unusedSimpArgs false set_option linter.unusedVariables false
open Go.AM Go.VM
theorem checkType_ok {t : Ty} {d : List D} (hd : TyD t d) (hw : AllW t) (hn : tsize t <= 500) (hb : badT t = false) {σ : VS} {K : VCR -> VS -> Prop} (hk : K (.ret (intV 0)) σ) : VCall C intr0 F.syntax_CheckType [.agg (d.map V.d)] σ K :=
 checkType_spec t d hd hw (by omega) (by rw [hb]; exact hk)
theorem wrap_two {n : Nat} (h : n <= 500) : IntKind.i64.wrap (IntKind.i64.wrap (Int.ofNat 1 + Int.ofNat n) + 1) = Int.ofNat (n + 2) := by
 rw [wrap_add (by omega), show (1 : Int) = Int.ofNat 1 from rfl, wrap_add (by omega)]
 congr 1
 omega
set_option maxRecDepth 100000 in
set_option maxHeartbeats 8000000 in
theorem esize_asc0 (b c b' c' : Nat) {t : Ty} {d : List D} (hd : TyD t d) (hn : tsize t <= 500) : VCall C intr0 F.syntax_ExprSize [.agg (ascV b c b' c' d)] [] fun r σ' => σ' = [] /\ r = .ret (intV (tsize t + 2)) := by
 obtain ⟨k, m, nm, a, f, rfl⟩ := hd.five
 refine VCall.b1 nofz (fun _ => rfl) ?_
 refine VCall.b0 nofz (fun _ => rfl) ?_
 refine VCall.b0 nofz (fun _ => rfl) ?_
 refine VCall.b0 nofz (fun _ => rfl) ?_
 refine VRound.intro ?_
 refine VCall.closed (own_asc0 b c b' c' k m nm a f) rfl (fun r h => ?_)
 obtain ⟨b1, c1, rfl⟩ := h
 refine VCode.loop ?_
 refine vnf rfl ?_
 refine exf _ rfl ?_
 repeat refine vni (by repeat' (first | exact trivial | exact rfl | refine vnf rfl ?_ | refine And.intro ?_ ?_)) ?_
 refine size_spec t _ hd (by omega) ?_
 repeat refine vni (by repeat' (first | exact trivial | exact rfl | refine vnf rfl ?_ | refine And.intro ?_ ?_)) ?_
 refine VCode.loop ?_
 refine VCode.loop ?_
 refine vnf rfl ?_
 refine exf _ rfl ?_
 refine VCall.b0 nofz (fun _ => rfl) ?_
 refine VRound.intro ?_
 refine VCall.pure own_one0 rfl rfl ?_
 refine VCode.loop ?_
 refine VCode.loop ?_
 refine VCode.loop ?_
 refine VUpd.drop 0 ?_ ?_ ?_ ?_
 iterate 3 exact rfl
 refine VUpd.now rfl ⟨rfl, congrArg (fun x => VCR.ret (V.d (D.int .i64 x))) (wrap_two hn)⟩
set_option maxRecDepth 100000 in
set_option maxHeartbeats 8000000 in
theorem node_asc0 (b c b' c' : Nat) {t : Ty} {d : List D} (hd : TyD t d) (hw : AllW t) (hn : tsize t <= 500) (hb : badT t = false) : VCall C intr0 F.syntax_exprNode [.agg (ascV b c b' c' d), .map 0] [formsO] fun r σ' => σ' = [formsO] /\ closedCR r = true /\ r = .ret (intV 0) := by
 obtain ⟨k, m, nm, a, f, rfl⟩ := hd.five
 refine VCall.b1 nofz (fun _ => rfl) ?_
 refine exf (some (11, fm [] 1 false 1)) rfl ?_
 refine VCall.pure (fits_asc0 b c b' c' _) rfl rfl ?_
 refine VCall.pure (mis_asc0 b c b' c' _) rfl rfl ?_
 refine VCall.b0 nofz (fun _ => rfl) ?_
 refine VCode.loop ?_
 refine VCall.closed (own_asc0 b c b' c' k m nm a f) rfl (fun r h => ?_)
 obtain ⟨b1, c1, rfl⟩ := h
 refine VCode.loop ?_
 refine vnf rfl ?_
 refine exf _ rfl ?_
 refine checkType_ok hd hw hn hb ?_
 refine VCode.loop ?_
 refine VUpd.drop 1 ?_ ?_ ?_ ?_
 iterate 3 exact rfl
 refine VUpd.now rfl ⟨rfl, rfl, rfl⟩
set_option maxRecDepth 100000 in
set_option maxHeartbeats 8000000 in
theorem check_asc0 (b c b' c' : Nat) {t : Ty} {d : List D} (hd : TyD t d) (hw : AllW t) (hn : tsize t <= 500) (hb : badT t = false) : VCall C intr0 F.syntax_CheckExpr [.agg (ascV b c b' c' d)] [] fun r σ' => σ' = [] /\ r = .ret (intV 0) := by
 have hes := esize_asc0 b c b' c' hd hn
 have hno := node_asc0 b c b' c' hd hw hn hb
 obtain ⟨k, m, nm, a, f, rfl⟩ := hd.five
 refine VCall.b1 nofz (fun _ => rfl) ?_
 refine VCall.pure hes rfl rfl ?_
 refine vci (fun h1 => absurd (dlt (a := 4096) h1) (by omega)) (fun h1 => ?_)
 repeat (change vcond _ _ _; first | refine vcn (by with_reducible exact h1) ?_)
 refine VCall.pure (depth_asc0 b c b' c' _) rfl rfl ?_
 repeat (change vcond _ _ _; first | refine vcn (by with_reducible exact h1) ?_)
 refine VCall.b0 nofz (fun _ => rfl) ?_
 refine exf none rfl (exf none rfl (exf none rfl (exf none rfl (exf none rfl (exf none rfl (exf none rfl (exf none rfl ?_)))))))
 refine exf none rfl (exf none rfl (exf none rfl (exf none rfl (exf none rfl (exf none rfl (exf none rfl (exf none rfl (exf none rfl ?_))))))))
 refine VCall.b0 nofz (fun _ => rfl) ?_
 refine VCall.b0 nofz (fun _ => rfl) ?_
 refine VCall.b0 nofz (fun _ => rfl) ?_
 refine VRound.intro ?_
 refine VCall.oneO hno 2 rfl rfl rfl rfl (fun r h => ?_)
 subst h
 refine VCode.loop ?_
 refine vnf rfl ?_
 refine exf _ rfl ?_
 refine VCall.b0 nofz (fun _ => rfl) ?_
 refine VRound.intro ?_
 refine VCall.oneO node_one0 2 rfl rfl rfl rfl (fun r h => ?_)
 subst h
 refine VCode.loop ?_
 refine VCode.loop ?_
 refine VUpd.drop 0 ?_ ?_ ?_ ?_
 iterate 3 exact rfl
 refine VUpd.now rfl ⟨rfl, rfl⟩
theorem wrap_three {n : Nat} (h : n <= 500) : IntKind.i64.wrap (Int.ofNat 2 + IntKind.i64.wrap (Int.ofNat n + Int.ofNat 1)) = Int.ofNat (n + 3) := by
 rw [wrap_add (by omega), wrap_add (by omega)]
 congr 1
 omega
set_option maxRecDepth 100000 in
set_option maxHeartbeats 8000000 in
theorem msize0 (b : Nat) {t : Ty} {d : List D} (hd : TyD t d) (hn : tsize t <= 500) : VCall C intr0 F.syntax_ModuleSize [.agg (modV b d)] [] fun r σ' => σ' = [] /\ r = .ret (intV (tsize t + 3)) := by
 obtain ⟨k, m, nm, a, f, rfl⟩ := hd.five
 refine VCall.b1 nofz (fun _ => rfl) ?_
 refine VCode.loop ?_
 refine vnf rfl ?_
 refine exf _ rfl ?_
 repeat refine vni (by repeat' (first | exact trivial | exact rfl | refine vnf rfl ?_ | refine And.intro ?_ ?_)) ?_
 refine size_spec t _ hd (by omega) ?_
 repeat refine vni (by repeat' (first | exact trivial | exact rfl | refine vnf rfl ?_ | refine And.intro ?_ ?_)) ?_
 refine VCall.pure esize_one0 rfl rfl ?_
 repeat refine vni (by repeat' (first | exact trivial | exact rfl | refine vnf rfl ?_ | refine And.intro ?_ ?_)) ?_
 refine VCode.loop ?_
 refine VCode.loop ?_
 refine VUpd.drop 0 ?_ ?_ ?_ ?_
 iterate 3 exact rfl
 refine VUpd.now rfl ⟨rfl, congrArg (fun x => VCR.ret (V.d (D.int .i64 x))) (wrap_three hn)⟩
set_option maxRecDepth 100000 in
set_option maxHeartbeats 8000000 in
theorem head0 (b : Nat) {t : Ty} {d : List D} (hd : TyD t d) (hn : tsize t <= 500) : VCall C intr0 F.syntax_head [.agg (modV b d)] [] fun r σ' => σ' = [] /\ r = .ret (intV 0) := by
 have hm := msize0 b hd hn
 obtain ⟨k, m, nm, a, f, rfl⟩ := hd.five
 refine VCall.b1 nofz (fun _ => rfl) ?_
 refine VCall.intrinsic (args := [.str pathB]) (x := .bool true) rfl rfl ?_
 refine VCall.pure hm rfl rfl ?_
 refine vci (fun h1 => absurd (dlt (a := 4096) h1) (by omega)) (fun h1 => ?_)
 repeat (change vcond _ _ _; first | refine vcn (by with_reducible exact h1) ?_)
 refine VCode.loop ?_
 refine VUpd.drop 0 ?_ ?_ ?_ ?_
 iterate 3 exact rfl
 refine VUpd.now rfl ⟨rfl, rfl⟩
def dclfz : Nat -> Bool := fun t => Nat.beq t 61
theorem zeroT_all : AllW zeroT := .mk (.base (by omega)) (fun p hp => by cases hp)
theorem zeroT_ok : badT zeroT = false := by decide
theorem zeroT_size : tsize zeroT <= 500 := by simp [zeroT, tsize, tsizeL, tsizeF]
set_option maxRecDepth 100000 in
set_option maxHeartbeats 8000000 in
theorem decl0 (b o c : Nat) {t : Ty} {d : List D} (hd : TyD t d) (hw : AllW t) (hn : tsize t <= 500) (hb : badT t = false) : VCall C intr0 F.syntax_decl [.agg ((decD d).map V.d), .d (.ps b o 31 c [])] [] fun r σ' => σ' = [] /\ r = .ret (intV 0) := by
 obtain ⟨k, m, nm, a, f, rfl⟩ := hd.five
 refine VCall.b1 dclfz (fun _ => rfl) ?_
 refine VCall.pure (declared0 k m nm a f) rfl rfl ?_
 refine VCall.pure (titled0 k m nm a f) rfl rfl ?_
 refine VCall.b0 nofz (fun _ => rfl) ?_
 refine VCall.b0 nofz (fun _ => rfl) ?_
 refine VCode.loop ?_
 refine VCode.loop ?_
 intro b1
 refine VCode.loop ?_
 refine VCode.loop ?_
 refine vnf rfl ?_
 refine exf _ rfl ?_
 refine checkType_ok zeroT_D zeroT_all zeroT_size zeroT_ok ?_
 refine VCode.loop ?_
 refine vnf rfl ?_
 refine exf _ rfl ?_
 refine checkType_ok zeroT_D zeroT_all zeroT_size zeroT_ok ?_
 refine VCode.loop ?_
 refine vnf rfl ?_
 refine exf _ rfl ?_
 refine checkType_ok hd hw hn hb ?_
 refine VCode.loop ?_
 refine VCall.pure check_one0 rfl rfl ?_
 refine VUpd.drop 0 ?_ ?_ ?_ ?_
 iterate 3 exact rfl
 refine VUpd.now rfl ⟨rfl, rfl⟩
set_option maxRecDepth 100000 in
set_option maxHeartbeats 8000000 in
theorem checkModule0 (b : Nat) {t : Ty} {d : List D} (hd : TyD t d) (hw : AllW t) (hn : tsize t <= 500) (hb : badT t = false) : VCall C intr0 F.syntax_CheckModule [.agg (modV b d)] [] fun r σ' => σ' = [] /\ r = .ret (.tup [intV 0, intV 0]) := by
 have hh := head0 b hd hn
 have hde := fun b' o' c' => decl0 b' o' c' hd hw hn hb
 obtain ⟨k, m, nm, a, f, rfl⟩ := hd.five
 refine VCall.b1 nofz (fun _ => rfl) ?_
 refine VCall.pure hh rfl rfl ?_
 refine VCode.loop ?_
 refine vnf rfl ?_
 refine exf _ rfl ?_
 refine vnf rfl ?_
 refine vni ⟨Nat.le_refl _, Nat.zero_le _, Nat.le_refl _, Nat.zero_lt_one, rfl⟩ ?_
 repeat refine vni (by repeat' (first | exact trivial | exact rfl | refine vnf rfl ?_ | exact Nat.le_refl _ | exact Nat.zero_le _ | exact Nat.zero_lt_one | refine And.intro ?_ ?_)) ?_
 refine VCall.pure (hde _ _ _) rfl rfl ?_
 repeat refine vni (by repeat' (first | exact trivial | exact rfl | refine vnf rfl ?_ | exact Nat.le_refl _ | exact Nat.zero_le _ | exact Nat.zero_lt_one | refine And.intro ?_ ?_)) ?_
 refine VCode.loop ?_
 refine VUpd.drop 0 ?_ ?_ ?_ ?_
 iterate 3 exact rfl
 refine VUpd.now rfl ⟨rfl, rfl⟩
set_option maxRecDepth 100000 in
set_option maxHeartbeats 8000000 in
theorem readE {s : List UInt8} {ts : List Tok} (hx : lexF s = .ok ts) {q k n : Nat} {P : D -> D -> Prop} (hq : q < ts.length) (hz : ∃ o, ts[q]? = some ⟨0, [], o⟩) (hg : ∀ b cap, ExOk F.reader_expr ⟨b, cap, ts⟩ 0 q k n P) {σ : VS} {K : VCR -> VS -> Prop} (hk : ∀ ty kids, P ty kids -> K (.ret (.tup [.agg (exV k n ty kids), intV 0, intV 0])) σ) :
  VCall C intr0 F.parser_read_api_Expr [strV s, .fn F.reader_expr [] []] σ K := by
 obtain ⟨o, hz⟩ := hz
 refine VCall.closed (P := fun r => ∃ ty kids, P ty kids /\ r = .ret (.tup [.agg (exV k n ty kids), intV 0, intV 0])) ?_ rfl (fun r h => by
  obtain ⟨ty, kids, hp, rfl⟩ := h
  exact hk ty kids hp)
 refine VCall.b1 nofz (fun _ => rfl) ?_
 refine lex_spec' s (fun r hr => ?_)
 rw [hx] at hr
 obtain ⟨b, cap, rfl⟩ := hr
 refine (hg b cap).call 4 _ _ rfl (fun ty kids hP => ?_)
 refine peek_spec ⟨b, cap, ts⟩ q _ hz 4 rfl ?_
 refine VCallD.body nofz ?_
 refine VUpd.drop 0 ?_ ?_ ?_ ?_
 iterate 3 exact rfl
 refine VUpd.now rfl ⟨rfl, rfl, ty, kids, hP, rfl⟩
def exprP (t : Ty) (r : VCR) : Prop := ∃ b c b' c' d, TyD t d /\ r = .ret (.tup [.agg (ascV b c b' c' d), intV 0, intV 0])
set_option maxRecDepth 100000 in
set_option maxHeartbeats 8000000 in
theorem pexpr_spec {s : List UInt8} {ts : List Tok} (hx : lexF s = .ok ts) {q : Nat} {t : Ty} (hq : q < ts.length) (hz : ∃ o, ts[q]? = some ⟨0, [], o⟩) (hg : ∀ b cap, ExOk F.reader_expr ⟨b, cap, ts⟩ 0 q 11 0 (AscP t)) (hw : AllW t) (hn : tsize t <= 500) (hb : badT t = false) {σ : VS} {K : VCR -> VS -> Prop} (hk : ∀ r, exprP t r -> K r σ) :
  VCall C intr0 F.parser_Expr [strV s] σ K := by
 refine VCall.closed (P := exprP t) ?_ rfl hk
 refine VCall.b1 nofz (fun _ => rfl) ?_
 refine readE hx hq hz hg (fun ty kids hP => ?_)
 obtain ⟨b, c, b', c', d, hd, rfl, rfl⟩ := hP
 refine VCall.pure (check_asc0 b c b' c' hd hw hn hb) rfl rfl ?_
 refine VUpd.drop 0 ?_ ?_ ?_ ?_
 iterate 3 exact rfl
 refine VUpd.now rfl ⟨rfl, rfl, b, c, b', c', d, hd, rfl⟩
def moduleP (t : Ty) (r : VCR) : Prop := ∃ b d, TyD t d /\ r = .ret (.tup [.agg (modV b d), intV 0, intV 0])
set_option maxRecDepth 100000 in
set_option maxHeartbeats 8000000 in
theorem pmodule_spec {s : List UInt8} {ts : List Tok} (hx : lexF s = .ok ts) {q : Nat} {t : Ty} (hg : ∀ b cap, ModT ⟨b, cap, ts⟩ q t) (hw : AllW t) (hn : tsize t <= 500) (hb : badT t = false) {σ : VS} {K : VCR -> VS -> Prop} (hk : ∀ r, moduleP t r -> K r σ) :
  VCall C intr0 F.parser_Module [strV s] σ K := by
 refine VCall.closed (P := moduleP t) ?_ rfl hk
 refine VCall.b1 nofz (fun _ => rfl) ?_
 refine VCall.b0 nofz (fun _ => rfl) ?_
 refine lex_spec' s (fun r hr => ?_)
 rw [hx] at hr
 obtain ⟨b, cap, rfl⟩ := hr
 obtain ⟨w, _⟩ := Rd.wf_of (R := ⟨b, cap, ts⟩) hx
 have hm := hg b cap
 obtain ⟨o, hz⟩ := hm.d.z
 refine VCall.b0 nofz (fun _ => rfl) ?_
 refine module_read w hm 6 rfl (fun b1 d b2 c2 x hd => ?_)
 obtain ⟨k, m, nm, a, f, rfl⟩ := hd.five
 refine peek_spec ⟨b, cap, ts⟩ (q + 2) _ hz 6 rfl ?_
 refine VCallD.body nofz ?_
 refine VCall.pure (checkModule0 b1 hd hw hn hb) rfl rfl ?_
 refine VUpd.drop 0 ?_ ?_ ?_ ?_
 iterate 3 exact rfl
 refine VUpd.now rfl ⟨rfl, rfl, b1, _, hd, rfl⟩
theorem get_app {PT QT ts0 : List Tok} {m j n : Nat} {x : Tok} (h : QT[j]? = some x) (hn : n = PT.length + ts0.length + j) : (PT ++ (ts0.map (Tok.mv m) ++ QT))[n]? = some x := by
 subst hn
 rw [List.getElem?_append_right (by omega), List.getElem?_append_right (by rw [List.length_map]; omega), List.length_map, show PT.length + ts0.length + j - PT.length - ts0.length = j from by omega]
 exact h
theorem srcE_ok {s : List UInt8} {t : Ty} {ts0 : List Tok} (h : SrcOk s t ts0) : ∃ ts q, lexF (([40, 49, 32, 58, 32] ++ s) ++ [10, 41]) = .ok ts /\ q < ts.length /\ (∃ o, ts[q]? = some ⟨0, [], o⟩) /\ ∀ b cap, ExOk F.reader_expr ⟨b, cap, ts⟩ 0 q 11 0 (AscP t) := by
 obtain ⟨ts1, e1, _, _, hl⟩ := lex_srcE s _ h.len h.lex
 obtain rfl : ts1 = ts0 := (List.append_inj_left' e1 rfl).symm
 have es : ([40, 49, 32, 58, 32] ++ s) ++ [10, 41] = srcE s := by simp [srcE]
 rw [es]
 have hz := get_app (PT := [⟨6, [40], 0⟩, ⟨3, [49], 1⟩, ⟨6, [58], 3⟩]) (ts0 := ts1) (m := 5) (QT := [⟨6, [41], s.length + 6⟩, ⟨0, [], s.length + 7⟩]) (j := 1) (n := 3 + ts1.length + 1) rfl (by simp)
 have hr := get_app (PT := [⟨6, [40], 0⟩, ⟨3, [49], 1⟩, ⟨6, [58], 3⟩]) (ts0 := ts1) (m := 5) (QT := [⟨6, [41], s.length + 6⟩, ⟨0, [], s.length + 7⟩]) (j := 0) (n := 3 + ts1.length) rfl (by simp)
 generalize hTS : ([⟨6, [40], 0⟩, ⟨3, [49], 1⟩, ⟨6, [58], 3⟩] ++ (ts1.map (Tok.mv 5) ++ [⟨6, [41], s.length + 6⟩, ⟨0, [], s.length + 7⟩]) : List Tok) = TS at hz hr
 have hl : lexF (srcE s) = .ok TS := hl.trans (congrArg LexR.ok hTS)
 have hlen : TS.length = ts1.length + 5 := by rw [<- hTS]; simp
 have k0 : TS[0]? = some ⟨6, [40], 0⟩ := by rw [<- hTS]; rfl
 have k1 : TS[1]? = some ⟨3, [49], 1⟩ := by rw [<- hTS]; rfl
 have k2 : TS[2]? = some ⟨6, [58], 3⟩ := by rw [<- hTS]; rfl
 refine ⟨TS, 3 + ts1.length + 1, hl, by omega, ⟨_, hz⟩, fun b cap => ?_⟩
 obtain ⟨w, _⟩ := Rd.wf_of (R := ⟨b, cap, TS⟩) hl
 have hty := h.inn (R' := ⟨b, cap, TS⟩) (PT := [⟨6, [40], 0⟩, ⟨3, [49], 1⟩, ⟨6, [58], 3⟩]) (m := 5) (x := ⟨6, [41], s.length + 6⟩) (QT := [⟨0, [], s.length + 7⟩]) hTS.symm rfl (f := TS.length) (by omega)
 have g : ∀ {p x}, TS[p]? = some x -> Rd.tok ⟨b, cap, TS⟩ p = x := fun h => tok_get (R := ⟨b, cap, TS⟩) h
 have hlt : ∀ {p}, p < TS.length -> p < (Rd.mk b cap TS).ts.length := fun h => h
 refine expr_ok w (p := 0) (hlt (by omega)) (by rw [g k0]; rfl) (hlt (by omega)) (by rw [g hz]; rfl) ?_
 exact prim_par w (p := 0) (q := 3 + ts1.length) k0 (one_ok w (p := 1) k1 (hlt (by omega)) (by rw [g k2]; rfl)) k2 (hlt (by omega)) hty (hlt (by omega)) (by rw [g hr]; rfl)
def preT : List Tok := [⟨5, [109, 111, 100, 117, 108, 101], 0⟩, ⟨1, [109], 7⟩, ⟨6, [47], 8⟩, ⟨1, [118, 49], 9⟩, ⟨5, [108, 101, 116], 12⟩, ⟨1, [118], 16⟩, ⟨6, [58], 17⟩]
theorem srcM_ok {s : List UInt8} {t : Ty} {ts0 : List Tok} (h : SrcOk s t ts0) : ∃ ts q, lexF (([109, 111, 100, 117, 108, 101, 32, 109, 47, 118, 49, 32, 108, 101, 116, 32, 118, 58, 32] ++ s) ++ [10, 61, 32, 49]) = .ok ts /\ ∀ b cap, ModT ⟨b, cap, ts⟩ q t := by
 obtain ⟨ts1, e1, _, _, hl⟩ := lex_srcM s _ h.len h.lex
 obtain rfl : ts1 = ts0 := (List.append_inj_left' e1 rfl).symm
 have es : ([109, 111, 100, 117, 108, 101, 32, 109, 47, 118, 49, 32, 108, 101, 116, 32, 118, 58, 32] ++ s) ++ [10, 61, 32, 49] = srcM s := by simp [srcM, preM]
 rw [es]
 have hg := fun (j : Nat) (x : Tok) (hj : ([⟨6, [61], s.length + 20⟩, ⟨3, [49], s.length + 22⟩, ⟨0, [], s.length + 23⟩] : List Tok)[j]? = some x) =>
  get_app (PT := preT) (ts0 := ts1) (m := 19) (n := 7 + ts1.length + j) hj rfl
 generalize hTS : (preT ++ (ts1.map (Tok.mv 19) ++ [⟨6, [61], s.length + 20⟩, ⟨3, [49], s.length + 22⟩, ⟨0, [], s.length + 23⟩]) : List Tok) = TS at hg
 have hl : lexF (srcM s) = .ok TS := hl.trans (congrArg LexR.ok hTS)
 have hlen : TS.length = ts1.length + 10 := by rw [<- hTS]; simp [preT]
 have k : ∀ i, i < 7 -> TS[i]? = preT[i]? := fun i hi => by rw [<- hTS, List.getElem?_append_left (show i < preT.length from hi)]
 refine ⟨TS, 7 + ts1.length, hl, fun b cap => ?_⟩
 have hty := h.inn (R' := ⟨b, cap, TS⟩) (PT := preT) (m := 19) (x := ⟨6, [61], s.length + 20⟩) (QT := [⟨3, [49], s.length + 22⟩, ⟨0, [], s.length + 23⟩]) hTS.symm rfl (f := TS.length) (by omega)
 exact ⟨⟨0, k 0 (by decide)⟩, ⟨7, k 1 (by decide)⟩, ⟨8, k 2 (by decide)⟩, ⟨9, k 3 (by decide)⟩, ⟨⟨12, k 4 (by decide)⟩, ⟨16, k 5 (by decide)⟩, ⟨17, k 6 (by decide)⟩, show 4 + 3 < TS.length by omega, hty, ⟨_, hg 0 _ rfl⟩, ⟨_, hg 1 _ rfl⟩, ⟨_, hg 2 _ rfl⟩⟩⟩
theorem ArgsD.two_inv {t u : Ty} {a : D} (h : ArgsD [t, u] a) : ∃ b o c d e, a = .ps b o 5 c [d, e] /\ TyD t d /\ TyD u e := by
 cases h with
 | ps h hne => cases h with | cons h1 h2 => cases h2 with | cons h2 h3 => cases h3; exact ⟨_, _, _, _, _, rfl, h1, h2⟩
theorem refT_D {t : Ty} {d : List D} (h : TyD (refT t) d) : ∃ b o c d1 d2 f, TyD intT d1 /\ TyD t d2 /\ d = [.int .i64 (Int.ofNat 10), .str [], .str [78], .ps b o 5 c [d1, d2], f] := by
 cases h with
 | mk ha hf =>
  obtain ⟨b, o, c, d1, d2, rfl, h1, h2⟩ := ha.two_inv
  exact ⟨b, o, c, d1, d2, _, h1, h2, rfl⟩
set_option maxRecDepth 100000 in
set_option maxHeartbeats 8000000 in
theorem law_spec0 (s : List UInt8) : VCall C intr0 F.modcertlaw05_ParserAscribes [strV s] [] fun r _ => r = .ret (boolV true) := by
 obtain ⟨t, off, e, hp⟩ : ∃ t off e, parseF s = (t, off, e) := ⟨_, _, _, rfl⟩
 refine VCall.b1 nofz (fun _ => rfl) ?_
 refine VCall.intrinsic (args := []) (x := .bool true) rfl rfl ?_
 refine vci (fun h1 => ?_) (fun h1 => ?_)
 ·repeat (change vcond _ _ _; first | refine vcp (by with_reducible exact h1) ?_)
  exact VUpd.now rfl rfl
 ·repeat (change vcond _ _ _; first | refine vcn (by with_reducible exact h1) ?_)
  have hs : s.length <= 500 := dnlt (a := 500) h1
  refine ptype_spec s (fun r hr => ?_)
  unfold typeP at hr
  rw [hp] at hr
  obtain ⟨d, hd, rfl⟩ := hr
  have hd : TyD t d := hd
  obtain ⟨k, m, nm, a, f, rfl⟩ := hd.five
  by_cases he : e = 0
  ·subst he
   obtain ⟨ts0, hsrc⟩ := srcOk_of hs hp
   have hsz := hsrc.size
   refine rdepth_spec _ t _ (by omega) (Nat.le_refl _) hd ?_
   refine vci (fun h2 => ?_) (fun h2 => ?_)
   ·repeat (change vcond _ _ _; first | refine vcp (by with_reducible exact h2) ?_)
    refine VUpd.drop 0 ?_ ?_ ?_ ?_
    iterate 3 exact rfl
    exact VUpd.now rfl rfl
   ·repeat (change vcond _ _ _; first | refine vcn (by with_reducible exact h2) ?_)
    have hdp : tdepth t < 32 := dnle (a := 32) h2
    obtain ⟨tsE, qE, xE, hq, hz, hgE⟩ := srcE_ok hsrc
    obtain ⟨tsM, qM, xM, hgM⟩ := srcM_ok hsrc
    refine vni (show 5 + s.length <= 1099511627776 by omega) ?_
    refine vni (by rw [List.length_append]; show 5 + s.length + 2 <= 1099511627776; omega) ?_
    refine pexpr_spec xE hq hz hgE hsrc.all hsrc.size hsrc.bad (fun r hr => ?_)
    obtain ⟨b1, c1, b2, c2, dE, hdE, rfl⟩ := hr
    obtain ⟨kE, mE, nmE, aE, fE, rfl⟩ := hdE.five
    refine vni (show 19 + s.length <= 1099511627776 by omega) ?_
    refine vni (by rw [List.length_append]; show 19 + s.length + 4 <= 1099511627776; omega) ?_
    refine pmodule_spec xM hgM hsrc.all hsrc.size hsrc.bad (fun r hr => ?_)
    obtain ⟨b3, dM, hdM, rfl⟩ := hr
    obtain ⟨kM, mM, nmM, aM, fM, rfl⟩ := hdM.five
    refine vni (show 7 + s.length <= 1099511627776 by omega) ?_
    refine vni (by rw [List.length_append]; show 7 + s.length + 2 <= 1099511627776; omega) ?_
    refine ptype_spec _ (fun r hr => ?_)
    have es : ([78, 91, 105, 110, 116, 44, 32] ++ s) ++ [10, 93] = srcT s := by simp [srcT]
    have hr : typeP (srcT s) r := es ▸ hr
    unfold typeP at hr
    rw [parse_srcT hsrc hdp] at hr
    obtain ⟨d3, hd3, rfl⟩ := hr
    obtain ⟨b4, o4, c4, dI, dT, fT, hdI, hdT, rfl⟩ := refT_D hd3
    obtain ⟨kI, mI, nmI, aI, fI, rfl⟩ := hdI.five
    obtain ⟨kT, mT, nmT, aT, fT2, rfl⟩ := hdT.five
    refine vnf rfl ?_
    refine exf _ rfl ?_
    repeat refine vni (by repeat' (first | exact trivial | exact rfl | refine vnf rfl ?_ | refine exf _ rfl ?_ | refine And.intro ?_ ?_)) ?_
    refine eqt_spec _ t _ _ (by omega) (Nat.le_refl _) hdE hd ?_
    repeat refine vni (by repeat' (first | exact trivial | exact rfl | refine vnf rfl ?_ | refine exf _ rfl ?_ | refine And.intro ?_ ?_)) ?_
    refine vnf rfl ?_
    refine exf _ rfl ?_
    repeat refine vni (by repeat' (first | exact trivial | exact rfl | refine vnf rfl ?_ | refine exf _ rfl ?_ | refine And.intro ?_ ?_)) ?_
    refine eqt_spec _ t _ _ (by omega) (Nat.le_refl _) hdM hd ?_
    repeat refine vni (by repeat' (first | exact trivial | exact rfl | refine vnf rfl ?_ | refine exf _ rfl ?_ | refine And.intro ?_ ?_)) ?_
    refine vnf rfl ?_
    refine exf _ rfl ?_
    repeat refine vni (by repeat' (first | exact trivial | exact rfl | refine vnf rfl ?_ | refine exf _ rfl ?_ | refine And.intro ?_ ?_)) ?_
    refine eqt_spec _ t _ _ (by omega) (Nat.le_refl _) hdT hd ?_
    repeat refine vni (by repeat' (first | exact trivial | exact rfl | refine vnf rfl ?_ | refine exf _ rfl ?_ | refine And.intro ?_ ?_)) ?_
    refine VUpd.drop 0 ?_ ?_ ?_ ?_
    iterate 3 exact rfl
    exact VUpd.now rfl rfl
  ·have he' : (!decide (Int.ofNat e = 0)) = true := by rw [e_ne he]; rfl
   repeat (change vcond _ _ _; first | refine vcp (by with_reducible exact he') ?_)
   refine VUpd.drop 0 ?_ ?_ ?_ ?_
   iterate 3 exact rfl
   exact VUpd.now rfl rfl
end Go.Proofs.YthfehkcfhiilfaaGreatDoor
