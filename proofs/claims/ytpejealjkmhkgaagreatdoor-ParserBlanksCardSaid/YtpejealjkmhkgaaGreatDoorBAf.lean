/- Part of the proof. -/
import Derived.Test.YtpejealjkmhkgaaGreatDoorBAc
import Derived.Lib.ParseIntB
import Derived.Test.YtpejealjkmhkgaaGreatDoorRows
set_option linter.all false
set_option maxHeartbeats 16000000
set_option maxRecDepth 100000
open Nat renaming beq->agj
namespace Go.Proofs.YtpejealjkmhkgaaGreatDoor
open Go.AM Go.Proofs.Tryz
noncomputable def adI(b c:TypeInfo):TI:={desc:=c.desc,size:=b.size,agg:=(match c.desc with|.struct _=>true|.array _ _=>true|_=>false),zero:=(match b.zero with|some d=>cellsOf d|none=>[]),bytes:=b.bytes}
noncomputable def Wb(f:Func):FI:={nt:=f.ntmps,body:=(match f.body with|some b=>b|none=>.skip),VE:=f.results.toList}
noncomputable abbrev tn(d b:TypeInfo)(l c:Tr TI):Tr TI:=.node (some (adI d b)) l c
noncomputable abbrev fn(f:Func)(l b:Tr FI):Tr FI:=.node (some (Wb f)) l b
noncomputable abbrev en(b:TypeInfo)(l c:Tr TI):Tr TI:=tn b b l c
noncomputable abbrev P2(c b:TypeInfo):Tr TI:=tn c b .nil .nil
noncomputable abbrev gp(b:TypeInfo):Tr TI:=tn b b .nil .nil
noncomputable abbrev gX(f:Func):Tr FI:=fn f .nil .nil
noncomputable def tt:Tr TI:=(.node none (en t1 (en t3 (en t7 (en t15 (en t31 (en t63 (tn t127 t126 (.node none .nil .nil) .nil) (en t191 (P2 t319 t21) .nil)) (en t95 (en t159 (gp t287) .nil) (gp t223))) (en t47 (en t79 (en t143 (gp t271) .nil) (gp t207)) (en t111 (en t175 (gp t303) .nil) (gp t239)))) (en t23 (en t39 (en t71 (.node none (gp t263) .nil) (.node none .nil .nil)) (en t103 (en t167 (gp t295) .nil) (gp t231))) (en t55 (tn t87 t86 (.node none (gp t279) .nil) (gp t215)) (en t119 (en t183 (gp t311) .nil) (gp t247))))) (tn t11 t9 (tn t19 t18 (tn t35 t34 (en t67 (en t131 (gp t259) .nil) (gp t195)) (en t99 (en t163 (gp t291) .nil) (gp t227))) (en t51 (.node none (en t147 (gp t275) .nil) (.node none .nil .nil)) (en t115 (.node none (gp t307) .nil) (.node none .nil .nil)))) (tn t27 t3 (en t43 (en t75 (.node none (gp t267) .nil) (gp t203)) (en t107 (en t171 (gp t299) .nil) (gp t235))) (.node none (en t91 (tn t155 t154 (gp t283) .nil) (gp t219)) (en t123 (en t187 (P2 t315 t314) .nil) (gp t251)))))) (en t5 (en t9 (en t17 (en t33 (en t65 (en t129 (.node none .nil .nil) .nil) (en t193 (gp t321) .nil)) (en t97 (tn t161 t160 (gp t289) .nil) (gp t225))) (en t49 (tn t81 t80 (en t145 (.node none .nil .nil) .nil) (gp t209)) (.node none (.node none (gp t305) .nil) (gp t241)))) (en t25 (tn t41 t40 (en t73 (.node none (gp t265) .nil) (gp t201)) (en t105 (tn t169 t168 (gp t297) .nil) (gp t233))) (en t57 (en t89 (en t153 (gp t281) .nil) (gp t217)) (tn t121 t120 (en t185 (gp t313) .nil) (gp t249))))) (en t13 (en t21 (en t37 (en t69 (en t133 (.node none .nil .nil) .nil) (gp t197)) (en t101 (en t165 (gp t293) .nil) (gp t229))) (en t53 (en t85 (en t149 (.node none .nil .nil) .nil) (gp t213)) (en t117 (.node none (gp t309) .nil) (gp t245)))) (en t29 (en t45 (en t77 (en t141 (gp t269) .nil) (P2 t205 t204)) (en t109 (en t173 (.node none .nil .nil) .nil) (gp t237))) (.node none (en t93 (en t157 (gp t285) .nil) (gp t221)) (.node none (en t189 (P2 t317 t5) .nil) (gp t253))))))) (en t2 (en t4 (tn t8 t7 (en t16 (en t32 (en t64 (en t128 (gp t256) .nil) (en t192 (P2 t320 t21) .nil)) (en t96 (en t160 (gp t288) .nil) (gp t224))) (.node none (en t80 (en t144 (gp t272) .nil) (gp t208)) (tn t112 t111 (en t176 (gp t304) .nil) (gp t240)))) (en t24 (en t40 (en t72 (en t136 (gp t264) .nil) (gp t200)) (en t104 (en t168 (P2 t296 t295) .nil) (gp t232))) (en t56 (.node none (en t152 (gp t280) .nil) (gp t216)) (en t120 (en t184 (P2 t312 t311) .nil) (gp t248))))) (en t12 (en t20 (.node none (en t68 (en t132 (gp t260) .nil) (gp t196)) (en t100 (en t164 (P2 t292 t291) .nil) (gp t228))) (tn t52 t51 (en t84 (tn t148 t147 (gp t276) .nil) (gp t212)) (en t116 (en t180 (gp t308) .nil) (gp t244)))) (.node none (en t44 (.node none (en t140 (gp t268) .nil) (gp t204)) (en t108 (en t172 (gp t300) .nil) (gp t236))) (en t60 (en t92 (en t156 (gp t284) .nil) (gp t220)) (tn t124 t123 (en t188 (P2 t316 t5) .nil) (gp t252)))))) (tn t6 t5 (tn t10 t9 (en t18 (en t34 (tn t66 t65 (en t130 (gp t258) .nil) (tn t194 t193 (P2 t322 t321) .nil)) (en t98 (en t162 (gp t290) .nil) (gp t226))) (en t50 (en t82 (en t146 (gp t274) .nil) (gp t210)) (en t114 (en t178 (gp t306) .nil) (gp t242)))) (tn t26 t25 (.node none (tn t74 t73 (en t138 (gp t266) .nil) (gp t202)) (.node none (en t170 (gp t298) .nil) (gp t234))) (en t58 (en t90 (en t154 (P2 t282 t281) .nil) (gp t218)) (en t122 (en t186 (gp t314) .nil) (gp t250))))) (tn t14 t13 (en t22 (en t38 (.node none (en t134 (gp t262) .nil) (P2 t198 t197)) (en t102 (en t166 (gp t294) .nil) (gp t230))) (.node none (en t86 (en t150 (gp t278) .nil) (gp t214)) (en t118 (en t182 (gp t310) .nil) (gp t246)))) (en t30 (en t46 (en t78 (en t142 (gp t270) .nil) (.node none .nil .nil)) (tn t110 t109 (en t174 (gp t302) .nil) (gp t238))) (en t62 (en t94 (en t158 (P2 t286 t3) .nil) (gp t222)) (en t126 (en t190 (gp t318) .nil) (gp t254))))))))
noncomputable def ff:Tr FI:=(.node none (.node none (fn f3 (fn f7 (fn f15 (fn f31 (fn f63 (fn f127 (gX f255) .nil) (fn f191 (gX f319) .nil)) (fn f95 (fn f159 (.node none .nil .nil) .nil) (fn f223 (.node none .nil .nil) .nil))) (fn f47 (fn f79 (fn f143 (gX f271) .nil) (fn f207 (.node none .nil .nil) .nil)) (fn f111 (fn f175 (gX f303) .nil) (gX f239)))) (fn f23 (fn f39 (fn f71 (fn f135 (gX f263) .nil) (fn f199 (.node none .nil .nil) .nil)) (fn f103 (fn f167 (gX f295) .nil) (gX f231))) (fn f55 (fn f87 (fn f151 (gX f279) .nil) (fn f215 (.node none .nil .nil) .nil)) (fn f119 (fn f183 (gX f311) .nil) (gX f247))))) (fn f11 (fn f19 (fn f35 (fn f67 (fn f131 (.node none .nil .nil) .nil) (fn f195 (.node none .nil .nil) .nil)) (fn f99 (fn f163 (gX f291) .nil) (gX f227))) (fn f51 (fn f83 (fn f147 (gX f275) .nil) (fn f211 (.node none .nil .nil) .nil)) (fn f115 (fn f179 (gX f307) .nil) (gX f243)))) (fn f27 (fn f43 (fn f75 (fn f139 (gX f267) .nil) (fn f203 (.node none .nil .nil) .nil)) (fn f107 (fn f171 (gX f299) .nil) (gX f235))) (fn f59 (fn f91 (fn f155 (gX f283) .nil) (fn f219 (.node none .nil .nil) .nil)) (fn f123 (fn f187 (gX f315) .nil) (gX f251)))))) (fn f5 (fn f9 (fn f17 (fn f33 (fn f65 (fn f129 (gX f257) .nil) (fn f193 (gX f321) .nil)) (fn f97 (fn f161 (gX f289) .nil) (gX f225))) (fn f49 (fn f81 (fn f145 (.node none .nil .nil) .nil) (fn f209 (.node none .nil .nil) .nil)) (fn f113 (fn f177 (gX f305) .nil) (gX f241)))) (fn f25 (fn f41 (fn f73 (fn f137 (gX f265) .nil) (fn f201 (.node none .nil .nil) .nil)) (fn f105 (fn f169 (gX f297) .nil) (gX f233))) (fn f57 (fn f89 (fn f153 (gX f281) .nil) (fn f217 (.node none .nil .nil) .nil)) (fn f121 (fn f185 (gX f313) .nil) (gX f249))))) (fn f13 (fn f21 (fn f37 (fn f69 (fn f133 (gX f261) .nil) (fn f197 (.node none .nil .nil) .nil)) (fn f101 (fn f165 (gX f293) .nil) (gX f229))) (fn f53 (fn f85 (fn f149 (gX f277) .nil) (fn f213 (.node none .nil .nil) .nil)) (fn f117 (fn f181 (gX f309) .nil) (gX f245)))) (fn f29 (fn f45 (fn f77 (fn f141 (gX f269) .nil) (fn f205 (.node none .nil .nil) .nil)) (fn f109 (fn f173 (gX f301) .nil) (gX f237))) (fn f61 (fn f93 (fn f157 (gX f285) .nil) (fn f221 (.node none .nil .nil) .nil)) (fn f125 (fn f189 (gX f317) .nil) (gX f253))))))) (fn f2 (fn f4 (fn f8 (fn f16 (fn f32 (fn f64 (fn f128 (gX f256) .nil) (fn f192 (gX f320) .nil)) (fn f96 (fn f160 (gX f288) .nil) (fn f224 (gX f352) .nil))) (fn f48 (fn f80 (fn f144 (gX f272) .nil) (fn f208 (.node none .nil .nil) .nil)) (fn f112 (fn f176 (gX f304) .nil) (gX f240)))) (fn f24 (fn f40 (fn f72 (fn f136 (gX f264) .nil) (fn f200 (.node none .nil .nil) .nil)) (fn f104 (fn f168 (gX f296) .nil) (.node none .nil .nil))) (fn f56 (fn f88 (fn f152 (gX f280) .nil) (fn f216 (.node none .nil .nil) .nil)) (fn f120 (fn f184 (gX f312) .nil) (gX f248))))) (fn f12 (fn f20 (fn f36 (fn f68 (fn f132 (gX f260) .nil) (fn f196 (.node none .nil .nil) .nil)) (fn f100 (fn f164 (gX f292) .nil) (gX f228))) (fn f52 (fn f84 (fn f148 (gX f276) .nil) (fn f212 (.node none .nil .nil) .nil)) (fn f116 (fn f180 (gX f308) .nil) (gX f244)))) (fn f28 (fn f44 (fn f76 (fn f140 (gX f268) .nil) (fn f204 (.node none .nil .nil) .nil)) (fn f108 (fn f172 (gX f300) .nil) (gX f236))) (fn f60 (fn f92 (fn f156 (gX f284) .nil) (fn f220 (.node none .nil .nil) .nil)) (fn f124 (fn f188 (gX f316) .nil) (gX f252)))))) (fn f6 (fn f10 (fn f18 (fn f34 (fn f66 (fn f130 (gX f258) .nil) (fn f194 (gX f322) .nil)) (fn f98 (fn f162 (gX f290) .nil) (gX f226))) (fn f50 (fn f82 (fn f146 (gX f274) .nil) (fn f210 (.node none .nil .nil) .nil)) (fn f114 (fn f178 (gX f306) .nil) (gX f242)))) (fn f26 (fn f42 (fn f74 (fn f138 (gX f266) .nil) (fn f202 (.node none .nil .nil) .nil)) (fn f106 (fn f170 (gX f298) .nil) (gX f234))) (fn f58 (fn f90 (fn f154 (gX f282) .nil) (fn f218 (.node none .nil .nil) .nil)) (fn f122 (.node none (gX f314) .nil) (gX f250))))) (fn f14 (fn f22 (fn f38 (fn f70 (fn f134 (gX f262) .nil) (fn f198 (.node none .nil .nil) .nil)) (fn f102 (fn f166 (gX f294) .nil) (gX f230))) (fn f54 (fn f86 (fn f150 (gX f278) .nil) (fn f214 (.node none .nil .nil) .nil)) (fn f118 (fn f182 (gX f310) .nil) (gX f246)))) (fn f30 (fn f46 (fn f78 (fn f142 (gX f270) .nil) (fn f206 (.node none .nil .nil) .nil)) (fn f110 (fn f174 (gX f302) .nil) (gX f238))) (fn f62 (fn f94 (fn f158 (gX f286) .nil) (fn f222 (.node none .nil .nil) .nil)) (fn f126 (fn f190 (gX f318) .nil) (gX f254))))))))
noncomputable def ext(f:FuncId)(b:List Value):Option Value:=
 match b with
 |[.string d,.int .u8 (.ofNat c)]=>match Nat.blt c 256 with
  |false=>none
  |true=>match agj f 259 with
   |true=>some (.int .i64 (indexByte d.data.toList c 0))
   |false=>match agj f 287 with
    |true=>some (.int .i64 (.ofNat (countB c d.data.toList)))
    |false=>none
 |[.string g,.string e]=>match agj f 273 with
  |true=>some (.int .i64 (yw g.data.toList e.data.toList))
  |false=>none
 |_=>none
noncomputable def JC(f:FuncId)(b:List Value):Option Value:=
 match agj f 45 with
 |false=>none
 |true=>match b with
  |[.string c,.string d]=>match Nat.blt c.data.toList.length 4294967281 with
   |true=>some (.bool (mQ d.data.toList c.data.toList))
   |false=>none
  |_=>none
noncomputable def ca(f:FuncId)(b:List Value):Option Value:=
 match agj f 7 with
 |false=>match agj f 293 with
  |false=>JC f b
  |true=>match b with
   |[.string c,.int .i64 (.ofNat 10),.int .i64 (.ofNat 64)]=>match Nat.blt c.data.toList.length 281474976710656 with
    |true=>match Lib.parseUintB 64 c.data.toList with
     |.ok d=>some (.tuple ⟨[.int .u64 (.ofNat d),.nilIface]⟩)
     |_=>none
    |false=>none
   |_=>none
 |true=>match b with
  |[]=>some (.bool true)
  |_=>none
noncomputable def C:dR:={P:=Tryz.prog,tt:=tt,ff:=ff,ext:=ext,bt:=110,be:=5,prm:=Qr 110 5 57 58 60}
def st0:St:=⟨.nil,0,.nil⟩
def isTrue:Option (CR×dW×St)->Bool
 |some (.ret (.bool true),_,_)=>true
 |_=>false
def FnP(f:Nat)(b:FI):Prop:=∃fn,Tryz.prog.funcs[f]?=some fn/\b=Wb fn/\fn.body.isSome=true/\(fn.name== "runtime.NumGoroutine")=false
def TyP(t:Nat)(b:TI):Prop:=∃c d,Tryz.prog.underlying t=some b.desc/\Tryz.prog.types[t]?=some c/\c.size=b.size/\c.bytes=b.bytes/\c.zero=some d/\Gq b d/\b.agg=Lp b.desc/\b.zero.length=b.size/\b.zero.all flat=true
theorem fE{f:Nat}{b:FI}{fn:Func}(d:b=Wb fn:=by exact rfl)(g:Tryz.prog.funcs[f]?=some fn:=by exact rfl)(c:fn.body.isSome=true:=by exact rfl)(e:(fn.name== "runtime.NumGoroutine")=false:=by exact dc):FnP f b:=⟨fn,g,d,c,e⟩
variable{a:TypeInfo}
theorem tE{t:Nat}{b:TI}{d:Value}(h:Tryz.prog.types[t]?=some a:=by exact rfl)(l:Tryz.prog.underlying t=some b.desc:=by exact rfl)(f:a.size=b.size:=by exact rfl)(k:a.bytes=b.bytes:=by exact rfl)(g:a.zero=some d:=by exact rfl)(j:Gq b d:=by first|exact .inl ⟨rfl,rfl⟩|exact .inr ⟨rfl,rfl,rfl⟩)(c:b.agg=Lp b.desc:=by exact rfl)(i:b.zero.length=b.size:=by exact rfl)(e:b.zero.all flat=true:=by exact rfl):TyP t b:=⟨a,d,l,h,f,k,g,j,c,i,e⟩
theorem aaL:qB FnP 1 0 ff:=by
 repeat' first|exact tv|exact fE|refine And.intro ?_ ?_
theorem aaM:qB TyP 1 0 tt:=by
 repeat' first|exact tv|exact tE|refine And.intro ?_ ?_
theorem Wc{c:Program}{t:TypeId}(b:c.types[t]?=some a):c.info? t=some a:=by
 unfold Tables.info?;rw[if_pos (Array.getElem?_eq_some_iff.1 b).1];exact b
theorem tok:nQ C:=by
 refine⟨fun d b c=>?_,fun d b c=>?_,fun d b c=>?_,fun d b c=>?_,fun d b c=>?_⟩;all_goals obtain⟨o,n,j,h,m,i,l,e,k,g,f⟩:=aaM.get c
 ·exact j
 ·exact⟨o,n,Wc h,m,i,l,e⟩
 ·exact k
 ·exact g
 ·exact f
theorem fok:Fm C:=by
 refine⟨fun h g f=>?_⟩;obtain⟨fn,c,rfl,b,d⟩:=aaL.get f;refine⟨fn,c,?_,Z,Z,d⟩;unfold Wb;cases e:fn.body with
 |none=>rw[e]at b;cases b
 |some i=>rfl
noncomputable def Td:Tr FI->Bool
 |.nil=>true
 |.node d c e=>(match d with|some b=>codeOk b.body|none=>true)&&Td c&&Td e
theorem Wd:Td ff=true:=by kernel_rfl
theorem P3:∀(h:Tr FI) (c b:Nat),Td h=true->qB (fun _ g=>codeOk g.body=true) c b h:=by
 intro h;induction h with
 |nil=>intro c b e;trivial
 |node i k j f d=>
  intro c b e;simp only[Td,Bool.and_eq_true]at e;refine⟨?_,f _ _ e.1.2,d _ _ e.2⟩;cases i with
  |none=>trivial
  |some g=>exact e.1.1
theorem Te(f:FuncId)(b:FI)(c:C.ff.get f=some b):codeOk b.body=true:=(P3 ff 1 0 Wd).get c
end Go.Proofs.YtpejealjkmhkgaaGreatDoor
