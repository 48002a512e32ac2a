/- Part of the proof. -/
import Derived.Test.YtpejealjkmhkgaaGreatDoorKAk
import Derived.Lib.ParseIntB
import Derived.Test.YtpejealjkmhkgaaGreatDoorRows
set_option linter.all false
set_option maxHeartbeats 16000000
set_option maxRecDepth 100000
open Nat renaming beq->YL
namespace Go.Proofs.YtpejealjkmhkgaaGreatDoor
open Go.AM Go.Proofs.Tryz
noncomputable def W6(b c:TypeInfo):TI:={desc:=c.desc,size:=b.size,agg:=(match c.desc with|.struct _=>true|.array _ _=>true|_=>false),zero:=(match b.zero with|some d=>cellsOf d|none=>[]),bytes:=b.bytes}
noncomputable def RS(f:Func):FI:={nt:=f.ntmps,body:=(match f.body with|some b=>b|none=>.skip),Ro:=f.results.toList}
noncomputable abbrev tn(d b:TypeInfo)(l c:Tr TI):Tr TI:=.node (some (W6 d b)) l c
noncomputable abbrev fn(f:Func)(l b:Tr FI):Tr FI:=.node (some (RS f)) l b
noncomputable def tt:Tr TI:=(.node none (tn t1 t1 (tn t3 t3 (tn t7 t7 (tn t15 t15 (tn t31 t31 (tn t63 t63 (tn t127 t126 (.node none .nil .nil) .nil) (tn t191 t191 (tn t319 t21 .nil .nil) .nil)) (tn t95 t95 (tn t159 t159 (tn t287 t287 .nil .nil) .nil) (tn t223 t223 .nil .nil))) (tn t47 t47 (tn t79 t79 (tn t143 t143 (tn t271 t271 .nil .nil) .nil) (tn t207 t207 .nil .nil)) (tn t111 t111 (tn t175 t175 (tn t303 t303 .nil .nil) .nil) (tn t239 t239 .nil .nil)))) (tn t23 t23 (tn t39 t39 (tn t71 t71 (.node none (tn t263 t263 .nil .nil) .nil) (.node none .nil .nil)) (tn t103 t103 (tn t167 t167 (tn t295 t295 .nil .nil) .nil) (tn t231 t231 .nil .nil))) (tn t55 t55 (tn t87 t86 (.node none (tn t279 t279 .nil .nil) .nil) (tn t215 t215 .nil .nil)) (tn t119 t119 (tn t183 t183 (tn t311 t311 .nil .nil) .nil) (tn t247 t247 .nil .nil))))) (tn t11 t9 (tn t19 t18 (tn t35 t34 (tn t67 t67 (tn t131 t131 (tn t259 t259 .nil .nil) .nil) (tn t195 t195 .nil .nil)) (tn t99 t99 (tn t163 t163 (tn t291 t291 .nil .nil) .nil) (tn t227 t227 .nil .nil))) (tn t51 t51 (.node none (tn t147 t147 (tn t275 t275 .nil .nil) .nil) (.node none .nil .nil)) (tn t115 t115 (.node none (tn t307 t307 .nil .nil) .nil) (.node none .nil .nil)))) (tn t27 t3 (tn t43 t43 (tn t75 t75 (.node none (tn t267 t267 .nil .nil) .nil) (tn t203 t203 .nil .nil)) (tn t107 t107 (tn t171 t171 (tn t299 t299 .nil .nil) .nil) (tn t235 t235 .nil .nil))) (.node none (tn t91 t91 (tn t155 t154 (tn t283 t283 .nil .nil) .nil) (tn t219 t219 .nil .nil)) (tn t123 t123 (tn t187 t187 (tn t315 t314 .nil .nil) .nil) (tn t251 t251 .nil .nil)))))) (tn t5 t5 (tn t9 t9 (tn t17 t17 (tn t33 t33 (tn t65 t65 (tn t129 t129 (.node none .nil .nil) .nil) (tn t193 t193 (tn t321 t321 .nil .nil) .nil)) (tn t97 t97 (tn t161 t160 (tn t289 t289 .nil .nil) .nil) (tn t225 t225 .nil .nil))) (tn t49 t49 (tn t81 t80 (tn t145 t145 (.node none .nil .nil) .nil) (tn t209 t209 .nil .nil)) (.node none (.node none (tn t305 t305 .nil .nil) .nil) (tn t241 t241 .nil .nil)))) (tn t25 t25 (tn t41 t40 (tn t73 t73 (.node none (tn t265 t265 .nil .nil) .nil) (tn t201 t201 .nil .nil)) (tn t105 t105 (tn t169 t168 (tn t297 t297 .nil .nil) .nil) (tn t233 t233 .nil .nil))) (tn t57 t57 (tn t89 t89 (tn t153 t153 (tn t281 t281 .nil .nil) .nil) (tn t217 t217 .nil .nil)) (tn t121 t120 (tn t185 t185 (tn t313 t313 .nil .nil) .nil) (tn t249 t249 .nil .nil))))) (tn t13 t13 (tn t21 t21 (tn t37 t37 (tn t69 t69 (tn t133 t133 (.node none .nil .nil) .nil) (tn t197 t197 .nil .nil)) (tn t101 t101 (tn t165 t165 (tn t293 t293 .nil .nil) .nil) (tn t229 t229 .nil .nil))) (tn t53 t53 (tn t85 t85 (tn t149 t149 (.node none .nil .nil) .nil) (tn t213 t213 .nil .nil)) (tn t117 t117 (.node none (tn t309 t309 .nil .nil) .nil) (tn t245 t245 .nil .nil)))) (tn t29 t29 (tn t45 t45 (tn t77 t77 (tn t141 t141 (tn t269 t269 .nil .nil) .nil) (tn t205 t204 .nil .nil)) (tn t109 t109 (tn t173 t173 (.node none .nil .nil) .nil) (tn t237 t237 .nil .nil))) (.node none (tn t93 t93 (tn t157 t157 (tn t285 t285 .nil .nil) .nil) (tn t221 t221 .nil .nil)) (.node none (tn t189 t189 (tn t317 t5 .nil .nil) .nil) (tn t253 t253 .nil .nil))))))) (tn t2 t2 (tn t4 t4 (tn t8 t7 (tn t16 t16 (tn t32 t32 (tn t64 t64 (tn t128 t128 (tn t256 t256 .nil .nil) .nil) (tn t192 t192 (tn t320 t21 .nil .nil) .nil)) (tn t96 t96 (tn t160 t160 (tn t288 t288 .nil .nil) .nil) (tn t224 t224 .nil .nil))) (.node none (tn t80 t80 (tn t144 t144 (tn t272 t272 .nil .nil) .nil) (tn t208 t208 .nil .nil)) (tn t112 t111 (tn t176 t176 (tn t304 t304 .nil .nil) .nil) (tn t240 t240 .nil .nil)))) (tn t24 t24 (tn t40 t40 (tn t72 t72 (tn t136 t136 (tn t264 t264 .nil .nil) .nil) (tn t200 t200 .nil .nil)) (tn t104 t104 (tn t168 t168 (tn t296 t295 .nil .nil) .nil) (tn t232 t232 .nil .nil))) (tn t56 t56 (.node none (tn t152 t152 (tn t280 t280 .nil .nil) .nil) (tn t216 t216 .nil .nil)) (tn t120 t120 (tn t184 t184 (tn t312 t311 .nil .nil) .nil) (tn t248 t248 .nil .nil))))) (tn t12 t12 (tn t20 t20 (.node none (tn t68 t68 (tn t132 t132 (tn t260 t260 .nil .nil) .nil) (tn t196 t196 .nil .nil)) (tn t100 t100 (tn t164 t164 (tn t292 t291 .nil .nil) .nil) (tn t228 t228 .nil .nil))) (tn t52 t51 (tn t84 t84 (tn t148 t147 (tn t276 t276 .nil .nil) .nil) (tn t212 t212 .nil .nil)) (tn t116 t116 (tn t180 t180 (tn t308 t308 .nil .nil) .nil) (tn t244 t244 .nil .nil)))) (.node none (tn t44 t44 (.node none (tn t140 t140 (tn t268 t268 .nil .nil) .nil) (tn t204 t204 .nil .nil)) (tn t108 t108 (tn t172 t172 (tn t300 t300 .nil .nil) .nil) (tn t236 t236 .nil .nil))) (tn t60 t60 (tn t92 t92 (tn t156 t156 (tn t284 t284 .nil .nil) .nil) (tn t220 t220 .nil .nil)) (tn t124 t123 (tn t188 t188 (tn t316 t5 .nil .nil) .nil) (tn t252 t252 .nil .nil)))))) (tn t6 t5 (tn t10 t9 (tn t18 t18 (tn t34 t34 (tn t66 t65 (tn t130 t130 (tn t258 t258 .nil .nil) .nil) (tn t194 t193 (tn t322 t321 .nil .nil) .nil)) (tn t98 t98 (tn t162 t162 (tn t290 t290 .nil .nil) .nil) (tn t226 t226 .nil .nil))) (tn t50 t50 (tn t82 t82 (tn t146 t146 (tn t274 t274 .nil .nil) .nil) (tn t210 t210 .nil .nil)) (tn t114 t114 (tn t178 t178 (tn t306 t306 .nil .nil) .nil) (tn t242 t242 .nil .nil)))) (tn t26 t25 (.node none (tn t74 t73 (tn t138 t138 (tn t266 t266 .nil .nil) .nil) (tn t202 t202 .nil .nil)) (.node none (tn t170 t170 (tn t298 t298 .nil .nil) .nil) (tn t234 t234 .nil .nil))) (tn t58 t58 (tn t90 t90 (tn t154 t154 (tn t282 t281 .nil .nil) .nil) (tn t218 t218 .nil .nil)) (tn t122 t122 (tn t186 t186 (tn t314 t314 .nil .nil) .nil) (tn t250 t250 .nil .nil))))) (tn t14 t13 (tn t22 t22 (tn t38 t38 (.node none (tn t134 t134 (tn t262 t262 .nil .nil) .nil) (tn t198 t197 .nil .nil)) (tn t102 t102 (tn t166 t166 (tn t294 t294 .nil .nil) .nil) (tn t230 t230 .nil .nil))) (.node none (tn t86 t86 (tn t150 t150 (tn t278 t278 .nil .nil) .nil) (tn t214 t214 .nil .nil)) (tn t118 t118 (tn t182 t182 (tn t310 t310 .nil .nil) .nil) (tn t246 t246 .nil .nil)))) (tn t30 t30 (tn t46 t46 (tn t78 t78 (tn t142 t142 (tn t270 t270 .nil .nil) .nil) (.node none .nil .nil)) (tn t110 t109 (tn t174 t174 (tn t302 t302 .nil .nil) .nil) (tn t238 t238 .nil .nil))) (tn t62 t62 (tn t94 t94 (tn t158 t158 (tn t286 t3 .nil .nil) .nil) (tn t222 t222 .nil .nil)) (tn t126 t126 (tn t190 t190 (tn t318 t318 .nil .nil) .nil) (tn t254 t254 .nil .nil))))))))
noncomputable def ff:Tr FI:=(.node none (.node none (fn f3 (fn f7 (fn f15 (fn f31 (fn f63 (fn f127 (fn f255 .nil .nil) .nil) (fn f191 (fn f319 .nil .nil) .nil)) (fn f95 (fn f159 (.node none .nil .nil) .nil) (fn f223 (.node none .nil .nil) .nil))) (fn f47 (fn f79 (fn f143 (fn f271 .nil .nil) .nil) (fn f207 (.node none .nil .nil) .nil)) (fn f111 (fn f175 (fn f303 .nil .nil) .nil) (fn f239 .nil .nil)))) (fn f23 (fn f39 (fn f71 (fn f135 (fn f263 .nil .nil) .nil) (fn f199 (.node none .nil .nil) .nil)) (fn f103 (fn f167 (fn f295 .nil .nil) .nil) (fn f231 .nil .nil))) (fn f55 (fn f87 (fn f151 (fn f279 .nil .nil) .nil) (fn f215 (.node none .nil .nil) .nil)) (fn f119 (fn f183 (fn f311 .nil .nil) .nil) (fn f247 .nil .nil))))) (fn f11 (fn f19 (fn f35 (fn f67 (fn f131 (.node none .nil .nil) .nil) (fn f195 (.node none .nil .nil) .nil)) (fn f99 (fn f163 (fn f291 .nil .nil) .nil) (fn f227 .nil .nil))) (fn f51 (fn f83 (fn f147 (fn f275 .nil .nil) .nil) (fn f211 (.node none .nil .nil) .nil)) (fn f115 (fn f179 (fn f307 .nil .nil) .nil) (fn f243 .nil .nil)))) (fn f27 (fn f43 (fn f75 (fn f139 (fn f267 .nil .nil) .nil) (fn f203 (.node none .nil .nil) .nil)) (fn f107 (fn f171 (fn f299 .nil .nil) .nil) (fn f235 .nil .nil))) (fn f59 (fn f91 (fn f155 (fn f283 .nil .nil) .nil) (fn f219 (.node none .nil .nil) .nil)) (fn f123 (fn f187 (fn f315 .nil .nil) .nil) (fn f251 .nil .nil)))))) (fn f5 (fn f9 (fn f17 (fn f33 (fn f65 (fn f129 (fn f257 .nil .nil) .nil) (fn f193 (fn f321 .nil .nil) .nil)) (fn f97 (fn f161 (fn f289 .nil .nil) .nil) (fn f225 .nil .nil))) (fn f49 (fn f81 (fn f145 (.node none .nil .nil) .nil) (fn f209 (.node none .nil .nil) .nil)) (fn f113 (fn f177 (fn f305 .nil .nil) .nil) (fn f241 .nil .nil)))) (fn f25 (fn f41 (fn f73 (fn f137 (fn f265 .nil .nil) .nil) (fn f201 (.node none .nil .nil) .nil)) (fn f105 (fn f169 (fn f297 .nil .nil) .nil) (fn f233 .nil .nil))) (fn f57 (fn f89 (fn f153 (fn f281 .nil .nil) .nil) (fn f217 (.node none .nil .nil) .nil)) (fn f121 (fn f185 (fn f313 .nil .nil) .nil) (fn f249 .nil .nil))))) (fn f13 (fn f21 (fn f37 (fn f69 (fn f133 (fn f261 .nil .nil) .nil) (fn f197 (.node none .nil .nil) .nil)) (fn f101 (fn f165 (fn f293 .nil .nil) .nil) (fn f229 .nil .nil))) (fn f53 (fn f85 (fn f149 (fn f277 .nil .nil) .nil) (fn f213 (.node none .nil .nil) .nil)) (fn f117 (fn f181 (fn f309 .nil .nil) .nil) (fn f245 .nil .nil)))) (fn f29 (fn f45 (fn f77 (fn f141 (fn f269 .nil .nil) .nil) (fn f205 (.node none .nil .nil) .nil)) (fn f109 (fn f173 (fn f301 .nil .nil) .nil) (fn f237 .nil .nil))) (fn f61 (fn f93 (fn f157 (fn f285 .nil .nil) .nil) (fn f221 (.node none .nil .nil) .nil)) (fn f125 (fn f189 (fn f317 .nil .nil) .nil) (fn f253 .nil .nil))))))) (fn f2 (fn f4 (fn f8 (fn f16 (fn f32 (fn f64 (fn f128 (fn f256 .nil .nil) .nil) (fn f192 (fn f320 .nil .nil) .nil)) (fn f96 (fn f160 (fn f288 .nil .nil) .nil) (fn f224 (fn f352 .nil .nil) .nil))) (fn f48 (fn f80 (fn f144 (fn f272 .nil .nil) .nil) (fn f208 (.node none .nil .nil) .nil)) (fn f112 (fn f176 (fn f304 .nil .nil) .nil) (fn f240 .nil .nil)))) (fn f24 (fn f40 (fn f72 (fn f136 (fn f264 .nil .nil) .nil) (fn f200 (.node none .nil .nil) .nil)) (fn f104 (fn f168 (fn f296 .nil .nil) .nil) (.node none .nil .nil))) (fn f56 (fn f88 (fn f152 (fn f280 .nil .nil) .nil) (fn f216 (.node none .nil .nil) .nil)) (fn f120 (fn f184 (fn f312 .nil .nil) .nil) (fn f248 .nil .nil))))) (fn f12 (fn f20 (fn f36 (fn f68 (fn f132 (fn f260 .nil .nil) .nil) (fn f196 (.node none .nil .nil) .nil)) (fn f100 (fn f164 (fn f292 .nil .nil) .nil) (fn f228 .nil .nil))) (fn f52 (fn f84 (fn f148 (fn f276 .nil .nil) .nil) (fn f212 (.node none .nil .nil) .nil)) (fn f116 (fn f180 (fn f308 .nil .nil) .nil) (fn f244 .nil .nil)))) (fn f28 (fn f44 (fn f76 (fn f140 (fn f268 .nil .nil) .nil) (fn f204 (.node none .nil .nil) .nil)) (fn f108 (fn f172 (fn f300 .nil .nil) .nil) (fn f236 .nil .nil))) (fn f60 (fn f92 (fn f156 (fn f284 .nil .nil) .nil) (fn f220 (.node none .nil .nil) .nil)) (fn f124 (fn f188 (fn f316 .nil .nil) .nil) (fn f252 .nil .nil)))))) (fn f6 (fn f10 (fn f18 (fn f34 (fn f66 (fn f130 (fn f258 .nil .nil) .nil) (fn f194 (fn f322 .nil .nil) .nil)) (fn f98 (fn f162 (fn f290 .nil .nil) .nil) (fn f226 .nil .nil))) (fn f50 (fn f82 (fn f146 (fn f274 .nil .nil) .nil) (fn f210 (.node none .nil .nil) .nil)) (fn f114 (fn f178 (fn f306 .nil .nil) .nil) (fn f242 .nil .nil)))) (fn f26 (fn f42 (fn f74 (fn f138 (fn f266 .nil .nil) .nil) (fn f202 (.node none .nil .nil) .nil)) (fn f106 (fn f170 (fn f298 .nil .nil) .nil) (fn f234 .nil .nil))) (fn f58 (fn f90 (fn f154 (fn f282 .nil .nil) .nil) (fn f218 (.node none .nil .nil) .nil)) (fn f122 (.node none (fn f314 .nil .nil) .nil) (fn f250 .nil .nil))))) (fn f14 (fn f22 (fn f38 (fn f70 (fn f134 (fn f262 .nil .nil) .nil) (fn f198 (.node none .nil .nil) .nil)) (fn f102 (fn f166 (fn f294 .nil .nil) .nil) (fn f230 .nil .nil))) (fn f54 (fn f86 (fn f150 (fn f278 .nil .nil) .nil) (fn f214 (.node none .nil .nil) .nil)) (fn f118 (fn f182 (fn f310 .nil .nil) .nil) (fn f246 .nil .nil)))) (fn f30 (fn f46 (fn f78 (fn f142 (fn f270 .nil .nil) .nil) (fn f206 (.node none .nil .nil) .nil)) (fn f110 (fn f174 (fn f302 .nil .nil) .nil) (fn f238 .nil .nil))) (fn f62 (fn f94 (fn f158 (fn f286 .nil .nil) .nil) (fn f222 (.node none .nil .nil) .nil)) (fn f126 (fn f190 (fn f318 .nil .nil) .nil) (fn f254 .nil .nil))))))))
noncomputable def ext(f:FuncId)(b:List Value):Option Value:=
 match b with
 |[.string d,.int .u8 (.ofNat c)]=>match Nat.blt c 256 with
  |false=>none
  |true=>match YL f 259 with
   |true=>some (.int .i64 (indexByte d.data.toList c 0))
   |false=>match YL f 287 with
    |true=>some (.int .i64 (.ofNat (countB c d.data.toList)))
    |false=>none
 |[.string g,.string e]=>match YL f 273 with
  |true=>some (.int .i64 (vN g.data.toList e.data.toList))
  |false=>none
 |_=>none
noncomputable def Gs(f:FuncId)(b:List Value):Option Value:=
 match YL f 45 with
 |false=>none
 |true=>match b with
  |[.string c,.string d]=>match Nat.blt c.data.toList.length 4294967281 with
   |true=>some (.bool (jX d.data.toList c.data.toList))
   |false=>none
  |_=>none
noncomputable def b7(f:FuncId)(b:List Value):Option Value:=
 match YL f 7 with
 |false=>match YL f 293 with
  |false=>Gs f b
  |true=>match b with
   |[.string c,.int .i64 (.ofNat 10),.int .i64 (.ofNat 64)]=>match Nat.blt c.data.toList.length 281474976710656 with
    |true=>match Lib.parseUintB 64 c.data.toList with
     |.ok d=>some (.tuple ⟨[.int .u64 (.ofNat d),.nilIface]⟩)
     |_=>none
    |false=>none
   |_=>none
 |true=>match b with
  |[]=>some (.bool true)
  |_=>none
noncomputable def C:dU:={P:=Tryz.prog,tt:=tt,ff:=ff,ext:=ext}
def Yn:St:=⟨.nil,0,.nil⟩
def isTrue:Option (CR×ec×St)->Bool
 |some (.ret (.bool true),_,_)=>true
 |_=>false
def X0(f:Nat)(b:FI):Prop:=∃fn,Tryz.prog.funcs[f]?=some fn/\b=RS fn/\fn.body.isSome=true/\(fn.name== "runtime.NumGoroutine")=false
def X1(t:Nat)(b:TI):Prop:=∃c d,Tryz.prog.underlying t=some b.desc/\Tryz.prog.types[t]?=some c/\c.size=b.size/\c.bytes=b.bytes/\c.zero=some d/\Ds b d/\b.agg=Ic b.desc/\b.zero.length=b.size/\b.zero.all flat=true
theorem fE{f:Nat}{b:FI}{fn:Func}(d:b=RS fn:=by exact rfl)(g:Tryz.prog.funcs[f]?=some fn:=by exact rfl)(c:fn.body.isSome=true:=by exact rfl)(e:(fn.name== "runtime.NumGoroutine")=false:=by exact dc):X0 f b:=⟨fn,g,d,c,e⟩
variable{a:TypeInfo}
theorem tE{t:Nat}{b:TI}{d:Value}(h:Tryz.prog.types[t]?=some a:=by exact rfl)(l:Tryz.prog.underlying t=some b.desc:=by exact rfl)(f:a.size=b.size:=by exact rfl)(k:a.bytes=b.bytes:=by exact rfl)(g:a.zero=some d:=by exact rfl)(j:Ds b d:=by first|exact .inl ⟨rfl,rfl⟩|exact .inr ⟨rfl,rfl,rfl⟩)(c:b.agg=Ic b.desc:=by exact rfl)(i:b.zero.length=b.size:=by exact rfl)(e:b.zero.all flat=true:=by exact rfl):X1 t b:=⟨a,d,l,h,f,k,g,j,c,i,e⟩
theorem Uh:oJ X0 1 0 ff:=by
 repeat' first|exact tv|exact fE|refine And.intro ?_ ?_
theorem Ui:oJ X1 1 0 tt:=by
 repeat' first|exact tv|exact tE|refine And.intro ?_ ?_
theorem RT{c:Program}{t:TypeId}(b:c.types[t]?=some a):c.info? t=some a:=by
 unfold Tables.info?;rw[if_pos (Array.getElem?_eq_some_iff.1 b).1];exact b
theorem tok:l6 C:=by
 refine⟨fun d b c=>?_,fun d b c=>?_,fun d b c=>?_,fun d b c=>?_,fun d b c=>?_⟩;all_goals obtain⟨o,n,j,h,m,i,l,e,k,g,f⟩:=Ui.get c
 ·exact j
 ·exact⟨o,n,RT h,m,i,l,e⟩
 ·exact k
 ·exact g
 ·exact f
theorem X2:Cy C:=by
 refine⟨fun h g f=>?_⟩;obtain⟨fn,c,rfl,b,d⟩:=Uh.get f;refine⟨fn,c,?_,Z,Z,d⟩;unfold RS;cases e:fn.body with
 |none=>rw[e]at b;cases b
 |some i=>rfl
noncomputable def O6:Tr FI->Bool
 |.nil=>true
 |.node d c e=>(match d with|some b=>codeOk b.body|none=>true)&&O6 c&&O6 e
theorem RU:O6 ff=true:=by kernel_rfl
theorem Mr:∀(h:Tr FI) (c b:Nat),O6 h=true->oJ (fun _ g=>codeOk g.body=true) c b h:=by
 intro h;induction h with
 |nil=>intro c b e;trivial
 |node i k j f d=>
  intro c b e;simp only[O6,Bool.and_eq_true]at e;refine⟨?_,f _ _ e.1.2,d _ _ e.2⟩;cases i with
  |none=>trivial
  |some g=>exact e.1.1
theorem O7(f:FuncId)(b:FI)(c:C.ff.get f=some b):codeOk b.body=true:=(Mr ff 1 0 RU).get c
end Go.Proofs.YtpejealjkmhkgaaGreatDoor
