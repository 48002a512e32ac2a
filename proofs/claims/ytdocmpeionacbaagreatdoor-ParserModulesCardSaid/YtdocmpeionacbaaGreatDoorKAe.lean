/- Part of the proof. -/
import Derived.Test.YtdocmpeionacbaaGreatDoorKAb
import Derived.Lib.ParseIntB
import Derived.Test.YtdocmpeionacbaaGreatDoorRows
set_option linter.all false
set_option maxHeartbeats 16000000
set_option maxRecDepth 100000
open Nat renaming beq->ais
open Option renaming some->q',none->u'
open Bool renaming true->A',false->B'
namespace Go.Proofs.YtdocmpeionacbaaGreatDoor
open Go.AM Go.Proofs.Tryz
noncomputable def ahv(c d:TypeInfo):TI:={desc:=d.desc,size:=c.size,agg:=(match d.desc with|.struct _=>A'|.array _ _=>A'|_=>B'),zero:=(match c.zero with|some e=>cellsOf e|none=>[]),bytes:=c.bytes}
noncomputable def acb(c:Func):FI:={nt:=c.ntmps,body:=(match c.body with|some d=>d|none=>.skip),B1:=c.results.toList}
noncomputable abbrev tn(f c:TypeInfo)(e d:Tr TI):Tr TI:=.node (q' (ahv f c)) e d
noncomputable abbrev fn(c:Func)(e d:Tr FI):Tr FI:=.node (q' (acb c)) e d
noncomputable abbrev fO(c:TypeInfo)(e d:Tr TI):Tr TI:=tn c c e d
noncomputable abbrev Wg(d c:TypeInfo):Tr TI:=tn d c .nil .nil
noncomputable abbrev hV(c:TypeInfo):Tr TI:=tn c c .nil .nil
noncomputable abbrev iO(c:Func):Tr FI:=fn c .nil .nil
noncomputable def tt:Tr TI:=(.node u' (fO t1 (fO t3 (fO t7 (fO t15 (fO t31 (fO t63 (fO t127 (hV t255) .nil) (hV t191)) (fO t95 (fO t159 (.node u' .nil .nil) .nil) (hV t223))) (fO t47 (fO t79 (fO t143 (Wg t271 t3) .nil) (hV t207)) (fO t111 (fO t175 (Wg t303 t5) .nil) (hV t239)))) (fO t23 (fO t39 (fO t71 (fO t135 (hV t263) .nil) (hV t199)) (fO t103 (fO t167 (hV t295) .nil) (hV t231))) (.node u' (tn t87 t86 (.node u' (hV t279) .nil) (hV t215)) (fO t119 (hV t183) (hV t247))))) (tn t11 t9 (tn t19 t18 (fO t35 (fO t67 (tn t131 t130 (hV t259) .nil) (hV t195)) (fO t99 (fO t163 (hV t291) .nil) (.node u' .nil .nil))) (fO t51 (fO t83 (.node u' (hV t275) .nil) (hV t211)) (fO t115 (fO t179 (Wg t307 t21) .nil) (.node u' .nil .nil)))) (tn t27 t3 (fO t43 (fO t75 (fO t139 (Wg t267 t266) .nil) (hV t203)) (fO t107 (fO t171 (hV t299) .nil) (hV t235))) (tn t59 t58 (fO t91 (fO t155 (hV t283) .nil) (hV t219)) (fO t123 (hV t187) (hV t251)))))) (fO t5 (fO t9 (fO t17 (fO t33 (fO t65 (fO t129 (hV t257) .nil) (hV t193)) (fO t97 (tn t161 t160 (hV t289) .nil) (hV t225))) (fO t49 (fO t81 (fO t145 (hV t273) .nil) (hV t209)) (fO t113 (fO t177 (hV t305) .nil) (hV t241)))) (fO t25 (tn t41 t40 (.node u' (fO t137 (hV t265) .nil) (hV t201)) (fO t105 (fO t169 (hV t297) .nil) (hV t233))) (fO t57 (fO t89 (fO t153 (hV t281) .nil) (hV t217)) (fO t121 (hV t185) (hV t249))))) (fO t13 (fO t21 (.node u' (fO t69 (fO t133 (Wg t261 t260) .nil) (hV t197)) (fO t101 (fO t165 (hV t293) .nil) (hV t229))) (fO t53 (fO t85 (.node u' (Wg t277 t276) .nil) (hV t213)) (tn t117 t116 (fO t181 (Wg t309 t308) .nil) (hV t245)))) (fO t29 (tn t45 t44 (fO t77 (fO t141 (hV t269) .nil) (hV t205)) (fO t109 (fO t173 (Wg t301 t300) .nil) (hV t237))) (.node u' (fO t93 (fO t157 (hV t285) .nil) (hV t221)) (fO t125 (hV t189) (.node u' .nil .nil))))))) (fO t2 (fO t4 (tn t8 t7 (fO t16 (fO t32 (fO t64 (tn t128 t127 (hV t256) .nil) (hV t192)) (fO t96 (fO t160 (hV t288) .nil) (hV t224))) (tn t48 t47 (fO t80 (.node u' (hV t272) .nil) (hV t208)) (.node u' (fO t176 (Wg t304 t5) .nil) (hV t240)))) (fO t24 (fO t40 (tn t72 t71 (fO t136 (hV t264) .nil) (hV t200)) (.node u' (.node u' (hV t296) .nil) (.node u' .nil .nil))) (fO t56 (.node u' (fO t152 (hV t280) .nil) (hV t216)) (.node u' (hV t184) (hV t248))))) (fO t12 (fO t20 (tn t36 t35 (.node u' (fO t132 (hV t260) .nil) (hV t196)) (.node u' (fO t164 (hV t292) .nil) (hV t228))) (.node u' (.node u' (fO t148 (hV t276) .nil) (.node u' .nil .nil)) (fO t116 (fO t180 (hV t308) .nil) (hV t244)))) (.node u' (fO t44 (fO t76 (fO t140 (hV t268) .nil) (hV t204)) (fO t108 (fO t172 (hV t300) .nil) (hV t236))) (fO t60 (fO t92 (tn t156 t155 (hV t284) .nil) (.node u' .nil .nil)) (fO t124 (hV t188) (hV t252)))))) (tn t6 t5 (tn t10 t9 (fO t18 (fO t34 (tn t66 t65 (fO t130 (.node u' .nil .nil) .nil) (hV t194)) (fO t98 (fO t162 (hV t290) .nil) (hV t226))) (fO t50 (fO t82 (fO t146 (hV t274) .nil) (hV t210)) (fO t114 (fO t178 (Wg t306 t21) .nil) (Wg t242 t241)))) (tn t26 t25 (.node u' (fO t74 (fO t138 (hV t266) .nil) (hV t202)) (fO t106 (fO t170 (Wg t298 t297) .nil) (hV t234))) (fO t58 (tn t90 t89 (fO t154 (Wg t282 t281) .nil) (hV t218)) (fO t122 (hV t186) (hV t250))))) (tn t14 t13 (fO t22 (fO t38 (fO t70 (fO t134 (.node u' .nil .nil) .nil) (hV t198)) (.node u' (tn t166 t165 (hV t294) .nil) (hV t230))) (fO t54 (fO t86 (fO t150 (hV t278) .nil) (hV t214)) (fO t118 (fO t182 (hV t310) .nil) (hV t246)))) (fO t30 (fO t46 (fO t78 (tn t142 t141 (hV t270) .nil) (hV t206)) (fO t110 (fO t174 (hV t302) .nil) (hV t238))) (fO t62 (fO t94 (fO t158 (hV t286) .nil) (hV t222)) (fO t126 (hV t190) (hV t254))))))))
noncomputable def ff:Tr FI:=(.node u' (.node u' (fn f3 (fn f7 (fn f15 (fn f31 (fn f63 (fn f127 (iO f255) .nil) (fn f191 (.node u' .nil .nil) .nil)) (fn f95 (fn f159 (iO f287) .nil) (iO f223))) (fn f47 (fn f79 (fn f143 (iO f271) .nil) (fn f207 (.node u' .nil .nil) .nil)) (fn f111 (fn f175 (iO f303) .nil) (iO f239)))) (fn f23 (fn f39 (fn f71 (fn f135 (iO f263) .nil) (fn f199 (.node u' .nil .nil) .nil)) (fn f103 (fn f167 (iO f295) .nil) (iO f231))) (fn f55 (fn f87 (fn f151 (iO f279) .nil) (iO f215)) (fn f119 (fn f183 (.node u' .nil .nil) .nil) (iO f247))))) (fn f11 (fn f19 (fn f35 (fn f67 (fn f131 (iO f259) .nil) (fn f195 (.node u' .nil .nil) .nil)) (fn f99 (fn f163 (iO f291) .nil) (iO f227))) (fn f51 (fn f83 (fn f147 (iO f275) .nil) (iO f211)) (fn f115 (fn f179 (iO f307) .nil) (iO f243)))) (fn f27 (fn f43 (fn f75 (fn f139 (iO f267) .nil) (fn f203 (.node u' .nil .nil) .nil)) (fn f107 (fn f171 (iO f299) .nil) (iO f235))) (fn f59 (fn f91 (fn f155 (iO f283) .nil) (iO f219)) (fn f123 (fn f187 (.node u' .nil .nil) .nil) (.node u' .nil .nil)))))) (fn f5 (fn f9 (fn f17 (fn f33 (fn f65 (fn f129 (iO f257) .nil) (fn f193 (.node u' .nil .nil) .nil)) (fn f97 (fn f161 (iO f289) .nil) (iO f225))) (fn f49 (fn f81 (fn f145 (iO f273) .nil) (fn f209 (iO f337) .nil)) (fn f113 (fn f177 (iO f305) .nil) (iO f241)))) (fn f25 (fn f41 (fn f73 (fn f137 (iO f265) .nil) (fn f201 (.node u' .nil .nil) .nil)) (fn f105 (fn f169 (iO f297) .nil) (iO f233))) (fn f57 (fn f89 (fn f153 (iO f281) .nil) (iO f217)) (fn f121 (fn f185 (.node u' .nil .nil) .nil) (iO f249))))) (fn f13 (fn f21 (fn f37 (fn f69 (fn f133 (iO f261) .nil) (fn f197 (.node u' .nil .nil) .nil)) (fn f101 (fn f165 (iO f293) .nil) (iO f229))) (fn f53 (fn f85 (fn f149 (iO f277) .nil) (iO f213)) (fn f117 (fn f181 (.node u' .nil .nil) .nil) (iO f245)))) (fn f29 (fn f45 (fn f77 (fn f141 (iO f269) .nil) (fn f205 (.node u' .nil .nil) .nil)) (fn f109 (fn f173 (iO f301) .nil) (iO f237))) (fn f61 (fn f93 (fn f157 (iO f285) .nil) (iO f221)) (fn f125 (fn f189 (.node u' .nil .nil) .nil) (iO f253))))))) (fn f2 (fn f4 (fn f8 (fn f16 (fn f32 (fn f64 (fn f128 (.node u' .nil .nil) .nil) (fn f192 (.node u' .nil .nil) .nil)) (fn f96 (fn f160 (iO f288) .nil) (iO f224))) (fn f48 (fn f80 (fn f144 (.node u' .nil .nil) .nil) (fn f208 (.node u' .nil .nil) .nil)) (fn f112 (fn f176 (iO f304) .nil) (iO f240)))) (fn f24 (fn f40 (fn f72 (fn f136 (iO f264) .nil) (fn f200 (.node u' .nil .nil) .nil)) (fn f104 (fn f168 (iO f296) .nil) (iO f232))) (fn f56 (fn f88 (fn f152 (iO f280) .nil) (iO f216)) (fn f120 (fn f184 (.node u' .nil .nil) .nil) (iO f248))))) (fn f12 (fn f20 (fn f36 (fn f68 (fn f132 (iO f260) .nil) (fn f196 (.node u' .nil .nil) .nil)) (fn f100 (fn f164 (iO f292) .nil) (iO f228))) (fn f52 (fn f84 (fn f148 (iO f276) .nil) (iO f212)) (fn f116 (fn f180 (iO f308) .nil) (iO f244)))) (fn f28 (fn f44 (fn f76 (fn f140 (iO f268) .nil) (fn f204 (.node u' .nil .nil) .nil)) (fn f108 (fn f172 (iO f300) .nil) (iO f236))) (fn f60 (fn f92 (fn f156 (iO f284) .nil) (iO f220)) (fn f124 (fn f188 (.node u' .nil .nil) .nil) (iO f252)))))) (fn f6 (fn f10 (fn f18 (fn f34 (fn f66 (fn f130 (iO f258) .nil) (fn f194 (.node u' .nil .nil) .nil)) (fn f98 (fn f162 (iO f290) .nil) (iO f226))) (fn f50 (fn f82 (fn f146 (iO f274) .nil) (iO f210)) (fn f114 (fn f178 (iO f306) .nil) (iO f242)))) (fn f26 (fn f42 (fn f74 (fn f138 (.node u' .nil .nil) .nil) (fn f202 (.node u' .nil .nil) .nil)) (fn f106 (fn f170 (iO f298) .nil) (iO f234))) (fn f58 (fn f90 (fn f154 (iO f282) .nil) (iO f218)) (fn f122 (fn f186 (.node u' .nil .nil) .nil) (iO f250))))) (fn f14 (fn f22 (fn f38 (fn f70 (fn f134 (iO f262) .nil) (fn f198 (.node u' .nil .nil) .nil)) (fn f102 (fn f166 (iO f294) .nil) (iO f230))) (fn f54 (fn f86 (fn f150 (iO f278) .nil) (iO f214)) (fn f118 (fn f182 (.node u' .nil .nil) .nil) (iO f246)))) (fn f30 (fn f46 (fn f78 (fn f142 (iO f270) .nil) (fn f206 (.node u' .nil .nil) .nil)) (fn f110 (fn f174 (iO f302) .nil) (iO f238))) (fn f62 (fn f94 (fn f158 (iO f286) .nil) (iO f222)) (fn f126 (fn f190 (.node u' .nil .nil) .nil) (iO f254))))))))
noncomputable def ext(d:FuncId)(c:n_ Value):Option Value:=
 match c with
 |[.string f,.int .u8 (.ofNat e)]=>match Nat.blt e 256 with
  |false=>u'
  |true=>match ais d 256 with
   |true=>q' (.int .i64 (indexByte f.data.toList e 0))
   |false=>match ais d 272 with
    |true=>q' (.int .i64 (.ofNat (countB e f.data.toList)))
    |false=>u'
 |[.string h,.string g]=>match ais d 251 with
  |true=>q' (.int .i64 (AL h.data.toList g.data.toList))
  |false=>u'
 |_=>u'
noncomputable def Pd(e:FuncId)(c:n_ Value):Option Value:=
 match ais e 197 with
 |false=>u'
 |true=>match c with
  |[.string d,.string f]=>match Nat.blt d.data.toList.length 4294967281 with
   |true=>q' (.bool (mR f.data.toList d.data.toList))
   |false=>u'
  |_=>u'
noncomputable def cm(d:FuncId)(c:n_ Value):Option Value:=
 match ais d 4 with
 |false=>match ais d 279 with
  |false=>Pd d c
  |true=>match c with
   |[.string e,.int .i64 (.ofNat 10),.int .i64 (.ofNat 64)]=>match Nat.blt e.data.toList.length 281474976710656 with
    |true=>match Lib.parseUintB 64 e.data.toList with
     |.ok f=>q' (.tuple ⟨[.int .u64 (.ofNat f),.nilIface]⟩)
     |_=>u'
    |false=>u'
   |_=>u'
 |true=>match c with
  |[]=>q' (.bool A')
  |_=>u'
noncomputable def C:eN:={P:=Tryz.prog,tt:=tt,ff:=ff,ext:=ext}
def st0:St:=⟨.nil,0,.nil⟩
def isTrue:Option (CR×eM×St)->Bool
 |some (.ret (.bool A'),_,_)=>A'
 |_=>B'
def FnP(d:Nat)(c:FI):Prop:=∃fn,Tryz.prog.funcs[d]?=q' fn/\c=acb fn/\fn.body.isSome=A'/\(fn.name== "runtime.NumGoroutine")=B'
def TyP(f:Nat)(c:TI):Prop:=∃d e,Tryz.prog.underlying f=q' c.desc/\Tryz.prog.types[f]?=q' d/\d.size=c.size/\d.bytes=c.bytes/\d.zero=q' e/\LV c e/\c.agg=Rv c.desc/\c.zero.length=c.size/\c.zero.all flat=A'
variable{b:Nat}
def fE{c:FI}{fn:Func}(e:c=acb fn:=by exact rfl)(g:Tryz.prog.funcs[b]?=q' fn:=by exact rfl)(d:fn.body.isSome=A':=by exact rfl)(f:(fn.name== "runtime.NumGoroutine")=B':=by exact dc):FnP b c:=⟨fn,g,e,d,f⟩
variable{a:TypeInfo}
def tE{c:TI}{e:Value}(i:Tryz.prog.types[b]?=q' a:=by exact rfl)(m:Tryz.prog.underlying b=q' c.desc:=by exact rfl)(g:a.size=c.size:=by exact rfl)(l:a.bytes=c.bytes:=by exact rfl)(h:a.zero=q' e:=by exact rfl)(k:LV c e:=by first|exact .inl ⟨rfl,rfl⟩|exact .inr ⟨rfl,rfl,rfl⟩)(d:c.agg=Rv c.desc:=by exact rfl)(j:c.zero.length=c.size:=by exact rfl)(f:c.zero.all flat=A':=by exact rfl):TyP b c:=⟨a,e,m,i,g,l,h,k,d,j,f⟩
def aeK:sl FnP 1 0 ff:=by
 repeat' first|exact tv|exact fE|refine And.intro ?_ ?_
def aeL:sl TyP 1 0 tt:=by
 repeat' first|exact tv|exact tE|refine And.intro ?_ ?_
def acd{e:Program}{d:TypeId}(c:e.types[d]?=q' a):e.info? d=q' a:=by
 unfold Tables.info?;rw[X' (Array.getElem?_eq_some_iff.1 c).1];exact c
theorem tok:qb C:=by
 refine⟨λe c d=>?_,λe c d=>?_,λe c d=>?_,λe c d=>?_,λe c d=>?_⟩;all_goals have⟨p,o,k,i,n,j,m,f,l,h,g⟩:=aeL.get d
 ·exact k
 ·exact⟨p,o,acd i,n,j,m,f⟩
 ·exact l
 ·exact h
 exact g
def fok:L3 C:=by
 refine⟨λi h g=>?_⟩;obtain⟨fn,d,rfl,c,e⟩:=aeK.get g;refine⟨fn,d,?_,Z,Z,e⟩;unfold acb;cases f:fn.body with
 |none=>rw[f]at c;cases c
 |some j=>rfl
noncomputable def Zk:Tr FI->Bool
 |.nil=>A'
 |.node e d f=>(match e with|some c=>codeOk c.body|none=>A')&&Zk d&&Zk f
def ace:Zk ff=A':=by kernel_rfl
def Wh:∀(i:Tr FI) (d c:Nat),Zk i=A'->sl (λ_ h=>codeOk h.body=A') d c i:=by
 intro i;induction i with
 |nil=>intro d c f;trivial
 |node j l k g e=>
  intro d c f;simp only[Zk,Bool.and_eq_true]at f;refine⟨?_,g _ _ f.1.2,e _ _ f.2⟩;cases j with
  |none=>trivial
  |some h=>exact f.1.1
def Zl(e:FuncId)(c:FI)(d:C.ff.get e=q' c):codeOk c.body=A':=(Wh ff 1 0 ace).get d
end Go.Proofs.YtdocmpeionacbaaGreatDoor
