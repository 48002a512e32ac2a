/- Part of the proof. -/
import Derived.Test.YtpejealjkmhkgaaGreatDoorKAe
set_option linter.all false
set_option maxHeartbeats 16000000
set_option maxRecDepth 100000
open Array renaming toList_map->abK,getElem?_toList->aet,toList_append->aeu
open List renaming range->abL
namespace Go.AM
open Go.RowKit (Below)
variable{n:List Value} {j:Array Value} {z:AR} {m:World}
section
variable{C:dR} {w0:World} {N0:Nat} {G:Nat->Prop} {ρ:Ren} {st dC:St} {w:World} {v:Value} {ev:Operand->Option Value} {mK:Operand->Value}
theorem sn(f:oL ρ ev mK):∀{b:List Operand} {c:List Value},nf ev b=some c->cT ρ c (b.map mK):=by
 intro b;induction b with
 |nil=>intro c d;simp[nf]at d;subst d;exact .nil
 |cons l b h=>
  intro c d;simp only[nf]at d;split at d
  ·rename_i o s k i;cases d;exact .cons (f _ _ k) (h i)
  ·cases d
theorem uu(h:oL ρ ev mK):∀{b:List (Nat×Operand)} {c:List (Nat×Value)},l9 ev b=some c->AN ρ c (b.map fun(o,f)=>(o,mK f)):=by
 intro b;induction b with
 |nil=>intro c d;simp[l9]at d;subst d;exact .nil
 |cons f b i=>
  obtain⟨o,f⟩:=f;intro c d;simp only[l9]at d;split at d
  ·rename_i s t l k;cases d;exact .cons (h _ _ l) (i k)
  ·cases d
theorem rh.value{h:Result Value}{i:Result Next}(l:rh w0 N0 G ρ dC v h)(f:i=h.andThen fun o w=>.ok (Next.value o) w):AQ C w0 N0 G ρ st w (.val v dC) i:=by
 obtain⟨b,c,d,s,k⟩:=l;subst s;exact⟨b,c,d,.inl (by rw[f];rfl),k⟩
theorem rj(k:Fm C){f:FuncId}{i:FI}(l:C.ff.get f=some i)(b:Array Value):(callFunc f b).run C.P w=.ok (.enter f b) w:=by
 obtain⟨fn,d,c,_,_,h⟩:=k.fn _ _ l;unfold callFunc;rw[cb _ (show(program).run C.P w=.ok C.P w from rfl),d];simp only[h,Bool.false_eq_true,if_false,c,Option.isNone_some];rfl
theorem Ed(M:Fm C)(N:nX C){f F:Value}(O:di w0 N0 G ρ st w)(y:cX ρ f F)(h:cT ρ n j.toList)(i:lx C f n st=some z):
  AQ C w0 N0 G ρ st w z ((do let s<-Deferred.ofValue F j;invoke s.target s.args:Sem Next).run C.P w):=by
 unfold lx at i;split at i
 ·rename_i S first d
  cases y with
  |@func _ _ c _ b k u=>
  have o:cT ρ (first.toList++n++d.toList) (c++j++b).toList:=by
   simp only[aeu];exact(k.append h).append u
  have t:(do let s<-Deferred.ofValue (.func (.func S) c b) j;invoke s.target s.args:Sem Next).run C.P w=(callFunc S (c++j++b)).run C.P w:=rfl;rw[t];simp only at i;split at i
  ·rename_i U J;cases i;exact⟨_,rj M J _,o⟩
  ·split at i
   ·rename_i T Q;cases i;obtain⟨R,L⟩:=N _ _ _ Q ρ _ w o;exact⟨ρ,T,w,.inl R,Ren.le_refl _,O,L⟩
   ·cases i
 ·rename_i V first d
  cases y with
  |@yield _ K _ c _ b P k u=>
  split at i
  ·rename_i l;cases i;rw[l]at k;have x:c= #[]:=by
    cases v:c.toList with
    |nil=>exact Array.toList_eq_nil_iff.1 v
    |cons _ _=>rw[v]at k;cases k
   subst x;refine⟨K,j,P,h,?_⟩;have:(do let s<-Deferred.ofValue (.func (.yield K.b) #[] b) j;invoke s.target s.args:Sem Next).run C.P w=(Instr.yield K.b (#[]++j)).run C.P w:=rfl;rw[this,Array.empty_append]
  ·cases i
 ·cases i
theorem Pu{f i:Value}(l:cX ρ f i)(b:cT ρ n j.toList)(k:Co f n=some z):
  AQ C w0 N0 G ρ st w z ((do pure (.defer (<-Deferred.ofValue i j)):Sem Next).run C.P w):=by
 unfold Co at k;split at k
 ·rename_i t first d
  cases k;cases l with
  |@func _ _ h _ c s o=>
  refine⟨_,Z,⟨Z,o⟩,?_⟩;simp only[aeu];exact s.append b
 ·cases k
theorem zS(h:oL ρ ev mK){b:Option Operand}{l:Option Value}(d:(match b with|none=>some none|some l=>(ev l).map some)=some l):
  (l=none/\b.map mK=none)∨∃i f,l=some i/\b.map mK=some f/\cX ρ i f:=by
 cases b with
 |none=>cases d;exact .inl ⟨rfl,rfl⟩
 |some b=>
  simp only at d;cases c:ev b with
  |none=>rw[c]at d;cases d
  |some k=>rw[c]at d;cases d;exact .inr ⟨k,mK b,rfl,rfl,h _ _ c⟩
theorem ZA(C:dR)(b:Builtin)(c:List TypeId)(f:List Value)(d:AR)(h:j9 C b c f st=some d):(∃i dC,d=.val i dC)∨d=.recover:=by
 unfold j9 at h;split at h
 ·unfold o6 at h;repeat' split at h
  all_goals first|cases h;done|skip
  unfold fP at h;exact O1
 ·unfold IA at h;exact O1
 ·unfold yf at h;exact O1
 ·exact O1
 ·exact O1
 ·cases h;exact .inr rfl
 ·cases h
theorem IS(o:nQ C)(i:di w0 N0 G ρ st w){b:Builtin}{c:Array TypeId}{f:TypeId}{cs:Array Bool}(d:cT ρ n j.toList)(h:j9 C b c.toList n st=some z):
  AQ C w0 N0 G ρ st w z ((builtin b c f cs j).run C.P w):=by
 rcases ZA C b _ _ _ h with⟨K,v,rfl⟩|rfl
 ·unfold j9 at h;split at h
  ·exact rh.value (LB o i (ty:=f) d h) (Sem.run_bind ..)
  ·exact rh.value (SD o i (ty:=f) d h) (Sem.run_bind ..)
  ·obtain⟨l,k,rfl⟩:=VP (ty:=f) o i d h;exact rh.value (C:=C) (w:=w) (rh.same i k) (by
    show(do pure (.value (<-Builtin.len_ c f j)):Sem Next).run C.P w=_;rw[Sem.run_bind,l];rfl)
  ·split at h
   ·rename_i F y;split at h
    ·rename_i x s;obtain⟨rfl,rfl⟩:=c9 h;obtain⟨j⟩:=j;cases d with
     |cons u t=>
      obtain⟨l,k⟩:=IQ (P:=C.P) (w:=w) t u s;exact rh.value (C:=C) (w:=w) (rh.same i k) (by
       show(do pure (.value (<-List.foldlM Builtin.max2 _ _)):Sem Next).run C.P w=_;rw[Sem.run_bind,l];rfl)
    ·cases h
   ·cases h
  ·split at h
   ·rename_i F y;split at h
    ·rename_i x s;obtain⟨rfl,rfl⟩:=c9 h;obtain⟨j⟩:=j;cases d with
     |cons u t=>
      obtain⟨l,k⟩:=IR (P:=C.P) (w:=w) t u s;exact rh.value (C:=C) (w:=w) (rh.same i k) (by
       show(do pure (.value (<-List.foldlM Builtin.min2 _ _)):Sem Next).run C.P w=_;rw[Sem.run_bind,l];rfl)
    ·cases h
   ·cases h
  ·cases h
  ·cases h
 ·unfold j9 at h;split at h
  ·exfalso;rcases ZA C .append _ _ _ (by unfold j9;exact h)with⟨_,_,J⟩|_<;>first|cases J|skip
   unfold o6 at h;repeat' split at h
   all_goals first|cases h;done|skip
   unfold fP at h;exact RE
  ·exfalso;unfold IA at h;exact RE
  ·exfalso;unfold yf at h;exact RE
  ·exfalso;exact RE
  ·exfalso;exact RE
  ·rfl
  ·cases h
theorem fZ(d:di w0 N0 G ρ st w){s:Sem Value}{b:Value}(c:s.run C.P w=.ok b w)(f:cX ρ v b):AQ C w0 N0 G ρ st w (.val v st) ((do pure (.value (<-s)):Sem Next).run C.P w):=
 ⟨ρ,b,w,.inl (by rw[cb _ c];rfl),Ren.le_refl _,d,f⟩
theorem rI{s:Sem Value}(b:rh w0 N0 G ρ dC v (s.run C.P w)):AQ C w0 N0 G ρ st w (.val v dC) ((do pure (.value (<-s)):Sem Next).run C.P w):=rh.value b (Sem.run_bind ..)
theorem Ix{s:Sem Unit}(b:s.run C.P w=.ok () m)(c:di w0 N0 G ρ dC m):AQ C w0 N0 G ρ st w (.val lr dC) ((do s;pure .skip:Sem Next).run C.P w):=
 ⟨ρ,undef,m,.inr ⟨by rw[cb _ b];rfl,rfl⟩,Ren.le_refl _,c,.tuple .nil⟩
theorem qz(hT:nQ C)(V:Fm C)(W:nX C)(hw:di w0 N0 G ρ st w)(he:oL ρ ev mK){o:Oper}(h:j8 C ev o st=some z):AQ C w0 N0 G ρ st w z ((execOp mK o).run C.P w):=by
 unfold j8 at h;split at h
 case h_1 f gT=>
  exact Zo
 case h_2 f gT=>
  exact Zo
 case h_3 F N b gT=>
  split at h
  ·rename_i i u v hc ha hb;unfold val at h;cases h;have M:=he _ _ hc;simp only[execOp,gT];cases T:mK F<;>rw[T]at M<;>cases M;cases i
   ·exact⟨ρ,_,w,.inl Z,Ren.le_refl _,hw,he _ _ hb⟩
   ·exact⟨ρ,_,w,.inl Z,Ren.le_refl _,hw,he _ _ ha⟩
  ·cases h
 case h_4 i gT=>
  have c:∃u s,z=.val u s:=by unfold xf val at h;split at h<;>cases h;exact⟨_,_,rfl⟩
  obtain⟨u,s,rfl⟩:=c;simp only[execOp,gT];exact rI (Pd hT hw h)
 case h_5 i f gT=>
  split at h
  ·rename_i u hu;have c:∃u s,z=.val u s:=by unfold Li val at h;split at h<;>cases h;exact⟨_,_,rfl⟩
   obtain⟨u,s,rfl⟩:=c;simp only[execOp,gT];exact rI (VI hw (he _ _ hu) h)
  ·cases h
 case h_6 i ps gT=>
  split at h
  ·rename_i l K;have c:∃u s,z=.val u s:=by
    unfold xc val at h;exact tI
   obtain⟨u,s,rfl⟩:=c;simp only[execOp,gT];obtain⟨t,e1,e2,rfl⟩:=Pg (w:=w) (ps':=ps.map fun(U,f)=>(U,mK f)) hT hw (by rw[abK];exact uu he K) h;exact fZ hw e1 e2
  ·cases h
 case h_7 i ac ps gT=>
  split at h
  ·rename_i l K;have c:∃u s,z=.val u s:=by
    unfold kf val at h;exact tI
   obtain⟨u,s,rfl⟩:=c;simp only[execOp,gT];exact rI (Cs hT hw (by rw[abK];exact uu he K) h)
  ·cases h
 case h_8 i N gT=>
  split at h
  ·rename_i u hu;have c:∃u s,z=.val u s:=by
    unfold ye val at h;exact tI
   obtain⟨u,s,rfl⟩:=c;simp only[execOp,gT];obtain⟨t,e1,e2,rfl⟩:=IF hT hw (he _ _ hu) h;exact fZ hw e1 e2
  ·cases h
 case h_9 i N f gT=>
  split at h
  ·rename_i u A hu O;have c:∃u s,z=.val u s:=by
    unfold iC val at h;exact tI
   obtain⟨u,s,rfl⟩:=c;simp only[execOp,gT];obtain⟨w',e1,e2,rfl,_⟩:=Pe hT hw (he _ _ hu) (he _ _ O) h;exact Ix e1 e2
  ·cases h
 case h_10 f gT=>
  split at h
  ·rename_i u hu;have c:∃u s,z=.val u s:=by
    unfold ng val at h;exact tI
   obtain⟨u1,s,rfl⟩:=c;have d:=he _ _ hu;obtain⟨rfl,rfl,I,aa,q,r⟩:=Gt d h;simp only[execOp,gT];refine⟨ρ,mK f,w,.inl ?_,Ren.le_refl _,hw,d⟩;generalize mK f=X at*;rfl
  ·cases h
 case h_11 e i f X B gT=>
  split at h
  ·rename_i u v hu c;split at h
   ·rename_i p d;unfold val at h;cases h;obtain⟨e1,e2⟩:=VO (w:=w) hT (he _ _ hu) (he _ _ c) d;simp only[execOp,gT];exact fZ hw e1 e2
   ·cases h
  ·cases h
 case h_12 e i f gT=>
  split at h
  ·rename_i u hu;split at h
   ·rename_i p d;unfold val at h;cases h;obtain⟨e1,e2⟩:=aax (C:=C) (w:=w) (he _ _ hu) d;simp only[execOp,gT];exact fZ hw e1 e2
   ·cases h
  ·cases h
 case h_13 s L f gT=>
  split at h
  ·rename_i u hu;have c:∃u s,z=.val u s:=by
    unfold ig val at h;exact tI
   obtain⟨u1,s1,rfl⟩:=c;simp only[execOp,gT];exact rI (IN hT hw (he _ _ hu) h)
  ·cases h
 case h_14 i f gT=>
  split at h
  ·rename_i u hu;have c:∃u s,z=.val u s:=by
    unfold gU val at h;exact tI
   obtain⟨u1,s1,rfl⟩:=c;simp only[execOp,gT];obtain⟨e1,e2,rfl,j⟩:=yp (w:=w) hT (he _ _ hu) h;exact fZ hw e1 j
  ·cases h
 case h_15 fn N b gT=>
  split at h
  ·rename_i u v S hu c;unfold val at h;cases h;simp only[execOp,gT,Instr.makeFunc];refine⟨ρ,.func fn (N.map mK) (b.map mK),w,.inl Z,Ren.le_refl _,hw,?_⟩;cases fn<;>first|(simp[aau]at S;done)|skip
   exact .func _ (by rw[abK];exact sn he hu) (by rw[abK];exact sn he c)
  ·cases h
 case h_16 i gT=>
  unfold val at h;cases h;simp only[execOp,gT];refine⟨ρ.add st.n ⟨w.heap.size,0,0,0⟩,.map (some w.heap.size),{w with heap:=w.heap.push (.map #[] 0)},.inl Z,ei hw.ij,hw.new Z trivial ⟨#[],Z,tv⟩,?_⟩;exact .map (l:=⟨w.heap.size,0,0,0⟩) (c7 _ _ _)
 case h_17 i l F gT=>
  split at h
  ·rename_i u v hu c;have Fc:∃u s,z=.val u s:=by
    unfold jn val at h;exact tI
   obtain⟨u1,s1,rfl⟩:=Fc;simp only[execOp,gT];exact rI (Ec hT hw (he _ _ hu) (he _ _ c) h)
  ·cases h
 case h_18 i f ab H D gT=>
  split at h
  ·rename_i u l E n hu K Q g;have Fc:∃u s,z=.val u s:=by
    unfold pA val at h;exact tI
   obtain⟨u1,s1,rfl⟩:=Fc;simp only[execOp,gT];obtain⟨t,e1,e2,rfl⟩:=Pt (w:=w) hT hw (he _ _ hu) (zS he K) (zS he Q) (zS he g) h;exact fZ hw e1 e2
  ·cases h
 case h_19 i f P gT=>
  split at h
  ·rename_i u hu;have Fc:∃u s,z=.val u s:=by
    unfold fI val at h;exact tI
   obtain⟨u1,s1,rfl⟩:=Fc;simp only[execOp,gT];obtain⟨t,e1,e2,rfl⟩:=Ea (w:=w) hT (he _ _ hu) h;exact fZ hw e1 e2
  ·cases h
 case h_20 i f P gT=>
  split at h
  ·rename_i u hu;have Fc:∃u s,z=.val u s:=by
    unfold xh val at h;exact tI
   obtain⟨u1,s1,rfl⟩:=Fc;simp only[execOp,gT];obtain⟨t,e1,e2,rfl⟩:=Pp (w:=w) hT (he _ _ hu) h;exact fZ hw e1 e2
  ·cases h
 case h_21 i f U gT=>
  split at h
  ·rename_i u v hu c;have Fc:∃u s,z=.val u s:=by
    unfold gv val at h;exact tI
   obtain⟨u1,s1,rfl⟩:=Fc;simp only[execOp,gT];obtain⟨t,e1,e2,rfl⟩:=Eb (w:=w) hT (he _ _ hu) (he _ _ c) h;exact fZ hw e1 e2
  ·cases h
 case h_22 i f U gT=>
  split at h
  ·rename_i u v hu c;have Fc:∃u s,z=.val u s:=by
    unfold ue val at h;exact tI
   obtain⟨u1,s1,rfl⟩:=Fc;simp only[execOp,gT];obtain⟨t,e1,e2,rfl⟩:=Pq (w:=w) hT (he _ _ hu) (he _ _ c) h;exact fZ hw e1 e2
  ·cases h
 case h_23 i f U Y gT=>
  split at h
  ·rename_i u v hu c;have Fc:∃u s,z=.val u s:=by
    unfold qs val at h;exact tI
   obtain⟨u1,s1,rfl⟩:=Fc;simp only[execOp,gT];obtain⟨t,e1,e2,rfl⟩:=LC (w:=w) hT hw (he _ _ hu) (he _ _ c) h;exact fZ hw e1 e2
  ·cases h
 case h_24 i n k X gT=>
  split at h
  ·rename_i N b F ha hb hc;have Fc:∃u s,z=.val u s:=by
    unfold jo val at h;exact tI
   exact Y8
  ·cases h
 case h_25 i n k X gT=>
  split at h
  ·rename_i N b F ha hb hc;have Fc:∃u s,z=.val u s:=by
    unfold jo val at h;exact tI
   exact Y8
  ·cases h
 case h_26 f R i Y gT=>
  split at h
  ·rename_i u hu;have Fc:∃u s,z=.val u s:=by
    unfold jg val at h;exact tI
   obtain⟨u1,s1,rfl⟩:=Fc;simp only[execOp,gT];obtain⟨t,e1,e2,rfl⟩:=Cv (w:=w) (xt:=R) hT (he _ _ hu) h;exact fZ hw e1 e2
  ·cases h
 case h_27 f U gT=>
  split at h
  ·rename_i u hu;have Fc:∃u s,z=.val u s:=by
    unfold pB val at h;exact tI
   obtain⟨u1,s1,rfl⟩:=Fc;simp only[execOp,gT];obtain⟨t,e1,e2,rfl⟩:=IL (C:=C) (w:=w) (he _ _ hu) h;exact fZ hw e1 e2
  ·cases h
 case h_28 F gT=>
  split at h
  ·cases h
  ·rename_i J y;have x:cT ρ J (F.args.map mK).toList:=by rw[abK];exact sn he y
   simp only[execOp,gT];split at h
   ·rename_i b hc;have:(do let L<-resolve mK F o.type;invoke L.target L.args:Sem Next).run C.P w=(builtin b F.argTypes o.type (F.args.map fun|.const _=>true|_=>false) (F.args.map mK)).run C.P w:=by
     unfold resolve;rw[hc];rfl
    rw[this];exact IS hT hw x h
   ·rename_i P hc;split at h
    ·rename_i u hu;have:(do let L<-resolve mK F o.type;invoke L.target L.args:Sem Next)=(do let L<-Deferred.ofValue (mK P) (F.args.map mK);invoke L.target L.args:Sem Next):=by
      unfold resolve;rw[hc]
     rw[this];exact Ed V W hw (he _ _ hu) x h
    ·cases h
   ·cases h
 case h_29 F gT=>
  split at h
  ·rename_i J P y hc;split at h
   ·rename_i u hu;have x:cT ρ J (F.args.map mK).toList:=by rw[abK];exact sn he y
    simp only[execOp,gT];have:(do pure (.defer (<-resolve mK F o.type)):Sem Next)=(do pure (.defer (<-Deferred.ofValue (mK P) (F.args.map mK))):Sem Next):=by
     unfold resolve;rw[hc]
    rw[this];exact Pu (he _ _ hu) x h
   ·cases h
  ·cases h
 case h_30 f gT=>
  split at h
  ·rename_i i u hu;cases h;have d:=he _ _ hu;simp only[execOp,gT];cases a:mK f<;>rw[a]at d<;>cases d;rename_i d;exact⟨Z,_,Z,.iface _ d⟩
  ·cases h
 case h_31=>cases h
end
structure FB where
 fn:FuncId
 kind:CallKind
 round:Option Nat
def eg(b:FB)(tm:Array Value)(df:List Deferred)(todo:List Item):Frame:=
 {fn:=b.fn,tmps:=tm,todo,defers:=df,mode:=.run,kind:=b.kind,roundOf:=b.round}
def D0(tm:Array Value):Operand->Value
 |.tmp d=>tm.getD d undef
 |.const v=>v
 |.global b=>.pointer (some ⟨b,0,none⟩)
 |.func c=>.func (.func c) #[] #[]
theorem Cx(b:FB)(tm:Array Value)(df:List Deferred)(c:List Item):(eg b tm df c).eval=D0 tm:=by
 funext d;cases d<;>rfl
variable{D H:Code} {r:List Item} {a:Array Oper} {e:Nat} {g:List Nat} {p:List Frame}
section
variable{P:Program} {b:FB} {tm:Array Value} {df:List Deferred} {k:List Item} {cs:List Frame} {w:World}
theorem VT:step P (lone (eg b tm df (.code .skip::k)) cs w)=.next (lone (eg b tm df k) cs w):=
 step_lone_go (by simp[stepG,stepG.exec,eg])
theorem LF{id:Nat}:step P (lone (eg b tm df (.inBlock id::k)) cs w)=.next (lone (eg b tm df k) cs w):=
 step_lone_go (by simp[stepG,stepG.exec,eg])
theorem aay{x y:Code}:step P (lone (eg b tm df (.code (.seq x y)::k)) cs w)=.next (lone (eg b tm df (.code x:: .code y::k)) cs w):=
 step_lone_go (by simp[stepG,stepG.exec,eg])
theorem NU{c:Operand}{t:Bool}(d:D0 tm c=.bool t):
  step P (lone (eg b tm df (.code (.cond c D H)::k)) cs w)=.next (lone (eg b tm df (.code (if t then D else H)::k)) cs w):=
 step_lone_go (by
  have:=congrFun (Cx b tm df (.code (.cond c D H)::k)) c;simp only[eg]at this;simp[stepG,stepG.exec,eg,this,d])
theorem SE{id:Nat}{c:Code}:step P (lone (eg b tm df (.code (.block id c)::k)) cs w)=.next (lone (eg b tm df (.code c:: .inBlock id::k)) cs w):=
 step_lone_go (by simp[stepG,stepG.exec,eg])
theorem NV{c:Code}:step P (lone (eg b tm df (.code (.loop c)::k)) cs w)=.next (lone (eg b tm df (.code c:: .inLoop c::k)) cs w):=
 step_lone_go (by simp[stepG,stepG.exec,eg])
theorem Pv{c:Code}:step P (lone (eg b tm df (.inLoop c::k)) cs w)=.next (lone (eg b tm df (.code c:: .inLoop c::k)) cs w):=
 step_lone_go (by simp[stepG,stepG.exec,eg])
theorem VU{id:Nat}(c:exitTo id k=some r):step P (lone (eg b tm df (.code (.exit id)::k)) cs w)=.next (lone (eg b tm df r) cs w):=
 step_lone_go (by simp[stepG,stepG.exec,eg,c])
theorem aaz(c:b.round=none):step P (lone (eg b tm df (.code .ret::k)) cs w)=.next (lone {eg b tm df (.code .ret::k)with mode:=.returning} cs w):=
 step_lone_go (by simp[stepG,stepG.exec,eg,c])
theorem aaA(c:b.round=none):step P (lone (eg b tm df []) cs w)=.next (lone {eg b tm df []with mode:=.returning} cs w):=
 step_lone_go (by simp[stepG,stepG.exec,eg,c])
theorem Pw{id:Nat}:step P (lone (eg b tm df (.code (.region id a false)::k)) cs w)=.next (lone (eg b tm df (.inRegion a (abL a.size)::k)) cs w):=
 step_lone_go (by simp[stepG,stepG.exec,eg])
theorem Cy{id:Nat}{ops:Array Oper}:step P (lone (eg b tm df (.code (.region id ops true)::k)) cs w)=
   .next (lone (eg b tm df (.inRegion ops (Region.schedule (P.follows .mixedOrders) ops (w.tape w.drawn (.order b.fn id)))::k)) cs {w with drawn:=w.drawn+1}):=
 step_lone_go (by simp[stepG,stepG.exec,eg,choose,Sem.run,Question.forced,Question.cut])
theorem re:step P (lone (eg b tm df (.inRegion a []::k)) cs w)=.next (lone (eg b tm df k) cs w):=
 step_lone_go (by simp[stepG,stepG.exec,eg])
def ni(tm:Array Value)(b:Option Tmp)(v:Value):Array Value:=
 match b with
 |some c=>tm.setIfInBounds c v
 |none=>tm
theorem ly{o:Oper}(d:a[e]?=some o)(v:Value):
  (eg b tm df (.inRegion a (e::g)::k)).finish v=eg b (ni tm o.dst v) df (.inRegion a g::k):=by
 cases c:o.dst<;>simp[Frame.finish,eg,ni,d,c]
theorem AS{o:Oper}(c:a[e]?=some o)(d:Region.wanted o (yielded a tm)=false):
  step P (lone (eg b tm df (.inRegion a (e::g)::k)) cs w)=.next (lone (eg b (ni tm o.dst undef) df (.inRegion a g::k)) cs w):=by
 rw[<-ly c];exact step_lone_go (by
  simp only[eg];simp[stepG,stepG.exec,c,d])
theorem mW{o:Oper}(t:a[e]?=some o)(s:Region.wanted o (yielded a tm)=true)(l:b.round=none∨∀f,o.op≠.defer f):
  stepG P true {frame:=eg b tm df (.inRegion a (e::g)::k),callers:=cs,status:=.running,dying:=none} w=
   stepG.apply P true (eg b tm df (.inRegion a (e::g)::k)) cs none (execOp (D0 tm) o) w:=by
 have d:=Cx b tm df (.inRegion a (e::g)::k);simp only[eg]at d;have i:(match b.round,o.op with
   |some v,.defer f=>stepG.apply P true (eg b tm df (.inRegion a (e::g)::k)) cs none (do Instr.deferInRound v (<-resolve (D0 tm) f o.type);pure .skip) w
   |_,_=>stepG.apply P true (eg b tm df (.inRegion a (e::g)::k)) cs none (execOp (D0 tm) o) w)=stepG.apply P true (eg b tm df (.inRegion a (e::g)::k)) cs none (execOp (D0 tm) o) w:=by
  split
  ·rename_i v f c u;rcases l with h|h
   ·rw[h]at c;cases c
   ·exact absurd u (h f)
  ·rfl
 rw[<-i];simp[stepG,stepG.exec,stepG.oper,Frame.oper?,eg,t,s,d];rfl
theorem yq{o:Oper}(c:a[e]?=some o)(h:Region.wanted o (yielded a tm)=true)(f:b.round=none∨∀i,o.op≠.defer i){v:Value} 
  (d:(execOp (D0 tm) o).run P w=.ok (.value v) m∨((execOp (D0 tm) o).run P w=.ok .skip m/\v=undef)):
  step P (lone (eg b tm df (.inRegion a (e::g)::k)) cs w)=.next (lone (eg b (ni tm o.dst v) df (.inRegion a g::k)) cs m):=by
 rw[<-ly c];refine step_lone_go ?_;rw[mW c h f];rcases d with d|⟨d,rfl⟩
 ·simp[stepG.apply,d]
 ·simp[stepG.apply,d]
theorem SF{rest:List Nat}{o:Oper}(h:a[e]?=some o)(d:Region.wanted o (yielded a tm)=true)(c:b.round=none∨∀l,o.op≠.defer l){f:FuncId} 
  (i:(execOp (D0 tm) o).run P w=.ok (.enter f j) m):
  step P (lone (eg b tm df (.inRegion a (e::rest)::k)) cs w)=.next (lone (Frame.enter P f j .normal) (eg b tm df (.inRegion a (e::rest)::k)::cs) m):=by
 refine step_lone_go ?_;rw[mW h d c];simp[stepG.apply,i,eg]
theorem IT{o:Oper}(h:a[e]?=some o)(d:Region.wanted o (yielded a tm)=true)(c:b.round=none∨∀s,o.op≠.defer s){l:Nat}{f:FuncId} 
  (i:(execOp (D0 tm) o).run P w=.ok (.round l f j D H) m):
  step P (lone (eg b tm df (.inRegion a (e::g)::k)) cs w)=.next (lone (Frame.round l f j D H .normal) (eg b tm df (.inRegion a (e::g)::k)::cs) m):=by
 refine step_lone_go ?_;rw[mW h d c];simp[stepG.apply,i]
theorem SG{o:Oper}(c:a[e]?=some o)(f:Region.wanted o (yielded a tm)=true)(d:b.round=none){h:Deferred} 
  (i:(execOp (D0 tm) o).run P w=.ok (.defer h) m):
  step P (lone (eg b tm df (.inRegion a (e::g)::k)) cs w)=.next (lone (eg b (ni tm o.dst undef) (h::df) (.inRegion a g::k)) cs m):=by
 rw[<-ly (df:=h::df) c];refine step_lone_go ?_;rw[mW c f (.inl d)];simp[stepG.apply,i,eg]
theorem SH{o:Oper}(f:a[e]?=some o)(d:Region.wanted o (yielded a tm)=true)(c:b.round=none∨∀i,o.op≠.defer i){v:Value} 
  (h:(execOp (D0 tm) o).run P w=.halt (.panic v) m):
  step P (lone (eg b tm df (.inRegion a (e::g)::k)) cs w)=.next (lone {eg b tm df (.inRegion a (e::g)::k)with mode:=.panicking [{v,recovered:=false}]} cs m):=by
 refine step_lone_go ?_;rw[mW f d c];simp[stepG.apply,h,eg,Frame.raise]
def yr:List Frame->List Frame
 |[]=>[]
 |c::d=>(match c.mode with
  |.panicking ({v,recovered:=false,goexit:=false}::b)=>{c with mode:=.panicking ({v,recovered:=true}::b)}
  |_=>c)::d
theorem Bs{ops:Array Oper}{i:Nat}{rest:List Nat}{o:Oper}(ho:ops[i]?=some o)(hw:Region.wanted o (yielded ops tm)=true)(hd:b.round=none) 
  (h:(execOp (D0 tm) o).run P w=.ok .recover m) (hn:tryRecover (eg b tm df (.inRegion ops (i::rest)::k)) cs=none):
  step P (lone (eg b tm df (.inRegion ops (i::rest)::k)) cs w)=.next (lone (eg b (ni tm o.dst .nilIface) df (.inRegion ops rest::k)) cs m):=by
 rw[<-ly ho];exact Zi
theorem Bt{ops:Array Oper}{i:Nat}{rest:List Nat}{o:Oper}(ho:ops[i]?=some o)(hw:Region.wanted o (yielded ops tm)=true)(hd:b.round=none){v:Value} 
  (h:(execOp (D0 tm) o).run P w=.ok .recover m) (hn:tryRecover (eg b tm df (.inRegion ops (i::rest)::k)) cs=some (v,p)):
  step P (lone (eg b tm df (.inRegion ops (i::rest)::k)) cs w)=.next (lone (eg b (ni tm o.dst v) df (.inRegion ops rest::k)) p m):=by
 rw[<-ly ho];exact Zi
end
def Cz(ρ:Ren):List Deferred->List Deferred->Prop
 |[],[]=>True
 |d::f,c::b=>acx ρ d c/\Cz ρ f b
 |_,_=>False
def Gy(ρ:Ren)(f:Option Nat)(b:FB):Prop:=
 match f with
 |none=>b.round=none
 |some d=>∃c,ρ d=some c/\b.round=some c.b
def kindOf(b:Bool):CallKind:=if b then .deferred else .normal
structure lz (ρ:Ren) (fc:FC) (fr:Fr) (b:FB) (tm:Array Value) (df:List Deferred):Prop where
 fn:b.fn=fc.fn
 round:Gy ρ fc.round b
 kind:b.kind=kindOf fc.DZ
 tm:gB ρ fc.nt fr.tm tm
 df:Cz ρ fr.df df
def uv(ρ:Ren)(d:Bool)(ps:dW)(cs:List Frame):Prop:=
 match d,ps with
 |false,_=>True
 |true,.none=>∃c f,cs=c::f/\c.mode=.returning
 |true,.gg v=>∃c f b,cs=c::f/\c.mode=.panicking [{v:=b,recovered:=false}]/\cX ρ v b
 |true,.rD=>∃c f b,cs=c::f/\c.mode=.panicking [{v:=b,recovered:=true}]
def pH(ps c:dW)(cs b:List Frame):Prop:=
 (c=ps/\b=cs)∨(∃v,ps=.gg v/\c=.rD/\b=yr cs)
theorem pH.refl(ps:dW)(cs:List Frame):pH ps ps cs cs:=.inl ⟨rfl,rfl⟩
theorem pH.trans{h b c:dW}{d f:List Frame}(i:pH h b p d)(k:pH b c d f):pH h c p f:=by
 rcases i with⟨rfl,rfl⟩|⟨v,rfl,rfl,rfl⟩
 ·exact k
 ·rcases k with⟨rfl,rfl⟩|⟨l,o,_,_⟩
  ·exact .inr ⟨v,Z,Z,Z⟩
  ·cases o
variable{E:Bool}
theorem uv.step{ρ:Ren}{ps c:dW}{cs b:List Frame}(h:uv ρ E ps cs)(k:pH ps c cs b):uv ρ E c b:=by
 rcases k with⟨rfl,rfl⟩|⟨v,rfl,rfl,rfl⟩
 ·exact h
 ·cases E with
  |false=>trivial
  |true=>
   obtain⟨l,i,d,rfl,f,_⟩:=h;exact⟨{l with mode:=.panicking [{v:=d,recovered:=true}]},i,d,by simp[yr,f],Z⟩
theorem uv.mono{ρ c:Ren}(d:ρ.le c){b:Bool}{ps:dW}{cs:List Frame}(h:uv ρ b ps cs):uv c b ps cs:=by
 cases b with
 |false=>trivial
 |true=>
  cases ps with
  |none=>exact h
  |gg v=>obtain⟨o,l,i,s,f,k⟩:=h;exact⟨o,l,i,s,f,k.mono d⟩
  |rD=>exact h
theorem IP.mono{ρ b:Ren}(c:ρ.le b){t f:Target}(d:IP ρ t f):IP b t f:=by
 unfold IP at d⊢;split at d
 ·obtain⟨k,i,h⟩:=d;exact⟨k,c _ _ i,h⟩
 ·exact⟨d.1,d.2.mono c⟩
 ·exact d.elim
theorem Cz.mono{ρ d:Ren}(c:ρ.le d):∀{h b:List Deferred},Cz ρ h b->Cz d h b
 |[],[],_=>trivial
 |_::_,_::_,⟨f,i⟩=>⟨⟨f.target.mono c,f.args.mono c⟩,Cz.mono c i⟩
 |[],_::_,k=>k.elim
 |_::_,[],k=>k.elim
theorem Gy.mono{ρ c:Ren}(d:ρ.le c){f:Option Nat}{b:FB}(h:Gy ρ f b):Gy c f b:=by
 cases f with
 |none=>exact h
 |some o=>obtain⟨i,l,k⟩:=h;exact⟨i,d _ _ l,k⟩
theorem lz.mono{ρ d:Ren}(c:ρ.le d){fc:FC}{fr:Fr}{b:FB}{tm:Array Value}{df:List Deferred}(f:lz ρ fc fr b tm df):lz d fc fr b tm df:=
 ⟨f.fn,f.round.mono c,f.kind,f.tm.mono c,f.df.mono c⟩
def Gz(P:Program)(f:Machine)(ρ:Ren)(b:FB)(k:List Item)(tm:Array Value)(df:List Deferred)(cs:List Frame)(w:World):Ex->Prop
 |.norm=>Steps P f (lone (eg b tm df k) cs w)
 |.exit id=>∃c,Steps P f (lone (eg b tm df (.code (.exit id)::c)) cs w)/\exitTo id c=exitTo id k
 |.ret=>∃c,Steps P f (lone (eg b tm df (.code .ret::c)) cs w)
 |.panic v=>∃c d,cX ρ v d/\Steps P f (lone {eg b tm df c with mode:=.panicking [{v:=d,recovered:=false}]} cs w)
theorem Gz.of_steps{P:Program}{o d:Machine}{ρ:Ren}{b:FB}{k:List Item}{tm:Array Value}{df:List Deferred}{cs:List Frame}{w:World}{i:Ex}(f:Steps P o d)(h:Gz P d ρ b k tm df cs w i):Gz P o ρ b k tm df cs w i:=by
 cases i with
 |norm=>exact f.trans h
 |exit id=>obtain⟨c,s,u⟩:=h;exact⟨c,f.trans s,u⟩
 |ret=>obtain⟨c,s⟩:=h;exact⟨c,f.trans s⟩
 |panic v=>obtain⟨c,l,t,s⟩:=h;exact⟨c,l,t,f.trans s⟩
section
variable(C:dR) (w0:World) (N0:Nat) (G:Nat->Prop)
def il(ρ:Ren)(fc:FC)(t:Machine)(b:FB)(k:List Item)(ps:dW)(cs:List Frame)(s:Ex)(o:Fr)(l:dW)(dC:St):Prop:=
 ∃c i h d f,ρ.le c/\di w0 N0 G c dC i/\lz c fc o b h d/\pH ps l cs f/\Gz C.P t c b k h d f i s
def BT(ρ:Ren)(f:FuncId)(h:Array Value)(k:Bool)(ps:dW)(o:CR)(l:dW)(dC:St)(cs:List Frame)(w:World):Prop:=
 ∃b d F i,ρ.le b/\di w0 N0 G b dC d/\pH ps l cs i/\Steps C.P (lone (Frame.enter C.P f h (kindOf k)) cs w) (lone F i d)/\F.fn=f/\F.defers=[]/\F.kind=kindOf k/\(∃fn,C.P.funcs[f]?=some fn/\
  match o with
  |.ret v=>F.mode=.returning/\∃c,(results fn F.tmps).run C.P d=.ok c d/\cX b v c
  |.eH v=>∃c,F.mode=.panicking [{v:=c,recovered:=false}]/\cX b v c)
def IU(ρ:Ren)(l:Loc)(i:Array Value)(s:CR)(dC:St)(w:World):Prop:=
 ∃fn d b c,(Instr.yield l.b i).run C.P w=.ok (.round l.b fn d b c) w/\∀(o:Frame) (cs:List Frame),∃f k,ρ.le f/\di w0 N0 G f dC k/\
  match s with
  |.ret v=>∃h,cX f v h/\Steps C.P (lone (Frame.round l.b fn d b c .normal) (o::cs) w) (lone (o.finish h) cs k)
  |.eH v=>∃h,cX f v h/\Steps C.P (lone (Frame.round l.b fn d b c .normal) (o::cs) w) (lone (o.raise [{v:=h,recovered:=false}]) cs k)
structure wH (rc:Rec):Prop where
 code:∀fc c fr ps st x fr' ps' dC,rc.code fc c fr ps st=some (x,fr',ps',dC)->codeOk c=true->∀ρ w b tm df cs k,di w0 N0 G ρ st w->lz ρ fc fr b tm df->uv ρ fc.DZ ps cs->
  il C w0 N0 G ρ fc (lone (eg b tm df (.code c::k)) cs w) b k ps cs x fr' ps' dC
 call:∀f args DZ ps st cr ps' dC,rc.call f args DZ ps st=some (cr,ps',dC)->∀ρ w IV cs,di w0 N0 G ρ st w->cT ρ args IV.toList->uv ρ DZ ps cs->
  BT C w0 N0 G ρ f IV DZ ps cr ps' dC cs w
 round:∀l args st cr dC,rc.round l args st=some (cr,dC)->∀ρ w L IV,di w0 N0 G ρ st w->ρ l=some L->cT ρ args IV.toList->IU C w0 N0 G ρ L IV cr dC w
end
variable{B:AK} {A:dW} {q:Rec} {I:Fr}
section
variable{C:dR} {w0:World} {N0:Nat} {G:Nat->Prop} {ρ:Ren} {fc:FC} {fr:Fr} {ps:dW} {st:St} {b:FB} {tm:Array Value} {df:List Deferred} {cs:List Frame} {w:World}
theorem gB.get{t:Tr Value}(f:gB ρ e t tm){i:Nat}{v:Value}(b:t.get i=some v):cX ρ v (tm.getD i undef):=by
 obtain⟨c,h,d⟩:=f.2 _ _ b;have:tm.getD i undef=c:=by simp[Array.getD_eq_getD_getElem?,h]
 rw[this];exact d
theorem Ee{v:Value}(b:rG v=true)(ρ:Ren):cX ρ v v:=by
 unfold rG at b;split at b
 ·exact .agg (jI b ρ)
 ·exact uo b ρ
theorem pI(h:gB ρ e fr.tm tm):oL ρ (jy fr) (D0 tm):=by
 intro d v b;cases d with
 |tmp l=>exact h.get b
 |const i=>
  simp only[jy]at b;split at b
  ·rename_i c;cases b;exact Ee c ρ
  ·cases b
 |global k=>cases b
 |func f=>cases b;exact .func f .nil .nil
theorem dy{nt:Nat}{dst:Option Tmp}{v v':Value}{fr':Fr}(h:gB ρ nt fr.tm tm)(i:cX ρ v v')(b:gV nt fr dst v=some fr'):gB ρ nt fr'.tm (ni tm dst v')/\fr'.df=fr.df:=by
 unfold gV at b;split at b
 ·cases b;exact⟨h,rfl⟩
 ·rename_i o;split at b
  ·rename_i c;cases b;have c:=Nat.blt_eq.mp c;refine⟨⟨by simp[ni,h.1],fun t u d=>?_⟩,Z⟩;rw[cB]at d;by_cases f:t=o
   ·subst f;rw[if_pos rfl]at d;cases d;exact⟨v',by simp only[ni];rw[Array.getElem?_setIfInBounds_self_of_lt (by rw[h.1];exact c)],i⟩
   ·rw[if_neg f]at d;obtain⟨l,k,s⟩:=h.2 _ _ d;exact⟨l,by simp only[ni];rw[Array.getElem?_setIfInBounds_ne (fun k=>f k.symm)];exact k,s⟩
  ·cases b
theorem xe{o:Oper}(w:gB ρ e fr.tm tm)(c:gC a.toList fr o=some E):Region.wanted o (yielded a tm)=E:=by
 unfold gC at c;unfold Region.wanted;split at c
 ·rename_i h;cases c;rw[h]
 ·rename_i x d h;rw[h];split at c
  ·cases c
  ·rename_i F k;rw[ck,aet]at k;split at c
   ·cases c
   ·rename_i C l;have u:yielded a tm x=(match tm[C]? with|some (.bool b)=>some b|_=>none):=by
     unfold yielded;rw[k];simp only[Option.bind_some,l];rfl
    simp only[u];split at c
    ·rename_i t f;cases c;obtain⟨s,v,i⟩:=w.2 _ _ f;cases i;rw[v];cases t<;>cases d<;>rfl
    ·rename_i y f;cases c;obtain⟨s,v,i⟩:=w.2 _ _ f;cases i;rw[v];rfl
    ·cases c
def ZB(C:dR)(w0:World)(N0:Nat)(G:Nat->Prop)(ρ:Ren)(fc:FC)(w:Machine)(b:FB)(tm:Array Value)(df:List Deferred)(i:Array Oper)(y:Nat)(h:List Nat)(k:List Item)(ps:dW)(cs:List Frame)(x:AK):Prop:=
 match x with
 |.next u f dC=>∃c d s l o,ρ.le c/\di w0 N0 G c dC d/\lz c fc u b s l/\pH ps f cs o/\Steps C.P w (lone (eg b s l (.inRegion i h::k)) o d)
 |.eH v _ f dC=>f=ps/\∃c d t,ρ.le c/\di w0 N0 G c dC d/\cX c v t/\Steps C.P w (lone {eg b tm df (.inRegion i (y::h)::k)with mode:=.panicking [{v:=t,recovered:=false}]} cs d)
theorem ys{c:Option Tmp}{v:Value}(d:AK.go e fr c v ps st=some B):∃b,gV e fr c v=some b/\B=.next b ps st:=by
 unfold AK.go at d;split at d
 ·rename_i b f;cases d;exact⟨b,f,rfl⟩
 ·cases d
theorem nj(b:pH .none A cs p):A=.none/\p=cs:=by
 rcases b with b|⟨v,c,_⟩
 ·exact b
 ·cases c
theorem im{C:dR}{ev:Operand->Option Value}{o:Oper}(b:j8 C ev o st=some z)(c:∀f,z≠.defer f):∀d,o.op≠.defer d:=by
 intro d h;unfold j8 at b;rw[h]at b;simp only at b;split at b
 ·split at b
  ·unfold Co at b;split at b
   ·cases b;exact c _ rfl
   ·cases b
  ·cases b
 ·cases b
theorem IW(k:lz ρ fc fr b tm df)(f:uv ρ fc.DZ ps cs)(i:∀v,fc.DZ=true->ps=.gg v->False):tryRecover (eg b tm df r) cs=none:=by
 cases d:fc.DZ with
 |false=>
  have c:b.kind=.normal:=by rw[k.kind,d];rfl
  simp[tryRecover,eg,c]
 |true=>
  have c:b.kind=.deferred:=by rw[k.kind,d];rfl
  rw[d]at f;cases ps with
  |none=>
   obtain⟨s,l,rfl,h⟩:=f;simp[tryRecover,eg,c,h]
  |gg v=>exact(i v d rfl).elim
  |rD=>
   obtain⟨s,l,o,rfl,h⟩:=f;simp[tryRecover,eg,c,h]
theorem IX(n:nQ C)(p:Fm C)(r:nX C)(ac:wH C w0 N0 G q){o:Oper}(U:nT C q fc o fr ps st=some B)(y:di w0 N0 G ρ st w)(c:lz ρ fc fr b tm df)(ag:uv ρ fc.DZ ps cs)(l:List Nat)(k:List Item)(T:a[e]?=some o)(f:Region.wanted o (yielded a tm)=true):
  ZB C w0 N0 G ρ fc (lone (eg b tm df (.inRegion a (e::l)::k)) cs w) b tm df a e l k ps cs B:=by
 unfold nT at U;have V:=pI c.tm;split at U
 ·cases U
 ·rename_i v dC s;obtain⟨X,O,rfl⟩:=ys U;obtain⟨x,u,S,t,L⟩:=qz n p r y V s;obtain⟨N,W⟩:=dy (c.tm.mono L.le) L.value O;refine⟨x,S,ni tm o.dst u,df,cs,L.le,L.world,⟨c.fn,c.round.mono L.le,c.kind,N,by rw[W];exact c.df.mono L.le⟩,.refl _ _,.one ?_⟩;exact yq T f (.inr (im s (by intro aj ab;cases ab))) t
 ·rename_i v dC s;cases U;obtain⟨rfl,u,t,Q⟩:=qz n p r y V s;exact⟨Z,ρ,w,u,Ren.le_refl _,y,Q,.one (SH T f (.inr (im s (by intro aj ab;cases ab))) t)⟩
 ·rename_i aw ad s;obtain⟨K,t,J⟩:=qz n p r y V s;have z:=SF (P:=C.P) (b:=b) (df:=df) (k:=k) (cs:=cs) (rest:=l) T f (.inr (im s (by intro aj ab;cases ab))) t;split at U
  ·rename_i v ap dC g;obtain⟨X,O,rfl⟩:=ys U;obtain⟨x,S,F,an,h,M,E,d,I,W,al,fn,Y,H,u,ah,Q⟩:=ac.call _ _ _ _ _ _ _ _ g ρ w K (eg b tm df (.inRegion a (e::l)::k)::cs) y J trivial;obtain⟨_,rfl⟩:=nj E;obtain⟨N,i⟩:=dy (c.tm.mono h) Q O;refine⟨x,S,ni tm o.dst u,df,cs,h,M,⟨c.fn,c.round.mono h,c.kind,N,by rw[i];exact c.df.mono h⟩,.refl _ _,?_⟩;refine .head z (d.trans (.one ?_));rw[<-ly T];exact step_leave_returned ⟨H,W,al,fn,by rw[I];exact Y,ah⟩
  ·rename_i v ap dC g;cases U;obtain⟨x,S,F,an,h,M,E,d,I,W,al,fn,Y,u,H,Q⟩:=ac.call _ _ _ _ _ _ _ _ g ρ w K (eg b tm df (.inRegion a (e::l)::k)::cs) y J trivial;obtain⟨_,rfl⟩:=nj E;refine⟨Z,x,S,u,h,M,Q,.head z (d.trans (.one ?_))⟩;have:=step_leave_panicked (P:=C.P) (c:=eg b tm df (.inRegion a (e::l)::k)) (cs:=cs) (w:=S) (fr:=F) ⟨H,W,fn,by rw[I];exact Y⟩;rw[this];rfl
  ·cases U
 ·rename_i ax ad s;obtain⟨au,K,am,J,t⟩:=qz n p r y V s;split at U
  ·rename_i v dC g;obtain⟨X,O,rfl⟩:=ys U;obtain⟨fn,af,A,ae,ai,d⟩:=ac.round _ _ _ _ _ g ρ w au K y am J;rw[ai]at t;obtain⟨x,S,h,M,u,Q,m⟩:=d (eg b tm df (.inRegion a (e::l)::k)) cs;obtain⟨N,i⟩:=dy (c.tm.mono h) Q O;refine⟨x,S,ni tm o.dst u,df,cs,h,M,⟨c.fn,c.round.mono h,c.kind,N,by rw[i];exact c.df.mono h⟩,.refl _ _,?_⟩;refine .head (IT T f (.inr (im s (by intro aj ab;cases ab))) t) ?_;rw[ly T]at m;exact m
  ·rename_i v dC g;cases U;obtain⟨fn,af,A,ae,ai,d⟩:=ac.round _ _ _ _ _ g ρ w au K y am J;rw[ai]at t;obtain⟨x,S,h,M,u,Q,m⟩:=d (eg b tm df (.inRegion a (e::l)::k)) cs;exact⟨Z,x,S,u,h,M,Q,.head (IT T f (.inr (im s (by intro aj ab;cases ab))) t) m⟩
  ·cases U
 ·rename_i s;have t:(execOp (D0 tm) o).run C.P w=.ok .recover w:=qz n p r y V s;split at U
  ·cases U
  ·rename_i R;have j:b.round=none:=by have:=c.round;rw[R]at this;exact this
   split at U
   ·rename_i v D;obtain⟨X,O,rfl⟩:=ys U;rw[D]at ag;obtain⟨av,ao,u,rfl,H,Q⟩:=ag;obtain⟨N,i⟩:=dy c.tm Q O;have aa:b.kind=.deferred:=by rw[c.kind,D];rfl
    refine⟨ρ,w,ni tm o.dst u,df,yr (av::ao),Ren.le_refl _,y,⟨c.fn,c.round,c.kind,N,by rw[i];exact c.df⟩,.inr ⟨v,Z,Z,Z⟩,.one ?_⟩;refine Bt T f j t ?_;simp[tryRecover,eg,aa,H,yr]
   ·rename_i ak;obtain⟨X,O,rfl⟩:=ys U;obtain⟨N,i⟩:=dy c.tm .nilIface O;refine⟨ρ,w,ni tm o.dst .nilIface,df,cs,Ren.le_refl _,y,⟨c.fn,c.round,c.kind,N,by rw[i];exact c.df⟩,.refl _ _,.one ?_⟩;refine Bs T f j t ?_;exact IW c ag ak
 ·rename_i aj s;obtain⟨ar,t,aq⟩:=qz n p r y V s;split at U
  ·cases U
  ·rename_i R;have j:b.round=none:=by have:=c.round;rw[R]at this;exact this
   obtain⟨X,O,rfl⟩:=ys U;obtain⟨N,i⟩:=dy (fr:={fr with df:=aj::fr.df}) (v':=undef) c.tm (.tuple .nil) O;refine⟨ρ,w,ni tm o.dst undef,ar::df,cs,Ren.le_refl _,y,⟨c.fn,c.round,c.kind,N,by rw[i];exact⟨aq,c.df⟩⟩,.refl _ _,.one ?_⟩;exact SG T f j t
theorem o9(v:nQ C)(x:Fm C)(y:nX C)(K:wH C w0 N0 G q){o:Oper}(t:kg C q fc a.toList o fr ps st=some B)(l:di w0 N0 G ρ st w)(c:lz ρ fc fr b tm df)(F:uv ρ fc.DZ ps cs)(d:List Nat)(k:List Item)(s:a[e]?=some o):
  ZB C w0 N0 G ρ fc (lone (eg b tm df (.inRegion a (e::d)::k)) cs w) b tm df a e d k ps cs B:=by
 unfold kg at t;split at t
 ·cases t
 ·rename_i f;obtain⟨L,J,rfl⟩:=ys t;have h:=xe c.tm f;obtain⟨u,i⟩:=dy (v':=undef) c.tm (.tuple .nil) J;exact⟨ρ,w,ni tm o.dst undef,df,cs,Ren.le_refl _,l,⟨c.fn,c.round,c.kind,u,by rw[i];exact c.df⟩,.refl _ _,.one (AS s h)⟩
 ·rename_i f;exact IX v x y K t l c F d k s (xe c.tm f)
theorem Px{o:Oper}{v:Value}{dC:St}(b:nT C q fc o fr ps st=some (.eH v I A dC)):I=fr:=by
 unfold nT at b;repeat' split at b
 all_goals first
  |cases b;done
  |(obtain⟨_,_,c⟩:=ys b;cases c;done)
  |(cases b;rfl)
theorem CA{b:List Oper}{o:Oper}{v:Value}{dC:St}(c:kg C q fc b o fr ps st=some (.eH v I A dC)):I=fr:=by
 unfold kg at c;split at c
 ·cases c
 ·obtain⟨_,_,d⟩:=ys c;cases d
 ·exact Px c
theorem GA(j:nQ C)(m:Fm C)(n:nX C)(D:wH C w0 N0 G q){ops:Array Oper}(k:List Item):∀(T:List Oper) (i:Nat) (fr:Fr) (ps:dW) (st:St) (ρ:Ren) (w:World) (tm:Array Value) (df:List Deferred) (cs:List Frame) (e:Ex) (f:Fr) (c:dW) (dC:St),
  T=ops.toList.drop i->pC C q fc ops.toList T fr ps st=some (e,f,c,dC)->di w0 N0 G ρ st w->lz ρ fc fr b tm df->uv ρ fc.DZ ps cs->
  il C w0 N0 G ρ fc (lone (eg b tm df (.inRegion ops ((abL ops.size).drop i)::k)) cs w) b k ps cs e f c dC:=by
 intro T;induction T with
 |nil=>
  intro i fr ps st ρ w tm df cs e f c dC t J x s y;simp only[pC,Option.some.injEq,Prod.mk.injEq]at J;obtain⟨rfl,rfl,rfl,rfl⟩:=J;have S:ops.size<=i:=by
   have:=congrArg List.length t;simp at this;omega
  refine⟨ρ,w,tm,df,cs,Ren.le_refl _,x,s,.refl _ _,?_⟩;rw[List.drop_eq_nil_of_le (by simpa using S)];exact .one re
 |cons ac T I=>
  intro i fr ps st ρ w tm df cs e f c dC t J x s y;have S:i<ops.size:=by
   have:=congrArg List.length t;simp at this;omega
  have p:ops[i]?=some ac:=by
   have:=congrArg (fun ad=>ad[0]?) t;simp only[List.getElem?_cons_zero,List.getElem?_drop,Nat.add_zero,aet]at this;exact this.symm
  have r:T=ops.toList.drop (i+1):=by
   have:=congrArg List.tail t;simpa using this
  have d:(abL ops.size).drop i=i::(abL ops.size).drop (i+1):=by
   rw[List.drop_eq_getElem_cons (by simpa using S)];simp
  simp only[pC]at J;split at J
  ·cases J
  ·rename_i K N L F;obtain⟨o,O,A,V,z,h,u,E,M,l⟩:=o9 j m n D F x s y ((abL ops.size).drop (i+1)) k p;obtain⟨X,ab,a,g,U,Q,Y,B,R,P⟩:=I (i+1) K N L o O A V z e f c dC r J u E ((y.mono h).step M);refine⟨X,ab,a,g,U,h.trans Q,Y,B,M.trans R,?_⟩;rw[d];exact .of_steps l P
  ·rename_i v K N L F;simp only[Option.some.injEq,Prod.mk.injEq]at J;obtain⟨rfl,rfl,rfl,rfl⟩:=J;have W:=CA F;subst W;obtain⟨rfl,o,O,H,h,u,aa,l⟩:=o9 j m n D F x s y ((abL ops.size).drop (i+1)) k p;refine⟨o,O,tm,df,cs,h,u,s.mono h,.refl _ _,?_⟩;rw[d];exact⟨_,H,aa,l⟩
end
end Go.AM
