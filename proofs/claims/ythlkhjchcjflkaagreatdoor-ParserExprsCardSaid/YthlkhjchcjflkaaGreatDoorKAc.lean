/- Part of the proof. -/
import Derived.Test.YthlkhjchcjflkaaGreatDoorKAb
set_option linter.all false
set_option maxHeartbeats 16000000
set_option maxRecDepth 100000
open Bool renaming and_eq_true->Yl,or_eq_true->Yu,not_eq_true'->YD
open List renaming mem_cons->Ym,range->Ys,all_eq_true->Yt,mem_filter->Yw,mem_append->Yx,mem_erase_of_ne->Yz,length_erase_of_mem->YF
open Array renaming getD_eq_getD_getElem?->Yn,getElem?_eq_getElem->Yo,toList_map->Yq,getElem?_toList->Yr,getElem?_setIfInBounds_self_of_lt->Yy,getElem?_setIfInBounds_ne->YE,getElem?_eq_none->YG,toList_append->YI,length_toList->YJ
open Nat renaming eq_of_beq_eq_true->Yp,beq_eq->Yv,testBit->YA,min->YB,blt_eq->YC,le_of_ble_eq_true->YH
namespace Go.AM
open Go.RowKit (Below)
def nJ(ρ:Ren)(ev:Operand->Option Value)(mf:Operand->Value):Prop:=∀b v,ev b=some v->dg ρ v (mf b)
def FZ(ρ:Ren)(t d:Target):Prop:=
 match t,d with
 |.collected k,.collected b=>∃h,ρ k=some h/\b=h.b
 |.fn (.func i) l,.fn (.func f) c=>i=f/\db ρ l.toList c.toList
 |_,_=>False
structure UG (ρ:Ren) (d d':Deferred):Prop where
 target:FZ ρ d.target d'.target
 args:db ρ d.args.toList d'.args.toList
structure CQ (C:eD):Prop where
 fn:∀f fi,C.ff.get f=some fi->∃fn,C.P.funcs[f]?=some fn/\fn.body=some fi.body/\fn.ntmps=fi.nt/\fn.results.toList=fi.Qn/\(fn.name== "runtime.NumGoroutine")=false
def ng(C:eD):Prop:=∀d c v,C.ext d c=some v->∀(ρ:Ren) (b:Array Value) (w:World),db ρ c b.toList->(callFunc d b).run C.P w=.ok (.value v) w/\dg ρ v v
def yk(C:eD)(w0:World)(N0:Nat)(G:Nat->Prop)(ρ:Ren)(st:St)(w:World)(l:AR)(f:Result Next):Prop:=
 match l with
 |.val v eB=>∃i d h,(f=.ok (.value d) h∨(f=.ok .skip h/\d=undef))/\Kept w0 N0 G ρ eB v d h i
 |.fO v eB=>eB=st/\∃d,f=.halt (.panic d) w/\dg ρ v d
 |.enter p c=>∃b,f=.ok (.enter p b) w/\db ρ c b.toList
 |.yield q c=>∃m b,ρ q=some m/\db ρ c b.toList/\f=(Instr.yield m.b b).run C.P w
 |.recover=>f=.ok .recover w
 |.defer o=>∃k,f=.ok (.defer k) w/\UG ρ o k
variable{g:Array Value} {j:List Value} {r:Array TypeId}
section
variable{C:eD} {w0:World} {N0:Nat} {G:Nat->Prop} {ρ:Ren} {st eB:St} {w:World} {v:Value}
theorem NX(n:mW C)(E:dD w0 N0 G ρ st w){ty:TypeId}(i:db ρ j g.toList)(h:FK C r.toList j st=some (.val v eB)):
  p7 w0 N0 G ρ eB v ((Builtin.copy_ r ty g).run C.P w):=by
 obtain⟨r⟩:=r;obtain⟨g⟩:=g;unfold FK at h;split at h
 ·rename_i Y y O c L src R;simp only at R i;subst R;cases i with
  |@cons _ I _ _ V i=>
  cases i with
  |@cons _ q _ _ x i=>
  cases i;split at h
  ·rename_i ap B;split at h
   ·rename_i ae H;split at h
    ·rename_i ag o u l;split at h
     ·rename_i P f;have z:∃d k,I=.slice d c k:=by cases V<;>exact⟨_,_,rfl⟩
      obtain⟨d,k,rfl⟩:=z;have ai:(⟨Y::y⟩:Array TypeId)[0]?=some Y:=rfl;have ab:(⟨[.slice d c k,q]⟩:Array Value)[0]?=some (.slice d c k):=rfl;have J:(⟨[.slice d c k,q]⟩:Array Value)[1]?=some q:=rfl;have S:(Builtin.lenOf q).run C.P w=.ok o w:=by
       unfold p6 at l;split at l
       ·cases l;cases x<;>rfl
       ·cases l;cases x;rename_i s;show Result.ok s.size w=_;rw[size_data]
       ·cases l
      have D:∃m,(Builtin.firstCells ag.size (YB o c) q).run C.P w=.ok m w/\db ρ P m.toList:=by
       unfold ic at f;split at f
       ·cases f;cases x;exact⟨#[],rfl,.nil⟩
       ·rename_i b am a ar;cases x with
        |jd _ ac=>
         simp only[p6,Option.some.injEq]at l;subst l;have W:YB 0 c=0:=Nat.zero_min _;rw[W]at f⊢;refine⟨#[],by simp[Builtin.firstCells,loadCells,loadCellsFrom],?_⟩;have:=fP f;cases P with
         |nil=>exact .nil
         |cons _ _=>simp at this
        |slice t aj Q=>
         obtain⟨N,aq,an⟩:=E.read t f C.P;exact⟨N,aq,an⟩
       ·rename_i s;cases f;cases x;refine⟨_,Z,?_⟩;have:((s.extract 0 (YB o c)).data.map fun b=>(.int .u8 b.toNat:Value)).toList=ofBytes (s.data.toList.take (YB o c)):=by
         simp[ofBytes,ByteArray.data_extract,List.extract_eq_take_drop]
        rw[this];exact yi _ _
       ·cases f
      obtain⟨m,af,U⟩:=D;have p:∀(K:Result Value),((do
        if let some ao:=d then storeCells ao m.toList
        pure (goInt (YB o c)):Sem Value)).run C.P w=K->(Builtin.copy_ ⟨Y::y⟩ ty ⟨[.slice d c k,q]⟩).run C.P w=K:=by
       intro K ad;simp only[Builtin.copy_,ai,ab,J];rw[b9 _ (eu n B w)];simp only[H];rw[b9 _ S,b9 _ (fQ n u w),b9 _ af];exact ad
      split at h
      ·obtain⟨rfl,rfl⟩:=dt h;cases V;refine⟨ρ,.int .i64 (Int.ofNat (YB o 0)),w,p _ Z,Ren.le_refl _,E,.int _ _⟩
      ·rename_i ak;obtain⟨rfl,rfl⟩:=dt h;have ah:m.toList=[]:=by cases aa:m.toList with|nil=>rfl|cons _ _=>rw[aa]at U;cases U
       refine⟨ρ,.int .i64 (Int.ofNat (YB o c)),w,p _ ?_,Ren.le_refl _,E,.int _ _⟩;rw[ah];cases d<;>rfl
      ·rename_i b am X;split at h
       ·rename_i al A;obtain⟨rfl,rfl⟩:=dt h;have F:∃a,ρ b=some a/\d=some ⟨a.b,a.d+am,none⟩:=by
         cases V with
         |jd _ ac=>
          exfalso;have W:YB o 0=0:=Nat.min_zero _;rw[W]at f;have:P=[]:=by
           unfold ic at f;split at f
           ·cases f;rfl
           ·have:=fP f;cases P with
            |nil=>rfl
            |cons _ _=>simp at this
           ·cases f;simp[ofBytes]
           ·cases f
          exact X this
         |slice t aj Q=>exact⟨_,t,rfl⟩
        obtain⟨a,t,rfl⟩:=F;obtain⟨M,e,T,_⟩:=E.write t A U C.P;refine⟨ρ,.int .i64 (Int.ofNat (YB o c)),M,p _ ?_,Ren.le_refl _,T,.int _ _⟩;simp only;rw[b9 _ e];rfl
       ·cases h
      ·cases h
     ·cases h
    ·cases h
   ·cases h
  ·cases h
 ·cases h
theorem Qw(y:mW C)(F:dD w0 N0 G ρ st w){ty:TypeId}(d:db ρ j g.toList)(b:vK C r.toList j st=some (.val v eB)):
  (Builtin.len_ r ty g).run C.P w=.ok v w/\dg ρ v v/\eB=st:=by
 obtain⟨r⟩:=r;obtain⟨g⟩:=g;unfold vK at b;split at b
 ·rename_i S o a V m;simp only at m d;subst m;cases d with
  |@cons _ q _ p l d=>
  have i:(⟨S::o⟩:Array TypeId)[0]?=some S:=rfl;have f:(⟨q::p⟩:Array Value)[0]?=some q:=rfl;split at b
  ·cases b
  ·rename_i X t;have h:=eu y t w;split at b
   ·rename_i s c;obtain⟨rfl,rfl⟩:=dt b;cases l;refine⟨?_,.int _ _,Z⟩;simp only[Builtin.len_,i,f];rw[b9 _ h,c];show Result.ok (goInt s.size) w=_;rw[size_data];rfl
   ·rename_i U P c;obtain⟨rfl,rfl⟩:=dt b;refine⟨?_,.int _ _,Z⟩;simp only[Builtin.len_,i,f];rw[b9 _ h,c];rfl
   ·rename_i U P e c;obtain⟨rfl,rfl⟩:=dt b;refine⟨?_,.int _ _,Z⟩;simp only[Builtin.len_,i,f];rw[b9 _ h,c];cases l<;>rfl
   ·rename_i c;obtain⟨rfl,rfl⟩:=dt b;refine⟨?_,.int _ _,Z⟩;simp only[Builtin.len_,i,f];rw[b9 _ h,c];cases l;rfl
   ·rename_i Y c;split at b
    ·rename_i W T x;obtain⟨rfl,rfl⟩:=dt b;cases l with
     |map k=>
      obtain⟨R,P,D⟩:=F.obj _ _ _ k x;refine⟨?_,.int _ _,Z⟩;simp only[Builtin.len_,i,f];rw[b9 _ h,c];simp only;rw[b9 _ (u5 P (by intro _ _ _ F;cases F))];have k:=D.length;simp only[YJ]at k;rw[k];rfl
    ·cases b
   ·cases b
 ·cases b
theorem F0{P:Program}:∀{m d:List Value} {o h l:Value},db ρ m d->dg ρ o h->lE true o m=some l->(d.foldlM Builtin.max2 h).run P w=.ok l w/\dg ρ l l:=by
 intro m;induction m with
 |nil=>
  intro d o h l c i f;cases c;cases i<;>simp only[lE,Option.some.injEq]at f<;>first|cases f;done|(subst f;exact⟨rfl,.int _ _⟩)
 |cons C m q=>
  intro d o h l c i f;cases c with
  |cons s c=>
   unfold lE at f;split at f
   ·rename_i v;cases v
   ·rename_i k t x b y v;cases v;cases i;cases s;simp only[xw]at f;have:=q c (.int _ _) f;refine⟨?_,this.2⟩;rw[List.foldlM_cons];have p:(Builtin.max2 (.int k t) (.int x b)).run P w=.ok (.int k (if b>t then b else t)) w:=rfl;rw[b9 _ p];simpa using this.1
   ·cases f
theorem F1{P:Program}:∀{m d:List Value} {o h l:Value},db ρ m d->dg ρ o h->lE false o m=some l->(d.foldlM Builtin.min2 h).run P w=.ok l w/\dg ρ l l:=by
 intro m;induction m with
 |nil=>
  intro d o h l c i f;cases c;cases i<;>simp only[lE,Option.some.injEq]at f<;>first|cases f;done|(subst f;exact⟨rfl,.int _ _⟩)
 |cons C m q=>
  intro d o h l c i f;cases c with
  |cons s c=>
   unfold lE at f;split at f
   ·rename_i v;cases v
   ·rename_i k t x b y v;cases v;cases i;cases s;simp only[xw]at f;have:=q c (.int _ _) f;refine⟨?_,this.2⟩;rw[List.foldlM_cons];have p:(Builtin.min2 (.int k t) (.int x b)).run P w=.ok (.int k (if b<t then b else t)) w:=rfl;rw[b9 _ p];simpa using this.1
   ·cases f
end
variable{z:Result Next} {I:AR} {E:Sem Value} {n:World}
section
variable{C:eD} {w0:World} {N0:Nat} {G:Nat->Prop} {ρ:Ren} {st eB:St} {w:World} {v:Value} {ev:Operand->Option Value} {mf:Operand->Value}
theorem q3(f:nJ ρ ev mf):∀{b:List Operand} {c:List Value},mr ev b=some c->db ρ c (b.map mf):=by
 intro b;induction b with
 |nil=>intro c d;simp[mr]at d;subst d;exact .nil
 |cons l b h=>
  intro c d;simp only[mr]at d;split at d
  ·rename_i m o k i;cases d;exact .cons (f _ _ k) (h i)
  ·cases d
theorem sL(h:nJ ρ ev mf):∀{b:List (Nat×Operand)} {c:List (Nat×Value)},lD ev b=some c->yh ρ c (b.map fun(m,f)=>(m,mf f)):=by
 intro b;induction b with
 |nil=>intro c d;simp[lD]at d;subst d;exact .nil
 |cons f b i=>
  obtain⟨m,f⟩:=f;intro c d;simp only[lD]at d;split at d
  ·rename_i o p l k;cases d;exact .cons (h _ _ l) (i k)
  ·cases d
theorem p7.value{h:Result Value}(i:p7 w0 N0 G ρ eB v h)(f:z=h.andThen fun l w=>.ok (Next.value l) w):yk C w0 N0 G ρ st w (.val v eB) z:=by
 obtain⟨b,c,d,m,k⟩:=i;subst m;exact⟨b,c,d,.inl (by rw[f];rfl),k⟩
theorem p9(k:CQ C){f:FuncId}{i:FI}(l:C.ff.get f=some i)(b:Array Value):(callFunc f b).run C.P w=.ok (.enter f b) w:=by
 obtain⟨fn,d,c,_,_,h⟩:=k.fn _ _ l;unfold callFunc;rw[b9 _ (show(program).run C.P w=.ok C.P w from rfl),d];simp only[h,Bool.false_eq_true,if_false,c,Option.isNone_some];rfl
theorem BO(P:CQ C)(R:ng C){f x:Value}(S:dD w0 N0 G ρ st w)(v:dg ρ f x)(h:db ρ j g.toList)(i:kZ C f j st=some I):
  yk C w0 N0 G ρ st w I ((do let o<-Deferred.ofValue x g;invoke o.target o.args:Sem Next).run C.P w):=by
 unfold kZ at i;split at i
 ·rename_i W first d
  cases v with
  |@func _ _ c _ b k q=>
  have m:db ρ (first.toList++j++d.toList) (c++g++b).toList:=by
   simp only[YI];exact(k.append h).append q
  have p:(do let o<-Deferred.ofValue (.func (.func W) c b) g;invoke o.target o.args:Sem Next).run C.P w=(callFunc W (c++g++b)).run C.P w:=rfl;rw[p];simp only at i;split at i
  ·rename_i Y y;cases i;exact⟨_,p9 P y _,m⟩
  ·split at i
   ·rename_i X U;cases i;obtain⟨V,F⟩:=R _ _ _ U ρ _ w m;exact⟨ρ,X,w,.inl V,Ren.le_refl _,S,F⟩
   ·cases i
 ·rename_i a first d
  cases v with
  |@yield _ D _ c _ b T k q=>
  split at i
  ·rename_i l;cases i;rw[l]at k;have t:c= #[]:=by
    cases s:c.toList with
    |nil=>exact Array.toList_eq_nil_iff.1 s
    |cons _ _=>rw[s]at k;cases k
   subst t;refine⟨D,g,T,h,?_⟩;have:(do let o<-Deferred.ofValue (.func (.yield D.b) #[] b) g;invoke o.target o.args:Sem Next).run C.P w=(Instr.yield D.b (#[]++g)).run C.P w:=rfl;rw[this,Array.empty_append]
  ·cases i
 ·cases i
theorem LR{f i:Value}(l:dg ρ f i)(b:db ρ j g.toList)(k:zL f j=some I):
  yk C w0 N0 G ρ st w I ((do pure (.defer (<-Deferred.ofValue i g)):Sem Next).run C.P w):=by
 unfold zL at k;split at k
 ·rename_i p first d
  cases k;cases l with
  |@func _ _ h _ c o m=>
  refine⟨_,Z,⟨Z,m⟩,?_⟩;simp only[YI];exact o.append b
 ·cases k
theorem xz(h:nJ ρ ev mf){b:Option Operand}{l:Option Value}(d:(match b with|none=>some none|some l=>(ev l).map some)=some l):
  (l=none/\b.map mf=none)∨∃i f,l=some i/\b.map mf=some f/\dg ρ i f:=by
 cases b with
 |none=>cases d;exact .inl ⟨rfl,rfl⟩
 |some b=>
  simp only at d;cases c:ev b with
  |none=>rw[c]at d;cases d
  |some k=>rw[c]at d;cases d;exact .inr ⟨k,mf b,rfl,rfl,h _ _ c⟩
theorem Si(C:eD)(b:Builtin)(d:List TypeId)(h:List Value)(f:AR)(c:jp C b d h st=some f):(∃i eB,f=.val i eB)∨f=.recover:=by
 unfold jp at c;split at c
 ·unfold nW at c;repeat' split at c
  all_goals first|cases c;done|skip
  unfold gv at c;repeat' split at c
  all_goals first|cases c;done|(unfold val at c;cases c;exact .inl ⟨_,_,rfl⟩)
 ·unfold FK at c;repeat' split at c
  all_goals first|cases c;done|(unfold val at c;cases c;exact .inl ⟨_,_,rfl⟩)
 ·unfold vK at c;repeat' split at c
  all_goals first|cases c;done|(unfold val at c;cases c;exact .inl ⟨_,_,rfl⟩)
 ·repeat' split at c
  all_goals first|cases c;done|(unfold val at c;cases c;exact .inl ⟨_,_,rfl⟩)
 ·repeat' split at c
  all_goals first|cases c;done|(unfold val at c;cases c;exact .inl ⟨_,_,rfl⟩)
 ·cases c;exact .inr rfl
 ·cases c
theorem F2(l:mW C)(h:dD w0 N0 G ρ st w){b:Builtin}{f:TypeId}{cs:Array Bool}(d:db ρ j g.toList)(c:jp C b r.toList j st=some I):
  yk C w0 N0 G ρ st w I ((builtin b r f cs g).run C.P w):=by
 rcases Si C b _ _ _ c with⟨y,q,rfl⟩|rfl
 ·unfold jp at c;split at c
  ·exact p7.value (IM l h (ty:=f) d c) (Sem.run_bind ..)
  ·exact p7.value (NX l h (ty:=f) d c) (Sem.run_bind ..)
  ·obtain⟨k,i,rfl⟩:=Qw (ty:=f) l h d c;exact p7.value (C:=C) (w:=w) (p7.same h i) (by
    show(do pure (.value (<-Builtin.len_ r f g)):Sem Next).run C.P w=_;rw[Sem.run_bind,k];rfl)
  ·split at c
   ·rename_i v t;split at c
    ·rename_i s m;obtain⟨rfl,rfl⟩:=dt c;obtain⟨g⟩:=g;cases d with
     |cons p o=>
      obtain⟨k,i⟩:=F0 (P:=C.P) (w:=w) o p m;exact p7.value (C:=C) (w:=w) (p7.same h i) (by
       show(do pure (.value (<-List.foldlM Builtin.max2 _ _)):Sem Next).run C.P w=_;rw[Sem.run_bind,k];rfl)
    ·cases c
   ·cases c
  ·split at c
   ·rename_i v t;split at c
    ·rename_i s m;obtain⟨rfl,rfl⟩:=dt c;obtain⟨g⟩:=g;cases d with
     |cons p o=>
      obtain⟨k,i⟩:=F1 (P:=C.P) (w:=w) o p m;exact p7.value (C:=C) (w:=w) (p7.same h i) (by
       show(do pure (.value (<-List.foldlM Builtin.min2 _ _)):Sem Next).run C.P w=_;rw[Sem.run_bind,k];rfl)
    ·cases c
   ·cases c
  ·cases c
  ·cases c
 ·unfold jp at c;split at c
  ·exfalso;rcases Si C .append _ _ _ (by unfold jp;exact c)with⟨_,_,x⟩|_<;>first|cases x|skip
   unfold nW at c;repeat' split at c
   all_goals first|cases c;done|skip
   unfold gv at c;repeat' split at c
   all_goals first|cases c;done|(unfold val at c;cases c)
  ·exfalso;unfold FK at c;repeat' split at c
   all_goals first|cases c;done|(unfold val at c;cases c)
  ·exfalso;unfold vK at c;repeat' split at c
   all_goals first|cases c;done|(unfold val at c;cases c)
  ·exfalso;repeat' split at c
   all_goals first|cases c;done|(unfold val at c;cases c)
  ·exfalso;repeat' split at c
   all_goals first|cases c;done|(unfold val at c;cases c)
  ·rfl
  ·cases c
theorem gB(c:dD w0 N0 G ρ st w){b:Value}(f:E.run C.P w=.ok b w)(d:dg ρ v b):yk C w0 N0 G ρ st w (.val v st) ((do pure (.value (<-E)):Sem Next).run C.P w):=
 ⟨ρ,b,w,.inl (by rw[b9 _ f];rfl),Ren.le_refl _,c,d⟩
theorem qu(b:p7 w0 N0 G ρ eB v (E.run C.P w)):yk C w0 N0 G ρ st w (.val v eB) ((do pure (.value (<-E)):Sem Next).run C.P w):=p7.value b (Sem.run_bind ..)
theorem zU{d:Sem Unit}(b:d.run C.P w=.ok () n)(c:dD w0 N0 G ρ eB n):yk C w0 N0 G ρ st w (.val kX eB) ((do d;pure .skip:Sem Next).run C.P w):=
 ⟨ρ,undef,n,.inr ⟨by rw[b9 _ b];rfl,rfl⟩,Ren.le_refl _,c,.tuple .nil⟩
theorem pz(D:mW C)(M:CQ C)(N:ng C)(i:dD w0 N0 G ρ st w)(f:nJ ρ ev mf){o:Oper}(c:iX C ev o st=some I):yk C w0 N0 G ρ st w I ((execOp mf o).run C.P w):=by
 unfold iX at c;split at c
 case h_1 T d=>
  split at c
  ·rename_i p h;unfold val at c;cases c;simp only[execOp,d];exact⟨ρ,_,w,.inl Z,Ren.le_refl _,i,f _ _ h⟩
  ·cases c
 case h_2 T d=>
  split at c
  ·rename_i p h;unfold val at c;cases c;simp only[execOp,d];exact⟨ρ,_,w,.inl Z,Ren.le_refl _,i,f _ _ h⟩
  ·cases c
 case h_3 Y u b d=>
  split at c
  ·rename_i U p v S j e;unfold val at c;cases c;have r:=f _ _ S;simp only[execOp,d];cases J:mf Y<;>rw[J]at r<;>cases r;cases U
   ·exact⟨ρ,_,w,.inl Z,Ren.le_refl _,i,f _ _ e⟩
   ·exact⟨ρ,_,w,.inl Z,Ren.le_refl _,i,f _ _ j⟩
  ·cases c
 case h_4 U d=>
  have y:∃p s,I=.val p s:=by unfold uZ val at c;split at c<;>cases c;exact⟨_,_,rfl⟩
  obtain⟨p,s,rfl⟩:=y;simp only[execOp,d];exact qu (LA D i c)
 case h_5 U T d=>
  split at c
  ·rename_i p h;have y:∃p s,I=.val p s:=by unfold It val at c;split at c<;>cases c;exact⟨_,_,rfl⟩
   obtain⟨p,s,rfl⟩:=y;simp only[execOp,d];exact qu (Qr i (f _ _ h) c)
  ·cases c
 case h_6 U ps d=>
  split at c
  ·rename_i l g;have y:∃p s,I=.val p s:=by
    unfold sr val at c;repeat' split at c
    all_goals first|cases c;done|(cases c;exact⟨_,_,rfl⟩)
   obtain⟨p,s,rfl⟩:=y;simp only[execOp,d];obtain⟨V,t,x,rfl⟩:=LD (w:=w) (ps':=ps.map fun(K,T)=>(K,mf T)) D i (by rw[Yq];exact sL f g) c;exact gB i t x
  ·cases c
 case h_7 U aq ps d=>
  split at c
  ·rename_i l g;have y:∃p s,I=.val p s:=by
    unfold jP val at c;repeat' split at c
    all_goals first|cases c;done|(cases c;exact⟨_,_,rfl⟩)
   obtain⟨p,s,rfl⟩:=y;simp only[execOp,d];exact qu (zP D i (by rw[Yq];exact sL f g) c)
  ·cases c
 case h_8 U u d=>
  split at c
  ·rename_i p h;have y:∃p s,I=.val p s:=by
    unfold vJ val at c;repeat' split at c
    all_goals first|cases c;done|(cases c;exact⟨_,_,rfl⟩)
   obtain⟨p,s,rfl⟩:=y;simp only[execOp,d];obtain⟨V,t,x,rfl⟩:=FP D i (f _ _ h) c;exact gB i t x
  ·cases c
 case h_9 U u T d=>
  split at c
  ·rename_i p aj h A;have y:∃p s,I=.val p s:=by
    unfold ir val at c;repeat' split at c
    all_goals first|cases c;done|(cases c;exact⟨_,_,rfl⟩)
   obtain⟨p,s,rfl⟩:=y;simp only[execOp,d];obtain⟨z,t,x,rfl,_⟩:=LB D i (f _ _ h) (f _ _ A) c;exact zU t x
  ·cases c
 case h_10 T d=>
  split at c
  ·rename_i p h;have y:∃p s,I=.val p s:=by
    unfold mu val at c;repeat' split at c
    all_goals first|cases c;done|(cases c;exact⟨_,_,rfl⟩)
   obtain⟨F,s,rfl⟩:=y;have R:=f _ _ h;obtain⟨rfl,rfl,ao,ap,ag,ah⟩:=DE R c;simp only[execOp,d];refine⟨ρ,mf T,w,.inl ?_,Ren.le_refl _,i,R⟩;generalize mf T=O at*;rfl
  ·cases c
 case h_11 ab U T O ak d=>
  split at c
  ·rename_i p v h y;split at c
   ·rename_i af R;unfold val at c;cases c;obtain⟨t,x⟩:=Qv (w:=w) D (f _ _ h) (f _ _ y) R;simp only[execOp,d];exact gB i t x
   ·cases c
  ·cases c
 case h_12 ab U T d=>
  split at c
  ·rename_i p h;split at c
   ·rename_i af R;unfold val at c;cases c;obtain⟨t,x⟩:=SY (C:=C) (w:=w) (f _ _ h) R;simp only[execOp,d];exact gB i t x
   ·cases c
  ·cases c
 case h_13 s n T d=>
  split at c
  ·rename_i p h;have y:∃p s,I=.val p s:=by
    unfold ib val at c;repeat' split at c
    all_goals first|cases c;done|(cases c;exact⟨_,_,rfl⟩)
   obtain⟨F,P,rfl⟩:=y;simp only[execOp,d];exact qu (FY D i (f _ _ h) c)
  ·cases c
 case h_14 U T d=>
  split at c
  ·rename_i p h;have y:∃p s,I=.val p s:=by
    unfold hR val at c;repeat' split at c
    all_goals first|cases c;done|(cases c;exact⟨_,_,rfl⟩)
   obtain⟨F,P,rfl⟩:=y;simp only[execOp,d];obtain⟨t,x,rfl,ad⟩:=vU (w:=w) D (f _ _ h) c;exact gB i t ad
  ·cases c
 case h_15 fn u b d=>
  split at c
  ·rename_i p v L h y;unfold val at c;cases c;simp only[execOp,d,Instr.makeFunc];refine⟨ρ,.func fn (u.map mf) (b.map mf),w,.inl Z,Ren.le_refl _,i,?_⟩;cases fn<;>first|(simp[SV]at L;done)|skip
   exact .func _ (by rw[Yq];exact q3 f h) (by rw[Yq];exact q3 f y)
  ·cases c
 case h_16 U d=>
  unfold val at c;cases c;simp only[execOp,d];refine⟨ρ.add st.n ⟨w.heap.size,0,0,0⟩,.map (some w.heap.size),{w with heap:=w.heap.push (.map #[] 0)},.inl Z,e1 i.ie,i.new Z trivial ⟨#[],Z,tv⟩,?_⟩;exact .map (l:=⟨w.heap.size,0,0,0⟩) (dr _ _ _)
 case h_17 U l Y d=>
  split at c
  ·rename_i p v h y;have q:∃p s,I=.val p s:=by
    unfold oz val at c;repeat' split at c
    all_goals first|cases c;done|(cases c;exact⟨_,_,rfl⟩)
   obtain⟨F,P,rfl⟩:=q;simp only[execOp,d];exact qu (BN D i (f _ _ h) (f _ _ y) c)
  ·cases c
 case h_18 U T ai an al d=>
  split at c
  ·rename_i p l am m h g E ac;have q:∃p s,I=.val p s:=by
    unfold oA val at c;repeat' split at c
    all_goals first|cases c;done|(cases c;exact⟨_,_,rfl⟩)
   obtain⟨F,P,rfl⟩:=q;simp only[execOp,d];obtain⟨V,t,x,rfl⟩:=LQ (w:=w) D i (f _ _ h) (xz f g) (xz f E) (xz f ac) c;exact gB i t x
  ·cases c
 case h_19 U T B d=>
  split at c
  ·rename_i p h;have q:∃p s,I=.val p s:=by
    unfold gb val at c;repeat' split at c
    all_goals first|cases c;done|(cases c;exact⟨_,_,rfl⟩)
   obtain⟨F,P,rfl⟩:=q;simp only[execOp,d];obtain⟨V,t,x,rfl⟩:=BL (w:=w) D (f _ _ h) c;exact gB i t x
  ·cases c
 case h_20 U T B d=>
  split at c
  ·rename_i p h;have q:∃p s,I=.val p s:=by
    unfold u1 val at c;repeat' split at c
    all_goals first|cases c;done|(cases c;exact⟨_,_,rfl⟩)
   obtain⟨F,P,rfl⟩:=q;simp only[execOp,d];obtain⟨V,t,x,rfl⟩:=LM (w:=w) D (f _ _ h) c;exact gB i t x
  ·cases c
 case h_21 U T K d=>
  split at c
  ·rename_i p v h y;have q:∃p s,I=.val p s:=by
    unfold gT val at c;repeat' split at c
    all_goals first|cases c;done|(cases c;exact⟨_,_,rfl⟩)
   obtain⟨F,P,rfl⟩:=q;simp only[execOp,d];obtain⟨V,t,x,rfl⟩:=BM (w:=w) D (f _ _ h) (f _ _ y) c;exact gB i t x
  ·cases c
 case h_22 U T K d=>
  split at c
  ·rename_i p v h y;have q:∃p s,I=.val p s:=by
    unfold sw val at c;repeat' split at c
    all_goals first|cases c;done|(cases c;exact⟨_,_,rfl⟩)
   obtain⟨F,P,rfl⟩:=q;simp only[execOp,d];obtain⟨V,t,x,rfl⟩:=LN (w:=w) D (f _ _ h) (f _ _ y) c;exact gB i t x
  ·cases c
 case h_23 U T K Q d=>
  split at c
  ·rename_i p v h y;have q:∃p s,I=.val p s:=by
    unfold pq val at c;repeat' split at c
    all_goals first|cases c;done|(cases c;exact⟨_,_,rfl⟩)
   obtain⟨F,P,rfl⟩:=q;simp only[execOp,d];obtain⟨V,t,x,rfl⟩:=IN (w:=w) D i (f _ _ h) (f _ _ y) c;exact gB i t x
  ·cases c
 case h_24 U m k O d=>
  split at c
  ·rename_i u b Y j e S;have q:∃p s,I=.val p s:=by
    unfold jc val at c;repeat' split at c
    all_goals first|cases c;done|(cases c;exact⟨_,_,rfl⟩)
   obtain⟨F,P,rfl⟩:=q;simp only[execOp,d];obtain⟨z,t,x,rfl,_⟩:=uL D i (f _ _ j) (f _ _ e) (f _ _ S) c;exact zU t x
  ·cases c
 case h_25 U m k O d=>
  split at c
  ·rename_i u b Y j e S;have q:∃p s,I=.val p s:=by
    unfold jc val at c;repeat' split at c
    all_goals first|cases c;done|(cases c;exact⟨_,_,rfl⟩)
   obtain⟨F,P,rfl⟩:=q;simp only[execOp,d];obtain⟨z,t,x,rfl,_⟩:=uL D i (f _ _ j) (f _ _ e) (f _ _ S) c;exact zU t x
  ·cases c
 case h_26 T H U Q d=>
  split at c
  ·rename_i p h;have q:∃p s,I=.val p s:=by
    unfold iY val at c;repeat' split at c
    all_goals first|cases c;done|(cases c;exact⟨_,_,rfl⟩)
   obtain⟨F,P,rfl⟩:=q;simp only[execOp,d];obtain⟨V,t,x,rfl⟩:=zS (w:=w) (xt:=H) D (f _ _ h) c;exact gB i t x
  ·cases c
 case h_27 T K d=>
  split at c
  ·rename_i p h;have q:∃p s,I=.val p s:=by
    unfold oB val at c;repeat' split at c
    all_goals first|cases c;done|(cases c;exact⟨_,_,rfl⟩)
   obtain⟨F,P,rfl⟩:=q;simp only[execOp,d];obtain⟨V,t,x,rfl⟩:=FW (C:=C) (w:=w) (f _ _ h) c;exact gB i t x
  ·cases c
 case h_28 Y d=>
  split at c
  ·cases c
  ·rename_i a X;have W:db ρ a (Y.args.map mf).toList:=by rw[Yq];exact q3 f X
   simp only[execOp,d];split at c
   ·rename_i b S;have:(do let n<-resolve mf Y o.type;invoke n.target n.args:Sem Next).run C.P w=(builtin b Y.argTypes o.type (Y.args.map fun|.const _=>true|_=>false) (Y.args.map mf)).run C.P w:=by
     unfold resolve;rw[S];rfl
    rw[this];exact F2 D i W c
   ·rename_i B S;split at c
    ·rename_i p h;have:(do let n<-resolve mf Y o.type;invoke n.target n.args:Sem Next)=(do let n<-Deferred.ofValue (mf B) (Y.args.map mf);invoke n.target n.args:Sem Next):=by
      unfold resolve;rw[S]
     rw[this];exact BO M N i (f _ _ h) W c
    ·cases c
   ·cases c
 case h_29 Y d=>
  split at c
  ·rename_i a B X S;split at c
   ·rename_i p h;have W:db ρ a (Y.args.map mf).toList:=by rw[Yq];exact q3 f X
    simp only[execOp,d];have:(do pure (.defer (<-resolve mf Y o.type)):Sem Next)=(do pure (.defer (<-Deferred.ofValue (mf B) (Y.args.map mf))):Sem Next):=by
     unfold resolve;rw[S]
    rw[this];exact LR (f _ _ h) W c
   ·cases c
  ·cases c
 case h_30 T d=>
  split at c
  ·rename_i U p h;cases c;have R:=f _ _ h;simp only[execOp,d];cases aa:mf T<;>rw[aa]at R<;>cases R;rename_i R;exact⟨Z,_,Z,.iface _ R⟩
  ·cases c
 case h_31=>cases c
end
structure FB where
 fn:FuncId
 kind:CallKind
 round:Option Nat
def eW(b:FB)(tm:Array Value)(df:List Deferred)(todo:List Item):Frame:=
 {fn:=b.fn,tmps:=tm,todo,defers:=df,mode:=.run,kind:=b.kind,roundOf:=b.round}
def BH(tm:Array Value):Operand->Value
 |.tmp d=>tm.getD d undef
 |.const v=>v
 |.global b=>.pointer (some ⟨b,0,none⟩)
 |.func c=>.func (.func c) #[] #[]
theorem zV(b:FB)(tm:Array Value)(df:List Deferred)(c:List Item):(eW b tm df c).eval=BH tm:=by
 funext d;cases d<;>rfl
variable{M O:Code} {H:List Item} {a:Nat} {e:List Nat} {u:List Frame}
section
variable{P:Program} {b:FB} {tm:Array Value} {df:List Deferred} {k:List Item} {cs:List Frame} {w:World}
theorem Qx:step P (lone (eW b tm df (.code .skip::k)) cs w)=.next (lone (eW b tm df k) cs w):=
 step_lone_go (by simp[stepG,stepG.exec,eW])
theorem IQ{id:Nat}:step P (lone (eW b tm df (.inBlock id::k)) cs w)=.next (lone (eW b tm df k) cs w):=
 step_lone_go (by simp[stepG,stepG.exec,eW])
theorem SZ{x y:Code}:step P (lone (eW b tm df (.code (.seq x y)::k)) cs w)=.next (lone (eW b tm df (.code x:: .code y::k)) cs w):=
 step_lone_go (by simp[stepG,stepG.exec,eW])
theorem KG{c:Operand}{t:Bool}(d:BH tm c=.bool t):
  step P (lone (eW b tm df (.code (.cond c M O)::k)) cs w)=.next (lone (eW b tm df (.code (if t then M else O)::k)) cs w):=
 step_lone_go (by
  have:=congrFun (zV b tm df (.code (.cond c M O)::k)) c;simp only[eW]at this;simp[stepG,stepG.exec,eW,this,d])
theorem NY{id:Nat}{c:Code}:step P (lone (eW b tm df (.code (.block id c)::k)) cs w)=.next (lone (eW b tm df (.code c:: .inBlock id::k)) cs w):=
 step_lone_go (by simp[stepG,stepG.exec,eW])
theorem KH{c:Code}:step P (lone (eW b tm df (.code (.loop c)::k)) cs w)=.next (lone (eW b tm df (.code c:: .inLoop c::k)) cs w):=
 step_lone_go (by simp[stepG,stepG.exec,eW])
theorem LS{c:Code}:step P (lone (eW b tm df (.inLoop c::k)) cs w)=.next (lone (eW b tm df (.code c:: .inLoop c::k)) cs w):=
 step_lone_go (by simp[stepG,stepG.exec,eW])
theorem Qy{id:Nat}(c:exitTo id k=some H):step P (lone (eW b tm df (.code (.exit id)::k)) cs w)=.next (lone (eW b tm df H) cs w):=
 step_lone_go (by simp[stepG,stepG.exec,eW,c])
theorem S0(c:b.round=none):step P (lone (eW b tm df (.code .ret::k)) cs w)=.next (lone {eW b tm df (.code .ret::k)with mode:=.returning} cs w):=
 step_lone_go (by simp[stepG,stepG.exec,eW,c])
theorem S1(c:b.round=none):step P (lone (eW b tm df []) cs w)=.next (lone {eW b tm df []with mode:=.returning} cs w):=
 step_lone_go (by simp[stepG,stepG.exec,eW,c])
theorem LU{id:Nat}{ops:Array Oper}:step P (lone (eW b tm df (.code (.region id ops false)::k)) cs w)=.next (lone (eW b tm df (.inRegion ops (Ys ops.size)::k)) cs w):=
 step_lone_go (by simp[stepG,stepG.exec,eW])
theorem zW{id:Nat}{ops:Array Oper}:step P (lone (eW b tm df (.code (.region id ops true)::k)) cs w)=
   .next (lone (eW b tm df (.inRegion ops (Region.schedule (P.follows .mixedOrders) ops (w.tape w.drawn (.order b.fn id)))::k)) cs {w with drawn:=w.drawn+1}):=
 step_lone_go (by simp[stepG,stepG.exec,eW,choose,Sem.run,Question.forced,Question.cut])
theorem mX{ops:Array Oper}:step P (lone (eW b tm df (.inRegion ops []::k)) cs w)=.next (lone (eW b tm df k) cs w):=
 step_lone_go (by simp[stepG,stepG.exec,eW])
def my(tm:Array Value)(b:Option Tmp)(v:Value):Array Value:=
 match b with
 |some c=>tm.setIfInBounds c v
 |none=>tm
theorem k0{ops:Array Oper}{o:Oper}(d:ops[a]?=some o)(v:Value):
  (eW b tm df (.inRegion ops (a::e)::k)).finish v=eW b (my tm o.dst v) df (.inRegion ops e::k):=by
 cases c:o.dst<;>simp[Frame.finish,eW,my,d,c]
theorem yl{ops:Array Oper}{o:Oper}(c:ops[a]?=some o)(d:Region.wanted o (yielded ops tm)=false):
  step P (lone (eW b tm df (.inRegion ops (a::e)::k)) cs w)=.next (lone (eW b (my tm o.dst undef) df (.inRegion ops e::k)) cs w):=by
 rw[<-k0 c];exact step_lone_go (by
  simp only[eW];simp[stepG,stepG.exec,c,d])
theorem k1{ops:Array Oper}{o:Oper}(p:ops[a]?=some o)(m:Region.wanted o (yielded ops tm)=true)(l:b.round=none∨∀f,o.op≠.defer f):
  stepG P true {frame:=eW b tm df (.inRegion ops (a::e)::k),callers:=cs,status:=.running,dying:=none} w=
   stepG.apply P true (eW b tm df (.inRegion ops (a::e)::k)) cs none (execOp (BH tm) o) w:=by
 have d:=zV b tm df (.inRegion ops (a::e)::k);simp only[eW]at d;have i:(match b.round,o.op with
   |some s,.defer f=>stepG.apply P true (eW b tm df (.inRegion ops (a::e)::k)) cs none (do Instr.deferInRound s (<-resolve (BH tm) f o.type);pure .skip) w
   |_,_=>stepG.apply P true (eW b tm df (.inRegion ops (a::e)::k)) cs none (execOp (BH tm) o) w)=stepG.apply P true (eW b tm df (.inRegion ops (a::e)::k)) cs none (execOp (BH tm) o) w:=by
  split
  ·rename_i s f c q;rcases l with h|h
   ·rw[h]at c;cases c
   ·exact absurd q (h f)
  ·rfl
 rw[<-i];simp[stepG,stepG.exec,stepG.oper,Frame.oper?,eW,p,m,d];rfl
theorem vV{ops:Array Oper}{o:Oper}(c:ops[a]?=some o)(h:Region.wanted o (yielded ops tm)=true)(f:b.round=none∨∀i,o.op≠.defer i){v:Value} 
  (d:(execOp (BH tm) o).run P w=.ok (.value v) n∨((execOp (BH tm) o).run P w=.ok .skip n/\v=undef)):
  step P (lone (eW b tm df (.inRegion ops (a::e)::k)) cs w)=.next (lone (eW b (my tm o.dst v) df (.inRegion ops e::k)) cs n):=by
 rw[<-k0 c];refine step_lone_go ?_;rw[k1 c h f];rcases d with d|⟨d,rfl⟩
 ·simp[stepG.apply,d]
 ·simp[stepG.apply,d]
theorem NZ{ops:Array Oper}{rest:List Nat}{o:Oper}(h:ops[a]?=some o)(d:Region.wanted o (yielded ops tm)=true)(c:b.round=none∨∀l,o.op≠.defer l){f:FuncId} 
  (i:(execOp (BH tm) o).run P w=.ok (.enter f g) n):
  step P (lone (eW b tm df (.inRegion ops (a::rest)::k)) cs w)=.next (lone (Frame.enter P f g .normal) (eW b tm df (.inRegion ops (a::rest)::k)::cs) n):=by
 refine step_lone_go ?_;rw[k1 h d c];simp[stepG.apply,i,eW]
theorem F3{ops:Array Oper}{o:Oper}(h:ops[a]?=some o)(d:Region.wanted o (yielded ops tm)=true)(c:b.round=none∨∀m,o.op≠.defer m){l:Nat}{f:FuncId} 
  (i:(execOp (BH tm) o).run P w=.ok (.round l f g M O) n):
  step P (lone (eW b tm df (.inRegion ops (a::e)::k)) cs w)=.next (lone (Frame.round l f g M O .normal) (eW b tm df (.inRegion ops (a::e)::k)::cs) n):=by
 refine step_lone_go ?_;rw[k1 h d c];simp[stepG.apply,i]
theorem N1{ops:Array Oper}{o:Oper}(c:ops[a]?=some o)(f:Region.wanted o (yielded ops tm)=true)(d:b.round=none){h:Deferred} 
  (i:(execOp (BH tm) o).run P w=.ok (.defer h) n):
  step P (lone (eW b tm df (.inRegion ops (a::e)::k)) cs w)=.next (lone (eW b (my tm o.dst undef) (h::df) (.inRegion ops e::k)) cs n):=by
 rw[<-k0 (df:=h::df) c];refine step_lone_go ?_;rw[k1 c f (.inl d)];simp[stepG.apply,i,eW]
theorem N2{ops:Array Oper}{o:Oper}(f:ops[a]?=some o)(d:Region.wanted o (yielded ops tm)=true)(c:b.round=none∨∀i,o.op≠.defer i){v:Value} 
  (h:(execOp (BH tm) o).run P w=.halt (.panic v) n):
  step P (lone (eW b tm df (.inRegion ops (a::e)::k)) cs w)=.next (lone {eW b tm df (.inRegion ops (a::e)::k)with mode:=.panicking [{v,recovered:=false}]} cs n):=by
 refine step_lone_go ?_;rw[k1 f d c];simp[stepG.apply,h,eW,Frame.raise]
def vW:List Frame->List Frame
 |[]=>[]
 |c::d=>(match c.mode with
  |.panicking ({v,recovered:=false,goexit:=false}::b)=>{c with mode:=.panicking ({v,recovered:=true}::b)}
  |_=>c)::d
theorem yR{ops:Array Oper}{o:Oper}(d:ops[a]?=some o)(f:Region.wanted o (yielded ops tm)=true)(c:b.round=none) 
  (l:(execOp (BH tm) o).run P w=.ok .recover n) (i:tryRecover (eW b tm df (.inRegion ops (a::e)::k)) cs=none):
  step P (lone (eW b tm df (.inRegion ops (a::e)::k)) cs w)=.next (lone (eW b (my tm o.dst .nilIface) df (.inRegion ops e::k)) cs n):=by
 rw[<-k0 d];refine step_lone_go ?_;rw[k1 d f (.inl c)];have h:(eW b tm df (.inRegion ops (a::e)::k)).roundOf=none:=c;simp[stepG.apply,l,h,i]
theorem yS{ops:Array Oper}{o:Oper}(d:ops[a]?=some o)(f:Region.wanted o (yielded ops tm)=true)(c:b.round=none){v:Value} 
  (l:(execOp (BH tm) o).run P w=.ok .recover n) (i:tryRecover (eW b tm df (.inRegion ops (a::e)::k)) cs=some (v,u)):
  step P (lone (eW b tm df (.inRegion ops (a::e)::k)) cs w)=.next (lone (eW b (my tm o.dst v) df (.inRegion ops e::k)) u n):=by
 rw[<-k0 d];refine step_lone_go ?_;rw[k1 d f (.inl c)];have h:(eW b tm df (.inRegion ops (a::e)::k)).roundOf=none:=c;simp[stepG.apply,l,h,i]
end
def zX(ρ:Ren):List Deferred->List Deferred->Prop
 |[],[]=>True
 |d::f,c::b=>UG ρ d c/\zX ρ f b
 |_,_=>False
def DJ(ρ:Ren)(f:Option Nat)(b:FB):Prop:=
 match f with
 |none=>b.round=none
 |some d=>∃c,ρ d=some c/\b.round=some c.b
def kindOf(b:Bool):CallKind:=if b then .deferred else .normal
structure k4 (ρ:Ren) (fc:FC) (fr:Fr) (b:FB) (tm:Array Value) (df:List Deferred):Prop where
 fn:b.fn=fc.fn
 round:DJ ρ fc.round b
 kind:b.kind=kindOf fc.BG
 tm:gL ρ fc.nt fr.tm tm
 df:zX ρ fr.df df
def sM(ρ:Ren)(d:Bool)(ps:eT)(cs:List Frame):Prop:=
 match d,ps with
 |false,_=>True
 |true,.none=>∃c f,cs=c::f/\c.mode=.returning
 |true,.gu v=>∃c f b,cs=c::f/\c.mode=.panicking [{v:=b,recovered:=false}]/\dg ρ v b
 |true,.qn=>∃c f b,cs=c::f/\c.mode=.panicking [{v:=b,recovered:=true}]
def oH(ps c:eT)(cs b:List Frame):Prop:=
 (c=ps/\b=cs)∨(∃v,ps=.gu v/\c=.qn/\b=vW cs)
theorem oH.refl(ps:eT)(cs:List Frame):oH ps ps cs cs:=.inl ⟨rfl,rfl⟩
theorem oH.trans{h b c:eT}{d f:List Frame}(i:oH h b u d)(k:oH b c d f):oH h c u f:=by
 rcases i with⟨rfl,rfl⟩|⟨v,rfl,rfl,rfl⟩
 ·exact k
 ·rcases k with⟨rfl,rfl⟩|⟨l,m,_,_⟩
  ·exact .inr ⟨v,Z,Z,Z⟩
  ·cases m
variable{N:Bool}
theorem sM.step{ρ:Ren}{ps c:eT}{cs b:List Frame}(h:sM ρ N ps cs)(k:oH ps c cs b):sM ρ N c b:=by
 rcases k with⟨rfl,rfl⟩|⟨v,rfl,rfl,rfl⟩
 ·exact h
 ·cases N with
  |false=>trivial
  |true=>
   obtain⟨l,i,d,rfl,f,_⟩:=h;exact⟨{l with mode:=.panicking [{v:=d,recovered:=true}]},i,d,by simp[vW,f],rfl⟩
theorem sM.mono{ρ c:Ren}(d:ρ.le c){b:Bool}{ps:eT}{cs:List Frame}(h:sM ρ b ps cs):sM c b ps cs:=by
 cases b with
 |false=>trivial
 |true=>
  cases ps with
  |none=>exact h
  |gu v=>obtain⟨m,l,i,o,f,k⟩:=h;exact⟨m,l,i,o,f,k.mono d⟩
  |qn=>exact h
theorem FZ.mono{ρ b:Ren}(c:ρ.le b){t f:Target}(d:FZ ρ t f):FZ b t f:=by
 unfold FZ at d⊢;split at d
 ·obtain⟨k,i,h⟩:=d;exact⟨k,c _ _ i,h⟩
 ·exact⟨d.1,d.2.mono c⟩
 ·exact d.elim
theorem zX.mono{ρ d:Ren}(c:ρ.le d):∀{h b:List Deferred},zX ρ h b->zX d h b
 |[],[],_=>trivial
 |_::_,_::_,⟨f,i⟩=>⟨⟨f.target.mono c,f.args.mono c⟩,zX.mono c i⟩
 |[],_::_,k=>k.elim
 |_::_,[],k=>k.elim
theorem DJ.mono{ρ c:Ren}(d:ρ.le c){f:Option Nat}{b:FB}(h:DJ ρ f b):DJ c f b:=by
 cases f with
 |none=>exact h
 |some m=>obtain⟨i,l,k⟩:=h;exact⟨i,d _ _ l,k⟩
theorem k4.mono{ρ d:Ren}(c:ρ.le d){fc:FC}{fr:Fr}{b:FB}{tm:Array Value}{df:List Deferred}(f:k4 ρ fc fr b tm df):k4 d fc fr b tm df:=
 ⟨f.fn,f.round.mono c,f.kind,f.tm.mono c,f.df.mono c⟩
def KI(P:Program)(m:Machine)(ρ:Ren)(b:FB)(k:List Item)(tm:Array Value)(df:List Deferred)(cs:List Frame)(w:World):Ex->Prop
 |.norm=>Steps P m (lone (eW b tm df k) cs w)
 |.exit id=>∃c,Steps P m (lone (eW b tm df (.code (.exit id)::c)) cs w)/\exitTo id c=exitTo id k
 |.ret=>∃c,Steps P m (lone (eW b tm df (.code .ret::c)) cs w)
 |.panic v=>∃c d,dg ρ v d/\Steps P m (lone {eW b tm df c with mode:=.panicking [{v:=d,recovered:=false}]} cs w)
theorem KI.of_steps{P:Program}{m d:Machine}{ρ:Ren}{b:FB}{k:List Item}{tm:Array Value}{df:List Deferred}{cs:List Frame}{w:World}{i:Ex}(f:Steps P m d)(h:KI P d ρ b k tm df cs w i):KI P m ρ b k tm df cs w i:=by
 cases i with
 |norm=>exact f.trans h
 |exit id=>obtain⟨c,s,p⟩:=h;exact⟨c,f.trans s,p⟩
 |ret=>obtain⟨c,s⟩:=h;exact⟨c,f.trans s⟩
 |panic v=>obtain⟨c,l,o,s⟩:=h;exact⟨c,l,o,f.trans s⟩
section
variable(C:eD) (w0:World) (N0:Nat) (G:Nat->Prop)
def ii(ρ:Ren)(fc:FC)(m:Machine)(b:FB)(k:List Item)(ps:eT)(cs:List Frame)(p:Ex)(o:Fr)(l:eT)(eB:St):Prop:=
 ∃c i h d f,ρ.le c/\dD w0 N0 G c eB i/\k4 c fc o b h d/\oH ps l cs f/\KI C.P m c b k h d f i p
def zj(ρ:Ren)(f:FuncId)(h:Array Value)(k:Bool)(ps:eT)(m:CR)(l:eT)(eB:St)(cs:List Frame)(w:World):Prop:=
 ∃b d F i,ρ.le b/\dD w0 N0 G b eB d/\oH ps l cs i/\Steps C.P (lone (Frame.enter C.P f h (kindOf k)) cs w) (lone F i d)/\F.fn=f/\F.defers=[]/\F.kind=kindOf k/\(∃fn,C.P.funcs[f]?=some fn/\
  match m with
  |.ret v=>F.mode=.returning/\∃c,(results fn F.tmps).run C.P d=.ok c d/\dg b v c
  |.fO v=>∃c,F.mode=.panicking [{v:=c,recovered:=false}]/\dg b v c)
def F4(ρ:Ren)(l:Loc)(i:Array Value)(o:CR)(eB:St)(w:World):Prop:=
 ∃fn d b c,(Instr.yield l.b i).run C.P w=.ok (.round l.b fn d b c) w/\∀(m:Frame) (cs:List Frame),∃f k,ρ.le f/\dD w0 N0 G f eB k/\
  match o with
  |.ret v=>∃h,dg f v h/\Steps C.P (lone (Frame.round l.b fn d b c .normal) (m::cs) w) (lone (m.finish h) cs k)
  |.fO v=>∃h,dg f v h/\Steps C.P (lone (Frame.round l.b fn d b c .normal) (m::cs) w) (lone (m.raise [{v:=h,recovered:=false}]) cs k)
structure uM (rc:Rec):Prop where
 code:∀fc c fr ps st x fr' ps' eB,rc.code fc c fr ps st=some (x,fr',ps',eB)->codeOk c=true->∀ρ w b tm df cs k,dD w0 N0 G ρ st w->k4 ρ fc fr b tm df->sM ρ fc.BG ps cs->
  ii C w0 N0 G ρ fc (lone (eW b tm df (.code c::k)) cs w) b k ps cs x fr' ps' eB
 call:∀f args BG ps st cr ps' eB,rc.call f args BG ps st=some (cr,ps',eB)->∀ρ w F5 cs,dD w0 N0 G ρ st w->db ρ args F5.toList->sM ρ BG ps cs->
  zj C w0 N0 G ρ f F5 BG ps cr ps' eB cs w
 round:∀l args st cr eB,rc.round l args st=some (cr,eB)->∀ρ w L F5,dD w0 N0 G ρ st w->ρ l=some L->db ρ args F5.toList->F4 C w0 N0 G ρ L F5 cr eB w
end
variable{B:Option Tmp} {L:yf} {J:eT} {Q:Fr}
section
variable{C:eD} {w0:World} {N0:Nat} {G:Nat->Prop} {ρ:Ren} {fc:FC} {fr:Fr} {ps:eT} {st:St} {b:FB} {tm:Array Value} {df:List Deferred} {cs:List Frame} {w:World}
theorem gL.get{t:Tr Value}(f:gL ρ a t tm){i:Nat}{v:Value}(b:t.get i=some v):dg ρ v (tm.getD i undef):=by
 obtain⟨c,h,d⟩:=f.2 _ _ b;have:tm.getD i undef=c:=by simp[Yn,h]
 rw[this];exact d
theorem BP{v:Value}(b:qq v=true)(ρ:Ren):dg ρ v v:=by
 unfold qq at b;split at b
 ·exact .agg (jA b ρ)
 ·exact sH b ρ
theorem oI(h:gL ρ a fr.tm tm):nJ ρ (jq fr) (BH tm):=by
 intro d v b;cases d with
 |tmp l=>exact h.get b
 |const i=>
  simp only[jq]at b;split at b
  ·rename_i c;cases b;exact BP c ρ
  ·cases b
 |global k=>cases b
 |func f=>cases b;exact .func f .nil .nil
theorem dW{nt:Nat}{dst:Option Tmp}{v v':Value}{fr':Fr}(h:gL ρ nt fr.tm tm)(i:dg ρ v v')(b:hS nt fr dst v=some fr'):gL ρ nt fr'.tm (my tm dst v')/\fr'.df=fr.df:=by
 unfold hS at b;split at b
 ·cases b;exact⟨h,rfl⟩
 ·rename_i m;split at b
  ·rename_i c;cases b;have c:=YC.mp c;refine⟨⟨by simp[my,h.1],fun p q d=>?_⟩,rfl⟩;rw[cF]at d;by_cases f:p=m
   ·subst f;rw[if_pos rfl]at d;cases d;exact⟨v',by simp only[my];rw[Yy (by rw[h.1];exact c)],i⟩
   ·rw[if_neg f]at d;obtain⟨l,k,o⟩:=h.2 _ _ d;exact⟨l,by simp only[my];rw[YE (fun k=>f k.symm)];exact k,o⟩
  ·cases b
theorem oJ{ops:Array Oper}{o:Oper}(t:gL ρ a fr.tm tm)(c:hq ops.toList fr o=some N):Region.wanted o (yielded ops tm)=N:=by
 unfold hq at c;unfold Region.wanted;split at c
 ·rename_i h;cases c;rw[h]
 ·rename_i w d h;rw[h];split at c
  ·cases c
  ·rename_i y k;rw[cz,Yr]at k;split at c
   ·cases c
   ·rename_i v l;have p:yielded ops tm w=(match tm[v]? with|some (.bool b)=>some b|_=>none):=by
     unfold yielded;rw[k];simp only[Option.bind_some,l];rfl
    simp only[p];split at c
    ·rename_i q f;cases c;obtain⟨m,s,i⟩:=t.2 _ _ f;cases i;rw[s];cases q<;>cases d<;>rfl
    ·rename_i x f;cases c;obtain⟨m,s,i⟩:=t.2 _ _ f;cases i;rw[s];rfl
    ·cases c
def Sj(C:eD)(w0:World)(N0:Nat)(G:Nat->Prop)(ρ:Ren)(fc:FC)(m:Machine)(b:FB)(tm:Array Value)(df:List Deferred)(ops:Array Oper)(t:Nat)(h:List Nat)(k:List Item)(ps:eT)(cs:List Frame)(s:yf):Prop:=
 match s with
 |.next q f eB=>∃c d o i l,ρ.le c/\dD w0 N0 G c eB d/\k4 c fc q b o i/\oH ps f cs l/\Steps C.P m (lone (eW b o i (.inRegion ops h::k)) l d)
 |.fO v _ f eB=>f=ps/\∃c d p,ρ.le c/\dD w0 N0 G c eB d/\dg c v p/\Steps C.P m (lone {eW b tm df (.inRegion ops (t::h)::k)with mode:=.panicking [{v:=p,recovered:=false}]} cs d)
theorem vX{v:Value}(c:yf.go a fr B v ps st=some L):∃b,hS a fr B v=some b/\L=.next b ps st:=by
 unfold yf.go at c;split at c
 ·rename_i b d;cases c;exact⟨b,d,rfl⟩
 ·cases c
theorem mz(b:oH .none J cs u):J=.none/\u=cs:=by
 rcases b with b|⟨v,c,_⟩
 ·exact b
 ·cases c
theorem ij{C:eD}{ev:Operand->Option Value}{o:Oper}(b:iX C ev o st=some I)(c:∀f,I≠.defer f):∀d,o.op≠.defer d:=by
 intro d h;unfold iX at b;rw[h]at b;simp only at b;split at b
 ·split at b
  ·unfold zL at b;split at b
   ·cases b;exact c _ rfl
   ·cases b
  ·cases b
 ·cases b
theorem F6(k:k4 ρ fc fr b tm df)(f:sM ρ fc.BG ps cs)(i:∀v,fc.BG=true->ps=.gu v->False):tryRecover (eW b tm df H) cs=none:=by
 cases d:fc.BG with
 |false=>
  have c:b.kind=.normal:=by rw[k.kind,d];rfl
  simp[tryRecover,eW,c]
 |true=>
  have c:b.kind=.deferred:=by rw[k.kind,d];rfl
  rw[d]at f;cases ps with
  |none=>
   obtain⟨o,l,rfl,h⟩:=f;simp[tryRecover,eW,c,h]
  |gu v=>exact(i v d rfl).elim
  |qn=>
   obtain⟨o,l,m,rfl,h⟩:=f;simp[tryRecover,eW,c,h]
theorem F7(A:mW C)(B:CQ C)(E:ng C){rc:Rec}(aa:uM C w0 N0 G rc){o:Oper}(Y:lF C rc fc o fr ps st=some L)(t:dD w0 N0 G ρ st w)(c:k4 ρ fc fr b tm df)(ae:sM ρ fc.BG ps cs) 
  {ops:Array Oper} (l:List Nat) (k:List Item) (X:ops[a]?=some o) (f:Region.wanted o (yielded ops tm)=true):
  Sj C w0 N0 G ρ fc (lone (eW b tm df (.inRegion ops (a::l)::k)) cs w) b tm df ops a l k ps cs L:=by
 unfold lF at Y;have e:=oI c.tm;split at Y
 ·cases Y
 ·rename_i v eB m;obtain⟨j,T,rfl⟩:=vX Y;obtain⟨s,q,W,p,D⟩:=pz A B E t e m;obtain⟨S,g⟩:=dW (c.tm.mono D.le) D.value T;refine⟨s,W,my tm o.dst q,df,cs,D.le,D.world,⟨c.fn,c.round.mono D.le,c.kind,S,by rw[g];exact c.df.mono D.le⟩,.refl _ _,.one ?_⟩;exact vV X f (.inr (ij m (by intro ah Q;cases Q))) p
 ·rename_i v eB m;cases Y;obtain⟨rfl,q,p,U⟩:=pz A B E t e m;exact⟨Z,ρ,w,q,Ren.le_refl _,t,U,.one (N2 X f (.inr (ij m (by intro ah Q;cases Q))) p)⟩
 ·rename_i au ab m;obtain⟨y,p,x⟩:=pz A B E t e m;have H:=NZ (P:=C.P) (b:=b) (df:=df) (k:=k) (cs:=cs) (rest:=l) X f (.inr (ij m (by intro ah Q;cases Q))) p;split at Y
  ·rename_i v an eB r;obtain⟨j,T,rfl⟩:=vX Y;obtain⟨s,W,F,al,h,R,K,d,N,g,aj,fn,n,M,q,af,U⟩:=aa.call _ _ _ _ _ _ _ _ r ρ w y (eW b tm df (.inRegion ops (a::l)::k)::cs) t x trivial;obtain⟨_,rfl⟩:=mz K;obtain⟨S,i⟩:=dW (c.tm.mono h) U T;refine⟨s,W,my tm o.dst q,df,cs,h,R,⟨c.fn,c.round.mono h,c.kind,S,by rw[i];exact c.df.mono h⟩,.refl _ _,?_⟩;refine .head H (d.trans (.one ?_));rw[<-k0 X];exact step_leave_returned ⟨M,g,aj,fn,by rw[N];exact n,af⟩
  ·rename_i v an eB r;cases Y;obtain⟨s,W,F,al,h,R,K,d,N,g,aj,fn,n,q,M,U⟩:=aa.call _ _ _ _ _ _ _ _ r ρ w y (eW b tm df (.inRegion ops (a::l)::k)::cs) t x trivial;obtain⟨_,rfl⟩:=mz K;refine⟨Z,s,W,q,h,R,U,.head H (d.trans (.one ?_))⟩;have:=step_leave_panicked (P:=C.P) (c:=eW b tm df (.inRegion ops (a::l)::k)) (cs:=cs) (w:=W) (fr:=F) ⟨M,g,fn,by rw[N];exact n⟩;rw[this];rfl
  ·cases Y
 ·rename_i av ab m;obtain⟨aq,y,ak,x,p⟩:=pz A B E t e m;split at Y
  ·rename_i v eB r;obtain⟨j,T,rfl⟩:=vX Y;obtain⟨fn,ad,I,ac,ag,d⟩:=aa.round _ _ _ _ _ r ρ w aq y t ak x;rw[ag]at p;obtain⟨s,W,h,R,q,U,z⟩:=d (eW b tm df (.inRegion ops (a::l)::k)) cs;obtain⟨S,i⟩:=dW (c.tm.mono h) U T;refine⟨s,W,my tm o.dst q,df,cs,h,R,⟨c.fn,c.round.mono h,c.kind,S,by rw[i];exact c.df.mono h⟩,.refl _ _,?_⟩;refine .head (F3 X f (.inr (ij m (by intro ah Q;cases Q))) p) ?_;rw[k0 X]at z;exact z
  ·rename_i v eB r;cases Y;obtain⟨fn,ad,I,ac,ag,d⟩:=aa.round _ _ _ _ _ r ρ w aq y t ak x;rw[ag]at p;obtain⟨s,W,h,R,q,U,z⟩:=d (eW b tm df (.inRegion ops (a::l)::k)) cs;exact⟨Z,s,W,q,h,R,U,.head (F3 X f (.inr (ij m (by intro ah Q;cases Q))) p) z⟩
  ·cases Y
 ·rename_i m;have p:(execOp (BH tm) o).run C.P w=.ok .recover w:=pz A B E t e m;split at Y
  ·cases Y
  ·rename_i V;have u:b.round=none:=by have:=c.round;rw[V]at this;exact this
   split at Y
   ·rename_i v J;obtain⟨j,T,rfl⟩:=vX Y;rw[J]at ae;obtain⟨ar,am,q,rfl,M,U⟩:=ae;obtain⟨S,i⟩:=dW c.tm U T;have O:b.kind=.deferred:=by rw[c.kind,J];rfl
    refine⟨ρ,w,my tm o.dst q,df,vW (ar::am),Ren.le_refl _,t,⟨c.fn,c.round,c.kind,S,by rw[i];exact c.df⟩,.inr ⟨v,rfl,rfl,rfl⟩,.one ?_⟩;refine yS X f u p ?_;simp[tryRecover,eW,O,M,vW]
   ·rename_i ai;obtain⟨j,T,rfl⟩:=vX Y;obtain⟨S,i⟩:=dW c.tm .nilIface T;refine⟨ρ,w,my tm o.dst .nilIface,df,cs,Ren.le_refl _,t,⟨c.fn,c.round,c.kind,S,by rw[i];exact c.df⟩,.refl _ _,.one ?_⟩;refine yR X f u p ?_;exact F6 c ae ai
 ·rename_i ah m;obtain⟨ap,p,ao⟩:=pz A B E t e m;split at Y
  ·cases Y
  ·rename_i V;have u:b.round=none:=by have:=c.round;rw[V]at this;exact this
   obtain⟨j,T,rfl⟩:=vX Y;obtain⟨S,i⟩:=dW (fr:={fr with df:=ah::fr.df}) (v':=undef) c.tm (.tuple .nil) T;refine⟨ρ,w,my tm o.dst undef,ap::df,cs,Ren.le_refl _,t,⟨c.fn,c.round,c.kind,S,by rw[i];exact⟨ao,c.df⟩⟩,.refl _ _,.one ?_⟩;exact N1 X f u p
theorem nZ(s:mW C)(t:CQ C)(v:ng C){rc:Rec}(D:uM C w0 N0 G rc){o:Oper}{ops:Array Oper}(p:jQ C rc fc ops.toList o fr ps st=some L)(l:dD w0 N0 G ρ st w)(c:k4 ρ fc fr b tm df)(x:sM ρ fc.BG ps cs)(d:List Nat)(k:List Item)(m:ops[a]?=some o):
  Sj C w0 N0 G ρ fc (lone (eW b tm df (.inRegion ops (a::d)::k)) cs w) b tm df ops a d k ps cs L:=by
 unfold jQ at p;split at p
 ·cases p
 ·rename_i f;obtain⟨F,y,rfl⟩:=vX p;have h:=oJ c.tm f;obtain⟨q,i⟩:=dW (v':=undef) c.tm (.tuple .nil) y;exact⟨ρ,w,my tm o.dst undef,df,cs,Ren.le_refl _,l,⟨c.fn,c.round,c.kind,q,by rw[i];exact c.df⟩,.refl _ _,.one (yl m h)⟩
 ·rename_i f;exact F7 s t v D p l c x d k m (oJ c.tm f)
theorem LV{rc:Rec}{o:Oper}{v:Value}{eB:St}(b:lF C rc fc o fr ps st=some (.fO v Q J eB)):Q=fr:=by
 unfold lF at b;repeat' split at b
 all_goals first
  |cases b;done
  |(obtain⟨_,_,c⟩:=vX b;cases c;done)
  |(cases b;rfl)
theorem zY{rc:Rec}{ops:List Oper}{o:Oper}{v:Value}{eB:St}(b:jQ C rc fc ops o fr ps st=some (.fO v Q J eB)):Q=fr:=by
 unfold jQ at b;split at b
 ·cases b
 ·obtain⟨_,_,c⟩:=vX b;cases c
 ·exact LV b
theorem DK(z:mW C)(A:CQ C)(B:ng C){rc:Rec}(L:uM C w0 N0 G rc){ops:Array Oper}(k:List Item):∀(X:List Oper) (i:Nat) (fr:Fr) (ps:eT) (st:St) (ρ:Ren) (w:World) (tm:Array Value) (df:List Deferred) (cs:List Frame) (r:Ex) (f:Fr) (c:eT) (eB:St),
  X=ops.toList.drop i->oC C rc fc ops.toList X fr ps st=some (r,f,c,eB)->dD w0 N0 G ρ st w->k4 ρ fc fr b tm df->sM ρ fc.BG ps cs->
  ii C w0 N0 G ρ fc (lone (eW b tm df (.inRegion ops ((Ys ops.size).drop i)::k)) cs w) b k ps cs r f c eB:=by
 intro X;induction X with
 |nil=>
  intro i fr ps st ρ w tm df cs r f c eB p y s o t;simp only[oC,Option.some.injEq,Prod.mk.injEq]at y;obtain⟨rfl,rfl,rfl,rfl⟩:=y;have W:ops.size<=i:=by
   have:=congrArg List.length p;simp at this;omega
  refine⟨ρ,w,tm,df,cs,Ren.le_refl _,s,o,.refl _ _,?_⟩;rw[List.drop_eq_nil_of_le (by simpa using W)];exact .one mX
 |cons ab X O=>
  intro i fr ps st ρ w tm df cs r f c eB p y s o t;have W:i<ops.size:=by
   have:=congrArg List.length p;simp at this;omega
  have E:ops[i]?=some ab:=by
   have:=congrArg (fun ac=>ac[0]?) p;simp only[List.getElem?_cons_zero,List.getElem?_drop,Nat.add_zero,Yr]at this;exact this.symm
  have H:X=ops.toList.drop (i+1):=by
   have:=congrArg List.tail p;simpa using this
  have d:(Ys ops.size).drop i=i::(Ys ops.size).drop (i+1):=by
   rw[List.drop_eq_getElem_cons (by simpa using W)];simp
  simp only[oC]at y;split at y
  ·cases y
  ·rename_i D R F x;obtain⟨m,S,J,a,I,h,q,M,P,l⟩:=nZ z A B L x s o t ((Ys ops.size).drop (i+1)) k E;obtain⟨g,aa,n,u,Y,U,j,K,V,T⟩:=O (i+1) D R F m S J a I r f c eB H y q M ((t.mono h).step P);refine⟨g,aa,n,u,Y,h.trans U,j,K,P.trans V,?_⟩;rw[d];exact .of_steps l T
  ·rename_i v D R F x;simp only[Option.some.injEq,Prod.mk.injEq]at y;obtain⟨rfl,rfl,rfl,rfl⟩:=y;have e:=zY x;subst e;obtain⟨rfl,m,S,N,h,q,Q,l⟩:=nZ z A B L x s o t ((Ys ops.size).drop (i+1)) k E;refine⟨m,S,tm,df,cs,h,q,o.mono h,.refl _ _,?_⟩;rw[d];exact⟨_,N,Q,l⟩
end
theorem Qz{f b:Fn}(c:NH f b=true):f=b:=by
 cases f<;>cases b<;>simp[NH]at c<;>rw[c]
theorem CS{f b:Addr}(c:addrEq f b=true):f=b:=by
 obtain⟨l,k,s⟩:=f;obtain⟨i,h,d⟩:=b;simp only[addrEq,Yl,Yv]at c;obtain⟨⟨rfl,rfl⟩,c⟩:=c;cases s<;>cases d<;>simp at c⊢
theorem F8{d b:ByteArray}(c:oy d b=true):d=b:=by
 rw[oy,py,beq_iff_eq]at c;apply ByteArray.ext;exact Array.ext' c
mutual
theorem q4:∀(a b:Value),mh a b=true->a=b
 |.func f ⟨x⟩ ⟨y⟩,b,h=>by
  cases b<;>first|(simp[mh]at h;done)|skip
  rename_i f' x' y';obtain⟨x'⟩:=x';obtain⟨y'⟩:=y';simp only[mh,Yl]at h;rw[Qz h.1.1,tF x x' h.1.2,tF y y' h.2]
 |.iface t v,b,h=>by
  cases b<;>first|(simp[mh]at h;done)|skip
  rename_i t' v';simp only[mh,Yl,Yv]at h;rw[h.1,q4 v v' h.2]
 |.agg ⟨x⟩,b,h=>by
  cases b<;>first|(simp[mh]at h;done)|skip
  rename_i x';obtain⟨x'⟩:=x';simp only[mh]at h;rw[tF x x' h]
 |.tuple ⟨x⟩,b,h=>by
  cases b<;>first|(simp[mh]at h;done)|skip
  rename_i x';obtain⟨x'⟩:=x';simp only[mh]at h;rw[tF x x' h]
 |.bool a,b,h=>by
  cases b<;>first|(simp[mh]at h;done)|(simp[mh]at h;rw[h])
 |.int k a,b,h=>by
  cases b<;>first|(simp[mh]at h;done)|skip
  simp only[mh,Yl]at h;rw[q1.1 h.1,zQ.1 h.2]
 |.string a,b,h=>by
  cases b<;>first|(simp[mh]at h;done)|skip
  simp only[mh]at h;rw[F8 h]
 |.pointer none,b,h=>by
  cases b<;>first|(simp[mh]at h;done)|skip
  rename_i q;cases q<;>first|rfl|(simp[mh]at h;done)
 |.pointer (some a),b,h=>by
  cases b<;>first|(simp[mh]at h;done)|skip
  rename_i q;cases q<;>first|(simp[mh]at h;done)|(simp only[mh]at h;rw[CS h])
 |.slice none l c,b,h=>by
  cases b<;>first|(simp[mh]at h;done)|skip
  rename_i q l' c';cases q<;>first|(simp[mh]at h;done)|skip
  simp only[mh,Yl,Yv]at h;rw[h.1,h.2]
 |.slice (some a) l c,b,h=>by
  cases b<;>first|(simp[mh]at h;done)|skip
  rename_i q l' c';cases q<;>first|(simp[mh]at h;done)|skip
  simp only[mh,Yl,Yv]at h;rw[CS h.1.1,h.1.2,h.2]
 |.map none,b,h=>by
  cases b<;>first|(simp[mh]at h;done)|skip
  rename_i q;cases q<;>first|rfl|(simp[mh]at h;done)
 |.map (some a),b,h=>by
  cases b<;>first|(simp[mh]at h;done)|skip
  rename_i q;cases q<;>first|(simp[mh]at h;done)|(simp only[mh,Yv]at h;rw[h])
 |.nilFunc,b,h=>by cases b<;>first|rfl|(simp[mh]at h;done)
 |.nilIface,b,h=>by cases b<;>first|rfl|(simp[mh]at h;done)
 |.float k x,b,h=>by cases b<;>(simp[mh]at h;done)
 |.complex k x y,b,h=>by cases b<;>(simp[mh]at h;done)
 |.chan r,b,h=>by cases b<;>(simp[mh]at h;done)
theorem tF:∀(a b:List Value),xv a b=true->a=b
 |[],[],_=>rfl
 |x::a,y::b,h=>by
  simp only[xv,Yl]at h;rw[q4 x y h.1,tF a b h.2]
 |[],_::_,h=>by simp[xv]at h
 |_::_,[],h=>by simp[xv]at h
end
theorem vY:∀{l b:List MapEntry},og l b=true->l=b
 |[],[],_=>rfl
 |x::l,m::b,c=>by
  simp only[og,Kx,Yl,Yv]at c;obtain⟨⟨⟨f,d⟩,h⟩,i⟩:=c;obtain⟨k,v,s⟩:=x;obtain⟨q,p,o⟩:=m;rw[vY i];simp only at f d h;rw[q4 _ _ f,q4 _ _ d,h]
 |[],_::_,c=>by simp[og]at c
 |_::_,[],c=>by simp[og]at c
theorem F9{d b:gz}(c:sy d b=true):d=b:=by
 cases d<;>cases b<;>first|(simp[sy]at c;done)|skip
 ·simp only[sy,Yl,Yv]at c;rw[tF _ _ c.1.1.1,c.1.1.2,c.1.2,c.2]
 ·simp only[sy,Yl,Yv]at c;rw[vY c.1,c.2]
 ·simp only[sy,Yl,Yv]at c;rw[F8 c.1,c.2]
section
variable{C:eD} {ev BQ:Operand->Option Value} {st:St}
theorem n0:∀{xs:List Operand},(∀b∈xs,ev b=BQ b)->mr ev xs=mr BQ xs:=by
 intro xs;induction xs with
 |nil=>intro _;rfl
 |cons b xs c=>intro f;simp only[mr];rw[f b sm,c (fun h d=>f h (by simp[d]))]
theorem uN:∀{b:List (Nat×Operand)},(∀c∈b.map (·.2),ev c=BQ c)->lD ev b=lD BQ b:=by
 intro b;induction b with
 |nil=>intro _;rfl
 |cons c b f=>obtain⟨k,c⟩:=c;intro h;simp only[lD];rw[h c sm,f (fun i d=>h i (by simp at d⊢;exact .inr d))]
theorem xA(o:Oper)(d:∀f∈o.op.operands,ev f=BQ f):iX C ev o st=iX C BQ o st:=by
 unfold iX;split
 case h_31=>rfl
 case h_4=>rfl
 case h_16=>rfl
 all_goals (rename_i q;rw[q]at d;simp only[Op.operands]at d)
 case h_30 f=>rw[d f sm]
 case h_6=>rw[uN (ev:=ev) (BQ:=BQ) (fun f c=>d f (by simpa using c))]
 case h_7=>rw[uN (ev:=ev) (BQ:=BQ) (fun f c=>d f (by simpa using c))]
 case h_15 F b=>rw[n0 (ev:=ev) (BQ:=BQ) (xs:=F.toList) (fun f c=>d f (by simp;exact .inl (by simpa using c))),n0 (ev:=ev) (BQ:=BQ) (xs:=b.toList) (fun f c=>d f (by simp;exact .inr (by simpa using c)))]
 case h_18 f v t s=>
  have w:=d f sm;have P:∀h,v=some h->ev h=BQ h:=fun h i=>d h (by subst i;simp);have G:∀h,t=some h->ev h=BQ h:=fun h i=>d h (by subst i;simp);have R:∀h,s=some h->ev h=BQ h:=fun h i=>d h (by subst i;simp);rw[w];cases v<;>cases t<;>cases s<;>simp_all
 case h_28 D=>
  simp only[Call.operands]at d;rw[n0 (ev:=ev) (BQ:=BQ) (xs:=D.args.toList) (fun f c=>d f (by simp;exact .inr (by simpa using c)))];split
  ·rfl
  ·split
   ·rfl
   ·rename_i x m;rw[d x (by rw[m];simp)]
   ·rfl
 case h_29 D=>
  simp only[Call.operands]at d;rw[n0 (ev:=ev) (BQ:=BQ) (xs:=D.args.toList) (fun f c=>d f (by simp;exact .inr (by simpa using c)))];split
  ·rename_i x _ m;rw[d x (by rw[m];simp)]
  ·rfl
 all_goals first
  |rfl
  |(simp at d;simp only[d];done)
  |(simp at d;obtain⟨l,k⟩:=d;simp only[l,k];done)
  |(simp at d;obtain⟨l,k,y⟩:=d;simp only[l,k,y];done)
end
inductive IR (ops:Array Oper):(Nat->Bool)->List Nat->Prop
 |nil {D:Nat->Bool} (h:∀i,i<ops.size->D i=true):IR ops D []
 |cons {D:Nat->Bool} {i:Nat} {L:List Nat} {o:Oper} (ho:ops[i]?=some o) (hn:D i=false) (he:∀e∈o.after.toList,Region.binds .any e=true->D e.on=true) (t:IR ops (fun x=>D x||x==i) L):IR ops D (i::L)
def xB(ops:Array Oper):Prop:=∀(d:Nat) (c:Oper),ops[d]?=some c->∀b∈c.after.toList,Region.binds .any b=true->b.on<d
theorem LW{p q:Nat->Bool}:∀(c:List Nat),(∀i∈c,q i=true->p i=true)->∀l∈c,p l=true->q l=false->c.countP q<c.countP p:=by
 intro c;induction c with
 |nil=>intro _ l b;simp at b
 |cons i c o=>
  intro s l b h k;have t:c.countP q<=c.countP p:=List.countP_mono_left fun m d=>s m (by simp[d]);rcases Ym.1 b with rfl|b
  ·rw[List.countP_cons_of_neg (by simp[k]),List.countP_cons_of_pos h];omega
  ·have:=o (fun m d=>s m (by simp[d])) l b h k;simp only[List.countP_cons];by_cases f:q i=true
   ·rw[if_pos f,if_pos (s i sm f)];omega
   ·rw[if_neg f];omega
theorem S2{ops:Array Oper}(X:xB ops):∀(d U:Nat) (listed:Array Bool) (i:List Nat),listed.size=ops.size->(Ys ops.size).countP (fun b=> !listed.getD b false)<=d->
  ∃W,Region.linearise.go .any ops d U listed i=i.reverse++W/\IR ops (fun x=>listed.getD x false) W:=by
 intro d;induction d with
 |zero=>
  intro U listed i R g;refine⟨[],by simp[Region.linearise.go],.nil fun b c=>?_⟩;have P:(Ys ops.size).countP (fun b=> !listed.getD b false)=0:=om;rw[List.countP_eq_zero]at P;have:=P b (by simpa using c);simpa using this
 |succ d a=>
  intro U listed i R g;simp only[Region.linearise.go];generalize y:(Ys ops.size).filter (fun b=> !listed.getD b true&&((ops[b]?).map (·.after.all fun V=> !Region.binds .any V||listed.getD V.on false)).getD false)=k;have w:∀b,b<ops.size->listed.getD b true=listed.getD b false:=by
   intro b c;simp[Yn,Yo (by omega:b<listed.size)]
  cases m:k[U%k.length]? with
  |none=>
   have q:k=[]:=by
    cases k with
    |nil=>rfl
    |cons j r=>
     rw[List.getElem?_eq_getElem (Nat.mod_lt _ sm)]at m;cases m
   refine⟨[],by simp,.nil fun b=>?_⟩;induction b using Nat.strongRecOn with
   |_ b T=>
    intro c;cases v:listed.getD b false with
    |true=>rfl
    |false=>
     exfalso;have f:b∈k:=by
      rw[<-y,Yw];refine⟨by simpa using c,?_⟩;rw[w b c,v,Yo c];simp only[Bool.not_false,Option.map_some,Option.getD_some,Bool.true_and];rw[Array.all_eq_true];intro S p;cases o:Region.binds .any ops[b].after[S]with
      |false=>rfl
      |true=>
       have G:=X b ops[b] (Yo c) ops[b].after[S] sm o;rw[T _ G om];rfl
     rw[q]at f;simp at f
  |some b=>
   have f:b∈k:=List.mem_of_getElem? m;rw[<-y,Yw]at f;obtain⟨c,h⟩:=f;have c:b<ops.size:=by simpa using c
   rw[w b c,Yo c]at h;simp only[Option.map_some,Option.getD_some,Yl,YD]at h;obtain⟨v,t⟩:=h;rw[Array.all_eq_true]at t;have l:∀x,(listed.setIfInBounds b true).getD x false=(listed.getD x false||x==b):=by
    intro x;by_cases F:x=b
    ·subst F;simp[Yn,Yy (by omega:x<listed.size)]
    ·simp[Yn,YE (fun V=>F V.symm),F]
   have s:(Ys ops.size).countP (fun x=> !(listed.setIfInBounds b true).getD x false)<=d:=by
    have:=LW (p:=fun x=> !listed.getD x false) (q:=fun x=> !(listed.setIfInBounds b true).getD x false) (Ys ops.size) (fun x _ p=>by
     rw[l]at p;simp at p⊢;exact p.1) b (by simpa using c) (by simp[v]) (by rw[l];simp)
    omega
   obtain⟨W,Y,C⟩:=a (U/k.length) (listed.setIfInBounds b true) (b::i) (by simp[R]) s;refine⟨b::W,by simp only;rw[Y];simp,.cons (Yo c) v (fun V e o=>?_) ?_⟩
   ·obtain⟨S,p,rfl⟩:=List.getElem_of_mem e;have:=t S (by simpa using p);simp only[Array.getElem_toList]at o⊢;rw[o]at this;simpa using this
   ·have D:(fun x=>(listed.setIfInBounds b true).getD x false)=(fun x=>listed.getD x false||x==b):=funext l;rw[<-D];exact C
theorem DL{ops:Array Oper}(i:xB ops)(t:Nat):IR ops (fun _=>false) (Region.schedule true ops t):=by
 have d:Region.schedule true ops t=Region.linearise .any ops t:=by simp[Region.schedule]
 rw[d];obtain⟨l,k,c⟩:=S2 i ops.size t (Array.replicate ops.size false) [] sm (by
  refine Nat.le_trans (List.countP_le_length) sm)
 have:Region.linearise .any ops t=l:=by simpa [Region.linearise]using k
 rw[this];have b:(fun h=>(Array.replicate ops.size false).getD h false)=(fun _=>false):=by
  funext h;by_cases f:h<ops.size
  ·simp[Yn,f]
  ·simp[Yn,f]
 rw[<-b];exact c
structure iK (ops:Array Oper) (bs:List Nat) (m:Nat) (order:List Nat):Prop where
 back:xB ops
 bits:∀(i:Nat) (o:Oper),ops[i]?=some o->∀j,js bs i j=true->∃e∈o.after.toList,Region.binds .any e=true/\(e.on=j∨js bs e.on j=true)
 XL:m<=ops.size
 all:∀i,i<m->i∈order
 lt:∀i,i∈order->i<m
 nodup:order.Nodup
 later:∀pre e post,order=pre++e::post->iF ops.toList e=true->∀i∈post,js bs i e=true
 reads:∀(j:Nat) (oj:Oper) (t:Tmp),ops[j]?=some oj->gH oj.op=false->oj.dst=some t->∀(i:Nat) (oi:Oper),ops[i]?=some oi->t∈pt ops.toList oi->js bs i j=true
 tail:∀(i:Nat) (o:Oper),m<=i->ops[i]?=some o->FL o.op=true/\o.guard=none/\∀j,j<m->js bs i j=true
theorem DM{bs:List Nat}:∀(k:List Edge) (s:Nat),YA (k.foldl (fun s c=>match Region.binds .any c with|true=>Nat.lor (Nat.lor s (2^c.on)) (match nth bs c.on with|some b=>b|none=>0)|false=>s) s) a=true->
  YA s a=true∨∃c∈k,Region.binds .any c=true/\(c.on=a∨js bs c.on a=true):=by
 intro k;induction k with
 |nil=>intro s h;exact .inl h
 |cons c k m=>
  intro s h;simp only[List.foldl_cons]at h;rcases m _ h with h|⟨p,l,d,o⟩
  ·cases d:Region.binds .any c with
   |false=>rw[d]at h;exact .inl h
   |true=>
    rw[d]at h;simp only at h;have f:((s|||2^c.on)|||(match nth bs c.on with|some b=>b|none=>0)).testBit a=true:=h;rw[Nat.testBit_or,Nat.testBit_or,Yu,Yu]at f;rcases f with(h|h)|h
    ·exact .inl h
    ·rw[Nat.testBit_two_pow]at h;exact .inr ⟨c,by simp,d,.inl (by simpa using h)⟩
    ·refine .inr ⟨c,by simp,d,.inr ?_⟩;unfold js;cases i:nth bs c.on with
     |none=>rw[i]at h;simp at h
     |some b=>rw[i]at h;exact h
  ·exact .inr ⟨p,by simp[l],d,o⟩
theorem DN{ops:List Oper}{bs:List Nat}:∀{l:List Nat},zg ops bs l=true->∀c h b,l=c++h::b->iF ops h=true->∀m∈b,js bs m h=true:=by
 intro l;induction l with
 |nil=>intro _ c h b i;simp at i
 |cons q l o=>
  intro i c h b d f m k;simp only[zg,Yl,Yu,YD,Yt]at i;cases c with
  |nil=>
   simp at d;obtain⟨rfl,rfl⟩:=d;rcases i.1 with h1|h1
   ·rw[h1]at f;cases f
   ·exact h1 m k
  |cons p c=>
   simp at d;obtain⟨rfl,rfl⟩:=d;exact o i.2 c h b Z f m k
theorem any_beq{l:List Nat}:l.any (Nat.beq a)=true↔a∈l:=by
 rw[List.any_eq_true];constructor
 ·rintro⟨d,c,b⟩;rw[Yp b];exact c
 ·intro b;exact⟨a,b,Nat.beq_refl a⟩
theorem zZ:∀{m:Nat} {c:List Nat},(∀b,b<m->b∈c)->c.length=m->c.Nodup:=by
 intro m c C G;have:∀(k:Nat) (c:List Nat),c.length<=k->(∀b,b<k->b∈c)->c.Nodup:=by
  intro k;induction k with
  |zero=>intro c v _;cases c with|nil=>simp|cons _ _=>simp at v
  |succ k F=>
   intro c v s;have f:=s k om;have y:(c.erase k).length<=k:=by rw[YF f];omega
   have x:=F (c.erase k) y (fun b p=>by
    rw[Yz om];exact s b om)
   have o:k ∉ c.erase k:=by
    intro t;have q:∀b,b<k+1->b∈c.erase k:=by
     intro b p;by_cases C:b=k
     ·subst C;exact t
     ·rw[Yz C];exact s b p
    have:∀(i:Nat) (d:List Nat),(∀b,b<i->b∈d)->i<=d.length:=by
     intro i;induction i with
     |zero=>intro d _;omega
     |succ i w=>
      intro d l;have:=w (d.erase i) (fun b p=>by rw[Yz om];exact l b om);rw[YF (l i om)]at this;have D:0<d.length:=List.length_pos_of_mem (l i om);omega
    have:=this (k+1) _ q;omega
   have h:=List.perm_cons_erase f;exact h.nodup_iff.2 (List.nodup_cons.2 ⟨o,x⟩)
 exact this m c om C
theorem Ga{ops:Array Oper}(h:Dx ops.toList=true):iK ops (qs ops.toList).bs (qs ops.toList).m (qs ops.toList).order:=by
 unfold Dx at h;simp only[Yl]at h;obtain⟨⟨⟨⟨⟨⟨⟨⟨G,D⟩,Y⟩,F⟩,P⟩,a⟩,X⟩,w⟩,x⟩:=h;have c:∀(d:Nat) (y:Oper),ops[d]?=some y->nth ops.toList d=some y/\d<ops.toList.length:=by
  intro d y f;rw[cz,Yr];refine⟨f,?_⟩;rcases Nat.lt_or_ge d ops.size with h|h
  ·simpa using h
  ·rw[YG h]at f;cases f
 rw[Yt]at G D F P;have p:∀d,d<(qs ops.toList).m->d∈(qs ops.toList).order:=fun d o=>any_beq.1 (F d (by simpa using o));refine⟨fun d y f z e t=>?_,fun d y f v l=>?_,by simpa using YH Y,p,fun d o=>YC.mp (P d o),zZ p (Yp a),DN X,fun v A B l C V d r o W=>?_,fun d y g f=>?_⟩
 ·obtain⟨k,i⟩:=c _ _ f;have:=G d (by simpa using i);rw[k]at this;simp only[Yt]at this;have:=this z e;rw[t]at this;exact YC.mp (by simpa using this)
 ·obtain⟨k,i⟩:=c _ _ f;have:=D d (by simpa using i);rw[k]at this;split at this
  ·rename_i u j R T;cases R;have U:=Yp this;unfold js at l;rw[T]at l;simp only at l;rw[U]at l;rcases DM _ _ l with h|h
   ·simp at h
   ·exact h
  ·cases this
 ·obtain⟨k,i⟩:=c _ _ l;obtain⟨f1,f2⟩:=c _ _ o;unfold Ky at w;rw[Yt]at w;have:=w v (by simpa using i);rw[k]at this;simp only[C,Bool.false_or,V,Yt]at this;have:=this d (by simpa using f2);rw[f1]at this;simp only[Yu,YD]at this;rcases this with h|h
  ·rw[any_beq.2 W]at h;cases h
  ·exact h
 ·obtain⟨k,i⟩:=c _ _ f;unfold zM at x;rw[Yt]at x;have:=x (d-(qs ops.toList).m) (by simp at i⊢;omega);rw[show(qs ops.toList).m+(d-(qs ops.toList).m)=d from om,k]at this;simp only[Yl]at this;refine⟨this.2.1,by simpa using this.2.2,fun v S=>?_⟩;have q:=this.1;unfold js;split at q
  ·rename_i b t;try rw[t]
   show YA b v=true;unfold subset at q;have s:=Yp q;have m:((2^(qs ops.toList).m-1)&&&b).testBit v=(2^(qs ops.toList).m-1).testBit v:=congrArg (fun n=>YA n v) s;rw[Nat.testBit_and,Nat.testBit_two_pow_sub_one]at m;simpa [S]using m
  ·cases q
variable{K:gz} {A:Nat->Prop}
section
variable{C:eD} {w0:World} {N0:Nat} {G:Nat->Prop} {ρ:Ren} {st:St} {w:World} {ev:Operand->Option Value} {mf:Operand->Value}
def Sk(ρ:Ren)(w:World)(i:Nat)(v:Value)(d:gz)(h:Result Next):Prop:=
 ∃c co f,h=.ok (.value c) {w with heap:=w.heap.push co}/\f.b=w.heap.size/\∀b:Ren,ρ.le b->b i=some f->vO b f d (some co)/\dg b v c
theorem xC{c:List Value}(es l:Nat)(d:TypeId)(h:db ρ c g.toList){v v':Value}(m:z=.ok (.value v') {w with heap:=w.heap.push (.cells g d)}) 
  (i:∀b:Ren,ρ.le b->b l=some ⟨w.heap.size,0,es,g.size⟩->dg b v v'):Sk ρ w l v (.cells c es l 0) z:=by
 refine⟨v',.cells g d,⟨w.heap.size,0,es,g.size⟩,m,Z,fun b f p=>⟨⟨g,d,0,0,Z,Z,Z,?_,fun x y o=>?_,fun x _ t=>om⟩,i b f p⟩⟩
 ·have:=h.length;simp at this;simp;omega
 ·obtain⟨q,s,k⟩:=h.get o;exact⟨q,by simpa using s,k.mono f⟩
theorem LX(i:mW C)(H:nJ ρ ev mf){o:Oper}(E:gp o.op=true){v:Value}{s:St}(c:iX C ev o ⟨.nil,a,.nil⟩=some (.val v s))(k:s.get a=some K):
  Sk ρ w a v K ((execOp mf o).run C.P w):=by
 have h:∀R:gz,((⟨.nil,a,.nil⟩:St).new R).get a=some R:=fun R=>by rw[dH,if_pos rfl]
 unfold iX at c;split at c
 case h_4 I b=>
  unfold uZ at c;split at c
  ·rename_i G x;obtain⟨rfl,rfl⟩:=dt c;rw[h]at k;cases k;obtain⟨Y,X,q⟩:=lI i x w;have y:db ρ G.zero Y.cells.toList:=by rw[q.cells];exact jA (i.vR _ _ x) ρ
   refine xC (v':=.pointer (some ⟨w.heap.size,0,none⟩)) G.size a I y ?_ (fun t _ m=>.ptr (l:=⟨w.heap.size,0,G.size,Y.cells.size⟩) m);simp only[execOp,b,Instr.alloc];rw[Sem.run_bind];simp only[Sem.run_bind,X,Result.andThen_ok,newVar,gU,Sem.run_pure]
  ·cases c
 case h_5 I R b=>
  split at c
  ·rename_i af Q;unfold It at c;split at c
   ·obtain⟨rfl,rfl⟩:=dt c;rw[h]at k;cases k;have O:=H _ _ Q;refine xC (v':=.pointer (some ⟨w.heap.size,0,none⟩)) _ a I O.cells ?_ (fun t _ m=>.ptr (l:=⟨w.heap.size,0,_,(mf R).cells.size⟩) m);simp only[execOp,b,Instr.box];rw[Sem.run_bind];simp only[Sem.run_bind,Result.andThen_ok,newVar,gU,Sem.run_pure]
   ·cases c
  ·cases c
 case h_7 I F ps b=>
  split at c
  ·rename_i l N;unfold jP at c;split at c
   ·rename_i G x;split at c
    ·rename_i V e;split at c
     ·rename_i f p;split at c
      ·rename_i ag d r;split at c
       ·rename_i ac;obtain⟨rfl,rfl⟩:=dt c;rw[h]at k;cases k;simp only[Yl]at d;have M:=YC.mp d.1.1;have ad:=YH d.1.2;have T:=Yp d.2;obtain⟨Y,X,q⟩:=lI i p w;have A:Y.cells.size=f.size:=by rw[<-T,<-q.cells];simp
        have u:db ρ (uv f.zero F) ((Array.range (F*f.size)).map (Y.cells[· %Y.cells.size]!)).toList:=by
         rw[<-A,zO,q.cells];exact jA (tC (i.vR _ _ p) F) ρ
        have B:yh ρ l (ps.map fun(J,R)=>(J,mf R)).toList:=by rw[Yq];exact sL H N
        obtain⟨g,D,P⟩:=vS (place':=fun J=>some (J*f.size,f.size)) (fun J R ab=>ab) B u r;have W:g.size=F*f.size:=by
         have n:=P.length;have L:=vT r;have aa:=(DB f.zero F).1;simp only[YJ]at n;rw[<-n,L,aa,T]
        refine xC (v':=.slice (some ⟨w.heap.size,0,none⟩) F F) f.size a V P ?_ (fun t _ m=>.slice (l:=⟨w.heap.size,0,f.size,g.size⟩) m (Nat.le_refl _) (by simp[W]));simp only[execOp,b];rw[Sem.run_bind];by_cases U:F*f.size=0
        ·have S:∀ae:Nat->Value,Array.map ae (Array.range 0)= #[]:=fun _=>Array.eq_empty_of_size_eq_zero sm;simp only[U,S]at D;simp only[Instr.buildSlice,Sem.run_bind,eu i x,e,Result.andThen_ok,fQ i p,U,if_neg (by omega:¬0>2^24),if_true,Sem.run_pure,S,D,gU]
        ·simp only[Instr.buildSlice,Sem.run_bind,eu i x,e,Result.andThen_ok,fQ i p,if_neg (by omega:¬F*f.size>2^24),if_neg U,X,Sem.run_pure,D,gU]
       ·cases c
      ·cases c
     ·cases c
    ·cases c
   ·cases c
  ·cases c
 case h_16 I b=>
  obtain⟨rfl,rfl⟩:=dt c;rw[h]at k;cases k;refine⟨.map (some w.heap.size),.map #[] 0,⟨w.heap.size,0,0,0⟩,?_,Z,fun t _ m=>⟨⟨#[],Z,tv⟩,.map (l:=⟨w.heap.size,0,0,0⟩) m⟩⟩;simp only[execOp,b];rfl
 all_goals (exfalso;first|(rename_i b;rw[b]at E;simp[gp]at E;done)|cases c)
theorem LY{o:Oper}(d:gp o.op=true){v:Value}{s:St}(b:iX C ev o st=some (.val v s)):∃f,s=st.new f/\sC st f:=by
 unfold iX at b;split at b
 case h_4 h c=>
  unfold uZ at b;split at b
  ·obtain⟨rfl,rfl⟩:=dt b;exact⟨_,rfl,rfl⟩
  ·cases b
 case h_5 h i c=>
  split at b
  ·unfold It at b;split at b
   ·obtain⟨rfl,rfl⟩:=dt b;exact⟨_,rfl,rfl⟩
   ·cases b
  ·cases b
 case h_7 h k ps c=>
  split at b
  ·unfold jP at b;repeat' split at b
   all_goals first|cases b;done|(obtain⟨rfl,rfl⟩:=dt b;exact⟨_,rfl,rfl⟩)
  ·cases b
 case h_16 h c=>obtain⟨rfl,rfl⟩:=dt b;exact⟨_,rfl,tv⟩
 all_goals (exfalso;first|(rename_i c;rw[c]at d;simp[gp]at d;done)|cases b)
theorem dD.N3(d:dD w0 N0 G ρ st w)(v:sC st K):dD w0 N0 (fun k=>G k∨k=st.n) ρ (st.new K) w:=by
 have q:=d.ie;have c:∀b h,ρ b=some h->b≠st.n:=fun b h f t=>by subst t;rw[q]at f;cases f
 refine⟨d.wf.new v,d.below,d.CM,?_,fun b h f=>?_,fun b h D f y=>?_,fun b C h P D F m i x o l s=>?_⟩
 ·rintro k (p|rfl)
  ·exact⟨(d.Io k p).1,Nat.lt_succ_of_lt (d.Io k p).2⟩
  ·exact⟨q,Nat.lt_succ_self _⟩
 ·have:=d.vH b h f;exact⟨Nat.lt_succ_of_lt this.1,this.2⟩
 ·rw[dH,if_neg (c _ _ f)]at y;exact d.obj _ _ _ f y
 ·rw[dH,if_neg (c _ _ m)]at o;rw[dH,if_neg (c _ _ i)]at l;exact d.sep _ _ _ _ _ _ m i x o l s
theorem dD.QA(o:dD w0 N0 G ρ st w){co:Obj}{l:Loc}(Y:ρ a=none)(e:a<st.n)(C:st.get a=some K)(R:l.b=w.heap.size)(S:vO (ρ.add a l) l K (some co))(V:∀s,A s->G s/\s≠a):
  dD w0 N0 A (ρ.add a l) st {w with heap:=w.heap.push co}:=by
 have x:=e1 (l:=l) Y;have h:∀k,k<w.heap.size->(w.heap.push co)[k]?=w.heap[k]?:=fun k D=>by rw[Array.getElem?_push,if_neg om]
 have T:=o.CM;refine⟨o.wf,o.below.trans ⟨Z,Z,Z,by simp,fun k D=>h k om⟩,by show N0<=(w.heap.push co).size;simp;omega,fun s W=>?_,fun b m c=>?_,fun b m U c i=>?_,fun b y n r j g f d X P F p=>?_⟩
 ·obtain⟨f,d⟩:=V s W;have:=o.Io s f;exact⟨by rw[eI _ _ d];exact this.1,this.2⟩
 ·show b<st.n/\N0<=m.b/\m.b<(w.heap.push co).size;by_cases q:b=a
  ·subst q;rw[dr]at c;cases c;simp;omega
  ·rw[eI _ _ q]at c;have:=o.vH _ _ c;simp;omega
 ·show vO _ m U (w.heap.push co)[m.b]?;by_cases q:b=a
  ·subst q;rw[dr]at c;cases c;rw[C]at i;cases i;rw[R,Array.getElem?_push_size];exact S
  ·rw[eI _ _ q]at c;rw[h _ (o.vH _ _ c).2.2];exact(o.obj _ _ _ c i).mono x
 ·by_cases v:b=a
  ·subst v;rw[dr]at f;cases f;rw[eI _ _ (fun q=>p q.symm)]at d;have:=(o.vH _ _ d).2.2;omega
  ·rw[eI _ _ v]at f;by_cases t:y=a
   ·subst t;rw[dr]at d;cases d;have:=(o.vH _ _ f).2.2;omega
   ·rw[eI _ _ t]at d;exact o.sep _ _ _ _ _ _ f d X P F p
theorem dD.uO(b:dD w0 N0 G ρ st w)(d:∀c,A c->G c):dD w0 N0 A ρ st w:=
 ⟨b.wf,b.below,b.CM,fun c f=>b.Io c (d c f),b.vH,b.obj,b.sep⟩
def oK(tm:Tr Value)(b:List Nat):Tr Value:=b.foldl (fun tm c=>tm.put c none) tm
theorem jB:∀(b:List Nat) (tm:Tr Value) (f:Nat),(oK tm b).get f=if f∈b then none else tm.get f:=by
 intro b;induction b with
 |nil=>intro tm f;simp[oK]
 |cons h b i=>
  intro tm f;have:oK tm (h::b)=oK (tm.put h none) b:=rfl;rw[this,i,da];by_cases d:f∈b
  ·rw[if_pos d,if_pos (by simp[d])]
  ·rw[if_neg d];by_cases c:f=h
   ·rw[if_pos c,if_pos (by simp[c])]
   ·rw[if_neg c,if_neg (by simp[d,c])]
def nK(fr:Fr)(b:List Nat):Fr:=⟨oK fr.tm b,fr.df⟩
theorem IS{xs:List Operand}{t:Tmp}(c:Operand.tmp t∈xs):t∈tmpsOf xs:=by
 induction xs with
 |nil=>simp at c
 |cons d xs b=>
  rcases Ym.1 c with rfl|h2
  ·simp[tmpsOf]
  ·cases d<;>simp[tmpsOf,b h2]
theorem xD{fr:Fr}{ops:List Oper}{o:Oper}(d:∀b∈pt ops o,b ∉ e):∀c∈o.op.operands,jq fr c=jq (nK fr e) c:=by
 intro c h;cases c with
 |tmp b=>
  have f:b∈pt ops o:=Yx.2 (.inl (IS (by simpa using h)));show fr.tm.get b=(oK fr.tm e).get b;rw[jB,if_neg (d b f)]
 |_=>rfl
theorem n1{fr:Fr}{ops:List Oper}{o:Oper}(d:∀m∈pt ops o,m ∉ e):hq ops fr o=hq ops (nK fr e) o:=by
 unfold hq;split
 ·rfl
 ·rename_i q h k;split
  ·rfl
  ·rename_i p f;split
   ·rfl
   ·rename_i c b;have i:c∈pt ops o:=Yx.2 (.inr (by simp[k,f,b]));have l:(nK fr e).tm.get c=fr.tm.get c:=by
     show(oK fr.tm e).get c=_;rw[jB,if_neg (d c i)]
    rw[l]
end
theorem qv{C:eD}{ev:Operand->Option Value}{o:Oper}{st s:St}{v:Value}(d:gH o.op=false)(h:gp o.op=false)(c:iX C ev o st=some (.val v s))(R:s.n=st.n):s=st:=by
 have f:∀{F:Value} {p:St},val F p=some (.val v s)->p=st∨p.n=st.n+1->s=st:=by
  intro F p x h2;obtain⟨_,rfl⟩:=dt x;rcases h2 with h2|h2
  ·exact h2
  ·omega
 unfold iX at c;split at c
 case h_28 D b=>
  rw[b]at d;split at c
  ·cases c
  ·split at c
   ·rename_i G m;obtain⟨l,q,i⟩:=D;simp only at m;subst m;unfold jp at c;split at c<;>first|(simp[gH]at d;done)|skip
    ·unfold vK at c;repeat' split at c
     all_goals first|cases c;done|exact f c (.inl rfl)
    ·repeat' split at c
     all_goals first|cases c;done|exact f c (.inl rfl)
    ·repeat' split at c
     all_goals first|cases c;done|exact f c (.inl rfl)
    ·cases c
   ·rename_i T m;exfalso;obtain⟨l,q,i⟩:=D;simp only at m;subst m;simp[gH]at d
   ·cases c
 case h_29 D b=>rw[b]at d;simp[gH]at d
 case h_30 w b=>rw[b]at d;simp[gH]at d
 case h_2 w b=>rw[b]at d;simp[gH]at d
 case h_9 t S w b=>rw[b]at d;simp[gH]at d
 case h_24 t y k P b=>rw[b]at d;simp[gH]at d
 case h_25 t y k P b=>rw[b]at d;simp[gH]at d
 case h_4 t b=>rw[b]at h;simp[gp]at h
 case h_5 t w b=>rw[b]at h;simp[gp]at h
 case h_7 t U ps b=>rw[b]at h;simp[gp]at h
 case h_16 t b=>rw[b]at h;simp[gp]at h
 case h_31=>cases c
 all_goals
  first
  |unfold sr at c
  |unfold vJ at c
  |unfold mu at c
  |unfold ib at c
  |unfold hR at c
  |unfold oz at c
  |unfold oA at c
  |unfold gb at c
  |unfold u1 at c
  |unfold gT at c
  |unfold sw at c
  |unfold pq at c
  |unfold iY at c
  |unfold oB at c
  |skip
  repeat' split at c
  all_goals first|cases c;done|exact f c (.inl rfl)|exact f c (.inr rfl)
def uP(ops:Array Oper)(b:Nat):Option Tmp:=(ops[b]?).bind (·.dst)
def gu(ops:Array Oper)(D:Nat->Bool)(b:List Nat):List Nat:=(b.filter fun c=> !D c).filterMap (uP ops)
theorem lJ{ops:Array Oper}{D:Nat->Bool}{t:Nat}:t∈gu ops D e↔∃d∈e,D d=false/\uP ops d=some t:=by
 unfold gu;rw[List.mem_filterMap];constructor
 ·rintro⟨d,b,c⟩;rw[Yw]at b;exact⟨d,b.1,by simpa using b.2,c⟩
 ·rintro⟨d,b,f,c⟩;exact⟨d,Yw.2 ⟨b,by simp[f]⟩,c⟩
def z1(G:Nat->Prop)(D:Nat->Bool)(b:List sf):Nat->Prop:=fun d=>G d∨∃f v c,sf.obj f v d c∈b/\D f=false
section
variable{C:eD} {w0:World} {N0:Nat} {G:Nat->Prop} {fc:FC} {b:FB} {rc:Rec} {ops:Array Oper} {bs:List Nat} {m:Nat} {order:List Nat}
structure Down (ops:Array Oper) (D:Nat->Bool):Prop where
 vH:∀i,D i=true->i<ops.size
 closed:∀i o,D i=true->ops[i]?=some o->∀e∈o.after.toList,Region.binds .any e=true->D e.on=true
theorem Down.bits{D:Nat->Bool}(p:Down ops D)(i:iK ops bs m order):∀b l,D b=true->js bs b l=true->D l=true:=by
 intro b;induction b using Nat.strongRecOn with
 |_ b q=>
  intro l h s;have k:=p.vH b h;have d:ops[b]?=some ops[b]:=Yo k;obtain⟨o,f,c,h1|h1⟩:=i.bits b _ d l s
  ·rw[<-h1];exact p.closed b _ h d o f c
  ·exact q o.on (i.back b _ d o f c) l (p.closed b _ h d o f c) h1
theorem Down.ready{D:Nat->Bool}(p:Down ops D)(f:iK ops bs m order){o:Oper}(k:ops[a]?=some o)(h:∀d∈o.after.toList,Region.binds .any d=true->D d.on=true){i:Nat}(l:js bs a i=true):D i=true:=by
 obtain⟨d,c,b,h1|h1⟩:=f.bits a _ k i l
 ·rw[<-h1];exact h d c b
 ·exact p.bits f d.on i (h d c b) h1
theorem Down.add{D:Nat->Bool}(p:Down ops D){o:Oper}(h:ops[a]?=some o)(m:∀k∈o.after.toList,Region.binds .any k=true->D k.on=true):Down ops (fun x=>D x||x==a):=by
 refine⟨fun x b=>?_,fun x l b c k d f=>?_⟩
 ·simp only[Yu,beq_iff_eq]at b;rcases b with b|rfl
  ·exact p.vH x b
  ·rcases Nat.lt_or_ge x ops.size with i|i
   ·exact i
   ·rw[YG i]at h;cases h
 ·simp only[Yu,beq_iff_eq]at b⊢;rcases b with b|rfl
  ·exact .inl (p.closed x l b c k d f)
  ·rw[h]at c;cases c;exact .inl (m k d f)
structure Inv (w0:World) (N0:Nat) (G:Nat->Prop) (ops:Array Oper) (bs:List Nat) (m:Nat) (fc:FC) (b:FB) (D:Nat->Bool) (pre:List Nat) (bb:Nat) (Gb:List sf) (fr:Fr) (ps:eT) (st:St) (ρ:Ren) (w:World) (tm:Array Value) (df:List Deferred) (cs:List Frame):Prop where
 down:Down ops D
 sub:∀i,D i=true->i<m->i∈pre
 LZ:∀i∈pre,iF ops.toList i=true->D i=true
 cover:∀i∈pre,iF ops.toList i=false->∃c∈Gb,c.idx=i
 N4:∀j,YA bb j=true->∃e,D e=true/\js bs e j=true
 IT:∀i v N ob,sf.obj i v N ob∈Gb->D i=false->N<st.n
 Gc:∀i v N ob i' v' XM,sf.obj i v N ob∈Gb->sf.obj i' v' N XM∈Gb->D i=false->D i'=false->i=i'
 S3:∀c∈Gb,iF ops.toList c.idx=false/\c.idx∈pre
 fq:∀c∈Gb,∀d,uP ops c.idx=some d->d<fc.nt
 L0:∀i v N ob,sf.obj i v N ob∈Gb->¬G N
 world:dD w0 N0 (z1 G D Gb) ρ st w
 frame:k4 ρ fc (nK fr (gu ops D pre)) b tm df
 fO:sM ρ fc.BG ps cs
theorem IU{fr b:Fr}{v:Value}(c:hS a fr B v=some b):b.df=fr.df/\(∀h,B≠some h->b.tm.get h=fr.tm.get h)/\∀d,B=some d->d<a:=by
 unfold hS at c;split at c
 ·cases c;exact⟨rfl,(fun _ _=>rfl),(fun d i=>by cases i)⟩
 ·rename_i d;split at c
  ·rename_i f;cases c;refine⟨Z,fun h k=>?_,fun l i=>by cases i;exact YC.mp f⟩;show(fr.tm.set d v).get h=_;rw[cF,if_neg (fun i=>k (by rw[i]))]
  ·cases c
theorem k4.sub{ρ:Ren}{fr fr':Fr}{tm:Array Value}{df:List Deferred}(c:k4 ρ fc fr b tm df)(d:fr'.df=fr.df)(h:∀i v,fr'.tm.get i=some v->fr.tm.get i=some v):k4 ρ fc fr' b tm df:=
 ⟨c.fn,c.round,c.kind,⟨c.tm.1,fun k v f=>c.tm.2 k v (h k v f)⟩,by rw[d];exact c.df⟩
theorem advance(aw:iK ops bs m order){D:Nat->Bool}{ps:eT}{ad:Ex×Fr×eT×St}{ρ:Ren}{w:World}{tm:Array Value}{df:List Deferred}{cs:List Frame}:
  ∀(q f:List Nat) (c:List sf) (fr:Fr) (st:St),order=f++q->fy C rc fc ops.toList bs q a c fr ps st=some ad->Inv w0 N0 G ops bs m fc b D f a c fr ps st ρ w tm df cs->
  ∃J t X ab af,order=J++t/\fy C rc fc ops.toList bs t a X ab ps af=some ad/\Inv w0 N0 G ops bs m fc b D J a X ab ps af ρ w tm df cs/\(t=[]∨∃k aq,t=k::aq/\iF ops.toList k=true):=by
 intro q;induction q with
 |nil=>intro f c fr st j S d;exact⟨f,[],c,fr,st,j,S,d,.inl rfl⟩
 |cons F aq ah=>
  intro f c fr st j S d;cases P:iF ops.toList F with
  |true=>exact⟨f,F::aq,c,fr,st,j,S,d,.inr ⟨F,aq,rfl,P⟩⟩
  |false=>
   have E:order=(f++[F])++aq:=by rw[j];simp
   have Q:F ∉ f:=by
    have:=aw.nodup;rw[j,List.nodup_append]at this;intro ak;exact this.2.2 F ak F sm Z
   have ar:F<m:=aw.lt F (by rw[j];simp);have ao:D F=false:=by
    cases i:D F with
    |false=>rfl
    |true=>exact absurd (d.sub F i ar) Q
   rw[fy]at S;split at S
   ·rename_i aA aI B aF;rw[cz,Yr]at B;have ag:gH aA.op=false:=by
     unfold iF at P;rw[cz,Yr,B]at P;exact P
    have u:uP ops F=aA.dst:=by unfold uP;rw[B];rfl
    simp only[ag]at S;have U:∀(L:sf) (h:Fr) (T:St) (v:Value),L.idx=F->hS fc.nt fr aA.dst v=some h->
      (∀o p V x,sf.obj o p V x∈L::c->D o=false->V<T.n)->(∀r K V e n N R,sf.obj r K V e∈L::c->sf.obj n N V R∈L::c->D r=false->D n=false->r=n)->
      (∀o p V x,sf.obj o p V x∈L::c->¬G V)->dD w0 N0 (z1 G D (L::c)) ρ T w->Inv w0 N0 G ops bs m fc b D (f++[F]) a (L::c) h ps T ρ w tm df cs:=by
     intro L h T v aj y O M aa z;obtain⟨ap,ai,au⟩:=IU y;refine⟨d.down,fun al l an=>by simp[d.sub al l an],fun al l W=>?_,fun al l W=>?_,d.N4,O,M,fun I s=>?_,fun I s aE i=>?_,aa,z,?_,d.fO⟩
     ·rcases Yx.1 l with l|l
      ·exact d.LZ al l W
      ·simp at l;subst l;rw[P]at W;cases W
     ·rcases Yx.1 l with l|l
      ·obtain⟨I,s,aD⟩:=d.cover al l W;exact⟨I,by simp[s],aD⟩
      ·simp at l;subst l;exact⟨L,by simp,aj⟩
     ·rcases Ym.1 s with rfl|s
      ·rw[aj];exact⟨P,by simp⟩
      ·obtain⟨h1,h2⟩:=d.S3 I s;exact⟨h1,by simp[h2]⟩
     ·rcases Ym.1 s with rfl|s
      ·rw[aj,u]at i;exact au aE i
      ·exact d.fq I s aE i
     ·refine d.frame.sub (fr':=nK h (gu ops D (f++[F]))) ap fun ay aG aC=>?_;have Y:(oK h.tm (gu ops D (f++[F]))).get ay=some aG:=aC;rw[jB]at Y;split at Y
      ·cases Y
      ·rename_i ae;show(oK fr.tm (gu ops D f)).get ay=some aG;have h1:ay ∉ gu ops D f:=fun hm=>ae (by
        rw[lJ]at hm⊢;obtain⟨al,l,i,W⟩:=hm;exact⟨al,by simp[l],i,W⟩)
       have h2:aA.dst≠some ay:=fun k=>ae (by
        rw[lJ];exact⟨F,by simp,ao,by rw[u];exact k⟩)
       rw[jB,if_neg h1,<-ai ay h2];exact Y
    split at S
    ·cases S
    ·rename_i ax;split at S
     ·rename_i h y;exact ah (f++[F]) (.skip F::c) h st E S (U (.skip F) h st kX Z y
       (fun o p V x hm i=>by rcases Ym.1 hm with k|hm;cases k;exact d.IT _ _ _ _ hm i)
       (fun r K V e n N R h1 h2 d1 d2=>by
        rcases Ym.1 h1 with k|h1
        ·cases k
        ·rcases Ym.1 h2 with k|h2
         ·cases k
         ·exact d.Gc _ _ _ _ _ _ _ h1 h2 d1 d2)
       (fun o p V x hm=>by rcases Ym.1 hm with k|hm;cases k;exact d.L0 _ _ _ _ hm)
       (d.world.uO (by
        rintro aH (A|⟨o,p,x,hm,i⟩)
        ·exact .inl A
        ·rcases Ym.1 hm with k|hm
         ·cases k
         ·exact .inr ⟨o,p,x,hm,i⟩)))
     ·cases S
    ·rename_i ax;split at S
     ·rename_i v T av;split at S
      ·cases S
      ·rename_i h y;split at S
       ·rename_i H;obtain⟨g,rfl,am⟩:=LY H av;split at S
        ·rename_i x ac;rw[dH,if_pos rfl]at ac;cases ac;exact ah (f++[F]) (.obj F v st.n g::c) h (st.new g) E S (U (.obj F v st.n g) h (st.new g) v Z y
          (fun o p V R hm i=>by
           show V<st.n+1;rcases Ym.1 hm with k|hm
           ·cases k;omega
           ·have:=d.IT _ _ _ _ hm i;omega)
          (fun r K V e n N R h1 h2 d1 d2=>by
           rcases Ym.1 h1 with k|h1
           ·cases k;rcases Ym.1 h2 with k|h2
            ·cases k;rfl
            ·have:=d.IT _ _ _ _ h2 d2;omega
           ·rcases Ym.1 h2 with k|h2
            ·cases k;have:=d.IT _ _ _ _ h1 d1;omega
            ·exact d.Gc _ _ _ _ _ _ _ h1 h2 d1 d2)
          (fun o p V x hm=>by
           rcases Ym.1 hm with k|hm
           ·cases k;exact fun aB=>absurd (d.world.Io _ (.inl aB)).2 (Nat.lt_irrefl _)
           ·exact d.L0 _ _ _ _ hm)
          ((d.world.N3 am).uO (by
           rintro aH (A|⟨o,p,R,hm,i⟩)
           ·exact .inl (.inl A)
           ·rcases Ym.1 hm with k|hm
            ·cases k;exact .inr rfl
            ·exact .inl (.inr ⟨o,p,R,hm,i⟩))))
        ·cases S
       ·rename_i H;split at S
        ·rename_i az;have:=qv ag H av (Yp az);subst this;exact ah (f++[F]) (.val F v::c) h T E S (U (.val F v) h T v Z y
          (fun o p V x hm i=>by rcases Ym.1 hm with k|hm;cases k;exact d.IT _ _ _ _ hm i)
          (fun r K V e n N R h1 h2 d1 d2=>by
           rcases Ym.1 h1 with k|h1
           ·cases k
           ·rcases Ym.1 h2 with k|h2
            ·cases k
            ·exact d.Gc _ _ _ _ _ _ _ h1 h2 d1 d2)
          (fun o p V x hm=>by rcases Ym.1 hm with k|hm;cases k;exact d.L0 _ _ _ _ hm)
          (d.world.uO (by
           rintro aH (A|⟨o,p,x,hm,i⟩)
           ·exact .inl A
           ·rcases Ym.1 hm with k|hm
            ·cases k
            ·exact .inr ⟨o,p,x,hm,i⟩)))
        ·cases S
     ·cases S
   ·cases S
end
end Go.AM
