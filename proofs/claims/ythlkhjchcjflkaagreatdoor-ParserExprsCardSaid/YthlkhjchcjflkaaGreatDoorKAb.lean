/- Part of the proof. -/
import Derived.Test.YthlkhjchcjflkaaGreatDoorKAa
import Derived.Laws.Entries
import Derived.WideLaws
import Derived.Laws.Strings
import Derived.Laws.StructEq
import Derived.Laws.World
import Derived.IntWalk
set_option linter.all false
set_option maxHeartbeats 16000000
set_option maxRecDepth 100000
open Nat renaming le_of_ble_eq_true->Yl,eq_of_beq_eq_true->Ym,le_refl->Yq,mul_le_mul_right->Yu,blt_eq->Yw,add_assoc->Yx,add_mul->Yy,ne_of_beq_eq_false->YA,lt_or_ge->YB,ble->YG,sub_zero->YK,sub_self->YL
open Array renaming getElem?_toList->Yn,length_toList->Yt,range->YC,eq_empty_of_size_eq_zero->YD,getElem?_push->YM
open Bool renaming false_eq_true->Yo,and_eq_true->Yp,eq_iff_iff->Yv,not_false->YJ
open List renaming getElem?_eq_none->Yr,getElem?_append_left->Yz,length_cons->YE,getElem?_append_right->YH,extract_eq_take_drop->YI
open Int renaming ofNat->Ys
open Option renaming map_some->YF,isSome_none->YN
namespace Go.AM
open Go.RowKit (Below)
theorem sH{v:Value}(b:flat v=true)(ρ:Ren):dg ρ v v:=by
 unfold flat at b;split at b<;>first|cases b|skip
 ·exact .bool _
 ·exact .int _ _
 ·exact .string _
 ·exact .Iv
 ·exact .lG
 ·exact .Iw
 ·exact .nilFunc
 ·exact .nilIface
theorem jA{l:List Value}(b:l.all flat=true)(ρ:Ren):db ρ l l:=by
 induction l with
 |nil=>exact .nil
 |cons v l c=>simp only[List.all_cons,Yp]at b;exact .cons (sH b.1 ρ) (c b.2)
def IA:TypeDesc->Bool
 |.struct _=>true
 |.array _ _=>true
 |_=>false
def DA(ti:TI)(b:Value):Prop:=(ti.agg=true/\b=.agg ti.zero.toArray)∨(ti.agg=false/\ti.zero=[b]/\flat b=true)
theorem DA.cells{ti:TI}{c:Value}(f:DA ti c):c.cells.toList=ti.zero:=by
 rcases f with⟨_,rfl⟩|⟨_,h,b⟩
 ·rfl
 ·rw[h];cases c<;>first|rfl|(simp[flat]at b;done)
variable{D E a d:Value}
theorem DA.mk{ti:TI}(f:DA ti a):FJ ti.agg ti.zero=some a:=by
 rcases f with⟨b,rfl⟩|⟨b,c,_⟩
 ·rw[b];rfl
 ·rw[b,c];rfl
structure mW (C:eD):Prop where
 VZ:∀t ti,C.tt.get t=some ti->C.P.underlying t=some ti.desc
 Qq:∀t ti,C.tt.get t=some ti->∃i z,C.P.info? t=some i/\i.size=ti.size/\i.bytes=ti.bytes/\i.zero=some z/\DA ti z
 agg:∀t ti,C.tt.get t=some ti->ti.agg=IA ti.desc
 XK:∀t ti,C.tt.get t=some ti->ti.zero.length=ti.size
 vR:∀t ti,C.tt.get t=some ti->ti.zero.all flat=true
section
variable{C:eD} {t:TypeId} {ti:TI}
theorem eu(c:mW C)(b:C.tt.get t=some ti)(w:World):(underlying t).run C.P w=.ok ti.desc w:=run_underlying (c.VZ _ _ b) w
theorem NO(f:mW C)(h:C.tt.get t=some ti)(w:World):∃b c,(typeInfo t).run C.P w=.ok b w/\b.size=ti.size/\b.bytes=ti.bytes/\b.zero=some c/\DA ti c:=by
 obtain⟨b,c,m,l⟩:=f.Qq _ _ h;exact⟨b,c,by simp[typeInfo,m],l⟩
theorem fQ(b:mW C)(c:C.tt.get t=some ti)(w:World):(sizeOf t).run C.P w=.ok ti.size w:=by
 obtain⟨m,l,f,h,_⟩:=b.Qq _ _ c;simp[sizeOf,typeInfo,f,h]
theorem CO(c:mW C)(f:C.tt.get t=some ti)(w:World):∃b,(typeInfo t).run C.P w=.ok b w/\b.bytes=ti.bytes:=by
 obtain⟨b,m,l,n,h,_⟩:=NO c f w;exact⟨b,l,h⟩
theorem zi(c:mW C)(b:C.tt.get t=some ti)(w:World):(isAgg t).run C.P w=.ok ti.agg w:=by
 unfold isAgg;rw[Sem.run_bind,eu c b w,Result.andThen_ok,c.agg _ _ b];cases ti.desc<;>rfl
theorem lI(f:mW C)(l:C.tt.get t=some ti)(w:World):∃b,(zeroValue t).run C.P w=.ok b w/\DA ti b:=by
 obtain⟨o,b,m,p,n,c,h⟩:=f.Qq _ _ l;exact⟨b,by simp[zeroValue,typeInfo,m,c],h⟩
end
structure Kept (w0:World) (N0:Nat) (G:Nat->Prop) (ρ:Ren) (eB:St) (v:Value) (v':Value) (w':World) (dx:Ren):Prop where
 le:ρ.le dx
 world:dD w0 N0 G dx eB w'
 value:dg dx v v'
def p7(w0:World)(N0:Nat)(G:Nat->Prop)(ρ:Ren)(eB:St)(v:Value)(h:Result Value):Prop:=
 ∃f c b,h=.ok c b/\Kept w0 N0 G ρ eB v c b f
variable{e:Array Value} {x:Program}
section
variable{C:eD} {w0:World} {N0:Nat} {G:Nat->Prop} {ρ:Ren} {st eB:St} {w:World} {v:Value}
theorem p7.same(c:dD w0 N0 G ρ st w)(b:dg ρ v a):p7 w0 N0 G ρ st v (.ok a w):=⟨ρ,a,w,rfl,Ren.le_refl _,c,b⟩
theorem dt{st eB:St}{v b:Value}(c:val v st=some (.val b eB)):b=v/\eB=st:=by
 unfold val at c;cases c;exact⟨Z,Z⟩
theorem dD.row(m:dD w0 N0 G ρ st w){c:List Value}{es:Nat}(b:TypeId)(f:db ρ c e.toList):
  dD w0 N0 G (ρ.add st.n ⟨w.heap.size,0,es,e.size⟩) (st.new (.cells c es st.n 0)) {w with heap:=w.heap.push (.cells e b)}:=by
 refine m.new Z Z ⟨e,b,0,0,Z,Z,Z,?_,fun p v h=>?_,fun p _ o=>om⟩
 ·have:=f.length;simp at this;simp;omega
 ·obtain⟨l,s,n⟩:=f.get h;refine⟨l,?_,n.mono (e1 m.ie)⟩;simpa using s
theorem gU{w:World}(b:TypeId)(c:Array Value):(Go.newRow b c).run x w=.ok ⟨w.heap.size,0,none⟩ {w with heap:=w.heap.push (.cells c b)}:=by
 simp[Go.newRow,newObj,Sem.run]
theorem LA(f:mW C)(o:dD w0 N0 G ρ st w){t:TypeId}(c:uZ C t st=some (.val v eB)):p7 w0 N0 G ρ eB v ((Instr.alloc t true (.tuple #[])).run C.P w):=by
 unfold uZ at c;split at c
 ·rename_i ti h;obtain⟨rfl,rfl⟩:=dt c;obtain⟨n,m,l⟩:=lI f h w;have b:db ρ ti.zero n.cells.toList:=by rw[l.cells];exact jA (f.vR _ _ h) ρ
  refine⟨_,.pointer (some ⟨w.heap.size,0,none⟩),_,?_,e1 o.ie,o.row t b,?_⟩
  ·simp only[Instr.alloc,Sem.run_bind,m,Result.andThen_ok,newVar,gU,Sem.run_pure]
  ·exact .ptr (l:=⟨w.heap.size,0,ti.size,n.cells.size⟩) (dr _ _ _)
 ·cases c
theorem Qr(f:dD w0 N0 G ρ st w){t:TypeId}(c:dg ρ a d)(b:It a st=some (.val v eB)):p7 w0 N0 G ρ eB v ((Instr.box t d).run C.P w):=by
 unfold It at b;split at b
 ·obtain⟨rfl,rfl⟩:=dt b;refine⟨_,.pointer (some ⟨w.heap.size,0,none⟩),_,?_,e1 f.ie,f.row t c.cells,?_⟩
  ·simp only[Instr.box,Sem.run_bind,Result.andThen_ok,newVar,gU,Sem.run_pure]
  ·exact .ptr (l:=⟨w.heap.size,0,_,d.cells.size⟩) (dr _ _ _)
 ·cases b
theorem px{b o:Nat}(c:dg ρ (.pointer (some ⟨b,o,none⟩)) a):∃f,ρ b=some f/\a=.pointer (some ⟨f.b,f.d+o,none⟩):=by
 cases c with
 |ptr c=>exact⟨_,c,rfl⟩
theorem IB(S:dD w0 N0 G ρ st w){b o:Nat}{l:Loc}(h:ρ b=some l)(s:gN st b o 1=some [a]):
  ∃c,w.cell? ⟨l.b,l.d+o,none⟩=some c/\dg ρ a c:=by
 obtain⟨f,Q,V,W,m,C,n⟩:=nY s;obtain⟨O,p,U,R,T,P⟩:=S.obj _ _ _ h m;have t:f[o]?=some a:=by
  have:((f.drop o).take 1)[0]?=some a:=by rw[<-n];rfl
  simpa using this
 obtain⟨c,v,N⟩:=P.cell _ _ t;exact⟨c,by rw[cell_of T];exact v,N⟩
theorem FP(m:mW C)(S:dD w0 N0 G ρ st w){t:TypeId}(R:dg ρ a d)(c:vJ C t a st=some (.val v eB)):
  ∃n,(Instr.loadAt t d).run C.P w=.ok n w/\dg ρ v n/\eB=st:=by
 unfold vJ at c;split at c
 ·rename_i ti Y W l;obtain⟨g,o,rfl⟩:=px R;split at c
  ·rename_i U N h;split at c
   ·rename_i e b;obtain⟨rfl,rfl⟩:=dt c;cases f:ti.agg with
    |true=>
     obtain⟨O,p,s⟩:=S.read o h C.P;refine⟨.agg O,?_,?_,Z⟩
     ·simp only[Instr.loadAt,Instr.sureAddr,loadVar,Sem.run_bind,Sem.run_pure,Result.andThen_ok,zi m l,f,if_true,fQ m l,p]
     ·rw[f]at b;simp[FJ]at b;subst b;exact .agg s
    |false=>
     rw[f]at b N;have P:ti.size=1:=by simpa using N
     rw[P]at h;have Q:=fP h
     match U,Q,b with
     |[X],_,b=>
      simp[FJ]at b;subst b;obtain⟨d,V,T⟩:=IB S o h;refine⟨d,?_,T,Z⟩;simp only[Instr.loadAt,Instr.sureAddr,loadVar,Sem.run_bind,Sem.run_pure,Result.andThen_ok,zi m l,f,Yo,if_false,run_load V]
   ·cases c
  ·cases c
 ·cases c
theorem LB(N:mW C)(T:dD w0 N0 G ρ st w){t:TypeId}(o:dg ρ a d)(n:dg ρ D E)(b:ir C t a D st=some (.val v eB)):
  ∃c,(Instr.storeAt t d E).run C.P w=.ok () c/\dD w0 N0 G ρ eB c/\v=kX/\eB.n=st.n:=by
 unfold ir at b;split at b
 ·rename_i ti V U p;obtain⟨W,s,rfl⟩:=px o;split at b
  ·rename_i Q;split at b
   ·rename_i S O;obtain⟨rfl,rfl⟩:=dt b;obtain⟨c,P,h,R⟩:=T.write s O n.cells C.P;have f:=n.cells.length;have l:=Ym Q;refine⟨c,?_,h,Z,R⟩;have m:E.cells.size=ti.size:=by rw[<-l,f];simp
    simp only[Instr.storeAt,Instr.sureAddr,storeVar,Sem.run_bind,Sem.run_pure,Result.andThen_ok,fQ N p,m,ne_eq,not_true_eq_false,if_false,P]
   ·cases b
  ·cases b
 ·cases b
end
variable{i:List (Nat×Value)}
section
variable{C:eD} {w0:World} {N0:Nat} {G:Nat->Prop} {ρ:Ren} {st eB:St} {w:World} {v:Value}
theorem LC(c:List Value):∀(h:Array Value) (b f:Nat),b+f+c.length<=h.size->
  ((c.zipIdx f).foldl (fun p (t:Value×Nat)=>p.setIfInBounds (b+t.2) t.1) h).toList=dU h.toList (b+f) c:=by
 induction c with
 |nil=>intro h b f _;cases w:h.toList<;>simp[dU,w]
 |cons v c o=>
  intro h b f m;simp only[YE]at m;simp only[List.zipIdx_cons,List.foldl_cons];rw[o _ b (f+1) (by simp;omega)];refine List.ext_getElem? fun n=>?_;rw[nf _ _ _ _ (by simp;omega),nf _ _ _ _ (by simp;omega)];simp only[YE,Array.toList_setIfInBounds];by_cases s:n=b+f
  ·subst s;rw[if_neg om,if_pos om,YL,List.getElem?_set_self (by simp;omega)];rfl
  ·by_cases l:b+(f+1)<=n/\n<b+(f+1)+c.length
   ·rw[if_pos l,if_pos om,show n-(b+f)=(n-(b+(f+1)))+1 from by omega];rfl
   ·rw[if_neg l,if_neg om,List.getElem?_set_ne om]
inductive yh (ρ:Ren):List (Nat×Value)->List (Nat×Value)->Prop
 |nil:yh ρ [] []
 |cons {i:Nat} {v v':Value} {l l':List (Nat×Value)} (h:dg ρ v v') (t:yh ρ l l'):yh ρ ((i,v)::l) ((i,v')::l')
theorem FQ{c m f h:List Value}(s:db ρ c m)(l:db ρ f h){n:Nat}(o:n+f.length<=c.length):db ρ (dU c n f) (dU m n h):=by
 have w:=s.length;have t:=l.length;refine vN (by rw[lH,lH,w]) fun C v b=>?_;rw[nf _ _ _ _ o]at b;rw[nf _ _ _ _ om,<-t];by_cases p:n<=C/\C<n+f.length
 ·rw[if_pos p]at b⊢;exact l.get b
 ·rw[if_neg p]at b⊢;exact s.get b
theorem vS{l place':Nat->Option (Nat×Nat)}(X:∀a m,l a=some m->place' a=some m){C:List (Nat×Value)}(R:yh ρ i C):
  ∀{T:List Value} {c:Array Value} {U:List Value},db ρ T c.toList->po l T i=some U->∃o,Instr.fill place' c C=some o/\db ρ U o.toList:=by
 induction R with
 |nil=>intro T c U w f;simp[po]at f;subst f;exact⟨c,rfl,w⟩
 |@cons a v p k j d t Y=>
  intro T c U w f;simp only[po]at f;split at f
  ·cases f
  ·rename_i h V P;split at f
   ·rename_i b;simp only[Yp]at b;have g:=Ym b.1;have e:=Yl b.2;have G:=d.cells.length;have S:=w.length;simp only[Yt]at G S;have s:=LC p.cells.toList c h 0 (by simp;omega);have N:db ρ (dU T h (cellsOf v)) (p.cells.zipIdx.foldl (fun n (m:Value×Nat)=>n.setIfInBounds (h+m.2) m.1) c).toList:=by
     have W:p.cells.zipIdx.foldl (fun n (m:Value×Nat)=>n.setIfInBounds (h+m.2) m.1) c=(p.cells.toList.zipIdx 0).foldl (fun n (m:Value×Nat)=>n.setIfInBounds (h+m.2) m.1) c:=by
      rw[<-Array.foldl_toList,Array.toList_zipIdx]
     rw[W,s];exact FQ w d.cells om
    obtain⟨o,Q,O⟩:=Y N f;refine⟨o,?_,O⟩;simp only[Instr.fill,X _ _ P];rw[if_neg ?_]
    ·exact Q
    ·simp;omega
   ·cases f
theorem FR(G:mW C):∀(b:List Field),(b.all fun l=>(C.tt.get l.type).isSome)=true->
  ∃c:List (Nat×Nat),(b.mapM (m:=Sem) fun l=>do pure (l.offset,<-sizeOf l.type)).run C.P w=.ok c w/\∀f n,hJ C ⟨b⟩ f=some n->c[f]?=some n:=by
 intro b;induction b with
 |nil=>intro _;exact⟨[],by simp,fun f n p=>by simp[hJ,nth]at p⟩
 |cons l b v=>
  intro p;simp only[List.all_cons,Yp]at p;obtain⟨c,N,t⟩:=v p.2;obtain⟨ti,s⟩:=Option.isSome_iff_exists.1 p.1;refine⟨(l.offset,ti.size)::c,?_,fun f n h=>?_⟩
  ·simp only[List.mapM_cons,Sem.run_bind,fQ G s,Result.andThen_ok,Sem.run_pure,N]
  ·cases f with
   |zero=>simp only[hJ,nth,s]at h;simpa using h
   |succ f=>have o:hJ C ⟨b⟩ f=some n:=h;simpa using t f n o
theorem LD(f:mW C)(y:dD w0 N0 G ρ st w){t:TypeId}{ps':Array (Nat×Value)}(s:yh ρ i ps'.toList)(b:sr C t i st=some (.val v eB)):
  ∃U,(Instr.build t ps').run C.P w=.ok U w/\dg ρ v U/\eB=st:=by
 unfold sr at b;split at b
 ·rename_i ti o;obtain⟨r,a,Y⟩:=lI f o w;have p:db ρ ti.zero r.cells.toList:=by rw[Y.cells];exact jA (f.vR _ _ o) ρ
  split at b
  ·rename_i c N;split at b
   ·rename_i u S W Q;obtain⟨rfl,rfl⟩:=dt b;obtain⟨e,V,O⟩:=FR (w:=w) f c.toList S;obtain⟨P,n,h⟩:=vS (place':=fun T=>e.toArray[T]?) (fun T k R=>by
     have:=O T k R;simpa using this) s p Q
    refine⟨.agg P,?_,.agg h,Z⟩;have j:(c.mapM (m:=Sem) fun q=>do pure (q.offset,<-sizeOf q.type)).run C.P w=.ok e.toArray w:=by
     rw[Array.mapM_eq_mapM_toList];simp only[map_eq_pure_bind,Sem.run_bind,V,Result.andThen_ok,Sem.run_pure]
    simp only[Instr.build,Sem.run_bind,a,Result.andThen_ok,eu f o,N,j,n,Sem.run_pure]
   ·cases b
  ·rename_i x g N;split at b
   ·rename_i d X W;split at b
    ·rename_i u Q;obtain⟨rfl,rfl⟩:=dt b;obtain⟨P,n,h⟩:=vS (place':=fun T=>some (T*d.size,d.size)) (fun T k R=>R) s p Q;refine⟨.agg P,?_,.agg h,Z⟩;simp only[Instr.build,Sem.run_bind,a,Result.andThen_ok,eu f o,N,fQ f X,n,Sem.run_pure]
    ·cases b
   ·cases b
  ·cases b
 ·cases b
theorem DB(b:List Value):∀c,(uv b c).length=c*b.length/\∀f:Nat,f<c*b.length->(uv b c)[f]?=b[f%b.length]?:=by
 intro c;induction c with
 |zero=>exact⟨by simp[uv],fun f m=>om⟩
 |succ c h=>
  refine⟨by simp[uv,h.1,Yy,Nat.add_comm],fun f m=>?_⟩;simp only[uv];by_cases l:f<b.length
  ·rw[Yz l,Nat.mod_eq_of_lt l]
  ·have n:f<c*b.length+b.length:=by rw[<-Nat.succ_mul];exact m
   rw[YH om,h.2 _ om];congr 1;exact(Nat.mod_eq_sub_mod om).symm
theorem tC{c:List Value}(b:c.all flat=true):∀n,(uv c n).all flat=true
 |0=>rfl
 |n+1=>by simp only[uv,List.all_append,b,Bool.true_and];exact tC b n
theorem vT{f:Nat->Option (Nat×Nat)}:∀{b:List (Nat×Value)} {l h:List Value},po f l b=some h->h.length=l.length:=by
 intro b;induction b with
 |nil=>intro l h c;simp[po]at c;rw[c]
 |cons n b m=>
  intro l h c;obtain⟨o,v⟩:=n;simp only[po]at c;split at c
  ·cases c
  ·split at c
   ·rw[m c,lH]
   ·cases c
theorem zO(c:Array Value)(n:Nat):((YC (n*c.size)).map (c[· %c.size]!)).toList=uv c.toList n:=by
 refine List.ext_getElem? fun o=>?_;have f:=DB c.toList n;simp only[Yt]at f;rcases YB o (n*c.size)with b|b
 ·rw[f.2 o b];have l:0<c.size:=by
   rcases Nat.eq_zero_or_pos c.size with h|h
   ·rw[h]at b;omega
   ·exact h
  have m:o%c.size<c.size:=Nat.mod_lt _ l;rw[Yn,Array.getElem?_map,Array.getElem?_range,if_pos b];simp[m,Yn]
 ·rw[Yr (by simp;omega),Yr (by rw[f.1];exact b)]
theorem zP(m:mW C)(y:dD w0 N0 G ρ st w){t:TypeId}{n:Nat}{P:Array (Nat×Value)}(e:yh ρ i P.toList)(b:jP C t n i st=some (.val v eB)):
  p7 w0 N0 G ρ eB v ((Instr.buildSlice t n P).run C.P w):=by
 unfold jP at b;split at b
 ·rename_i ti V;split at b
  ·rename_i R T;split at b
   ·rename_i f h;split at b
    ·rename_i E c X;split at b
     ·rename_i x;obtain⟨rfl,rfl⟩:=dt b;simp only[Yp]at c;have k:=Yw.mp c.1.1;have z:=Yl c.1.2;have N:=Ym c.2;obtain⟨g,q,O⟩:=lI m h w;have d:g.cells.size=f.size:=by rw[<-N,<-O.cells];simp
      have Y:db ρ (uv f.zero n) ((YC (n*f.size)).map (g.cells[· %g.cells.size]!)).toList:=by
       rw[<-d,zO,O.cells];exact jA (tC (m.vR _ _ h) n) ρ
      obtain⟨U,o,p⟩:=vS (place':=fun A=>some (A*f.size,f.size)) (fun A D u=>u) e Y X;have S:U.size=n*f.size:=by
       have W:=p.length;have j:=vT X;have r:=(DB f.zero n).1;simp only[Yt]at W;rw[<-W,j,r,N]
      refine⟨_,.slice (some ⟨w.heap.size,0,none⟩) n n,_,?_,e1 y.ie,y.row R p,?_⟩
      ·by_cases Q:n*f.size=0
       ·have s:∀B:Nat->Value,Array.map B (YC 0)= #[]:=fun _=>YD sm;simp only[Q,s]at o;simp only[Instr.buildSlice,Sem.run_bind,eu m V,T,Result.andThen_ok,fQ m h,Q,if_neg (by omega:¬0>2^24),if_true,Sem.run_pure,s,o,gU]
       ·simp only[Instr.buildSlice,Sem.run_bind,eu m V,T,Result.andThen_ok,fQ m h,if_neg (by omega:¬n*f.size>2^24),if_neg Q,q,Sem.run_pure,o,gU]
      ·refine .slice (l:=⟨w.heap.size,0,f.size,U.size⟩) (dr _ _ _) (Yq _) ?_;simp[S]
     ·cases b
    ·cases b
   ·cases b
  ·cases b
 ·cases b
end
theorem zQ{c b:Int}:pn c b=true↔c=b:=by
 cases c<;>cases b<;>simp only[pn,Nat.beq_eq]<;>first|(constructor<;>intro f<;>first|omega|(cases f;rfl)|(subst f;rfl))|simp
theorem qt(c b:Int):pn c b=(c==b):=by
 rw[Yv,zQ];simp
variable{I y:IntKind}
theorem q1:sp y I=true↔y=I:=by
 cases y<;>cases I<;>simp[sp]
theorem IC{c b:Int}:sq c b=true↔c<b:=by
 cases c<;>cases b<;>simp only[sq,Yw];all_goals simp only[Int.negSucc_eq,Int.ofNat_eq_natCast]
 ·omega
 ·exact⟨fun f=>absurd f sm,fun f=>om⟩
 ·exact⟨fun _=>om,fun _=>trivial⟩
 ·omega
theorem xw(c b:Int):sq c b=decide (c<b):=by
 rw[Yv,IC];simp
theorem py:∀(c b:List UInt8),lC c b=(c==b):=by
 intro c;induction c with
 |nil=>intro b;cases b<;>rfl
 |cons h c l=>
  intro b;cases b with
  |nil=>rfl
  |cons f b=>
   simp only[lC];cases m:Nat.beq h.toNat f.toNat with
   |true=>
    have:h=f:=UInt8.toNat_inj.1 (Ym m);subst this;simp[l]
   |false=>
    have:h≠f:=fun n=>YA m (by rw[n]);simp[this]
theorem FT:∀(h b:List UInt8),cK h b=Op.bytesLess h b:=by
 intro h;induction h with
 |nil=>intro b;cases b<;>rfl
 |cons f h m=>
  intro b;cases b with
  |nil=>rfl
  |cons c b=>
   simp only[cK,Op.bytesLess];have l:(decide (f<c))=Nat.blt f.toNat c.toNat:=by
    rw[Yv];simp[UInt8.lt_iff_toNat_lt]
   rw[l];cases Nat.blt f.toNat c.toNat with
   |true=>rfl
   |false=>
    cases n:Nat.beq f.toNat c.toNat with
    |true=>
     have:f=c:=UInt8.toNat_inj.1 (Ym n);subst this;simp[m]
    |false=>
     have:f≠c:=fun o=>YA n (by rw[o]);simp[this]
theorem toList_data(b:ByteArray):b.toList=b.data.toList:=by
 rw[Go.ByteArray.toList_eq]
variable{u:BinOp}
section
variable{C:eD} {w0:World} {N0:Nat} {G:Nat->Prop} {ρ:Ren} {st eB:St} {w:World} {v:Value}
theorem ID{l b:Int}(h:su u y l b=some v)(m:ze u=false)(t:TypeId):(binOp u t (.int y l) (.int y b)).run C.P w=.ok v w:=by
 cases u<;>simp[ze]at m<;>simp only[su,Option.some.injEq]at h
 case quo=>
  split at h
  ·cases h
  ·rename_i f;have c:b≠0:=by rw[qt]at f;simpa using f
   cases h;simp[binOp,Op.intDiv,c]
 case rem=>
  split at h
  ·cases h
  ·rename_i f;have c:b≠0:=by rw[qt]at f;simpa using f
   cases h;simp[binOp,Op.intDiv,c]
 all_goals
  subst h;simp only[binOp,ne_eq,not_true_eq_false,if_false,Op.intArith,Op.intBits,Op.intCmp,Sem.run_pure,qt,xw];try rfl
 ·have:decide (l<=b)= !decide (b<l):=by rw[Yv];simp
  rw[this]
 ·have:decide (l≥b)= !decide (l<b):=by rw[Yv];simp
  rw[this]
theorem DC{f b:Int}(c:sv u y f b=some v)(t:TypeId):(binOp u t (.int y f) (.int I b)).run C.P w=.ok v w:=by
 unfold sv at c;split at c
 ·rename_i h;split at c
  ·cases c;simp[binOp,Op.shift];intro c;omega
  ·cases c;simp[binOp,Op.shift];intro c;omega
  ·cases c
 ·cases c
theorem size_data(s:ByteArray):s.size=s.data.toList.length:=by
 cases s;rfl
theorem LF(c b:ByteArray):c++b=Ir c b:=by
 apply ByteArray.ext;simp[Ir,ByteArray.data_append]
theorem IE{c b:ByteArray}(h:u0 u c b=some v)(t:TypeId):(binOp u t (.string c) (.string b)).run C.P w=.ok v w:=by
 have m:(c.toList==b.toList)=oy c b:=by rw[toList_data,toList_data,oy,py]
 have n:Op.bytesLess c.toList b.toList=CL c b:=by rw[toList_data,toList_data,CL,FT]
 cases u<;>simp only[u0,Option.some.injEq]at h
 case add=>
  split at h
  ·rename_i l;cases h;have:=Yl l;have f:¬(((c.size+b.size:Nat):Int)>IntKind.i64.max):=by
    rw[size_data,size_data];simp[IntKind.max,IntKind.signed,IntKind.bits];simp at this;omega
   simp only[binOp,Op.stringOp,if_neg f,Sem.run_pure,LF]
  ·cases h
 all_goals first
  |cases h;done
  |(subst h;simp only[binOp,Op.stringOp,Sem.run_pure,m,n])
end
variable{q:TypeDesc} {k:Bool} {K M r:Nat} {g:Array (String×TypeId)} {A j:Array TypeId} {F J:Operand}
section
variable{C:eD} {w0:World} {N0:Nat} {G:Nat->Prop} {ρ:Ren} {st eB:St} {w:World} {v:Value}
theorem sI{t:TypeId}{v b m o:Value}(f:C.P.underlying t=some q)(h:dg ρ v m)(l:dg ρ b o)(c:jb q v b=some k)(n:Nat):
  (Op.equalIn (n+1) t m o).run C.P w=.ok k w:=by
 unfold jb at c;split at c
 ·cases h;cases l;cases c;exact run_equalIn_bool' w n t _ _ f
 ·rename_i s G v N b;split at c
  ·rename_i p;have:=q1.1 p;subst this;cases h;cases l;cases c;rw[run_equalIn_int w n t G s _ _ f,qt]
  ·cases c
 ·cases h;cases l;cases c;rw[run_equalIn_string w n t _ _ f,toList_data,toList_data,oy,py]
 ·cases c
theorem sJ(c:mW C){t:TypeId}{ti:TI}(f:C.tt.get t=some ti)(b:ti.agg=false)(h:e[r]?=some a):
  (part t e r).run C.P w=.ok a w:=by
 unfold part;simp only[Sem.run_bind,zi c f,Result.andThen_ok,b,Yo,if_false,h,Sem.run_pure]
theorem DD(h:mW C){xs P o p:Array Value}(T:db ρ xs.toList o.toList)(S:db ρ P.toList p.toList)(n:Nat):
  ∀{l:List Field} {R:Bool},ss C xs.toList P.toList l=some R->(Op.eqFields (n+1) o p l).run C.P w=.ok R w:=by
 intro l;induction l with
 |nil=>intro R c;simp[ss]at c;subst c;rfl
 |cons X l V=>
  intro R c;simp only[ss]at c;split at c
  ·cases c
  ·rename_i U;have s:X.name≠ "_" :=by simpa using U
   split at c
   ·rename_i ti a d f Q N;split at c
    ·cases c
    ·rename_i b;rw[cz]at Q N;obtain⟨Y,v,G⟩:=T.get Q;obtain⟨W,t,O⟩:=S.get N;rw[Yn]at v t;split at c
     ·rename_i m;have:=sI (w:=w) (h.VZ _ _ f) G O m n;simp only[Op.eqFields,ne_eq,s,not_false_eq_true,if_true,Sem.run_bind,sJ h f b v,sJ h f b t,Result.andThen_ok,this,Bool.not_true,Yo,if_false];exact V c
     ·rename_i m;cases c;have:=sI (w:=w) (h.VZ _ _ f) G O m n;simp only[Op.eqFields,ne_eq,s,not_false_eq_true,if_true,Sem.run_bind,sJ h f b v,sJ h f b t,Result.andThen_ok,this,YJ,Sem.run_pure]
     ·cases c
   ·cases c
theorem IF{n:Nat}{t f:TypeId}(b:C.P.underlying t=some (.pointer f))(c:Option Addr):(Op.equalIn (n+1) t (.pointer none) (.pointer c)).run C.P w=.ok c.isNone w:=by
 rw[Op.equalIn,Sem.run_bind,run_underlying b,Result.andThen_ok];rfl
theorem IG{n:Nat}{t c:TypeId}(b:C.P.underlying t=some (.pointer c))(f:Addr):(Op.equalIn (n+1) t (.pointer (some f)) (.pointer none)).run C.P w=.ok false w:=by
 rw[Op.equalIn,Sem.run_bind,run_underlying b,Result.andThen_ok];rfl
theorem NP{n:Nat}{t f:TypeId}(c:C.P.underlying t=some (.pointer f))(p b:Addr):(Op.equalIn (n+1) t (.pointer (some p)) (.pointer (some b))).run C.P w=
  (do if(<-sizeOf f)≠0 then sameAddr p b else if p==b then pure true else pure ((<-choose .zeroSizeEq)=1):Sem Bool).run C.P w:=by
 rw[Op.equalIn,Sem.run_bind,run_underlying c,Result.andThen_ok]
theorem IH{n:Nat}{t:TypeId}(b:C.P.underlying t=some (.interface g)):(Op.equalIn (n+1) t .nilIface .nilIface).run C.P w=.ok true w:=by
 rw[Op.equalIn,Sem.run_bind,run_underlying b,Result.andThen_ok];rfl
theorem LG{n:Nat}{t:TypeId}(b:C.P.underlying t=some (.interface g))(f:TypeId)(c:Value):(Op.equalIn (n+1) t .nilIface (.iface f c)).run C.P w=.ok false w:=by
 rw[Op.equalIn,Sem.run_bind,run_underlying b,Result.andThen_ok];rfl
theorem LH{n:Nat}{t:TypeId}(b:C.P.underlying t=some (.interface g))(f:TypeId)(c:Value):(Op.equalIn (n+1) t (.iface f c) .nilIface).run C.P w=.ok false w:=by
 rw[Op.equalIn,Sem.run_bind,run_underlying b,Result.andThen_ok];rfl
theorem LI{n:Nat}{t o:TypeId}(f:C.P.underlying t=some (.slice o))(h:Option Addr)(m b c l:Nat):(Op.equalIn (n+1) t (.slice none m b) (.slice h c l)).run C.P w=.ok h.isNone w:=by
 rw[Op.equalIn,Sem.run_bind,run_underlying f,Result.andThen_ok];rfl
theorem LJ{n:Nat}{t o:TypeId}(f:C.P.underlying t=some (.slice o))(l:Addr)(m b c h:Nat):(Op.equalIn (n+1) t (.slice (some l) m b) (.slice none c h)).run C.P w=.ok false w:=by
 rw[Op.equalIn,Sem.run_bind,run_underlying f,Result.andThen_ok];rfl
theorem II{n:Nat}{t h f:TypeId}(b:C.P.underlying t=some (.map h f))(c:Option Nat):(Op.equalIn (n+1) t (.map none) (.map c)).run C.P w=.ok c.isNone w:=by
 rw[Op.equalIn,Sem.run_bind,run_underlying b,Result.andThen_ok];rfl
theorem IJ{n:Nat}{t h f:TypeId}(b:C.P.underlying t=some (.map h f))(c:Nat):(Op.equalIn (n+1) t (.map (some c)) (.map none)).run C.P w=.ok false w:=by
 rw[Op.equalIn,Sem.run_bind,run_underlying b,Result.andThen_ok];rfl
theorem IK{n:Nat}{t:TypeId}(b:C.P.underlying t=some (.func j A k)):(Op.equalIn (n+1) t .nilFunc .nilFunc).run C.P w=.ok true w:=by
 rw[Op.equalIn,Sem.run_bind,run_underlying b,Result.andThen_ok];rfl
theorem LK{n:Nat}{t:TypeId}(c:C.P.underlying t=some (.func j A k))(f:Fn)(h b:Array Value):(Op.equalIn (n+1) t .nilFunc (.func f h b)).run C.P w=.ok false w:=by
 rw[Op.equalIn,Sem.run_bind,run_underlying c,Result.andThen_ok];rfl
theorem LL{n:Nat}{t:TypeId}(c:C.P.underlying t=some (.func j A k))(f:Fn)(h b:Array Value):(Op.equalIn (n+1) t (.func f h b) .nilFunc).run C.P w=.ok false w:=by
 rw[Op.equalIn,Sem.run_bind,run_underlying c,Result.andThen_ok];rfl
theorem xx(b:BinOp)(t:TypeId)(f c:Operand)(p h:Option Addr):(eqGuard b t f c (.pointer p) (.pointer h)).run C.P w=.ok () w:=by cases b<;>rfl
theorem Qs(b:BinOp)(t:TypeId)(f c:Operand)(h:TypeId)(l:Value):(eqGuard b t f c .nilIface (.iface h l)).run C.P w=.ok () w:=by cases b<;>rfl
theorem Qt(b:BinOp)(t:TypeId)(f c:Operand)(h:TypeId)(l:Value):(eqGuard b t f c (.iface h l) .nilIface).run C.P w=.ok () w:=by cases b<;>rfl
theorem FU(f:BinOp)(t:TypeId)(m l:Operand)(p n:Option Addr)(o b c h:Nat):(eqGuard f t m l (.slice p o b) (.slice n c h)).run C.P w=.ok () w:=by cases f<;>rfl
theorem CP(b:BinOp)(t:TypeId)(f c:Operand)(p h:Option Nat):(eqGuard b t f c (.map p) (.map h)).run C.P w=.ok () w:=by cases b<;>rfl
theorem NQ(b:BinOp)(t:TypeId)(f c:Operand):(eqGuard b t f c .nilFunc .nilFunc).run C.P w=.ok () w:=by cases b<;>rfl
theorem NR(c:BinOp)(t:TypeId)(m h:Operand)(f:Fn)(l b:Array Value):(eqGuard c t m h .nilFunc (.func f l b)).run C.P w=.ok () w:=by cases c<;>rfl
theorem NS(c:BinOp)(t:TypeId)(m h:Operand)(f:Fn)(l b:Array Value):(eqGuard c t m h (.func f l b) .nilFunc).run C.P w=.ok () w:=by cases c<;>rfl
theorem Qu(c:BinOp)(t:TypeId)(l f:Operand)(h b:Bool):(eqGuard c t l f (.bool h) (.bool b)).run C.P w=.ok () w:=by cases c<;>rfl
theorem KB(c:BinOp)(t:TypeId)(l h:Operand)(m f:IntKind)(n b:Int):(eqGuard c t l h (.int m n) (.int f b)).run C.P w=.ok () w:=by cases c<;>rfl
theorem KC(c:BinOp)(t:TypeId)(l f:Operand)(h b:ByteArray):(eqGuard c t l f (.string h) (.string b)).run C.P w=.ok () w:=by cases c<;>rfl
theorem NT(b:BinOp)(t:TypeId)(f c:Operand)(h:(kf f||kf c)=true):(eqGuard b t f c .nilIface .nilIface).run C.P w=.ok () w:=by
 cases b<;>cases f<;>cases c<;>first|rfl|(simp[kf]at h;done)
theorem KD(Q:mW C){t:TypeId}{i b P N:Value}(l:dg ρ i P)(h:dg ρ b N)(m:Lw C t F J i b=some k)(U:BinOp):
  (∀p,(Op.equalIn (p+2) t P N).run C.P w=.ok k w)/\(eqGuard U t F J P N).run C.P w=.ok () w:=by
 unfold Lw at m;split at m
 ·cases m
 ·rename_i ti X;have c:=Q.VZ _ _ X;split at m
  ·rename_i f;cases m;cases l;rw[f]at c;cases h<;>exact⟨fun p=>IF c _,xx _ _ _ _ _ _⟩
  ·rename_i n f;cases m;cases h;rw[f]at c;cases l
   ·exact(n Z).elim
   ·exact⟨fun p=>IG c _,xx _ _ _ _ _ _⟩
  ·rename_i A y z _ f;rw[f]at c;split at m
   ·rename_i a q R j V e;split at m
    ·rename_i o;simp only[Yp]at o;have Y:=Yw.mp o.1;have:=Ym o.2;subst this;cases m;obtain⟨W,d,rfl⟩:=px l;obtain⟨x,G,rfl⟩:=px h;rw[d]at G;cases G;refine⟨?_,xx _ _ _ _ _ _⟩;have n:a.size≠0:=om;have v:((⟨W.b,W.d+R,none⟩:Addr)==⟨W.b,W.d+V,none⟩)=Nat.beq R V:=by
      rw[Yv,Nat.beq_eq,beq_iff_eq,Addr.mk.injEq];constructor
      ·rintro⟨_,m,_⟩;omega
      ·rintro m;exact⟨rfl,om,rfl⟩
     intro p;rw[NP c];simp only[Sem.run_bind,Result.andThen_ok,fQ Q e,ne_eq,n,not_false_eq_true,if_true,sameAddr,beq_self_eq_true,Sem.run_pure,v]
    ·cases m
   ·cases m
  ·rename_i f;rw[f]at c;split at m
   ·rename_i g;cases m;cases l;cases h;exact⟨fun p=>IH c,NT _ _ _ _ g⟩
   ·cases m
  ·rename_i f;rw[f]at c;cases m;cases l;cases h;exact⟨fun p=>LG c _ _,Qs _ _ _ _ _ _⟩
  ·rename_i f;rw[f]at c;cases m;cases l;cases h;exact⟨fun p=>LH c _ _,Qt _ _ _ _ _ _⟩
  ·rename_i s r u f;rw[f]at c;simp only at m;split at m
   ·cases m
   ·rename_i O;rw[Bool.or_eq_false_iff]at O;cases l with
    |agg l=>
     cases h with
     |agg h=>
      have T:C.P.fieldsOf t=s:=by unfold Program.fieldsOf;rw[c]
      have S:C.P.underlying t=some (.struct (C.P.fieldsOf t)):=by rw[T];exact c
      refine⟨?_,run_eqGuard_agg w U t F J _ _ O.1⟩;intro p;rw[run_equalIn_agg w (p+1) t _ _ S O.2,T];exact DD Q l h p m
  ·rename_i f;rw[f]at c;cases m;cases l;cases h<;>exact⟨fun p=>LI c _ _ _ _ _,FU _ _ _ _ _ _ _ _ _ _⟩
  ·rename_i n f;rw[f]at c;cases m;cases h;cases l<;>first|exact(n _ _ rfl).elim|exact(n rfl).elim|exact⟨fun p=>LJ c _ _ _ _ _,FU _ _ _ _ _ _ _ _ _ _⟩
  ·rename_i f;rw[f]at c;cases m;cases l;cases h<;>exact⟨fun p=>II c _,CP _ _ _ _ _ _⟩
  ·rename_i n f;rw[f]at c;cases m;cases h;cases l<;>first|exact(n rfl).elim|exact⟨fun p=>IJ c _,CP _ _ _ _ _ _⟩
  ·rename_i f;rw[f]at c;cases m;cases l;cases h;exact⟨fun p=>IK c,NQ _ _ _ _⟩
  ·rename_i f;rw[f]at c;cases m;cases l;cases h<;>exact⟨fun p=>LK c _ _ _,NR _ _ _ _ _ _ _⟩
  ·rename_i f;rw[f]at c;cases m;cases h;cases l<;>exact⟨fun p=>LL c _ _ _,NS _ _ _ _ _ _ _⟩
  ·refine⟨fun p=>sI c l h m (p+1),?_⟩;unfold jb at m;split at m
   ·cases l;cases h;exact Qu _ _ _ _ _ _
   ·cases l;cases h;exact KB _ _ _ _ _ _ _ _
   ·cases l;cases h;exact KC _ _ _ _ _ _
   ·cases m
end
variable{B:List Value}
section
variable{C:eD} {w0:World} {N0:Nat} {G:Nat->Prop} {ρ:Ren} {st eB:St} {w:World} {v:Value}
theorem zR{t:TypeId}{c b:Value}(h:∀f,(Op.equalIn (f+2) t c b).run C.P w=.ok k w):(Op.equal t c b).run C.P w=.ok k w:=h 9998
theorem binOp_eql{t:TypeId}{c b:Value}(o:∀n f s h,¬(c=.int n f/\b=.int s h))(l:∀f h,¬(c=.string f/\b=.string h))(p:∀n f,c≠.float n f)(m:∀n f h,c≠.complex n f h):
  binOp .eql t c b=(do pure (.bool (<-Op.equal t c b)))/\binOp .neq t c b=(do pure (.bool (!(<-Op.equal t c b)))):=by
 constructor
 ·cases c<;>first|(exfalso;exact p _ _ rfl)|(exfalso;exact m _ _ _ rfl)|(cases b<;>first|rfl|(exfalso;exact o _ _ _ _ ⟨rfl,rfl⟩)|(exfalso;exact l _ _ ⟨rfl,rfl⟩))
 ·cases c<;>first|(exfalso;exact p _ _ rfl)|(exfalso;exact m _ _ _ rfl)|(cases b<;>first|rfl|(exfalso;exact o _ _ _ _ ⟨rfl,rfl⟩)|(exfalso;exact l _ _ ⟨rfl,rfl⟩))
theorem dg.KE(l:dg ρ a d):(∀c b,d≠.float c b)/\(∀c b h,d≠.complex c b h):=by
 cases l<;>exact⟨(fun _ _ f=>by cases f),(fun _ _ _ f=>by cases f)⟩
theorem Qv(P:mW C){t:TypeId}{Q b n m:Value}(f:dg ρ Q n)(l:dg ρ b m)(c:Du C u t F J Q b=some v):
  (do eqGuard u t F J n m;binOp u t n m:Sem Value).run C.P w=.ok v w/\dg ρ v v:=by
 unfold Du at c;split at c
 ·rename_i R a o Y;cases f;cases l;have S:(eqGuard u t F J (.int R a) (.int o Y)).run C.P w=.ok () w:=KB _ _ _ _ _ _ _ _;rw[Sem.run_bind,S,Result.andThen_ok];split at c
  ·refine⟨DC c t,?_⟩;unfold sv at c;split at c<;>first|cases c|skip
   split at c<;>cases c<;>exact .int _ _
  ·rename_i O;split at c
   ·rename_i T;have:=q1.1 T;subst this;refine⟨ID c O t,?_⟩;unfold su at c;split at c<;>first|(cases c;first|exact .int _ _|exact .bool _)|(split at c<;>cases c<;>exact .int _ _)|cases c
   ·cases c
 ·cases f;cases l;rw[Sem.run_bind,KC,Result.andThen_ok];refine⟨IE c t,?_⟩;unfold u0 at c;split at c<;>first|(cases c;exact .bool _)|(split at c<;>cases c<;>exact .string _)|cases c
 ·rename_i V O;have N:∀R F o J,¬(n=.int R F/\m=.int o J):=by
   rintro R F o J ⟨rfl,rfl⟩;cases f;cases l;exact V _ _ _ _ Z Z
  have s:∀F J,¬(n=.string F/\m=.string J):=by
   rintro F J ⟨rfl,rfl⟩;cases f;cases l;exact O _ _ Z Z
  obtain⟨W,U⟩:=binOp_eql (t:=t) N s f.KE.1 f.KE.2;split at c
  ·cases h:Lw C t F J Q b with
   |none=>rw[h]at c;cases c
   |some X=>
    rw[h]at c;cases c;obtain⟨G,p⟩:=KD (w:=w) P f l h .eql;refine⟨?_,.bool _⟩;rw[Sem.run_bind,p,Result.andThen_ok,W,Sem.run_bind,zR G,Result.andThen_ok,Sem.run_pure]
  ·cases h:Lw C t F J Q b with
   |none=>rw[h]at c;cases c
   |some X=>
    rw[h]at c;cases c;obtain⟨G,p⟩:=KD (w:=w) P f l h .neq;refine⟨?_,.bool _⟩;rw[Sem.run_bind,p,Result.andThen_ok,U,Sem.run_bind,zR G,Result.andThen_ok,Sem.run_pure]
  ·cases c
theorem SY{f:UnOp}(b:dg ρ a d)(c:VY f a=some v):(Op.unary f d).run C.P w=.ok v w/\dg ρ v v:=by
 unfold VY at c;split at c
 ·cases b;cases c;exact⟨rfl,.int _ _⟩
 ·cases b;cases c;exact⟨rfl,.int _ _⟩
 ·cases b;cases c;exact⟨rfl,.bool _⟩
 ·cases c
theorem DE(f:dg ρ a d)(c:mu a st=some (.val v eB)):
  v=a/\eB=st/\d≠.pointer none/\d≠.nilIface/\d≠.nilFunc/\∀h m l,d≠.func (.method h) m l:=by
 unfold mu at c;split at c<;>first|(obtain⟨rfl,rfl⟩:=dt c)|cases c
 all_goals cases f
 all_goals exact⟨rfl,rfl,(fun b=>by cases b),(fun b=>by cases b),(fun b=>by cases b),(fun _ _ _ b=>by cases b)⟩
theorem vU(h:mW C){t:TypeId}(m:dg ρ a d)(b:hR C t a st=some (.val v eB)):
  (Instr.makeInterface t d).run C.P w=.ok (.iface t d) w/\v=.iface t a/\eB=st/\dg ρ v (.iface t d):=by
 unfold hR at b;split at b
 ·rename_i ti l;split at b
  ·cases b
  ·rename_i c;obtain⟨rfl,rfl⟩:=dt b;refine⟨?_,Z,Z,.iface t m⟩;unfold Instr.makeInterface;rw[Sem.run_bind,eu h l,Result.andThen_ok];split
   ·rename_i f n;exact absurd n (c f)
   ·rfl
 ·cases b
theorem BK{C:eD}{b:Array Field}(c:hJ C b r=some (K,M)):∃f ti,b[r]?=some f/\C.tt.get f.type=some ti/\f.offset=K/\ti.size=M:=by
 unfold hJ at c;split at c
 ·rename_i f h;split at c
  ·rename_i ti l;cases c;rw[cz,Yn]at h;exact⟨f,ti,h,l,Z,Z⟩
  ·cases c
 ·cases c
theorem BL(m:mW C){t:TypeId}(Q:dg ρ a d)(b:gb C t a r st=some (.val v eB)):
  ∃h,(Instr.fieldAt t d r).run C.P w=.ok h w/\dg ρ v h/\eB=st:=by
 unfold gb at b;split at b
 ·rename_i ti V T p;obtain⟨S,O,rfl⟩:=px Q;split at b
  ·rename_i n o;split at b
   ·rename_i R s G;split at b
    ·rename_i c;obtain⟨rfl,rfl⟩:=dt b;obtain⟨U,P,N,l,rfl,rfl⟩:=BK G;have f:P.size≠0:=by have:=Yw.mp c;omega
     refine⟨.pointer (some ⟨S.b,S.d+(T+U.offset),none⟩),?_,.ptr O,Z⟩;simp only[Instr.fieldAt,Sem.run_bind,eu m p,o,Result.andThen_ok,N,Instr.sureAddr,Sem.run_pure,fieldPlace,fQ m l,if_neg f,kE,Yx]
    ·cases b
   ·cases b
  ·cases b
 ·cases b
theorem FV(h:mW C){t:TypeId}(m:db ρ B e.toList)(c:zK C t B r=some a):
  ∃f,(part t e r).run C.P w=.ok f w/\dg ρ a f:=by
 unfold zK at c;split at c
 ·rename_i ti l;split at c
  ·rename_i b;split at c
   ·rename_i n;cases c;refine⟨.agg (e.extract r (r+ti.size)),?_,.agg ?_⟩
    ·simp only[part,Sem.run_bind,zi h l,b,Result.andThen_ok,if_true,fQ h l,Sem.run_pure]
    ·have:(e.extract r (r+ti.size)).toList=(e.toList.drop r).take ti.size:=by
      simp[YI]
     rw[this];simpa using(m.drop r).take ti.size
   ·cases c
  ·rename_i b;rw[cz]at c;obtain⟨f,o,p⟩:=m.get c;rw[Yn]at o;exact⟨f,sJ h l b o,p⟩
 ·cases c
theorem LM(l:mW C){t:TypeId}(c:dg ρ a d)(b:u1 C t a r st=some (.val v eB)):
  ∃h,(Instr.field t d r).run C.P w=.ok h w/\dg ρ v h/\eB=st:=by
 unfold u1 at b;split at b
 ·rename_i ti O p;cases c with
  |agg c=>
   split at b
   ·rename_i m n;split at b
    ·rename_i G f;split at b
     ·rename_i Q o;obtain⟨rfl,rfl⟩:=dt b;rw[cz,Yn]at f;obtain⟨s,P,N⟩:=FV (w:=w) l c o;refine⟨s,?_,N,Z⟩;simp only[Instr.field,Sem.run_bind,eu l p,n,Result.andThen_ok,f,asAgg,Sem.run_pure,P]
     ·cases b
    ·cases b
   ·cases b
 ·cases b
theorem BM(m:mW C){t:TypeId}(R:dg ρ a d)(Q:dg ρ D E)(c:gT C t a D st=some (.val v eB)):
  ∃P,(Instr.indexAt t d E).run C.P w=.ok P w/\dg ρ v P/\eB=st:=by
 unfold gT at c;split at c
 ·rename_i ti e U l W V s o;split at c
  ·rename_i G n;split at c
   ·rename_i N h;split at c
    ·rename_i f;obtain⟨rfl,rfl⟩:=dt c;have p:=Yw.mp f;cases Q;cases R with
     |jd i Y=>omega
     |@slice _ _ _ _ T S O g X=>
      refine⟨.pointer (some ⟨S.b,S.d+(U+s*N.size),none⟩),?_,.ptr O,Z⟩;have b:(0:Int)<=Ys s/\Ys s<(l:Int):=by simp;omega
      simp only[Instr.indexAt,asIntOf,Sem.run_bind,Sem.run_pure,eu m o,n,Result.andThen_ok,if_pos b,fQ m h,kE,Yx];simp
    ·cases c
   ·cases c
  ·cases c
 ·rename_i ti e U V s o;split at c
  ·rename_i l G n;split at c
   ·rename_i N h;split at c
    ·rename_i f;obtain⟨rfl,rfl⟩:=dt c;have p:=Yw.mp f;cases Q;obtain⟨S,O,rfl⟩:=px R;refine⟨.pointer (some ⟨S.b,S.d+(U+s*N.size),none⟩),?_,.ptr O,Z⟩;have b:(0:Int)<=Ys s/\Ys s<(l:Int):=by simp;omega
     simp only[Instr.indexAt,asIntOf,Sem.run_bind,Sem.run_pure,eu m o,n,Result.andThen_ok,Instr.sureAddr,if_pos b,fQ m h,kE,Yx];simp
    ·cases c
   ·cases c
  ·cases c
 ·cases c
theorem LN(f:mW C){t:TypeId}(h:dg ρ a d)(O:dg ρ D E)(b:sw C t a D st=some (.val v eB)):
  ∃o,(Instr.index t d E).run C.P w=.ok o w/\dg ρ v o/\eB=st:=by
 unfold sw at b;split at b
 ·rename_i ti s T G m;split at b
  ·rename_i l;split at b
   ·rename_i X p;obtain⟨rfl,rfl⟩:=dt b;cases O;cases h;rw[cz,Yn]at p;have P:s[G]?=some X:=p;refine⟨.int .u8 X.toNat,?_,.int _ _,Z⟩;have R:(0:Int)<=Ys G:=by simp
    simp only[Instr.index,asIntOf,Sem.run_bind,Sem.run_pure,eu f m,l,Result.andThen_ok,if_pos R];simp[P]
   ·cases b
  ·cases b
 ·rename_i ti e T G m;split at b
  ·rename_i Q U l;split at b
   ·rename_i g N;split at b
    ·rename_i n;split at b
     ·rename_i j W;obtain⟨rfl,rfl⟩:=dt b;cases O;cases h with
      |agg h=>
       have S:=Yw.mp n;obtain⟨V,i,Y⟩:=FV (w:=w) f h W;refine⟨V,?_,Y,Z⟩;have c:(0:Int)<=Ys G/\Ys G<(Q:Int):=by simp;omega
       simp only[Instr.index,asIntOf,Sem.run_bind,Sem.run_pure,eu f m,l,Result.andThen_ok,if_pos c,fQ f N];simpa using i
     ·cases b
    ·cases b
   ·cases b
  ·cases b
 ·cases b
theorem FW(b:dg ρ a d)(c:oB a r st=some (.val v eB)):
  ∃f,(Instr.extract d r).run C.P w=.ok f w/\dg ρ v f/\eB=st:=by
 unfold oB at c;split at c
 ·cases b with
  |tuple b=>
   split at c
   ·rename_i o h;obtain⟨rfl,rfl⟩:=dt c;rw[cz]at h;obtain⟨l,m,n⟩:=b.get h;rw[Yn]at m;exact⟨l,by simp[Instr.extract,m],n,rfl⟩
   ·cases c
 ·cases c
theorem DF{ti:TI}(b:ti.zero.all flat=true)(c:FJ ti.agg ti.zero=some a)(ρ:Ren):dg ρ a a:=by
 unfold FJ at c;split at c
 ·cases c;exact .agg (jA b ρ)
 ·split at c
  ·rename_i f;cases c;rw[f]at b;exact sH (by simpa using b) ρ
  ·cases c
theorem zS(n:mW C){xt t:TypeId}(R:dg ρ a d)(h:iY C a t k st=some (.val v eB)):
  ∃G,(Instr.typeAssert d xt t k).run C.P w=.ok G w/\dg ρ v G/\eB=st:=by
 unfold iY at h;split at h
 ·cases h
 ·rename_i ti m;obtain⟨T,P,O⟩:=lI n m w;have l:=O.mk;split at h
  ·cases h
  ·rename_i c;have o:=eu n m w;split at h
   ·rename_i V U;cases R with
    |@iface _ _ N Q=>
    split at h
    ·rename_i p;have:=Ym p;subst this;obtain⟨rfl,rfl⟩:=dt h;cases k with
     |true=>
      refine⟨.tuple #[N,.bool true],?_,.tuple (.cons Q (.cons (.bool _) .nil)),Z⟩;unfold Instr.typeAssert;rw[Sem.run_bind,o,Result.andThen_ok];split<;>first|(rename_i b;exact absurd b (c _))|(rename_i b _;exact absurd b (c _))|skip
      all_goals first|rfl|(rename_i b;cases b)|simp_all
     |false=>
      refine⟨N,?_,Q,Z⟩;unfold Instr.typeAssert;rw[Sem.run_bind,o,Result.andThen_ok];split<;>first|(rename_i b;exact absurd b (c _))|(rename_i b _;exact absurd b (c _))|skip
      all_goals first|rfl|(rename_i b;cases b)|simp_all
    ·rename_i p;have s:=YA p;split at h
     ·rename_i S f;rw[l]at f;cases f;obtain⟨rfl,rfl⟩:=dt h;refine⟨.tuple #[T,.bool false],?_,.tuple (.cons (DF (n.vR _ _ m) l ρ) (.cons (.bool _) .nil)),Z⟩;unfold Instr.typeAssert;rw[Sem.run_bind,o,Result.andThen_ok];split<;>first|(rename_i b;exact absurd b (c _))|(rename_i b _;exact absurd b (c _))|skip
      all_goals first|(rename_i b;cases b;rw[if_neg s];simp[P])|(rename_i b;cases b)|simp_all
     ·cases h
   ·cases R;split at h
    ·rename_i S f;rw[l]at f;cases f;obtain⟨rfl,rfl⟩:=dt h;refine⟨.tuple #[T,.bool false],?_,.tuple (.cons (DF (n.vR _ _ m) l ρ) (.cons (.bool _) .nil)),Z⟩;unfold Instr.typeAssert;rw[Sem.run_bind,o,Result.andThen_ok];split<;>first|(rename_i b;exact absurd b (c _))|(rename_i b _;exact absurd b (c _))|skip
     all_goals first|(simp[P];done)|(rename_i b;cases b)|simp_all
    ·cases h
   ·cases h
end
variable{H z:Option Addr}
section
variable{C:eD} {w0:World} {N0:Nat} {G:Nat->Prop} {ρ:Ren} {st eB:St} {w:World} {v:Value}
theorem dD.drewN(b:dD w0 N0 G ρ st w)(c:Nat):dD w0 N0 G ρ st {w with drawn:=c}:=b.NM ⟨rfl,rfl,rfl,Yq _,fun _ _=>rfl⟩
theorem DG(V:dD w0 N0 G ρ st w)(h:dg ρ a d){es n:Nat}{xs:List Value}(c:p6 a=some n)(b:ic st es n a=some xs)(v:Program):
  ∃f,(Builtin.lenOf d).run v w=.ok n w/\(Builtin.firstCells es n d).run v w=.ok f w/\db ρ xs f.toList:=by
 unfold p6 at c;split at c
 ·rename_i C P N;cases c;cases h with
  |lG=>simp[ic]at b;subst b;exact⟨#[],rfl,rfl,.nil⟩
  |jd C T=>
   refine⟨#[],Z,?_,?_⟩
   ·simp[Builtin.firstCells,loadCells,loadCellsFrom]
   ·obtain⟨O,X,l⟩:=C;cases l with
    |some e=>simp[ic]at b
    |none=>
     simp only[ic,Nat.zero_mul]at b;have:=fP b;cases xs with
     |nil=>exact .nil
     |cons Y U=>simp at this
  |slice p o S=>
   simp only[ic]at b;obtain⟨m,W,R⟩:=V.read p b v;exact⟨m,Z,W,R⟩
 ·rename_i s;cases c;cases h;simp only[ic,Option.some.injEq]at b;subst b;refine⟨(s.extract 0 s.data.toList.length).data.map fun O=>.int .u8 O.toNat,?_,Z,?_⟩
  ·show Result.ok s.size w=_;rw[size_data]
  ·have:(s.extract 0 s.data.toList.length)=s:=by
    rw[<-size_data];exact ByteArray.extract_zero_size
   rw[this];simp only[ofBytes,List.take_length,Array.toList_map];generalize s.data.toList=Q;induction Q with
   |nil=>exact .nil
   |cons a Q t=>exact .cons (.int _ _) t
 ·cases c
theorem u3(f:dD w0 N0 G ρ st w){es en fo b o len n:Nat}{c:List Value}(h:st.get b=some (.cells c es en fo)):dD w0 N0 G ρ (iJ st es en fo b o len n c) w:=
 f.weaken oG (fun _ _ l=>jS l) (CN f.wf (f.wf.lt _ _ h))
theorem p8{es b o len h n:Nat}{xs:List Value}(p:¬len+n<=h)(c:gv st es (some ⟨b,o,none⟩) len h n xs=some (.val v eB)):
  ∃w l m f,st.get b=some (.cells w es l m)/\gN st b o (len*es)=some f/\v=.slice (some ⟨st.n,0,none⟩) (len+n) (len+n)/\eB=grown st es l m b o len n w f xs:=by
 unfold gv at c;have s:YG (len+n) h=false:=by
  cases C:YG (len+n) h with
  |false=>rfl
  |true=>exact absurd (Yl C) p
 simp only[s]at c;split at c
 ·rename_i w O l m N;split at c
  ·rename_i f t G;have:=Ym t;subst this;obtain⟨rfl,rfl⟩:=dt c;exact⟨w,l,m,f,N,G,Z,Z⟩
  ·cases c
 ·cases c
theorem xy(T:dD w0 N0 G ρ st w){es len a N n:Nat}{xs:List Value}(aC:Program)(P:dg ρ (.slice z len a) (.slice H len N)) 
  (Q:db ρ xs e.toList) (au:xs.length=n*es) (ah:xs.all gn=true) (O:gv st es z len a n xs=some (.val v eB)) (g:len+n<=N) (ba:0<es):
  ∃av w',((match H with|some aA=>storeCells (aA.add (len*es)) e.toList|none=>pure ()):Sem Unit).run aC w=.ok () w'/\Kept w0 N0 G ρ eB v (.slice H (len+n) N) w' av:=by
 by_cases J:len+n<=a
 ·have aj:YG (len+n) a=true:=Nat.ble_eq_true_of_le J;unfold gv at O;simp only[aj]at O;cases P with
  |lG=>
   obtain⟨rfl,rfl⟩:=dt O;have:n=0:=om;subst this;exact⟨ρ,w,Z,Ren.le_refl _,T,.lG⟩
  |jd aA aJ=>
   have r:n=0:=om;subst r;have ay:xs=[]:=by cases xs with|nil=>rfl|cons _ _=>simp at au
   subst ay;have X:e.toList=[]:=by cases al:e.toList with|nil=>rfl|cons _ _=>rw[al]at Q;cases Q
   obtain⟨I,o,aH⟩:=aA;cases aH with
   |some bk=>cases O
   |none=>obtain⟨rfl,rfl⟩:=dt O;exact⟨ρ,w,by rw[X];rfl,Ren.le_refl _,T,.jd _ _⟩
  |@slice I o _ _ _ l s ae x=>
   cases xs with
   |nil=>
    obtain⟨rfl,rfl⟩:=dt O;have X:e.toList=[]:=by cases al:e.toList with|nil=>rfl|cons _ _=>rw[al]at Q;cases Q
    exact⟨ρ,w,by rw[X];rfl,Ren.le_refl _,T,.slice s ae x⟩
   |cons bj bh=>
    simp only at O;split at O
    ·rename_i aW aL;obtain⟨rfl,rfl⟩:=dt O;obtain⟨w',E,an,_⟩:=T.write s aL Q aC;refine⟨ρ,w',?_,Ren.le_refl _,an,.slice s ae x⟩;simp only[kE,Yx];exact E
    ·cases O
 ·cases P with
  |lG=>omega
  |jd aA aJ=>omega
  |@slice I o _ _ _ l s ae x=>
   obtain⟨ar,S,u,aT,h,E,rfl,rfl⟩:=p8 J O;have ag:=u3 (es:=es) (o:=o) (len:=len) (n:=n) T h;obtain⟨aO,U,ad,ak,Y,ax⟩:=T.obj _ _ _ s h;have ao:=ax.es;have bc:=ax.size;have aa:=Q.length;simp only[Yt]at aa;have aM:(len+n)*es<=N*es:=Yu _ g;have aD:(len+n)*es=len*es+n*es:=Yy _ _ _;rw[ao]at x;obtain⟨w',aw,P⟩:=sD (P:=aC) e.toList w l.b (l.d+o+len*es) 0 aO U ad ak Y (by simp;omega) (fun be bg aI=>ax.Ix be (by simp at aI;omega)) (Q.KA ah);obtain⟨i,aq,aK,az⟩:=P.here;have af:=T.vH _ _ s;have aR:=T.CM;have aB:=P.size;have aQ:=fP E;obtain⟨bf,aV,f0,bi,F,aP,rfl⟩:=nY E;rw[h]at F;cases F;refine⟨ρ.add st.n ⟨l.b,l.d+o,es,l.sz⟩,w',?_,?_,?_,?_⟩
   ·simp only[kE];exact aw
   ·exact e1 T.ie
   ·have r:(iJ st es S u I o len n ar).n=st.n:=oG;have j:=ag.extend (eB:=grown st es S u I o len n ar ((ar.drop o).take (len*es)) xs) (w':=w') (o:=.cells ((ar.drop o).take (len*es)++xs) es S (u+o)) (l:=⟨l.b,l.d+o,es,l.sz⟩)
     (by rw[r];rfl) (by intro D;rw[r];exact kh D) (vQ T.wf h) ⟨P.os,P.tape,P.output,om,fun D Q=>P.other D om⟩ (by simpa using af.2.1) (by simp;omega) ?_ ?_ ?_
    ·rw[r]at j;exact j
    ·intro D A ab c t;by_cases p:A.b=l.b
     ·cases ab with
      |dead=>trivial
      |cells M aN ac L=>
       have b:=(jS t).resolve_left (by intro Y;cases Y);have y:ac=S/\l.d+L=A.d+u:=by
        by_cases f:D=I
        ·subst f;rw[h]at b;cases b;rw[s]at c;cases c;exact⟨Z,Z⟩
        ·have:=T.sep _ _ _ _ _ _ s c p.symm h b (fun Y=>f Y.symm);exact⟨this.1.symm,this.2⟩
       obtain⟨rfl,aG⟩:=y;have aX:=Dz T.wf h t;obtain⟨bb,aE,aY,aS,K,k⟩:=T.obj _ _ _ c b;rw[p,Y]at K;cases K;rw[p];refine⟨i,U,ad,ak,aq,k.es,by rw[aK];exact k.size,k.fits,fun ai v m=>?_,k.Ix⟩;have aF:ai<M.length:=by
        rcases YB ai M.length with V|V
        ·exact V
        ·rw[Yr V]at m;cases m
       obtain⟨W,C,R⟩:=k.cell _ _ m;refine⟨W,?_,R⟩;rw[az,if_neg (by simp;omega)];exact C
      |_=>
       have b:=(jS t).resolve_left (by intro Y;cases Y);have f:I≠D:=by intro am;subst am;rw[h]at b;cases b
       exact(T.sep _ _ _ _ _ _ s c p.symm h b f).elim
     ·rw[P.other _ p];exact ag.obj _ _ _ c t
    ·have q:=e1 (l:=⟨l.b,l.d+o,es,l.sz⟩) ag.ie;refine⟨i,U,ad,ak,aq,Z,by simp;omega,?_,fun ai v m=>?_,ax.Ix⟩
     ·simp;omega
     ·have B:((ar.drop o).take (len*es)).length=len*es:=by simp;omega
      show ∃W,i[l.d+o+ai]?=some W/\_;rw[az];by_cases ap:ai<len*es
      ·rw[Yz om,List.getElem?_take,if_pos ap,List.getElem?_drop]at m;obtain⟨W,C,R⟩:=ax.cell _ _ m;refine⟨W,?_,R.mono q⟩;rw[if_neg om,<-C];congr 1;omega
      ·rw[YH om,B]at m;obtain⟨W,C,R⟩:=Q.get m;have aU:ai-len*es<e.toList.length:=by
        rcases YB (ai-len*es) e.toList.length with V|V
        ·exact V
        ·rw[Yr V]at C;cases C
       refine⟨W,?_,R.mono q⟩;rw[if_pos om,<-C];congr 1;omega
    ·intro D A ab c t p;cases ab with
     |dead=>trivial
     |cells M aN ac L=>
      have b:=(jS t).resolve_left (by intro Y;cases Y);show ac=S/\A.d+(u+o)=l.d+o+L;by_cases f:D=I
      ·subst f;rw[h]at b;cases b;rw[s]at c;cases c;exact⟨Z,om⟩
      ·have:=T.sep _ _ _ _ _ _ s c p.symm h b (fun Y=>f Y.symm);exact⟨this.1.symm,by have:=this.2;omega⟩
     |_=>
      have b:=(jS t).resolve_left (by intro Y;cases Y);have f:I≠D:=by intro am;subst am;rw[h]at b;cases b
      exact(T.sep _ _ _ _ _ _ s c p.symm h b f).elim
   ·have d:dg (ρ.add st.n ⟨l.b,l.d+o,es,l.sz⟩) (.slice (some ⟨st.n,0,none⟩) (len+n) (len+n)) (.slice (some ⟨l.b,l.d+o+0,none⟩) (len+n) N):=
     .slice (l:=⟨l.b,l.d+o,es,l.sz⟩) (dr _ _ _) g (by simp;omega)
    exact d
theorem KF{c b:Nat}(h:¬c<=b):YG c b=false:=by
 cases f:YG c b with
 |false=>rfl
 |true=>exact absurd (Yl f) h
theorem DH(k:dD w0 N0 G ρ st w){es len Y O n:Nat}{xs:List Value}(aw:Program)(ae:dg ρ (.slice z len Y) (.slice H len O)) 
  (af:db ρ xs e.toList) (ar:xs.length=n*es) (N:gv st es z len Y n xs=some (.val v eB)) (al:O<len+n) (p:TypeId):
  ∃f,(Builtin.firstCells es len (.slice H len O)).run aw w=.ok f w/\∀(c:Array Value) (b:Nat),len+n<=b->c.size=(b-(len+n))*es->
   ∃U,Kept w0 N0 G ρ eB v (.slice (some ⟨w.heap.size,0,none⟩) (len+n) b) {w with heap:=w.heap.push (.cells (f++e++c) p)} U:=by
 have y:=af.length;simp only[Yt]at y;have R:∀(S:St) (ak am:Nat) (h:List Value) (f c:Array Value) (b:Nat) (t:St),dD w0 N0 G ρ S w->S.n=st.n->t.n=st.n+1->(∀g,t.get g=if g=st.n then some (.cells (h++xs) es ak am)else S.get g)->WF t->
   db ρ h f.toList->h.length=len*es->len+n<=b->c.size=(b-(len+n))*es->
   ∃U,Kept w0 N0 G ρ t (.slice (some ⟨st.n,0,none⟩) (len+n) (len+n)) (.slice (some ⟨w.heap.size,0,none⟩) (len+n) b) {w with heap:=w.heap.push (.cells (f++e++c) p)} U:=by
  intro S ak am h f c b t P q av aa x X r ad au;have D:=X.length;simp only[Yt]at D;have an:b*es=(len+n)*es+(b-(len+n))*es:=by rw[<-Yy];congr 1;omega
  have ah:(len+n)*es=len*es+n*es:=Yy _ _ _;have ab:(f++e++c).size=b*es:=by simp;omega
  have B:=k.CM;have T:∀F,F<w.heap.size->(w.heap.push (.cells (f++e++c) p))[F]?=w.heap[F]?:=fun F P=>by rw[YM,if_neg om]
  have d:=P.extend (eB:=t) (w':={w with heap:=w.heap.push (.cells (f++e++c) p)}) (o:=.cells (h++xs) es ak am) (l:=⟨w.heap.size,0,es,b*es⟩)
   om (by intro g;rw[q];exact aa g) x ⟨rfl,rfl,rfl,by simp,fun F P=>T F om⟩ B sm
   (fun g u ao s C=>by rw[show({w with heap:=w.heap.push (.cells (f++e++c) p)}:World).heap[u.b]?=w.heap[u.b]? from T _ (P.vH _ _ s).2.2];exact P.obj _ _ _ s C)
   ?_ (fun g u ao s C aq=>by have:=(P.vH _ _ s).2.2;simp at aq;omega)
  ·rw[q]at d;refine⟨_,e1 k.ie,d,?_⟩;exact .slice (l:=⟨w.heap.size,0,es,b*es⟩) (dr _ _ _) ad sm
  ·have A:=e1 (l:=⟨w.heap.size,0,es,b*es⟩) P.ie;refine⟨f++e++c,p,0,0,by simp,rfl,ab,?_,fun ai v M=>?_,fun ai _ i=>om⟩
   ·simp;omega
   ·obtain⟨K,V,L⟩:=(X.append af).get M;refine⟨K,?_,L.mono A⟩;show(f++e++c)[0+ai]?=some K;rw[Nat.zero_add];have J:ai<(f.toList++e.toList).length:=by
     rcases YB ai (f.toList++e.toList).length with i|i
     ·exact i
     ·rw[Yr i]at V;cases V
    rw[<-Yn];simp only[Array.toList_append];rw[Yz J];exact V
 have m:¬len+n<=Y:=by cases ae<;>omega
 cases ae with
 |lG=>
  unfold gv at N;have Q:YG (0+n) 0=false:=KF m;simp only[Q]at N;obtain⟨rfl,rfl⟩:=dt N;refine⟨#[],Z,fun c b s C=>?_⟩;have:=R st st.n 0 [] #[] c b (st.new (.cells xs es st.n 0)) k rfl rfl (fun g=>by simpa using dH st _ g) (k.wf.new rfl) .nil sm s C;simpa using this
 |jd ax az=>
  obtain⟨aA,o,aj⟩:=ax;cases aj with
  |some aD=>
   unfold gv at N;have Q:YG (0+n) 0=false:=KF m;simp only[Q]at N;cases N
  |none=>
   obtain⟨aB,a,E,h,W,j,rfl,rfl⟩:=p8 m N;have r:=fP j;have I:h=[]:=by cases h with|nil=>rfl|cons _ _=>simp at r
   subst I;refine⟨#[],by simp[Builtin.firstCells,loadCells,loadCellsFrom],fun c b s C=>?_⟩;exact R _ a (E+o) [] #[] c b _ (u3 k W) oG Z kh (vQ k.wf W) .nil sm s C
 |@slice aA o _ _ _ l ap aC ay=>
  obtain⟨aB,a,E,h,W,j,rfl,rfl⟩:=p8 m N;obtain⟨f,ac,ag⟩:=k.read ap j aw;refine⟨f,ac,fun c b s C=>?_⟩;exact R _ a (E+o) h f c b _ (u3 k W) oG Z kh (vQ k.wf W) ag (fP j) s C
theorem LO(b:Nat):∀(c f:Nat),f<2*b+192->Builtin.growBy b c f<2*b+193:=by
 intro c;induction c with
 |zero=>intro f l;simp[Builtin.growBy];omega
 |succ c h=>
  intro f l;simp only[Builtin.growBy];split
  ·omega
  ·exact h _ om
theorem IL{b c:Nat}(f:c<b):Builtin.nextslicecap b c<=2*b+192:=by
 unfold Builtin.nextslicecap;split
 ·omega
 ·split
  ·omega
  ·have:=LO b 4 c om;omega
theorem IM(p:mW C)(au:dD w0 N0 G ρ st w){ty:TypeId}(l:db ρ B e.toList)(h:nW C j.toList B st=some (.val v eB)):
  p7 w0 N0 G ρ eB v ((Builtin.append_ j ty e).run C.P w):=by
 obtain⟨j⟩:=j;obtain⟨e⟩:=e;unfold nW at h;split at h
 ·rename_i A H s aX x;simp only at x l;subst x;cases l with
  |@cons _ aJ _ _ F l=>
  cases l with
  |@cons _ L _ _ z l=>
  cases l;split at h
  ·rename_i ti aO aH b aQ u g;split at h
   ·rename_i m ap;split at h
    ·rename_i N t;split at h
     ·cases h
     ·rename_i o;split at h
      ·cases h
      ·rename_i O aa;split at h
       ·cases h
       ·rename_i aT W;split at h
        ·rename_i S;simp only[Yp]at S;obtain⟨⟨⟨⟨⟨aC,ax⟩,aD⟩,aI⟩,aM⟩,aF⟩:=S;have an:=Yw.mp aC;have i:=Ym ax;have q:=Yl aI;have d:=Yl aM;have ae:=Ym aF;unfold eE at q d;have ag:∃f c,aJ=.slice f b c:=by cases F<;>exact⟨_,_,rfl⟩
         obtain⟨f,c,rfl⟩:=ag;have am:(⟨[A,H]⟩:Array TypeId)[0]?=some A:=rfl;have al:(⟨[A,H]⟩:Array TypeId)[1]?=some H:=rfl;have ac:(⟨[.slice f b c,L]⟩:Array Value)[0]?=some (.slice f b c):=rfl;have aj:(⟨[.slice f b c,L]⟩:Array Value)[1]?=some L:=rfl;by_cases Q:b+O<=c
         ·obtain⟨ar,I,E,M⟩:=DG au z aa W C.P;obtain⟨V,aK,T,R⟩:=xy au C.P F M i aD h Q an;refine⟨V,.slice f (b+O) c,aK,?_,R⟩;simp only[Builtin.append_,am,al,ac,aj];rw[b9 _ (eu p u w)];simp only[ap];rw[b9 _ (fQ p t w),b9 _ (eu p g w)];split
          ·rename_i ab az;exact absurd az (o ab)
          ·rw[b9 _ (Sem.run_pure (P:=C.P) (w:=w) false)];simp only[Yo,if_false];rw[b9 _ I];simp only[if_pos Q,YJ,if_true];rw[b9 _ E];cases f with
           |none=>simp only[Sem.run_pure]at T⊢;cases T;rfl
           |some aW=>simp only at T⊢;rw[b9 _ T,Sem.run_pure]
         ·have k:c<b+O:=om;have aL:(Question.appendCap (b+O) c m).forced=false:=rfl;obtain⟨aE,U,ad⟩:=CO p t w;have J:(typeInfo m).run C.P {w with drawn:=w.drawn+1}=.ok aE {w with drawn:=w.drawn+1}:=by
           obtain⟨aG,aV,X,_⟩:=p.Qq _ _ t;have ai:(typeInfo m).run C.P w=.ok aG w:=by simp[typeInfo,X]
           rw[U]at ai;cases ai;simp[typeInfo,X]
          have aq:=au.drewN (w.drawn+1);obtain⟨ar,aR,E,M⟩:=DG aq z aa W C.P;obtain⟨av,I,_,_⟩:=DG au z aa W C.P;obtain⟨aN,ay,aB⟩:=DH aq C.P F M i h k m;obtain⟨aP,aw,af⟩:=lI p t {w with drawn:=w.drawn+1};have ah:aP.cells.size=N.size:=by rw[<-ae,<-af.cells];simp
          generalize r:(Question.appendCap (b+O) c m).cut (w.tape w.drawn (Question.appendCap (b+O) c m))=n;have a:b+O<=n:=by rw[<-r];exact Nat.le_add_right _ _
          obtain⟨V,R⟩:=aB (Builtin.zeroCells aP.cells (n-(b+O))) n a (by simp[Builtin.zeroCells,ah]);refine⟨V,_,_,?_,R⟩;have y:¬(((b+O:Nat):Int)>IntKind.i64.max/\(false=true∨aE.bytes=0)):=by
           rintro⟨X,_⟩;simp[IntKind.max,IntKind.signed,IntKind.bits]at X;omega
          have ak:¬(Builtin.nextslicecap (b+O) c*aE.bytes>2^48):=by
           have aA:=IL k;rw[ad];have D:1<=b+O:=om;have aS:N.bytes<=1099511627776:=Nat.le_trans (by have:=Yu N.bytes D;omega) q;have X:Builtin.nextslicecap (b+O) c*N.bytes<=(2*(b+O)+192)*N.bytes:=Yu _ aA;have aU:(2*(b+O)+192)*N.bytes=2*((b+O)*N.bytes)+192*N.bytes:=by rw[Yy,Nat.mul_assoc]
           omega
          have Y:∀(ab:Nat) (K:World),(askRoom ab).run C.P K=.ok () K:=by
           intro ab K;unfold askRoom;split
           ·rfl
           ·rfl
          have ao:(choose (Question.appendCap (b+O) c m)).run C.P w=.ok n {w with drawn:=w.drawn+1}:=by
           simp only[choose,Sem.run,aL,Yo,if_false,r]
          simp only[Builtin.append_,am,al,ac,aj];rw[b9 _ (eu p u w)];simp only[ap];rw[b9 _ (fQ p t w),b9 _ (eu p g w)];split
          ·rename_i ab az;exact absurd az (o ab)
          ·rw[b9 _ (Sem.run_pure (P:=C.P) (w:=w) false)];simp only[Yo,if_false];rw[b9 _ I];simp only[if_neg Q,YJ,if_true];rw[b9 _ U];simp only[Yo]at y;simp only[if_neg y];rw[b9 _ U];simp only[if_neg ak];rw[b9 _ ao,b9 _ J,b9 _ (Y _ _),b9 _ ay,b9 _ E,b9 _ aw,b9 _ (gU _ _),Sem.run_pure]
        ·cases h
    ·cases h
   ·cases h
  ·cases h
 ·cases h
end
section
variable{C:eD} {w0:World} {N0:Nat} {G:Nat->Prop} {ρ:Ren} {st eB:St} {w:World} {v:Value}
theorem yi(l:List UInt8)(ρ:Ren):db ρ (ofBytes l) (ofBytes l):=by
 induction l with
 |nil=>exact .nil
 |cons c l b=>exact .cons (.int _ _) b
theorem FX{P:Program}{w:World}:∀{m c:List Value} {n:List UInt8} (_:db ρ m c) (_:q0 m=some n) (s:ByteArray),
  Sem.run P (forIn (m:=Sem) c s (fun(v:Value) (G:ByteArray)=>match v with|Value.int .u8 C=>(pure (ForInStep.yield (G.push (UInt8.ofNat C.toNat))):Sem (ForInStep ByteArray))|_=>do(stuck "bytesToString: byte expected" :Sem PUnit);pure (ForInStep.yield G))) w=Result.ok ⟨⟨s.data.toList++n⟩⟩ w:=by
 intro m;induction m with
 |nil=>intro c n b h s;cases b;simp[q0]at h;subst h;simp
 |cons v m o=>
  intro c n b h s;cases b with
  |@cons _ O _ t p b=>
   simp only[q0]at h;split at h
   ·rename_i Q N f l;cases h;unfold toByte at f;split at f
    ·rename_i C;cases f;cases p;simp only[List.forIn_cons,Sem.run_bind,Sem.run_pure,Result.andThen_ok];rw[o b l];simp
    ·cases f
   ·cases h
theorem FY(g:mW C)(x:dD w0 N0 G ρ st w){s ac:TypeId}(U:dg ρ a d)(c:ib C s ac a st=some (.val v eB)):p7 w0 N0 G ρ eB v ((convert s ac d).run C.P w):=by
 unfold ib at c;split at c
 ·rename_i ak aj aa I;have o:=eu g aa w;have p:=eu g I w;split at c
  ·rename_i ai ap af aq N t;obtain⟨rfl,rfl⟩:=dt c;cases U;refine⟨ρ,_,w,?_,Ren.le_refl _,x,.int _ _⟩;unfold convert;rw[b9 _ o,b9 _ p,N,t];rfl
  ·rename_i h N t;obtain⟨rfl,rfl⟩:=dt c;cases U;refine⟨ρ,_,w,?_,Ren.le_refl _,x,.string _⟩;unfold convert;rw[b9 _ o,b9 _ p,N,t];rfl
  ·rename_i X h N t;split at c
   ·rename_i L S;split at c
    ·rename_i u;obtain⟨rfl,rfl⟩:=dt c;cases U;have n:=eu g S w;rw[u]at n;generalize q:(Question.appendCap h.size 0 X).cut (w.tape w.drawn (Question.appendCap h.size 0 X))=b;have e:h.size<=b:=by rw[<-q];exact Nat.le_add_right _ _
     have H:(choose (Question.appendCap h.size 0 X)).run C.P w=.ok b {w with drawn:=w.drawn+1}:=by
      simp only[choose,Sem.run,Question.forced,Yo,if_false,q]
     have K:=x.drewN (w.drawn+1);generalize m:(h.data.map fun ad=>(.int .u8 ad.toNat:Value))++Array.replicate (b-h.size) (.int .u8 0:Value)=f;have A:f.size=b:=by
      rw[<-m];simp;omega
     have E:h.data.toList.length=h.size:=(size_data h).symm;refine⟨ρ.add st.n ⟨w.heap.size,0,1,f.size⟩,.slice (some ⟨w.heap.size,0,none⟩) h.size b,{w with drawn:=w.drawn+1,heap:=w.heap.push (.cells f X (b,b+1))},?_,e1 x.ie,?_,?_⟩
     ·unfold convert;rw[b9 _ o,b9 _ p,N,t];simp only;rw[b9 _ n];simp only[Conv.stringToBytes];rw[b9 _ H];simp only[m];rw[b9 _ (gU _ _)];have j:(markStringish ⟨w.heap.size,0,none⟩).run C.P {w with drawn:=w.drawn+1,heap:=w.heap.push (.cells f X)}=.ok () {w with drawn:=w.drawn+1,heap:=w.heap.push (.cells f X (b,b+1))}:=by
       simp only[markStringish,Go.shape,Sem.run_bind,Sem.run,World.shape?,Array.getElem?_push_size,Result.andThen_ok,freeze,World.freeze,A,if_neg Nat.one_ne_zero];congr 1;congr 1;apply Array.ext_getElem?;intro F;simp only[Array.getElem?_modify,YM];by_cases O:F=w.heap.size
       ·subst O;simp
       ·rw[if_neg (fun X=>O X.symm),if_neg O,if_neg O]
      rw[b9 _ j];rfl
     ·refine K.new Z Z ⟨f,X,b,b+1,Z,Z,Z,?_,fun F v V=>?_,fun F O i=>?_⟩
      ·simp[ofBytes];omega
      ·have y:F<h.data.toList.length:=by
        rcases YB F (ofBytes h.data.toList).length with i|i
        ·simpa [ofBytes]using i
        ·rw[Yr i]at V;cases V
       refine⟨v,?_,?_⟩
       ·rw[<-m,Nat.zero_add,Array.getElem?_append_left (by simpa using y)];rw[<-Yn,Array.toList_map];exact V
       ·have:=(yi h.data.toList (ρ.add st.n ⟨w.heap.size,0,1,f.size⟩)).get V;obtain⟨ag,z,J⟩:=this;rw[V]at z;cases z;exact J
      ·simp at O;omega
     ·rw[E];refine .slice (l:=⟨w.heap.size,0,1,f.size⟩) (dr _ _ _) e (by simp;omega)
    ·cases c
   ·cases c
  ·rename_i X am k ab N t;split at c
   ·rename_i L S;split at c
    ·rename_i u;have n:=eu g S w;rw[u]at n;split at c
     ·obtain⟨rfl,rfl⟩:=dt c;cases U;refine⟨ρ,.string .empty,w,?_,Ren.le_refl _,x,?_⟩
      ·unfold convert;rw[b9 _ o,b9 _ p,N,t];simp only;rw[b9 _ n];rfl
      ·exact .string _
     ·rename_i ad an;split at c
      ·rename_i ae B;split at c
       ·rename_i l M;obtain⟨rfl,rfl⟩:=dt c;have Y:∃R Q P,d=.slice (some R) k Q/\(loadCells R k).run C.P w=.ok P w/\db ρ ae P.toList:=by
         cases U with
         |jd _ R=>
          refine⟨R,0, #[],Z,by simp[loadCells,loadCellsFrom],?_⟩;have:=fP B;cases ae with
          |nil=>exact .nil
          |cons _ _=>simp at this
         |slice D al ah=>
          obtain⟨P,W,T⟩:=x.read D B C.P;exact⟨_,_,P,Z,W,T⟩
        obtain⟨R,Q,P,rfl,W,T⟩:=Y;refine⟨ρ,.string ⟨l.toArray⟩,w,?_,Ren.le_refl _,x,.string _⟩;unfold convert;rw[b9 _ o,b9 _ p,N,t];simp only;rw[b9 _ n];simp only[Conv.bytesToString];rw[b9 _ W];have r:=FX (P:=C.P) (w:=w) T M ByteArray.empty;rw[<-Array.forIn_toList];exact b9 (fun s=>(pure (.string s):Sem Value)) r
       ·cases c
      ·cases c
     ·cases c
    ·cases c
   ·cases c
  ·cases c
 ·cases c
theorem BN(n:mW C)(E:dD w0 N0 G ρ st w){t:TypeId}{l c a R:Value}(u:dg ρ l a)(A:dg ρ c R)(b:oz C t l c st=some (.val v eB)):
  p7 w0 N0 G ρ eB v ((Instr.makeSlice t a R).run C.P w):=by
 unfold oz at b;split at b
 ·rename_i ti l c i;split at b
  ·rename_i N e;split at b
   ·rename_i f m;split at b
    ·rename_i h;simp only[Yp]at h;obtain⟨⟨⟨⟨k,r⟩,x⟩,z⟩,y⟩:=h;have F:=Yl k;have j:=Yw.mp r;have D:=Yl x;have B:=Yl z;have V:=Ym y;obtain⟨rfl,rfl⟩:=dt b;cases u;cases A;obtain⟨I,Q,U⟩:=CO n m w;obtain⟨g,q,s⟩:=lI n m w;have Y:g.cells.size=f.size:=by rw[<-V,<-s.cells];simp
     have S:IntKind.i64.wrap (Ys l)=l:=Go.IntWalk.i64_in _ (by simp;omega);have X:IntKind.i64.wrap (Ys c)=c:=Go.IntWalk.i64_in _ (by simp;omega);have W:db ρ (uv f.zero c) ((YC (c*f.size)).map (g.cells[· %g.cells.size]!)).toList:=by
      rw[<-Y,zO,s.cells];exact jA (tC (n.vR _ _ m) c) ρ
     refine⟨_,.slice (some ⟨w.heap.size,0,none⟩) l c,_,?_,e1 E.ie,E.row N W,?_⟩
     ·simp only[Instr.makeSlice];rw[b9 _ (eu n i w)];simp only[e];rw[b9 _ (show(asInt (.int .i64 (Ys l))).run C.P w=.ok (Ys l) w from rfl),b9 _ (show(asInt (.int .i64 (Ys c))).run C.P w=.ok (Ys c) w from rfl),b9 _ Q];simp only[S,X,U];have d:((f.bytes:Int)*(c:Int))<=1099511627776:=by
       have:((c*f.bytes:Nat):Int)<=1099511627776:=om;rw[Int.natCast_mul,Int.mul_comm]at this;exact this
      have O:¬((decide ((c:Int)<0)||decide ((f.bytes:Int)*(c:Int)>2^48))||decide ((l:Int)<0)||decide ((l:Int)>(c:Int)))=true:=by
       simp only[Bool.or_eq_true,decide_eq_true_eq,Int.reducePow];omega
      rw[if_neg O];have o:(askRoom ((c:Int).toNat*f.bytes)).run C.P w=.ok () w:=by
       unfold askRoom;split<;>rfl
      rw[b9 _ o,b9 _ (fQ n m w)];simp only[Int.toNat_natCast];by_cases T:c*f.size=0
      ·have p:∀H:Nat->Value,Array.map H (YC 0)= #[]:=fun _=>YD sm;simp only[T,if_true,p];rw[b9 _ (Sem.run_pure (P:=C.P) (w:=w) _),b9 _ (gU _ _)];simp only[p,Sem.run_pure]
      ·simp only[if_neg T];rw[b9 _ q,b9 _ (Sem.run_pure (P:=C.P) (w:=w) _),b9 _ (gU _ _)];rfl
     ·refine .slice (l:=⟨w.heap.size,0,f.size,_⟩) (dr _ _ _) (Yq _) ?_;simp
    ·cases b
   ·cases b
  ·cases b
 ·cases b
theorem ki{P:Program}{h c:Option Value}{v n:Nat}(t:(h=none/\c=none)∨∃l b,h=some l/\c=some b/\dg ρ l b)(f:kY h v=some n):
  (h=none/\c=none/\n=v)∨∃b,c=some b/\h.isSome=true/\∀(o:Nat) (code:BoundsCode) (w:World),n<=o->(Instr.sliceBound b o code).run P w=.ok n w:=by
 rcases t with⟨rfl,rfl⟩|⟨l,b,rfl,rfl,m⟩
 ·simp[kY]at f;exact .inl ⟨rfl,rfl,f.symm⟩
 ·unfold kY at f;split at f
  ·rename_i p;cases p
  ·rename_i N o p;cases p;cases f;cases m;refine .inr ⟨_,Z,Z,fun G code w C=>?_⟩;have s:(0:Int)<=Ys n/\Ys n<=(G:Int):=by simp;omega
   simp only[Instr.sliceBound,asIntOf];rw[b9 _ (Sem.run_pure (P:=P) (w:=w) _)];simp only[if_pos s];rfl
  ·cases f
theorem u4{P:Program}{lo t mx p n UF:Option Value}{V0:Bool}{len cap l V m:Nat} 
  (s:(lo=none/\p=none)∨∃C b,lo=some C/\p=some b/\dg ρ C b) (v:(t=none/\n=none)∨∃C b,t=some C/\n=some b/\dg ρ C b)
  (Q:(mx=none/\UF=none)∨∃C b,mx=some C/\UF=some b/\dg ρ C b) {NU:Nat} (O:kY lo 0=some l) (R:kY t len=some V) (Y:kY mx NU=some m)
  (N:l<=V) (W:V<=m) (d:m<=NU) (a:NU<=cap) (h:t.isSome=true∨mx.isNone=true):
  (Instr.sliceBounds V0 len cap p n UF).run P w=.ok (l,V,if mx.isSome then m else cap) w:=by
 unfold Instr.sliceBounds;rcases ki (P:=P) Q Y with⟨rfl,rfl,rfl⟩|⟨e,rfl,f,T⟩
 ·rw[b9 _ (Sem.run_pure (P:=P) (w:=w) _)];rcases ki (P:=P) v R with⟨rfl,rfl,rfl⟩|⟨X,rfl,U,o⟩
  ·rw[b9 _ (Sem.run_pure (P:=P) (w:=w) _)];rcases ki (P:=P) s O with⟨rfl,rfl,rfl⟩|⟨S,rfl,G,c⟩
   ·rw[b9 _ (Sem.run_pure (P:=P) (w:=w) _)];rfl
   ·simp only;rw[b9 _ (c _ _ _ N)];rfl
  ·simp only;rw[b9 _ (o _ _ _ om)];rcases ki (P:=P) s O with⟨rfl,rfl,rfl⟩|⟨S,rfl,G,c⟩
   ·rw[b9 _ (Sem.run_pure (P:=P) (w:=w) _)];rfl
   ·simp only;rw[b9 _ (c _ _ _ N)];rfl
 ·simp only;rw[b9 _ (T _ _ _ om)];rcases ki (P:=P) v R with⟨rfl,rfl,rfl⟩|⟨X,rfl,U,o⟩
  ·exfalso;rcases h with h|h
   ·cases h
   ·rw[Option.isNone_iff_eq_none]at h;rw[h]at f;cases f
  ·simp only;rw[b9 _ (o _ _ _ W)];rcases ki (P:=P) s O with⟨rfl,rfl,rfl⟩|⟨S,rfl,G,c⟩
   ·rw[b9 _ (Sem.run_pure (P:=P) (w:=w) _),f];rfl
   ·simp only;rw[b9 _ (c _ _ _ N),f];rfl
end
section
variable{C:eD} {w0:World} {N0:Nat} {G:Nat->Prop} {ρ:Ren} {st eB:St} {w:World} {v:Value}
theorem LP(c:ByteArray)(l b:Nat)(f:l<=b)(h:b<=c.data.toList.length):c.extract l b=Is c l b:=by
 apply ByteArray.ext;rw[ByteArray.data_extract];apply Array.ext';simp only[Is,Array.toList_extract,YI];rw[List.drop_take]
theorem LQ(ak:mW C)(aw:dD w0 N0 G ρ st w){t:TypeId}{lo ao Q g e l:Option Value}(k:dg ρ a d) 
  (z:(lo=none/\g=none)∨∃K p,lo=some K/\g=some p/\dg ρ K p) (D:(ao=none/\e=none)∨∃K p,ao=some K/\e=some p/\dg ρ K p)
  (I:(Q=none/\l=none)∨∃K p,Q=some K/\l=some p/\dg ρ K p) (b:oA C t a lo ao Q st=some (.val v eB)):
  ∃ax,(Instr.sliceAt t d g e l).run C.P w=.ok ax w/\dg ρ v ax/\eB=st:=by
 unfold oA at b;split at b
 ·cases b
 ·rename_i ti aB;have J:=eu ak aB w;split at b
  ·rename_i s Y;split at b
   ·rename_i N E T r;split at b
    ·rename_i c;simp only[Yp]at c;have u:=Yl c.1;have q:=Yl c.2;obtain⟨rfl,rfl⟩:=dt b;cases k;have A:l=none:=by rcases I with⟨_,L⟩|⟨K,p,L,_,_⟩<;>first|exact L|cases L
     subst A;refine⟨.string (s.extract N E),?_,by rw[LP s N E u q];exact .string _,rfl⟩;have S:=u4 (w:=w) (P:=C.P) (V0:=false) (cap:=s.size) z D (.inl ⟨rfl,rfl⟩) (mx:=none) (UF:=none) (NU:=s.size) T r (m:=s.size) rfl u (by rw[size_data];exact q) (Yq _) (Yq _) (.inr rfl);rw[size_data]at S;unfold Instr.sliceAt;rw[b9 _ J,Y];simp only[Instr.slice];rw[b9 _ J,Y];simp only[YN,Yo,if_false];rw[size_data,b9 _ S];rfl
    ·cases b
   ·cases b
  ·rename_i al aS ab j Y;split at b
   ·rename_i m N E aa H T r aK;split at b
    ·cases b
    ·rename_i c;simp only[Yp,Bool.or_eq_true]at c;obtain⟨⟨⟨am,ag⟩,U⟩,aG⟩:=c;have u:=Yl am;have q:=Yl ag;have aD:=Yl U;have ay:∃V f,d=.slice V ab f/\j<=f:=by cases k<;>first|exact⟨_,_,rfl,Yq _⟩|exact⟨_,_,rfl,by assumption⟩
     obtain⟨V,f,rfl,az⟩:=ay;have S:=u4 (w:=w) (P:=C.P) (V0:=true) (cap:=f) z D I T r aK u q aD az aG;have W:∀(h:Nat),(if Q.isSome then aa else f)=h->(Instr.sliceAt t (.slice V ab f) g e l).run C.P w=.ok (.slice (if h=N then V else V.map (·.add (N*m.size))) (E-N) (h-N)) w:=by
      intro h o;rw[o]at S;unfold Instr.sliceAt;rw[b9 _ J,Y];simp only[Instr.slice];rw[b9 _ J,Y];simp only;rw[b9 _ S];simp only;rw[b9 _ (fQ ak H w)];rfl
     have ah:∀h,(if Q.isSome then aa else f)=h->aa<=h/\(Q.isSome=true->h=aa)/\h<=f:=by
      intro h o;split at o
      ·subst o;exact⟨Yq _,fun _=>rfl,om⟩
      ·rename_i aJ;subst o;exact⟨om,fun L=>absurd L aJ,Yq _⟩
     obtain⟨h,o⟩:∃h,(if Q.isSome then aa else f)=h:=⟨_,rfl⟩;obtain⟨aN,aL,ad⟩:=ah h o;split at b
     ·split at b
      ·rename_i i;obtain⟨rfl,rfl⟩:=dt b;cases k;refine⟨_,W h o,?_,Z⟩;have:E-N=0:=om;have au:h-N=0:=om;rw[this,au];have R:h=N:=om;rw[if_pos R];exact .lG
      ·cases b
     ·rename_i aR aC;split at b
      ·rename_i i;have i:=Ym i;subst i;obtain⟨rfl,rfl⟩:=dt b;refine⟨_,W h o,?_,Z⟩;have R:N=0:=om;have n:E=0:=om;subst R n;cases k with
       |jd _ V=>
        have:h=0:=om;subst this;simp only[if_true,YK];exact .jd _ _
       |@slice _ _ _ _ _ an X aE y=>
        simp only[YK,Nat.zero_mul];split
        ·rename_i x;subst x;exact .jd _ _
        ·simp only[YF,kE,Nat.add_zero];exact .slice X (Nat.zero_le _) (Nat.le_trans (Nat.add_le_add_left (Yu _ ad) _) y)
      ·split at b
       ·rename_i av O;split at b
        ·rename_i F;have F:=Ym F;subst F;obtain⟨rfl,rfl⟩:=dt b;refine⟨_,W h o,?_,Z⟩;cases k with
         |jd _ V=>
          have R:N=0:=om;have:h=0:=om;subst this R;have n:E=0:=om;have B:aa=0:=om;subst n B;simp only[if_true];exact .jd _ _
         |@slice _ _ _ _ _ an X aE y=>
          have af:an.es=m.size:=by
           unfold Lx at O;split at O
           ·rename_i aQ av aO aP ai;cases O;obtain⟨aH,M,aq,ar,aI,aA⟩:=aw.obj _ _ _ X ai;exact aA.es
           ·cases O
          split
          ·rename_i x;subst x;have B:aa-h=0:=om;have n:E-h=0:=om;rw[B,n,YL];exact .jd _ _
          ·simp only[YF,kE,Yx];refine .slice X om ?_;rw[af]at y⊢;have T:h*m.size=N*m.size+(h-N)*m.size:=by rw[<-Yy];congr 1;omega
           have r:h*m.size<=f*m.size:=Yu _ ad;omega
        ·cases b
       ·cases b
     ·cases b
   ·cases b
  ·rename_i ae al aR aC Y;split at b
   ·rename_i m N E H T r;split at b
    ·rename_i c;simp only[Yp]at c;obtain⟨⟨am,ag⟩,U⟩:=c;have u:=Yl am;have q:=Yl ag;obtain⟨rfl,rfl⟩:=dt b;obtain⟨an,X,rfl⟩:=px k;have A:l=none:=by rcases I with⟨_,L⟩|⟨K,p,L,_,_⟩<;>first|exact L|cases L
     subst A;have S:=u4 (w:=w) (P:=C.P) (V0:=false) (cap:=ae) z D (.inl ⟨rfl,rfl⟩) (mx:=none) (UF:=none) (NU:=ae) T r (m:=ae) rfl u q (Yq _) (Yq _) (.inr rfl);refine⟨.slice (some (if ae=N then⟨an.b,an.d+aC,none⟩else(⟨an.b,an.d+aC,none⟩:Addr).add (N*m.size))) (E-N) (ae-N),?_,?_,Z⟩
     ·unfold Instr.sliceAt;rw[b9 _ J,Y];simp only[Instr.sureAddr];rw[b9 _ (Sem.run_pure (P:=C.P) (w:=w) _),b9 _ S];simp only[YN,Yo,if_false];rw[b9 _ (fQ ak H w)];rfl
     ·split at U
      ·rename_i aQ av aO aP ai;simp only[Yp]at U;have O:=Ym U.1;have aM:=Yl U.2;obtain⟨aH,M,aq,ar,aI,aA⟩:=aw.obj _ _ _ X ai;have ap:=aA.es;have aF:=aA.fits;split
       ·rename_i x;subst x;have n:E-ae=0:=om;rw[n,YL];exact .jd _ _
       ·rw[kE,Yx];refine .slice X (Yq _) ?_;rw[ap,O];have T:ae*m.size=N*m.size+(ae-N)*m.size:=by rw[<-Yy];congr 1;omega
        omega
      ·cases U
    ·cases b
   ·cases b
  ·cases b
end
variable{L:TI}
section
variable{C:eD} {w0:World} {N0:Nat} {G:Nat->Prop} {ρ:Ren} {st eB:St} {w:World} {v:Value}
theorem q2{m b l n:Value}(f:dg ρ m l)(h:dg ρ b n)(c:jb q m b=some k):Instr.sameNow q l n=some k:=by
 unfold jb at c;split at c
 ·cases f;cases h;cases c;rfl
 ·split at c
  ·rename_i o;have:=q1.1 o;subst this;cases f;cases h;cases c;simp[Instr.sameNow,qt]
  ·cases c
 ·rename_i m b;cases f;cases h;cases c;show some (m==b)=some (oy m b);rw[beq_toListBytes,toList_data,toList_data,oy,py]
 ·cases c
theorem tD(p:dg ρ a d):∀{c b:List MapEntry} {n:Nat} {w:Option (Nat×Value)},ml ρ c b->qo q a c n=some w->
  (w=none/\Instr.findNow q d b n=some none)∨∃v C h,w=some (v,C)/\Instr.findNow q d b n=some (some (v,h))/\dg ρ C h/\n<=v/\v<n+c.length:=by
 intro c;induction c with
 |nil=>
  intro b n w l m;cases b with
  |nil=>simp[qo]at m;subst m;exact .inl ⟨rfl,rfl⟩
  |cons _ _=>exact l.elim
 |cons U c Q=>
  intro b n w l m;cases b with
  |nil=>exact l.elim
  |cons P b=>
   obtain⟨s,N,T,O⟩:=l;simp only[qo]at m;split at m
   ·rename_i f;cases m;refine .inr ⟨n,U.val,P.val,Z,?_,N,Yq _,by simp⟩;simp only[Instr.findNow,q2 p s f]
   ·rename_i f;rcases Q O m with⟨o,t⟩|⟨v,C,h,o,t,G,R,S⟩
    ·exact .inl ⟨o,by simp only[Instr.findNow,q2 p s f];exact t⟩
    ·exact .inr ⟨v,C,h,o,by simp only[Instr.findNow,q2 p s f];exact t,G,om,by simp only[YE];omega⟩
   ·cases m
theorem ml.length:∀{c f:List MapEntry},ml ρ c f->c.length=f.length
 |[],[],_=>rfl
 |_::_,_::_,⟨_,_,_,h⟩=>by simp[ml.length h]
 |[],_::_,b=>b.elim
 |_::_,[],b=>b.elim
theorem sK(f:mW C){t:TypeId}(l:C.tt.get t=some L)(b:qp L.desc=true)(o:Bool)(n:Nat)(m:Value):(Instr.checkKey o (n+1) t m).run C.P w=.ok () w:=by
 have h:=eu f l w;unfold Instr.checkKey;rw[b9 _ h];cases c:L.desc<;>rw[c]at b<;>first|(simp[qp]at b;done)|rfl
theorem u5{w:World}{o:Obj}(c:w.heap[r]?=some o)(l:∀f h b,o≠.cells f h b):(getObj r).run x w=.ok o w:=by
 simp only[getObj,Sem.run,c]
theorem yj(b:mW C){t:TypeId}(c:C.tt.get t=some L){es:List MapEntry}{f:Option (Nat×Value)}(h:Instr.findNow L.desc a es 0=some f):(Instr.findKey t a es).run C.P w=.ok f w:=by
 unfold Instr.findKey;rw[b9 _ (eu b c w),h];rfl
theorem IN(l:mW C)(J:dD w0 N0 G ρ st w){t:TypeId}(y:dg ρ a d)(j:dg ρ D E)(b:pq C t a D k st=some (.val v eB)):
  ∃g,(Instr.lookup t d E k).run C.P w=.ok g w/\dg ρ v g/\eB=st:=by
 unfold pq at b;split at b
 ·cases b
 ·rename_i ti i;split at b
  ·rename_i q H e;split at b
   ·rename_i r ab R S;split at b
    ·cases b
    ·rename_i x;split at b
     ·cases b
     ·rename_i L f;obtain⟨Y,I,u⟩:=lI l S w;have Q:=u.mk;have h:∀(c:Array MapEntry) (m:Option (Nat×Value)),Instr.findNow r.desc E c.toList 0=some m->∀N:Bool,(do
        Instr.checkKey N 10000 q E
        match<-Instr.findKey q E c.toList with
        |some (_,v)=>do
         let a<-pure (v,true)
         pure (if k=true then Value.tuple #[a.1,Value.bool a.2]else a.1)
        |none=>do
         let Y<-zeroValue H
         let a<-pure (Y,false)
         pure (if k=true then Value.tuple #[a.1,Value.bool a.2]else a.1):Sem Value).run C.P w=.ok (match m with|some (_,W)=>(if k=true then .tuple #[W,.bool true]else W)|none=>(if k=true then .tuple #[Y,.bool false]else Y)) w:=by
       intro c m n N;rw[b9 _ (sK l R x _ 9999 _),b9 _ (yj l R n)];cases m with
       |none=>simp only;rw[b9 _ I];rfl
       |some ag=>rfl
      have X:∃c:Array MapEntry,ml ρ L c.toList/\∀m,Instr.findNow r.desc E c.toList 0=some m->
        (Instr.lookup t d E k).run C.P w=.ok (match m with|some (_,W)=>(if k=true then .tuple #[W,.bool true]else W)|none=>(if k=true then .tuple #[Y,.bool false]else Y)) w:=by
       split at f
       ·cases f;cases y;refine⟨#[],tv,fun m n=>?_⟩;unfold Instr.lookup;rw[b9 _ (eu l i w)];simp only[e];rw[b9 _ (Sem.run_pure (P:=C.P) (w:=w) _)];exact h #[] m n _
       ·rename_i ad;split at f
        ·rename_i M z B;cases f;cases y with
         |map K=>
          obtain⟨c,N,O⟩:=J.obj _ _ _ K B;refine⟨c,O,fun m n=>?_⟩;unfold Instr.lookup;rw[b9 _ (eu l i w)];simp only[e];rw[b9 _ (u5 N (by intro _ _ _ ac;cases ac))];simp only;rw[b9 _ (Sem.run_pure (P:=C.P) (w:=w) _)];exact h c m n _
        ·cases f
       ·cases f
      obtain⟨c,p,s⟩:=X;split at b
      ·cases b
      ·rename_i ae af V;obtain⟨rfl,rfl⟩:=dt b;rcases tD j p V with⟨N,_⟩|⟨A,W,F,N,o,O,_⟩
       ·cases N
       ·cases N;refine⟨_,s _ o,?_,Z⟩;cases k
        ·exact O
        ·exact .tuple (.cons O (.cons (.bool _) .nil))
      ·rename_i V;split at b
       ·cases b
       ·rename_i aa T;rw[Q]at T;cases T;obtain⟨rfl,rfl⟩:=dt b;rcases tD j p V with⟨_,o⟩|⟨A,W,F,N,_⟩
        ·refine⟨_,s _ o,?_,Z⟩;have U:=DF (l.vR _ _ S) Q ρ;cases k
         ·exact U
         ·exact .tuple (.cons U (.cons (.bool _) .nil))
        ·cases N
   ·cases b
  ·cases b
theorem dD.NV(o:dD w0 N0 G ρ st w){l:Loc}{es:List MapEntry}{v:List MapEntry}{f:Array MapEntry}(t:ρ r=some l)(g:st.get r=some (.map es K))(z:ml ρ v f.toList):
  dD w0 N0 G ρ (st.put r (.map v M)) {w with heap:=w.heap.setIfInBounds l.b (.map f M)}:=by
 have T:=o.vH _ _ t;have m:∀d,d≠l.b->(w.heap.setIfInBounds l.b (.map f M))[d]?=w.heap[d]?:=fun d i=>Array.getElem?_setIfInBounds_ne (fun p=>i p.symm);have O:(w.heap.setIfInBounds l.b (.map f M))[l.b]?=some (.map f M):=Array.getElem?_setIfInBounds_self_of_lt T.2.2;have n:∀j U Q,ρ j=some U->(st.put r (.map v M)).get j=some Q->U.b=l.b->j=r∨Q=.dead:=by
  intro j U Q A S b;by_cases s:j=r
  ·exact .inl s
  ·rw[de,if_neg s]at S;have:=o.sep _ _ _ _ _ _ t A b.symm g S (fun p=>s p.symm);cases Q<;>first|exact .inr rfl|exact this.elim
 refine⟨⟨fun e D c=>?_,fun e I p F H c=>?_,o.wf.Kz⟩,?_,by simpa using o.CM,o.Io,fun e C c=>by have:=o.vH e C c;exact⟨this.1,this.2.1,by simpa using this.2.2⟩,fun e C D c h=>?_,fun e u B E y x P N a X V R=>?_⟩
 ·rw[de]at c;split at c
  ·rename_i p;subst p;exact o.wf.lt _ _ g
  ·exact o.wf.lt _ _ c
 ·rw[de]at c;split at c
  ·cases c
  ·exact o.wf.en _ _ _ _ _ c
 ·exact o.below.trans ⟨Z,Z,Z,by simp,fun d i=>m d om⟩
 ·show vO ρ C D (w.heap.setIfInBounds l.b (.map f M))[C.b]?;by_cases b:C.b=l.b
  ·rcases n _ _ _ c h b with rfl|rfl
   ·rw[de,if_pos rfl]at h;cases h;rw[b,O];exact⟨f,Z,z⟩
   ·trivial
  ·rw[m _ b];rw[de]at h;split at h
   ·rename_i p;subst p;rw[t]at c;cases c;exact absurd rfl b
   ·exact o.obj _ _ _ c h
 ·by_cases b:B.b=l.b
  ·rcases n _ _ _ P X b with Y|Y
   ·rcases n _ _ _ N V (a▸b)with W|W
    ·exact absurd (Y.trans W.symm) R
    ·subst W;cases y<;>trivial
   ·subst Y;cases x<;>trivial
  ·have q:e≠r:=fun p=>by subst p;rw[t]at P;cases P;exact b rfl
   have k:u≠r:=fun p=>by subst p;rw[t]at N;cases N;exact b a
   rw[de,if_neg q]at X;rw[de,if_neg k]at V;exact o.sep _ _ _ _ _ _ P N a X V R
theorem IP(p:dg ρ a d)(n:dg ρ D E):∀{c:List MapEntry} {b:List MapEntry} {h:Nat},ml ρ c b->h<c.length->
  ml ρ (u2 c h a D) (b.modify h fun w=>{w with key:=d,val:=E}):=by
 intro c;induction c with
 |nil=>intro b h s f;simp at f
 |cons w c t=>
  intro b h s f;cases b with
  |nil=>exact s.elim
  |cons C b=>
   obtain⟨v,o,l,m⟩:=s;cases h with
   |zero=>simp only[u2,List.modify_zero_cons];exact⟨p,n,l,m⟩
   |succ h=>simp only[u2,List.modify_succ_cons];exact⟨v,o,l,t m (by simpa using f)⟩
theorem ml.append{h c b f:List MapEntry}(l:ml ρ h c)(t:ml ρ b f):ml ρ (h++b) (c++f):=by
 induction h generalizing c with
 |nil=>cases c with|nil=>exact t|cons _ _=>exact l.elim
 |cons w h m=>cases c with
  |nil=>exact l.elim
  |cons v c=>obtain⟨p,n,s,o⟩:=l;exact⟨p,n,s,m o⟩
theorem zT{w:World}{o b:Obj}(f:w.heap[r]?=some o)(l:∀h m c,o≠.cells h m c):(setObj r b).run x w=.ok () {w with heap:=w.heap.setIfInBounds r b}:=by
 simp only[setObj,Sem.run,f]
theorem DI{p b:Value}{es:List MapEntry}(c:Instr.findNow q p es r=some (some (K,a))):∃f,es[K-r]?=some f/\Instr.sameNow q p f.key=some true/\r<=K:=by
 induction es generalizing r with
 |nil=>simp[Instr.findNow]at c
 |cons f es h=>
  simp only[Instr.findNow]at c;split at c
  ·rename_i m;simp only[Option.some.injEq,Prod.mk.injEq]at c;obtain⟨rfl,_⟩:=c;exact⟨f,by simp,m,Yq _⟩
  ·obtain⟨o,n,l,s⟩:=h c;refine⟨o,?_,l,om⟩;rw[show K-r=(K-(r+1))+1 from by omega];simpa using n
  ·cases c
theorem NW{f b:Value}(c:Instr.sameNow q f b=some true)(m:Program)(w:World):(Instr.keyThatStays b f).run m w=.ok f w:=by
 have l:Instr.sameBits 10000 b f=true:=by
  unfold Instr.sameNow at c;split at c
  ·split at c
   ·rename_i h;subst h;simp only[Option.some.injEq,beq_iff_eq]at c;subst c;show(_==_&&_==_)=true;simp
   ·cases c
  ·rename_i f b;simp only[Option.some.injEq]at c;rw[beq_toListBytes,beq_iff_eq]at c;show(b==f)=true;rw[beq_toListBytes,beq_iff_eq];exact c.symm
  ·simp only[Option.some.injEq,beq_iff_eq]at c;subst c;show(_==_)=true;simp
  ·cases c
 unfold Instr.keyThatStays;rw[if_pos l];rfl
theorem uL(O:mW C)(P:dD w0 N0 G ρ st w){t:TypeId}{z h:Value}(x:dg ρ a d)(o:dg ρ D E)(V:dg ρ z h)(c:jc C t a D z st=some (.val v eB)):
  ∃T,(Instr.mapUpdate t d E h).run C.P w=.ok () T/\dD w0 N0 G ρ eB T/\v=kX/\eB.n=st.n:=by
 unfold jc at c;split at c
 ·rename_i ti L k;split at c
  ·rename_i F I i;split at c
   ·rename_i q J b s N;cases x with
    |@map _ Y R=>
    obtain⟨f,S,p⟩:=P.obj _ _ _ R N;split at c
    ·cases c
    ·rename_i W;have n:∀(e:Option (Nat×Value)),Instr.findNow q.desc E f.toList 0=some e->(Instr.mapUpdate t (.map (some Y.b)) E h).run C.P w=((match e with
       |some (g,_)=>do
        let key<-Instr.keyThatStays (((f[g]?).map (·.key)).getD E) E
        setObj Y.b (.map (f.modify g fun S=>{S with key,val:=h}) b)
       |none=>setObj Y.b (.map (f.push {key:=E,val:=h,born:=b}) (b+1))):Sem Unit).run C.P w:=by
      intro e r;unfold Instr.mapUpdate;rw[b9 _ (eu O k w)];simp only[i];rw[b9 _ (u5 S (by intro _ _ _ X;cases X))];simp only;rw[b9 _ (sK O s W _ 9999 _),b9 _ (yj O s r)];cases e<;>rfl
     split at c
     ·cases c
     ·rename_i g M Q;obtain⟨rfl,rfl⟩:=dt c;rcases tD o p Q with⟨m,_⟩|⟨B,K,u,m,l,A,_,y⟩
      ·cases m
      ·cases m;obtain⟨H,U,j,_⟩:=DI (b:=E) l;rw[YK,Yn]at U;refine⟨{w with heap:=w.heap.setIfInBounds Y.b (.map (f.modify g fun S=>{S with key:=E,val:=h}) b)},?_,?_,Z,Z⟩
       ·rw[n _ l];simp only[U,YF,Option.getD_some];rw[b9 _ (NW j C.P w)];exact zT S (by intro _ _ _ X;cases X)
       ·refine P.NV R N ?_;rw[Array.toList_modify];exact IP o V p om
     ·rename_i Q;obtain⟨rfl,rfl⟩:=dt c;rcases tD o p Q with⟨_,l⟩|⟨B,K,u,m,_⟩
      ·refine⟨{w with heap:=w.heap.setIfInBounds Y.b (.map (f.push {key:=E,val:=h,born:=b}) (b+1))},?_,?_,Z,Z⟩
       ·rw[n _ l];exact zT S (by intro _ _ _ X;cases X)
       ·refine P.NV R N ?_;rw[Array.toList_push];exact p.append ⟨o,V,Z,tv⟩
      ·cases m
   ·cases c
  ·cases c
 ·cases c
end
end Go.AM
