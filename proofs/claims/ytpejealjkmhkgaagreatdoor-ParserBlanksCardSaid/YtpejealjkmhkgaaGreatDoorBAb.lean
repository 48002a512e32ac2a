/- Part of the proof. -/
import Derived.Test.YtpejealjkmhkgaaGreatDoorBAa
import Derived.IntWalk
set_option linter.all false
set_option maxHeartbeats 16000000
set_option maxRecDepth 100000
open Bool renaming and_eq_true->agj,or_eq_false_iff->ago,or_eq_true->agp,false_eq_true->agC,not_eq_true'->agJ
open List renaming mem_cons->agk,mem_append->agw,range->agx,all_eq_true->agy,mem_filter->agE,mem_erase_of_ne->agG,nodup_append->agI,extract_eq_take_drop->agM,length_erase_of_mem->agN
open Nat renaming le_of_ble_eq_true->agl,eq_of_beq_eq_true->agn,le_refl->agt,beq_eq->agA,testBit->agD,blt_eq->agF,min->agH,sub_zero->agQ,lt_or_ge->agR,mul_le_mul_right->agS
open Array renaming getElem?_toList->agm,getD_eq_getD_getElem?->agq,getElem?_eq_getElem->agr,getElem?_setIfInBounds_self_of_lt->ags,toList_map->agu,getElem?_setIfInBounds_ne->agv,replicate->agL,getElem?_push_size->agO,getElem?_eq_none->agP,toList_append->agT,range->agU,getElem?_push->agV
open Int renaming ofNat->agz
open Option renaming map_some->agB,getD_some->agK,isSome_none->agW
namespace Go.AM
open Go.RowKit (Below)
variable{M Y:Value}
section
variable{C:dR} {w0:World} {N0:Nat} {G:Nat->Prop} {ρ:Ren} {st dC:St} {w:World} {v:Value}
theorem AO(l:cq)(ρ:Ren):cT ρ (ofBytes l) (ofBytes l):=by
 induction l with
 |nil=>exact .nil
 |cons c l b=>exact .cons (.int _ _) b
theorem IM{P:Program}{w:World}:∀{i d:List Value} {j:cq} (_:cT ρ i d) (_:sj i=some j) (s:ByteArray),
  Sem.run P (forIn (m:=Sem) d s (fun(o:Value) (q:ByteArray)=>match o with|Value.int .u8 p=>(pure (ForInStep.yield (q.push (UInt8.ofNat p.toNat))):Sem (ForInStep ByteArray))|_=>do(stuck "bytesToString: byte expected" :Sem PUnit);pure (ForInStep.yield q))) w=Result.ok ⟨⟨s.data.toList++j⟩⟩ w:=by
 intro i;induction i with
 |nil=>intro d j c f s;cases c;simp[sj]at f;subst f;simp
 |cons o i k=>
  intro d j c f s;cases c with
  |@cons _ t _ n l c=>
   simp only[sj]at f;split at f
   ·rename_i b r e h;cases f;unfold toByte at e;split at e
    ·rename_i p;cases e;cases l;simp only[List.forIn_cons,Sem.run_bind,Sem.run_pure,Result.andThen_ok];rw[k c h];simp
    ·cases e
   ·cases f
theorem IN(B:nQ C)(h:di w0 N0 G ρ st w){s af:TypeId}(D:cX ρ M Y)(d:ig C s af M st=some (.val v dC)):rh w0 N0 G ρ dC v ((convert s af Y).run C.P w):=by
 unfold ig at d;split at d
 ·rename_i am al ad W;have m:=ed B ad w;have n:=ed B W w;split at d
  ·rename_i ak k ah aq p o;obtain⟨rfl,rfl⟩:=c9 d;cases D;refine⟨ρ,_,w,?_,Ren.le_refl _,h,.int _ _⟩;unfold convert;rw[cb _ m,cb _ n,p,o];rfl
  ·rename_i f p o;obtain⟨rfl,rfl⟩:=c9 d;cases D;refine⟨ρ,_,w,?_,Ren.le_refl _,h,.string _⟩;unfold convert;rw[cb _ m,cb _ n,p,o];rfl
  ·rename_i g f p o;split at d
   ·rename_i ab x;split at d
    ·rename_i L;obtain⟨rfl,rfl⟩:=c9 d;cases D;have j:=ed B x w;rw[L]at j;generalize J:(Question.appendCap f.size 0 g).cut (w.tape w.drawn (Question.appendCap f.size 0 g))=c;have A:f.size<=c:=by rw[<-J];exact Nat.le_add_right _ _
     have V:(choose (Question.appendCap f.size 0 g)).run C.P w=.ok c {w with drawn:=w.drawn+1}:=by
      simp only[choose,Sem.run,Question.forced,agC,if_false,J]
     have aa:=h.drewN (w.drawn+1);generalize i:(f.data.map fun b=>(.int .u8 b.toNat:Value))++agL (c-f.size) (.int .u8 0:Value)=e;have Q:e.size=c:=by
      rw[<-i];simp;omega
     have T:f.data.toList.length=f.size:=(size_data f).symm;refine⟨ρ.add st.n ⟨w.heap.size,0,1,e.size,true⟩,.slice (some ⟨w.heap.size,0,none⟩) f.size c,{w with drawn:=w.drawn+1,heap:=w.heap.push (.cells e g (c,c+1))},?_,ei h.ij,?_,?_⟩
     ·unfold convert;rw[cb _ m,cb _ n,p,o];simp only;rw[cb _ j];simp only[Conv.stringToBytes];rw[cb _ V];simp only[i];rw[cb _ (iz _ _)];have H:(markStringish ⟨w.heap.size,0,none⟩).run C.P {w with drawn:=w.drawn+1,heap:=w.heap.push (.cells e g)}=.ok () {w with drawn:=w.drawn+1,heap:=w.heap.push (.cells e g (c,c+1))}:=by
       simp only[markStringish,Go.shape,Sem.run_bind,Sem.run,World.shape?,agO,Result.andThen_ok,freeze,World.freeze,Q,if_neg Nat.one_ne_zero];congr 1;congr 1;apply Array.ext_getElem?;intro U;simp only[Array.getElem?_modify,agV];by_cases q:U=w.heap.size
       ·subst q;simp
       ·rw[if_neg (fun g=>q g.symm),if_neg q,if_neg q]
      rw[cb _ H];rfl
     ·refine aa.new Z Z ⟨e,g,c,c+1,Z,Z,Z,?_,fun U v F=>?_,fun _ U q E=>?_⟩
      ·simp[ofBytes];omega
      ·have N:U<f.data.toList.length:=by
        rcases agR U (ofBytes f.data.toList).length with E|E
        ·simpa [ofBytes]using E
        ·rw[List.getElem?_eq_none E]at F;cases F
       refine⟨v,?_,?_⟩
       ·rw[<-i,Nat.zero_add,Array.getElem?_append_left (by simpa using N)];rw[<-agm,agu];exact F
       ·have:=(AO f.data.toList (ρ.add st.n ⟨w.heap.size,0,1,e.size,true⟩)).get F;obtain⟨ai,O,X⟩:=this;rw[F]at O;cases O;exact X
      ·simp at q;omega
     ·rw[T];refine .slice (l:=⟨w.heap.size,0,1,e.size,true⟩) (c7 _ _ _) A (by simp;omega)
    ·cases d
   ·cases d
  ·rename_i g ao I ae p o;split at d
   ·rename_i ab x;split at d
    ·rename_i L;have j:=ed B x w;rw[L]at j;split at d
     ·obtain⟨rfl,rfl⟩:=c9 d;cases D;refine⟨ρ,.string .empty,w,?_,Ren.le_refl _,h,?_⟩
      ·unfold convert;rw[cb _ m,cb _ n,p,o];simp only;rw[cb _ j];rfl
      ·exact .string _
     ·rename_i b ap;split at d
      ·rename_i ag R;split at d
       ·rename_i l ac;obtain⟨rfl,rfl⟩:=c9 d;have z:∃u t r,Y=.slice (some u) I t/\(loadCells u I).run C.P w=.ok r w/\cT ρ ag r.toList:=by
         cases D with
         |jp _ u=>
          refine⟨u,0, #[],Z,by simp[loadCells,loadCellsFrom],?_⟩;have:=fk R;cases ag with
          |nil=>exact .nil
          |cons _ _=>simp at this
         |slice S an aj=>
          obtain⟨r,a,y⟩:=h.read S R C.P;exact⟨_,_,r,Z,a,y⟩
        obtain⟨u,t,r,rfl,a,y⟩:=z;refine⟨ρ,.string ⟨l.toArray⟩,w,?_,Ren.le_refl _,h,.string _⟩;unfold convert;rw[cb _ m,cb _ n,p,o];simp only;rw[cb _ j];simp only[Conv.bytesToString];rw[cb _ a];have K:=IM (P:=C.P) (w:=w) y ac ByteArray.empty;rw[<-Array.forIn_toList];exact cb (fun s=>(pure (.string s):Sem Value)) K
       ·cases d
      ·cases d
     ·cases d
    ·cases d
   ·cases d
  ·cases d
 ·cases d
theorem Ec(h:nQ C)(R:di w0 N0 G ρ st w){t:TypeId}{l c F p:Value}(J:cX ρ l F)(N:cX ρ c p)(b:jn C t l c st=some (.val v dC)):
  rh w0 N0 G ρ dC v ((Instr.makeSlice t F p).run C.P w):=by
 unfold jn at b;split at b
 ·rename_i U l c A;split at b
  ·rename_i m g;split at b
   ·rename_i d f;split at b
    ·rename_i e;simp only[agj]at e;obtain⟨⟨⟨⟨E,I⟩,K⟩,M⟩,L⟩:=e;have S:=agl E;have B:=agF.mp I;have Q:=agl K;have O:=agl M;have u:=agn L;obtain⟨rfl,rfl⟩:=c9 b;cases J;cases N;obtain⟨V,o,s⟩:=Fk h f w;obtain⟨z,H,k⟩:=mg h f w;have D:z.cells.size=d.size:=by rw[<-u,<-k.cells];simp
     have q:IntKind.i64.wrap (agz l)=l:=Go.IntWalk.i64_in _ (by simp;omega);have y:IntKind.i64.wrap (agz c)=c:=Go.IntWalk.i64_in _ (by simp;omega);have x:cT ρ (wo d.zero c) ((agU (c*d.size)).map (z.cells[· %z.cells.size]!)).toList:=by
      rw[<-D,Cr,k.cells];exact jI (vE (h.yn _ _ f) c) ρ
     refine⟨_,.slice (some ⟨w.heap.size,0,none⟩) l c,_,?_,ei R.ij,R.row m x,?_⟩
     ·simp only[Instr.makeSlice];rw[cb _ (ed h A w)];simp only[g];rw[cb _ (show(asInt (.int .i64 (agz l))).run C.P w=.ok (agz l) w from rfl),cb _ (show(asInt (.int .i64 (agz c))).run C.P w=.ok (agz c) w from rfl),cb _ o];simp only[q,y,s];have a:((d.bytes:Int)*(c:Int))<=1099511627776:=by
       have:((c*d.bytes:Nat):Int)<=1099511627776:=om;rw[Int.natCast_mul,Int.mul_comm]at this;exact this
      have n:¬((decide ((c:Int)<0)||decide ((d.bytes:Int)*(c:Int)>2^48))||decide ((l:Int)<0)||decide ((l:Int)>(c:Int)))=true:=by
       simp only[agp,decide_eq_true_eq,Int.reducePow];omega
      rw[if_neg n];have i:(askRoom ((c:Int).toNat*d.bytes)).run C.P w=.ok () w:=by
       unfold askRoom;split<;>rfl
      rw[cb _ i,cb _ (fO h f w)];simp only[Int.toNat_natCast];by_cases r:c*d.size=0
      ·have j:∀T:Nat->Value,Array.map T (agU 0)= #[]:=fun _=>Array.eq_empty_of_size_eq_zero sm;simp only[r,if_true,j];rw[cb _ (Sem.run_pure (P:=C.P) (w:=w) _),cb _ (iz _ _)];simp only[j,Sem.run_pure]
      ·simp only[if_neg r];rw[cb _ H,cb _ (Sem.run_pure (P:=C.P) (w:=w) _),cb _ (iz _ _)];rfl
     ·refine .slice (l:=⟨w.heap.size,0,d.size,_,true⟩) (c7 _ _ _) (agt _) ?_;simp
    ·cases b
   ·cases b
  ·cases b
 ·cases b
theorem l6{P:Program}{e c:Option Value}{o n:Nat}(l:(e=none/\c=none)∨∃f b,e=some f/\c=some b/\cX ρ f b)(d:lu e o=some n):
  (e=none/\c=none/\n=o)∨∃b,c=some b/\e.isSome=true/\∀(m:Nat) (code:BoundsCode) (w:World),n<=m->(Instr.sliceBound b m code).run P w=.ok n w:=by
 rcases l with⟨rfl,rfl⟩|⟨f,b,rfl,rfl,h⟩
 ·simp[lu]at d;exact .inl ⟨rfl,rfl,d.symm⟩
 ·unfold lu at d;split at d
  ·rename_i i;cases i
  ·rename_i k m i;cases i;cases d;cases h;refine .inr ⟨_,Z,Z,fun q code w p=>?_⟩;have j:(0:Int)<=agz n/\agz n<=(q:Int):=by simp;omega
   simp only[Instr.sliceBound,asIntOf];rw[cb _ (Sem.run_pure (P:=P) (w:=w) _)];simp only[if_pos j];rfl
  ·cases d
theorem xl{P:Program}{lo i mx h e mx':Option Value}{isS:Bool}{len cap l r m:Nat} 
  (D1:(lo=none/\h=none)∨∃k b,lo=some k/\h=some b/\cX ρ k b) (j:(i=none/\e=none)∨∃k b,i=some k/\e=some b/\cX ρ k b)
  (n:(mx=none/\mx'=none)∨∃k b,mx=some k/\mx'=some b/\cX ρ k b) {SA:Nat} (e1:lu lo 0=some l) (o:lu i len=some r) (u:lu mx SA=some m)
  (h1:l<=r) (s:r<=m) (x:m<=SA) (v:SA<=cap) (d:i.isSome=true∨mx.isNone=true):
  (Instr.sliceBounds isS len cap h e mx').run P w=.ok (l,r,if mx.isSome then m else cap) w:=by
 unfold Instr.sliceBounds;rcases l6 (P:=P) n u with⟨rfl,rfl,rfl⟩|⟨y,rfl,c,p⟩
 ·rw[cb _ (Sem.run_pure (P:=P) (w:=w) _)];rcases l6 (P:=P) j o with⟨rfl,rfl,rfl⟩|⟨t,rfl,q,f⟩
  ·rw[cb _ (Sem.run_pure (P:=P) (w:=w) _)];exact YV
  ·simp only;rw[cb _ (f _ _ _ om)];exact YV
 ·simp only;rw[cb _ (p _ _ _ om)];rcases l6 (P:=P) j o with⟨rfl,rfl,rfl⟩|⟨t,rfl,q,f⟩
  ·exfalso;rcases d with d|d
   ·cases d
   ·rw[Option.isNone_iff_eq_none]at d;rw[d]at c;cases c
  ·simp only;rw[cb _ (f _ _ _ s)];rcases l6 (P:=P) D1 e1 with⟨rfl,rfl,rfl⟩|⟨yl,rfl,hls,hlr⟩
   ·rw[cb _ (Sem.run_pure (P:=P) (w:=w) _),c];rfl
   ·simp only;rw[cb _ (hlr _ _ _ h1),c];rfl
end
section
variable{C:dR} {w0:World} {N0:Nat} {G:Nat->Prop} {ρ:Ren} {st dC:St} {w:World} {v:Value}
theorem Ps(c:ByteArray)(l b:Nat)(d:l<=b)(e:b<=c.data.toList.length):c.extract l b=Lh c l b:=by
 apply ByteArray.ext;rw[ByteArray.data_extract];apply Array.ext';simp only[Lh,Array.toList_extract,agM];rw[List.drop_take]
theorem Pt(am:nQ C)(ay:di w0 N0 G ρ st w){t:TypeId}{lo aq q A z h:Option Value}(H:cX ρ M Y) 
  (O:(lo=none/\A=none)∨∃aa n,lo=some aa/\A=some n/\cX ρ aa n) (S:(aq=none/\z=none)∨∃aa n,aq=some aa/\z=some n/\cX ρ aa n)
  (W:(q=none/\h=none)∨∃aa n,q=some aa/\h=some n/\cX ρ aa n) (c:pA C t M lo aq q st=some (.val v dC)):
  ∃az,(Instr.sliceAt t Y A z h).run C.P w=.ok az w/\cX ρ v az/\dC=st:=by
 unfold pA at c;split at c
 ·cases c
 ·rename_i aS aC;have X:=ed am aC w;split at c
  ·rename_i s g;split at c
   ·rename_i o T x J;split at c
    ·rename_i d;simp only[agj]at d;have K:=agl d.1;have I:=agl d.2;obtain⟨rfl,rfl⟩:=c9 c;cases H;have Q:h=none:=by rcases W with⟨_,ab⟩|⟨aa,n,ab,_,_⟩<;>first|exact ab|cases ab
     subst Q;refine⟨.string (s.extract o T),?_,by rw[Ps s o T K I];exact .string _,Z⟩;have u:=xl (w:=w) (P:=C.P) (isS:=false) (cap:=s.size) O S (.inl ⟨rfl,rfl⟩) (mx:=none) (mx':=none) (SA:=s.size) x J (m:=s.size) rfl K (by rw[size_data];exact I) (agt _) (agt _) (.inr rfl);rw[size_data]at u;unfold Instr.sliceAt;rw[cb _ X,g];simp only[Instr.slice];rw[cb _ X,g];simp only[agW,agC,if_false];rw[size_data,cb _ u];rfl
    ·cases c
   ·cases c
  ·rename_i an aT ad E g;split at c
   ·rename_i i o T m V x J aL;split at c
    ·cases c
    ·rename_i d;simp only[agj,agp]at d;obtain⟨⟨⟨ao,ai⟩,y⟩,aH⟩:=d;have K:=agl ao;have I:=agl ai;have aE:=agl y;have aA:∃D e,Y=.slice D ad e/\E<=e:=by cases H<;>first|exact⟨_,_,rfl,agt _⟩|exact⟨_,_,rfl,by assumption⟩
     obtain⟨D,e,rfl,aB⟩:=aA;have u:=xl (w:=w) (P:=C.P) (isS:=true) (cap:=e) O S W x J aL K I aE aB aH;have F:∀(f:Nat),(if q.isSome then m else e)=f->(Instr.sliceAt t (.slice D ad e) A z h).run C.P w=.ok (.slice (if f=o then D else D.map (·.add (o*i.size))) (T-o) (f-o)) w:=by
      intro f l;rw[l]at u;unfold Instr.sliceAt;rw[cb _ X,g];simp only[Instr.slice];rw[cb _ X,g];simp only;rw[cb _ u];simp only;rw[cb _ (fO am V w)];rfl
     have aj:∀f,(if q.isSome then m else e)=f->m<=f/\(q.isSome=true->f=m)/\f<=e:=by
      intro f l;split at l
      ·subst l;exact⟨agt _,fun _=>rfl,om⟩
      ·rename_i aK;subst l;exact⟨om,fun ab=>absurd ab aK,agt _⟩
     obtain⟨f,l⟩:∃f,(if q.isSome then m else e)=f:=⟨_,rfl⟩;obtain⟨aO,aM,af⟩:=aj f l;split at c
     ·split at c
      ·rename_i B;obtain⟨rfl,rfl⟩:=c9 c;cases H;refine⟨_,F f l,?_,Z⟩;have:T-o=0:=om;have aw:f-o=0:=om;rw[this,aw];have r:f=o:=om;rw[if_pos r];exact .me
      ·cases c
     ·rename_i b aD;split at c
      ·rename_i B;have B:=agn B;subst B;obtain⟨rfl,rfl⟩:=c9 c;refine⟨_,F f l,?_,Z⟩;have r:o=0:=om;have j:T=0:=om;subst r j;cases H with
       |jp _ D=>
        have:f=0:=om;subst this;simp only[if_true,agQ];exact .jp _ _
       |@slice _ _ _ _ _ ap a aF N=>
        simp only[agQ,Nat.zero_mul];split
        ·rename_i L;subst L;exact .jp _ _
        ·simp only[agB,kS,Nat.add_zero];exact .slice a (Nat.zero_le _) (Nat.le_trans (Nat.add_le_add_left (agS _ af) _) N)
      ·split at c
       ·rename_i ax p;split at c
        ·rename_i U;have U:=agn U;subst U;obtain⟨rfl,rfl⟩:=c9 c;refine⟨_,F f l,?_,Z⟩;cases H with
         |jp _ D=>
          have r:o=0:=om;have:f=0:=om;subst this r;have j:T=0:=om;have R:m=0:=om;subst j R;simp only[if_true];exact .jp _ _
         |@slice _ _ _ _ _ ap a aF N=>
          have ah:ap.es=i.size:=by
           unfold Pa at p;split at p
           ·rename_i aR ax aP aQ ak;cases p;obtain⟨aI,ac,au,av,aJ,k⟩:=ay.obj _ _ _ a ak;exact k.es
           ·cases p
          split
          ·rename_i L;subst L;have R:m-f=0:=om;have j:T-f=0:=om;rw[R,j,Nat.sub_self];exact .jp _ _
          ·simp only[agB,kS,Nat.add_assoc];refine .slice a om ?_;rw[ah]at N⊢;have x:f*i.size=o*i.size+(f-o)*i.size:=by rw[<-Nat.add_mul];congr 1;omega
           have J:f*i.size<=e*i.size:=agS _ af;omega
        ·cases c
       ·cases c
     ·cases c
   ·cases c
  ·rename_i ag an b aD g;split at c
   ·rename_i i o T V x J;split at c
    ·rename_i d;simp only[agj]at d;obtain⟨⟨ao,ai⟩,y⟩:=d;have K:=agl ao;have I:=agl ai;obtain⟨rfl,rfl⟩:=c9 c;obtain⟨ap,a,rfl⟩:=qx H;have Q:h=none:=by rcases W with⟨_,ab⟩|⟨aa,n,ab,_,_⟩<;>first|exact ab|cases ab
     subst Q;have u:=xl (w:=w) (P:=C.P) (isS:=false) (cap:=ag) O S (.inl ⟨rfl,rfl⟩) (mx:=none) (mx':=none) (SA:=ag) x J (m:=ag) rfl K I (agt _) (agt _) (.inr rfl);refine⟨.slice (some (if ag=o then⟨ap.b,ap.d+aD,none⟩else(⟨ap.b,ap.d+aD,none⟩:Addr).add (o*i.size))) (T-o) (ag-o),?_,?_,Z⟩
     ·unfold Instr.sliceAt;rw[cb _ X,g];simp only[Instr.sureAddr];rw[cb _ (Sem.run_pure (P:=C.P) (w:=w) _),cb _ u];simp only[agW,agC,if_false];rw[cb _ (fO am V w)];rfl
     ·split at y
      ·rename_i aR ax aP aQ ak;simp only[agj]at y;have p:=agn y.1;have aN:=agl y.2;obtain⟨aI,ac,au,av,aJ,k⟩:=ay.obj _ _ _ a ak;have ar:=k.es;have aG:=k.fits;split
       ·rename_i L;subst L;have j:T-ag=0:=om;rw[j,Nat.sub_self];exact .jp _ _
       ·rw[kS,Nat.add_assoc];refine .slice a (agt _) ?_;rw[ar,p];have x:ag*i.size=o*i.size+(ag-o)*i.size:=by rw[<-Nat.add_mul];congr 1;omega
        omega
      ·cases y
    ·cases c
   ·cases c
  ·cases c
end
variable{I:TypeDesc} {L:Bool} {W a:Nat}
section
variable{C:dR} {w0:World} {N0:Nat} {G:Nat->Prop} {ρ:Ren} {st dC:St} {w:World} {v:Value}
theorem sl{h b f i:Value}(d:cX ρ h f)(e:cX ρ b i)(c:jm I h b=some L):Instr.sameNow I f i=some L:=by
 unfold jm at c;split at c
 ·cases d;cases e;cases c;rfl
 ·split at c
  ·rename_i j;have:=sk.1 j;subst this;cases d;cases e;cases c;simp[Instr.sameNow,vB]
  ·cases c
 ·rename_i h b;cases d;cases e;cases c;show some (h==b)=some (pz h b);rw[beq_toListBytes,toList_data,toList_data,pz,qy]
 ·cases c
theorem vF{k n:Value}(l:cX ρ k n):∀{c b:List MapEntry} {i:Nat} {q:Option (Nat×Value)},mO ρ c b->rE I k c i=some q->
  (q=none/\Instr.findNow I n b i=some none)∨∃p r e,q=some (p,r)/\Instr.findNow I n b i=some (some (p,e))/\cX ρ r e/\i<=p/\p<i+c.length:=by
 intro c;induction c with
 |nil=>
  intro b i q f h;cases b with
  |nil=>simp[rE]at h;subst h;exact .inl ⟨rfl,rfl⟩
  |cons _ _=>exact f.elim
 |cons D c w=>
  intro b i q f h;cases b with
  |nil=>exact f.elim
  |cons v b=>
   obtain⟨m,t,C,u⟩:=f;simp only[rE]at h;split at h
   ·rename_i d;cases h;refine .inr ⟨i,D.val,v.val,Z,?_,t,agt _,by simp⟩;simp only[Instr.findNow,sl l m d]
   ·rename_i d;rcases w u h with⟨j,o⟩|⟨p,r,e,j,o,s,x,y⟩
    ·exact .inl ⟨j,by simp only[Instr.findNow,sl l m d];exact o⟩
    ·exact .inr ⟨p,r,e,j,by simp only[Instr.findNow,sl l m d];exact o,s,om,by simp only[List.length_cons];omega⟩
   ·cases h
theorem mO.length:∀{c b:List MapEntry},mO ρ c b->c.length=b.length
 |[],[],_=>rfl
 |_::_,_::_,⟨_,_,_,d⟩=>by simp[mO.length d]
 |[],_::_,k=>k.elim
 |_::_,[],k=>k.elim
theorem us(e:nQ C){t:TypeId}{b:TI}(h:C.tt.get t=some b)(c:rF b.desc=true)(i:Bool)(n:Nat)(k:Value):(Instr.checkKey i (n+1) t k).run C.P w=.ok () w:=by
 have f:=ed e h w;unfold Instr.checkKey;rw[cb _ f];cases d:b.desc<;>rw[d]at c<;>first|(simp[rF]at c;done)|rfl
theorem xm{P:Program}{w:World}{o:Obj}(c:w.heap[a]?=some o)(f:∀d e b,o≠.cells d e b):(getObj a).run P w=.ok o w:=by
 simp only[getObj,Sem.run,c]
theorem AP(c:nQ C){t:TypeId}{b:TI}(d:C.tt.get t=some b){k:Value}{es:List MapEntry}{e:Option (Nat×Value)}(f:Instr.findNow b.desc k es 0=some e):(Instr.findKey t k es).run C.P w=.ok e w:=by
 unfold Instr.findKey;rw[cb _ (ed c d w),f];rfl
theorem LC(h:nQ C)(V:di w0 N0 G ρ st w){t:TypeId}{o D k e:Value}(N:cX ρ o D)(H:cX ρ k e)(b:qs C t o k L st=some (.val v dC)):
  ∃B,(Instr.lookup t D e L).run C.P w=.ok B w/\cX ρ v B/\dC=st:=by
 unfold qs at b;split at b
 ·cases b
 ·rename_i ac E;split at b
  ·rename_i I T A;split at b
   ·rename_i J ab s u;split at b
    ·cases b
    ·rename_i M;split at b
     ·cases b
     ·rename_i X d;obtain⟨z,U,K⟩:=mg h u w;have r:=K.mk;have f:∀(c:Array MapEntry) (i:Option (Nat×Value)),Instr.findNow J.desc e c.toList 0=some i->∀p:Bool,(do
        Instr.checkKey p 10000 I e
        match<-Instr.findKey I e c.toList with
        |some (_,v)=>do
         let o<-pure (v,true)
         pure (if L=true then Value.tuple #[o.1,Value.bool o.2]else o.1)
        |none=>do
         let z<-zeroValue T
         let o<-pure (z,false)
         pure (if L=true then Value.tuple #[o.1,Value.bool o.2]else o.1):Sem Value).run C.P w=.ok (match i with|some (_,a)=>(if L=true then .tuple #[a,.bool true]else a)|none=>(if L=true then .tuple #[z,.bool false]else z)) w:=by
       intro c i j p;rw[cb _ (us h s M _ 9999 _),cb _ (AP h s j)];cases i with
       |none=>simp only;rw[cb _ U];rfl
       |some ah=>rfl
      have g:∃c:Array MapEntry,mO ρ X c.toList/\∀i,Instr.findNow J.desc e c.toList 0=some i->
        (Instr.lookup t D e L).run C.P w=.ok (match i with|some (_,a)=>(if L=true then .tuple #[a,.bool true]else a)|none=>(if L=true then .tuple #[z,.bool false]else z)) w:=by
       split at d
       ·cases d;cases N;refine⟨#[],tv,fun i j=>?_⟩;unfold Instr.lookup;rw[cb _ (ed h E w)];simp only[A];rw[cb _ (Sem.run_pure (P:=C.P) (w:=w) _)];exact f #[] i j _
       ·rename_i ae;split at d
        ·rename_i Y O R;cases d;cases N with
         |map W=>
          obtain⟨c,p,q⟩:=V.obj _ _ _ W R;refine⟨c,q,fun i j=>?_⟩;unfold Instr.lookup;rw[cb _ (ed h E w)];simp only[A];rw[cb _ (xm p (by intro _ _ _ ad;cases ad))];simp only;rw[cb _ (Sem.run_pure (P:=C.P) (w:=w) _)];exact f c i j _
        ·cases d
       ·cases d
      obtain⟨c,m,n⟩:=g;split at b
      ·cases b
      ·rename_i af ag F;obtain⟨rfl,rfl⟩:=c9 b;rcases vF H m F with⟨p,_⟩|⟨Q,a,S,p,l,q,_⟩
       ·cases p
       ·cases p;refine⟨_,n _ l,?_,Z⟩;cases L
        ·exact q
        ·exact .tuple (.cons q (.cons (.bool _) .nil))
      ·rename_i F;split at b
       ·cases b
       ·rename_i aa x;rw[r]at x;cases x;obtain⟨rfl,rfl⟩:=c9 b;rcases vF H m F with⟨_,l⟩|⟨Q,a,S,p,_⟩
        ·refine⟨_,n _ l,?_,Z⟩;have y:=Gu (h.yn _ _ u) r ρ;cases L
         ·exact y
         ·exact .tuple (.cons y (.cons (.bool _) .nil))
        ·cases p
   ·cases b
  ·cases b
theorem di.SB(h:di w0 N0 G ρ st w){r:Nat}{l:Loc}{es:List MapEntry}{d:List MapEntry}{c:Array MapEntry}(hl:ρ r=some l)(hg:st.get r=some (.map es a))(x:mO ρ d c.toList):
  di w0 N0 G ρ (st.put r (.map d W)) {w with heap:=w.heap.setIfInBounds l.b (.map c W)}:=by
 have i:=h.xT _ _ hl;have q:r≠0:=fun e=>by subst e;have:=h.wf.zro _ hg;cases this
 have D:=i.2.1 q;have Gh:∀k,k≠l.b->(w.heap.setIfInBounds l.b (.map c W))[k]?=w.heap[k]?:=fun k f=>agv (fun e=>f e.symm);have o:(w.heap.setIfInBounds l.b (.map c W))[l.b]?=some (.map c W):=ags i.2.2;have C:O7 N0 ρ (st.put r (.map d W)) {w with heap:=w.heap.setIfInBounds l.b (.map c W)}:=by
  refine h.j2.H0 h.sep (fun k=>k=l.b) (fun b l e=>(h.xT _ _ e).2.2) sm (fun k _ f=>Gh k f) (fun k f=>⟨r,l,_,hl,f.symm,hg,by(intro e;cases e),by(intro _ _ _ e;cases e)⟩) (fun _ _ e=>.inl e) (fun u n z e s h1 h2=>⟨h1,?_⟩);rw[c8]at h2;split at h2
  ·cases h2
  ·exact h2
 have RM:∀u n p,ρ u=some n->(st.put r (.map d W)).get u=some p->n.b=l.b->u=r∨p=.dead:=by
  intro u n p y t zG;by_cases j:u=r
  ·exact .inl j
  ·rw[c8,if_neg j]at t;have:=h.sep _ _ _ _ _ _ hl y zG.symm hg t (fun e=>j e.symm);cases p<;>first|exact .inr rfl|exact this.elim
 refine⟨⟨fun b v hb=>?_,fun b A e P g hb=>?_,h.wf.NN,h.wf.pos,fun v hb=>by rw[c8,if_neg (Ne.symm q)]at hb;exact h.wf.zro _ hb⟩,?_,by simpa using h.Fi,h.K1,fun b m hb=>by have:=h.xT b m hb;exact⟨this.1,this.2.1,by simpa using this.2.2⟩,fun b m v hb Vi=>?_,fun b b' l1 F o1 o2 h1 h2 he g1 g2 BM=>?_,C⟩
 ·exact acu
 ·rw[c8]at hb;split at hb
  ·cases hb
  ·exact h.wf.dP _ _ _ _ _ hb
 ·exact h.below.trans ⟨Z,Z,Z,by simp,fun k f=>Gh k om⟩
 ·show yj ρ m v (w.heap.setIfInBounds l.b (.map c W))[m.b]?;by_cases zG:m.b=l.b
  ·rcases RM _ _ _ hb Vi zG with rfl|rfl
   ·rw[c8,if_pos rfl]at Vi;cases Vi;rw[zG,o];exact⟨c,Z,x⟩
   ·trivial
  ·exact Zq
 ·exact Yo
theorem LD{k j r i:Value}(n:cX ρ k j)(l:cX ρ r i):∀{c:List MapEntry} {b:List MapEntry} {e:Nat},mO ρ c b->e<c.length->
  mO ρ (xi c e k r) (b.modify e fun s=>{s with key:=j,val:=i}):=by
 intro c;induction c with
 |nil=>intro b e o d;simp at d
 |cons s c p=>
  intro b e o d;cases b with
  |nil=>exact o.elim
  |cons t b=>
   obtain⟨q,m,f,h⟩:=o;cases e with
   |zero=>simp only[xi,List.modify_zero_cons];exact⟨n,l,f,h⟩
   |succ e=>simp only[xi,List.modify_succ_cons];exact⟨q,m,f,p h (by simpa using d)⟩
theorem mO.append{e c b d:List MapEntry}(f:mO ρ e c)(k:mO ρ b d):mO ρ (e++b) (c++d):=by
 induction e generalizing c with
 |nil=>cases c with|nil=>exact k|cons _ _=>exact f.elim
 |cons o e h=>cases c with
  |nil=>exact f.elim
  |cons n c=>obtain⟨l,i,m,j⟩:=f;exact⟨l,i,m,h j⟩
theorem Cw{P:Program}{w:World}{o b:Obj}(d:w.heap[a]?=some o)(f:∀e h c,o≠.cells e h c):(setObj a b).run P w=.ok () {w with heap:=w.heap.setIfInBounds a b}:=by
 simp only[setObj,Sem.run,d]
theorem Gx{k b:Value}{es:List MapEntry}(c:Instr.findNow I k es a=some (some (W,M))):∃d,es[W-a]?=some d/\Instr.sameNow I k d.key=some true/\a<=W:=by
 induction es generalizing a with
 |nil=>simp[Instr.findNow]at c
 |cons d es e=>
  simp only[Instr.findNow]at c;split at c
  ·rename_i h;simp only[Option.some.injEq,Prod.mk.injEq]at c;obtain⟨rfl,_⟩:=c;exact⟨d,by simp,h,agt _⟩
  ·obtain⟨j,i,f,l⟩:=e c;refine⟨j,?_,f,om⟩;rw[show W-a=(W-(a+1))+1 from by omega];simpa using i
  ·cases c
theorem SC{d b:Value}(c:Instr.sameNow I d b=some true)(P:Program)(w:World):(Instr.keyThatStays b d).run P w=.ok d w:=by
 have f:Instr.sameBits 10000 b d=true:=by
  unfold Instr.sameNow at c;split at c
  ·split at c
   ·rename_i e;subst e;simp only[Option.some.injEq,beq_iff_eq]at c;subst c;show(_==_&&_==_)=true;simp
   ·cases c
  ·rename_i d b;simp only[Option.some.injEq]at c;rw[beq_toListBytes,beq_iff_eq]at c;show(b==d)=true;rw[beq_toListBytes,beq_iff_eq];exact c.symm
  ·simp only[Option.some.injEq,beq_iff_eq]at c;subst c;show(_==_)=true;simp
  ·cases c
 unfold Instr.keyThatStays;rw[if_pos f];rfl
theorem D8(r:nQ C)(s:di w0 N0 G ρ st w){t:TypeId}{m g k e Q h:Value}(N:cX ρ m g)(n:cX ρ k e)(P:cX ρ Q h)(d:jo C t m k Q st=some (.val v dC)):
  ∃D,(Instr.mapUpdate t g e h).run C.P w=.ok () D/\di w0 N0 G ρ dC D/\v=lr/\dC.n=st.n:=by
 unfold jo at d;split at d
 ·rename_i X aa J;split at d
  ·rename_i T V H;split at d
   ·rename_i K W c p q;cases N with
    |@map _ A x=>
    obtain⟨f,y,o⟩:=s.obj _ _ _ x q;split at d
    ·cases d
    ·rename_i a;have l:∀(B:Option (Nat×Value)),Instr.findNow K.desc e f.toList 0=some B->(Instr.mapUpdate t (.map (some A.b)) e h).run C.P w=((match B with
       |some (E,_)=>do
        let key<-Instr.keyThatStays (((f[E]?).map (·.key)).getD e) e
        setObj A.b (.map (f.modify E fun y=>{y with key,val:=h}) c)
       |none=>setObj A.b (.map (f.push {key:=e,val:=h,born:=c}) (c+1))):Sem Unit).run C.P w:=by
      intro B L;unfold Instr.mapUpdate;rw[cb _ (ed r J w)];simp only[H];rw[cb _ (xm y (by intro _ _ _ z;cases z))];simp only;rw[cb _ (us r p a _ 9999 _),cb _ (AP r p L)];cases B<;>rfl
     split at d
     ·cases d
     ·rename_i E ab u;obtain⟨rfl,rfl⟩:=c9 d;rcases vF n o u with⟨j,_⟩|⟨S,Y,M,j,i,R,_,O⟩
      ·cases j
      ·cases j;obtain⟨U,F,I,_⟩:=Gx (b:=e) i;rw[agQ,agm]at F;refine⟨{w with heap:=w.heap.setIfInBounds A.b (.map (f.modify E fun y=>{y with key:=e,val:=h}) c)},?_,?_,Z,Z⟩
       ·rw[l _ i];simp only[F,agB,agK];rw[cb _ (SC I C.P w)];exact Cw y (by intro _ _ _ z;cases z)
       ·refine s.SB x q ?_;rw[Array.toList_modify];exact LD n P o om
     ·rename_i u;obtain⟨rfl,rfl⟩:=c9 d;rcases vF n o u with⟨_,i⟩|⟨S,Y,M,j,_⟩
      ·refine⟨{w with heap:=w.heap.setIfInBounds A.b (.map (f.push {key:=e,val:=h,born:=c}) (c+1))},?_,?_,Z,Z⟩
       ·rw[l _ i];exact Cw y (by intro _ _ _ z;cases z)
       ·refine s.SB x q ?_;rw[Array.toList_push];exact o.append ⟨n,P,Z,tv⟩
      ·cases j
   ·cases d
  ·cases d
 ·cases d
end
def oL(ρ:Ren)(ev:Operand->Option Value)(mK:Operand->Value):Prop:=∀b v,ev b=some v->cX ρ v (mK b)
def IP(ρ:Ren)(t d:Target):Prop:=
 match t,d with
 |.collected i,.collected b=>∃f,ρ i=some f/\b=f.b
 |.fn (.func h) j,.fn (.func e) c=>h=e/\cT ρ j.toList c.toList
 |_,_=>False
structure acx (ρ:Ren) (d d':Deferred):Prop where
 target:IP ρ d.target d'.target
 args:cT ρ d.args.toList d'.args.toList
structure Fm (C:dR):Prop where
 fn:∀f fi,C.ff.get f=some fi->∃fn,C.P.funcs[f]?=some fn/\fn.body=some fi.body/\fn.ntmps=fi.nt/\fn.results.toList=fi.VE/\(fn.name== "runtime.NumGoroutine")=false
def nX(C:dR):Prop:=∀d c v,C.ext d c=some v->∀(ρ:Ren) (b:Array Value) (w:World),cT ρ c b.toList->(callFunc d b).run C.P w=.ok (.value v) w/\cX ρ v v
def AQ(C:dR)(w0:World)(N0:Nat)(G:Nat->Prop)(ρ:Ren)(st:St)(w:World)(j:AR)(e:Result Next):Prop:=
 match j with
 |.val v dC=>∃h d f,(e=.ok (.value d) f∨(e=.ok .skip f/\d=undef))/\Kept w0 N0 G ρ dC v d f h
 |.eH v dC=>dC=st/\∃d,e=.halt (.panic d) w/\cX ρ v d
 |.enter m c=>∃b,e=.ok (.enter m b) w/\cT ρ c b.toList
 |.yield n c=>∃k b,ρ n=some k/\cT ρ c b.toList/\e=(Instr.yield k.b b).run C.P w
 |.recover=>e=.ok .recover w
 |.defer l=>∃i,e=.ok (.defer i) w/\acx ρ l i
variable{z:Array Value} {A:List Value} {H:Array TypeId}
section
variable{C:dR} {w0:World} {N0:Nat} {G:Nat->Prop} {ρ:Ren} {st dC:St} {w:World} {v:Value}
theorem SD(K:nQ C)(h:di w0 N0 G ρ st w){ty:TypeId}(i:cT ρ A z.toList)(f:IA C H.toList A st=some (.val v dC)):
  rh w0 N0 G ρ dC v ((Builtin.copy_ H ty z).run C.P w):=by
 obtain⟨H⟩:=H;obtain⟨z⟩:=z;unfold IA at f;split at f
 ·rename_i E r X c U src y;simp only at y i;subst y;cases i with
  |@cons _ R _ _ a i=>
  cases i with
  |@cons _ o _ _ q i=>
  cases i;split at f
  ·rename_i ap O;split at f
   ·rename_i ae Q;split at f
    ·rename_i ag m L k;split at f
     ·rename_i x e;have M:∃d j,R=.slice d c j:=by cases a<;>exact⟨_,_,rfl⟩
      obtain⟨d,j,rfl⟩:=M;have ai:(⟨E::r⟩:Array TypeId)[0]?=some E:=rfl;have ab:(⟨[.slice d c j,o]⟩:Array Value)[0]?=some (.slice d c j):=rfl;have S:(⟨[.slice d c j,o]⟩:Array Value)[1]?=some o:=rfl;have D:(Builtin.lenOf o).run C.P w=.ok m w:=by
       unfold rf at k;split at k
       ·cases k;cases q<;>rfl
       ·cases k;cases q;rename_i s;show Result.ok s.size w=_;rw[size_data]
       ·cases k
      have t:∃l,(Builtin.firstCells ag.size (agH m c) o).run C.P w=.ok l w/\cT ρ x l.toList:=by
       unfold ii at e;split at e
       ·cases e;cases q;exact⟨#[],rfl,.nil⟩
       ·rename_i b am I ar;cases q with
        |jp _ ac=>
         simp only[rf,Option.some.injEq]at k;subst k;have g:agH 0 c=0:=Nat.zero_min _;rw[g]at e⊢;refine⟨#[],by simp[Builtin.firstCells,loadCells,loadCellsFrom],?_⟩;have:=fk e;cases x with
         |nil=>exact .nil
         |cons _ _=>simp at this
        |slice p aj Y=>
         obtain⟨W,aq,an⟩:=h.read p e C.P;exact⟨W,aq,an⟩
       ·rename_i s;cases e;cases q;refine⟨_,Z,?_⟩;have:((s.extract 0 (agH m c)).data.map fun b=>(.int .u8 b.toNat:Value)).toList=ofBytes (s.data.toList.take (agH m c)):=by
         simp[ofBytes,ByteArray.data_extract,agM]
        rw[this];exact AO _ _
       ·cases e
      obtain⟨l,af,P⟩:=t;have n:∀(T:Result Value),((do
        if let some ao:=d then storeCells ao l.toList
        pure (goInt (agH m c)):Sem Value)).run C.P w=T->(Builtin.copy_ ⟨E::r⟩ ty ⟨[.slice d c j,o]⟩).run C.P w=T:=by
       intro T ad;simp only[Builtin.copy_,ai,ab,S];rw[cb _ (ed K O w)];simp only[Q];rw[cb _ D,cb _ (fO K L w),cb _ af];exact ad
      split at f
      ·obtain⟨rfl,rfl⟩:=c9 f;cases a;refine⟨ρ,.int .i64 (agz (agH m 0)),w,n _ Z,Ren.le_refl _,h,.int _ _⟩
      ·rename_i ak;obtain⟨rfl,rfl⟩:=c9 f;have ah:l.toList=[]:=by cases aa:l.toList with|nil=>rfl|cons _ _=>rw[aa]at P;cases P
       refine⟨ρ,.int .i64 (agz (agH m c)),w,n _ ?_,Ren.le_refl _,h,.int _ _⟩;rw[ah];cases d<;>rfl
      ·rename_i b am B;split at f
       ·rename_i al N;obtain⟨rfl,rfl⟩:=c9 f;have u:∃I,ρ b=some I/\d=some ⟨I.b,I.d+am,none⟩:=by
         cases a with
         |jp _ ac=>
          exfalso;have g:agH m 0=0:=Nat.min_zero _;rw[g]at e;have:x=[]:=by
           unfold ii at e;split at e
           ·cases e;rfl
           ·have:=fk e;cases x with
            |nil=>rfl
            |cons _ _=>simp at this
           ·cases e;simp[ofBytes]
           ·cases e
          exact B this
         |slice p aj Y=>exact⟨_,p,rfl⟩
        obtain⟨I,p,rfl⟩:=u;obtain⟨V,J,F,_⟩:=h.write p N P C.P;refine⟨ρ,.int .i64 (agz (agH m c)),V,n _ ?_,Ren.le_refl _,F,.int _ _⟩;simp only;rw[cb _ J];rfl
       ·cases f
      ·cases f
     ·cases f
    ·cases f
   ·cases f
  ·cases f
 ·cases f
theorem VP(q:nQ C)(t:di w0 N0 G ρ st w){ty:TypeId}(d:cT ρ A z.toList)(b:yf C H.toList A st=some (.val v dC)):
  (Builtin.len_ H ty z).run C.P w=.ok v w/\cX ρ v v/\dC=st:=by
 obtain⟨H⟩:=H;obtain⟨z⟩:=z;unfold yf at b;split at b
 ·rename_i y l E P k;simp only at k d;subst k;cases d with
  |@cons _ n _ m j d=>
  have h:(⟨y::l⟩:Array TypeId)[0]?=some y:=rfl;have e:(⟨n::m⟩:Array Value)[0]?=some n:=rfl;split at b
  ·cases b
  ·rename_i g o;have f:=ed q o w;split at b
   ·rename_i s c;obtain⟨rfl,rfl⟩:=c9 b;cases j;refine⟨?_,.int _ _,Z⟩;simp only[Builtin.len_,h,e];rw[cb _ f,c];show Result.ok (goInt s.size) w=_;rw[size_data];rfl
   ·rename_i F u c;obtain⟨rfl,rfl⟩:=c9 b;refine⟨?_,.int _ _,Z⟩;simp only[Builtin.len_,h,e];rw[cb _ f,c];rfl
   ·rename_i F u I c;obtain⟨rfl,rfl⟩:=c9 b;refine⟨?_,.int _ _,Z⟩;simp only[Builtin.len_,h,e];rw[cb _ f,c];cases j<;>rfl
   ·rename_i c;obtain⟨rfl,rfl⟩:=c9 b;refine⟨?_,.int _ _,Z⟩;simp only[Builtin.len_,h,e];rw[cb _ f,c];cases j;rfl
   ·rename_i B c;split at b
    ·rename_i a D p;obtain⟨rfl,rfl⟩:=c9 b;cases j with
     |map i=>
      obtain⟨x,u,r⟩:=t.obj _ _ _ i p;refine⟨?_,.int _ _,Z⟩;simp only[Builtin.len_,h,e];rw[cb _ f,c];simp only;rw[cb _ (xm u (by intro _ _ _ t;cases t))];have i:=r.length;simp only[Array.length_toList]at i;rw[i];rfl
    ·cases b
   ·cases b
 ·cases b
theorem IQ{P:Program}:∀{f c:List Value} {i d e:Value},cT ρ f c->cX ρ i d->nO true i f=some e->(c.foldlM Builtin.max2 d).run P w=.ok e w/\cX ρ e e:=by
 intro f;induction f with
 |nil=>
  intro c i d e hr hx h;exact abQ
 |cons r f l=>
  intro c i d e hr hx h;cases hr with
  |cons m hr=>
   unfold nO at h;split at h
   ·rename_i o;cases o
   ·rename_i k n p b q o;cases o;cases hx;cases m;simp only[zP]at h;have:=l hr (.int _ _) h;refine⟨?_,this.2⟩;rw[List.foldlM_cons];have j:(Builtin.max2 (.int k n) (.int p b)).run P w=.ok (.int k (if b>n then b else n)) w:=rfl;rw[cb _ j];simpa using this.1
   ·cases h
theorem IR{P:Program}:∀{f c:List Value} {i d e:Value},cT ρ f c->cX ρ i d->nO false i f=some e->(c.foldlM Builtin.min2 d).run P w=.ok e w/\cX ρ e e:=by
 intro f;induction f with
 |nil=>
  intro c i d e hr hx h;exact abQ
 |cons r f l=>
  intro c i d e hr hx h;cases hr with
  |cons m hr=>
   unfold nO at h;split at h
   ·rename_i o;cases o
   ·rename_i k n p b q o;cases o;cases hx;cases m;simp only[zP]at h;have:=l hr (.int _ _) h;refine⟨?_,this.2⟩;rw[List.foldlM_cons];have j:(Builtin.min2 (.int k n) (.int p b)).run P w=.ok (.int k (if b<n then b else n)) w:=rfl;rw[cb _ j];simpa using this.1
   ·cases h
end
variable{N:Result Next} {T:AR} {R:Sem Value} {B:World}
section
variable{C:dR} {w0:World} {N0:Nat} {G:Nat->Prop} {ρ:Ren} {st dC:St} {w:World} {v:Value} {ev:Operand->Option Value} {mK:Operand->Value}
theorem sn(e:oL ρ ev mK):∀{b:List Operand} {c:List Value},nf ev b=some c->cT ρ c (b.map mK):=by
 intro b;induction b with
 |nil=>intro c d;simp[nf]at d;subst d;exact .nil
 |cons j b f=>
  intro c d;simp only[nf]at d;split at d
  ·rename_i k l i h;cases d;exact .cons (e _ _ i) (f h)
  ·cases d
theorem uu(f:oL ρ ev mK):∀{b:List (Nat×Operand)} {c:List (Nat×Value)},l9 ev b=some c->AN ρ c (b.map fun(k,e)=>(k,mK e)):=by
 intro b;induction b with
 |nil=>intro c d;simp[l9]at d;subst d;exact .nil
 |cons e b h=>
  obtain⟨k,e⟩:=e;intro c d;simp only[l9]at d;split at d
  ·rename_i l m j i;cases d;exact .cons (f _ _ j) (h i)
  ·cases d
theorem rh.value{f:Result Value}(h:rh w0 N0 G ρ dC v f)(e:N=f.andThen fun i w=>.ok (Next.value i) w):AQ C w0 N0 G ρ st w (.val v dC) N:=by
 obtain⟨b,c,d,j,k⟩:=h;subst j;exact⟨b,c,d,.inl (by rw[e];rfl),k⟩
theorem rj(i:Fm C){f:FuncId}{h:FI}(j:C.ff.get f=some h)(b:Array Value):(callFunc f b).run C.P w=.ok (.enter f b) w:=by
 obtain⟨fn,d,c,_,_,e⟩:=i.fn _ _ j;unfold callFunc;rw[cb _ (show(program).run C.P w=.ok C.P w from rfl),d];simp only[e,agC,if_false,c,Option.isNone_some];rfl
theorem Ed(v:Fm C)(x:nX C){f r:Value}(y:di w0 N0 G ρ st w)(q:cX ρ f r)(e:cT ρ A z.toList)(h:lx C f A st=some T):
  AQ C w0 N0 G ρ st w T ((do let l<-Deferred.ofValue r z;invoke l.target l.args:Sem Next).run C.P w):=by
 unfold lx at h;split at h
 ·rename_i a first d
  cases q with
  |@func _ _ c _ b i n=>
  have k:cT ρ (first.toList++A++d.toList) (c++z++b).toList:=by
   simp only[agT];exact(i.append e).append n
  have m:(do let l<-Deferred.ofValue (.func (.func a) c b) z;invoke l.target l.args:Sem Next).run C.P w=(callFunc a (c++z++b)).run C.P w:=rfl;rw[m];simp only at h;split at h
  ·rename_i B s;cases h;exact⟨_,rj v s _,k⟩
  ·split at h
   ·rename_i g F;cases h;obtain⟨P,u⟩:=x _ _ _ F ρ _ w k;exact⟨ρ,g,w,.inl P,Ren.le_refl _,y,u⟩
   ·cases h
 ·rename_i E first d
  cases q with
  |@yield _ t _ c _ b D i n=>
  split at h
  ·rename_i j;cases h;rw[j]at i;have p:c= #[]:=by
    cases o:c.toList with
    |nil=>exact Array.toList_eq_nil_iff.1 o
    |cons _ _=>rw[o]at i;cases i
   subst p;refine⟨t,z,D,e,?_⟩;have:(do let l<-Deferred.ofValue (.func (.yield t.b) #[] b) z;invoke l.target l.args:Sem Next).run C.P w=(Instr.yield t.b (#[]++z)).run C.P w:=rfl;rw[this,Array.empty_append]
  ·cases h
 ·cases h
theorem Pu{f h:Value}(j:cX ρ f h)(b:cT ρ A z.toList)(i:Co f A=some T):
  AQ C w0 N0 G ρ st w T ((do pure (.defer (<-Deferred.ofValue h z)):Sem Next).run C.P w):=by
 unfold Co at i;split at i
 ·rename_i m first d
  cases i;cases j with
  |@func _ _ e _ c l k=>
  refine⟨_,Z,⟨Z,k⟩,?_⟩;simp only[agT];exact l.append b
 ·cases i
theorem zS(f:oL ρ ev mK){b:Option Operand}{l:Option Value}(d:(match b with|none=>some none|some l=>(ev l).map some)=some l):
  (l=none/\b.map mK=none)∨∃h e,l=some h/\b.map mK=some e/\cX ρ h e:=by
 cases b with
 |none=>cases d;exact .inl ⟨rfl,rfl⟩
 |some b=>
  simp only at d;cases c:ev b with
  |none=>rw[c]at d;cases d
  |some i=>rw[c]at d;cases d;exact .inr ⟨i,mK b,rfl,rfl,f _ _ c⟩
theorem ZA(C:dR)(b:Builtin)(c:List TypeId)(e:List Value)(d:AR)(h:j9 C b c e st=some d):(∃f dC,d=.val f dC)∨d=.recover:=by
 unfold j9 at h;split at h
 ·unfold o6 at h;repeat' split at h
  all_goals first|cases h;done|skip
  unfold fP at h;exact O1
 ·unfold IA at h;exact O1
 ·unfold yf at h;exact O1
 ·exact O1
 ·exact O1
 ·cases h;exact .inr rfl
 ·cases h
theorem IS(j:nQ C)(e:di w0 N0 G ρ st w){b:Builtin}{d:TypeId}{cs:Array Bool}(c:cT ρ A z.toList)(h:j9 C b H.toList A st=some T):
  AQ C w0 N0 G ρ st w T ((builtin b H d cs z).run C.P w):=by
 rcases ZA C b _ _ _ h with⟨s,n,rfl⟩|rfl
 ·unfold j9 at h;split at h
  ·exact rh.value (LB j e (ty:=d) c h) (Sem.run_bind ..)
  ·exact rh.value (SD j e (ty:=d) c h) (Sem.run_bind ..)
  ·obtain⟨i,f,rfl⟩:=VP (ty:=d) j e c h;exact rh.value (C:=C) (w:=w) (rh.same e f) (by
    show(do pure (.value (<-Builtin.len_ H d z)):Sem Next).run C.P w=_;rw[Sem.run_bind,i];rfl)
  ·split at h
   ·rename_i q p;split at h
    ·rename_i o k;obtain⟨rfl,rfl⟩:=c9 h;obtain⟨z⟩:=z;cases c with
     |cons m l=>
      obtain⟨i,f⟩:=IQ (P:=C.P) (w:=w) l m k;exact rh.value (C:=C) (w:=w) (rh.same e f) (by
       show(do pure (.value (<-List.foldlM Builtin.max2 _ _)):Sem Next).run C.P w=_;rw[Sem.run_bind,i];rfl)
    ·cases h
   ·cases h
  ·split at h
   ·rename_i q p;split at h
    ·rename_i o k;obtain⟨rfl,rfl⟩:=c9 h;obtain⟨z⟩:=z;cases c with
     |cons m l=>
      obtain⟨i,f⟩:=IR (P:=C.P) (w:=w) l m k;exact rh.value (C:=C) (w:=w) (rh.same e f) (by
       show(do pure (.value (<-List.foldlM Builtin.min2 _ _)):Sem Next).run C.P w=_;rw[Sem.run_bind,i];rfl)
    ·cases h
   ·cases h
  ·cases h
  ·cases h
 ·unfold j9 at h;split at h
  ·exfalso;rcases ZA C .append _ _ _ (by unfold j9;exact h)with⟨_,_,r⟩|_<;>first|cases r|skip
   unfold o6 at h;repeat' split at h
   all_goals first|cases h;done|skip
   unfold fP at h;exact RE
  ·exfalso;unfold IA at h;exact RE
  ·exfalso;unfold yf at h;exact RE
  ·exfalso;exact RE
  ·exfalso;exact RE
  ·rfl
  ·cases h
theorem fZ(b:di w0 N0 G ρ st w)(d:R.run C.P w=.ok M w)(c:cX ρ v M):AQ C w0 N0 G ρ st w (.val v st) ((do pure (.value (<-R)):Sem Next).run C.P w):=
 ⟨ρ,M,w,.inl (by rw[cb _ d];rfl),Ren.le_refl _,b,c⟩
theorem rI(b:rh w0 N0 G ρ dC v (R.run C.P w)):AQ C w0 N0 G ρ st w (.val v dC) ((do pure (.value (<-R)):Sem Next).run C.P w):=rh.value b (Sem.run_bind ..)
theorem Ix{d:Sem Unit}(b:d.run C.P w=.ok () B)(c:di w0 N0 G ρ dC B):AQ C w0 N0 G ρ st w (.val lr dC) ((do d;pure .skip:Sem Next).run C.P w):=
 ⟨ρ,undef,B,.inr ⟨by rw[cb _ b];rfl,rfl⟩,Ren.le_refl _,c,.tuple .nil⟩
theorem qz(hT:nQ C)(B:Fm C)(E:nX C)(hw:di w0 N0 G ρ st w)(he:oL ρ ev mK){o:Oper}(h:j8 C ev o st=some T):AQ C w0 N0 G ρ st w T ((execOp mK o).run C.P w):=by
 unfold j8 at h;split at h
 case h_1 e gT=>
  exact Zo
 case h_2 e gT=>
  exact Zo
 case h_3 p y b gT=>
  split at h
  ·rename_i f u v hc ha hb;unfold val at h;cases h;have x:=he _ _ hc;simp only[execOp,gT];cases z:mK p<;>rw[z]at x<;>cases x;cases f
   ·exact⟨ρ,_,w,.inl Z,Ren.le_refl _,hw,he _ _ hb⟩
   ·exact⟨ρ,_,w,.inl Z,Ren.le_refl _,hw,he _ _ ha⟩
  ·cases h
 case h_4 f gT=>
  have c:∃u s,T=.val u s:=by
   unfold xf val at h;repeat' split at h
   all_goals first|(cases h;done)|(cases h;exact⟨_,_,rfl⟩)
  obtain⟨u,s,rfl⟩:=c;simp only[execOp,gT];exact rI (Pd hT hw h)
 case h_5 f e gT=>
  split at h
  ·rename_i u hu;have c:∃u s,T=.val u s:=by unfold Li val at h;split at h<;>cases h;exact⟨_,_,rfl⟩
   obtain⟨u,s,rfl⟩:=c;simp only[execOp,gT];exact rI (VI hw (he _ _ hu) h)
  ·cases h
 case h_6 f ps gT=>
  split at h
  ·rename_i l r;have c:∃u s,T=.val u s:=by
    unfold xc val at h;exact tI
   obtain⟨u,s,rfl⟩:=c;simp only[execOp,gT];obtain⟨i,e1,e2,rfl⟩:=Pg (w:=w) (ps':=ps.map fun(A,e)=>(A,mK e)) hT hw (by rw[agu];exact uu he r) h;exact fZ hw e1 e2
  ·cases h
 case h_7 f ac ps gT=>
  split at h
  ·rename_i l r;have c:∃u s,T=.val u s:=by
    unfold kf val at h;exact tI
   obtain⟨u,s,rfl⟩:=c;simp only[execOp,gT];exact rI (Cs hT hw (by rw[agu];exact uu he r) h)
  ·cases h
 case h_8 f y gT=>
  split at h
  ·rename_i u hu;have c:∃u s,T=.val u s:=by
    unfold ye val at h;exact tI
   obtain⟨u,s,rfl⟩:=c;simp only[execOp,gT];obtain⟨i,e1,e2,rfl⟩:=IF hT hw (he _ _ hu) h;exact fZ hw e1 e2
  ·cases h
 case h_9 f y e gT=>
  split at h
  ·rename_i u S hu D;have c:∃u s,T=.val u s:=by
    unfold iC val at h;exact tI
   obtain⟨u,s,rfl⟩:=c;simp only[execOp,gT];obtain⟨w',e1,e2,rfl,_⟩:=Pe hT hw (he _ _ hu) (he _ _ D) h;exact Ix e1 e2
  ·cases h
 case h_10 e gT=>
  split at h
  ·rename_i u hu;have c:∃u s,T=.val u s:=by
    unfold ng val at h;exact tI
   obtain⟨u1,s,rfl⟩:=c;have d:=he _ _ hu;obtain⟨rfl,rfl,Y,aa,Q,R⟩:=Gt d h;simp only[execOp,gT];refine⟨ρ,mK e,w,.inl ?_,Ren.le_refl _,hw,d⟩;generalize mK e=H at*;rfl
  ·cases h
 case h_11 K f e H U gT=>
  split at h
  ·rename_i u v hu c;split at h
   ·rename_i O d;unfold val at h;cases h;obtain⟨e1,e2⟩:=VO (w:=w) hT (he _ _ hu) (he _ _ c) d;simp only[execOp,gT];exact fZ hw e1 e2
   ·cases h
  ·cases h
 case h_12 K f e gT=>
  split at h
  ·rename_i u hu;split at h
   ·rename_i O d;unfold val at h;cases h;obtain⟨e1,e2⟩:=aax (C:=C) (w:=w) (he _ _ hu) d;simp only[execOp,gT];exact fZ hw e1 e2
   ·cases h
  ·cases h
 case h_13 s t e gT=>
  split at h
  ·rename_i u hu;have c:∃u s,T=.val u s:=by
    unfold ig val at h;exact tI
   obtain⟨u1,s1,rfl⟩:=c;simp only[execOp,gT];exact rI (IN hT hw (he _ _ hu) h)
  ·cases h
 case h_14 f e gT=>
  split at h
  ·rename_i u hu;have c:∃u s,T=.val u s:=by
    unfold gU val at h;exact tI
   obtain⟨u1,s1,rfl⟩:=c;simp only[execOp,gT];obtain⟨e1,e2,rfl,M⟩:=yp (w:=w) hT (he _ _ hu) h;exact fZ hw e1 M
  ·cases h
 case h_15 fn y b gT=>
  split at h
  ·rename_i u v g hu c;unfold val at h;cases h;simp only[execOp,gT,Instr.makeFunc];refine⟨ρ,.func fn (y.map mK) (b.map mK),w,.inl Z,Ren.le_refl _,hw,?_⟩;cases fn<;>first|(simp[aau]at g;done)|skip
   exact .func _ (by rw[agu];exact sn he hu) (by rw[agu];exact sn he c)
  ·cases h
 case h_16 f gT=>
  unfold val at h;cases h;simp only[execOp,gT];refine⟨ρ.add st.n ⟨w.heap.size,0,0,0,true⟩,.map (some w.heap.size),{w with heap:=w.heap.push (.map #[] 0)},.inl Z,ei hw.ij,hw.new Z trivial ⟨#[],Z,tv⟩,?_⟩;exact .map (l:=⟨w.heap.size,0,0,0,true⟩) (c7 _ _ _)
 case h_17 f l p gT=>
  split at h
  ·rename_i u v hu c;have Fc:∃u s,T=.val u s:=by
    unfold jn val at h;exact tI
   obtain⟨u1,s1,rfl⟩:=Fc;simp only[execOp,gT];exact rI (Ec hT hw (he _ _ hu) (he _ _ c) h)
  ·cases h
 case h_18 f e ab X V gT=>
  split at h
  ·rename_i u l W m hu r P L;have Fc:∃u s,T=.val u s:=by
    unfold pA val at h;exact tI
   obtain⟨u1,s1,rfl⟩:=Fc;simp only[execOp,gT];obtain⟨i,e1,e2,rfl⟩:=Pt (w:=w) hT hw (he _ _ hu) (zS he r) (zS he P) (zS he L) h;exact fZ hw e1 e2
  ·cases h
 case h_19 f e F gT=>
  split at h
  ·rename_i u hu;have Fc:∃u s,T=.val u s:=by
    unfold fI val at h;exact tI
   obtain⟨u1,s1,rfl⟩:=Fc;simp only[execOp,gT];obtain⟨i,e1,e2,rfl⟩:=Ea (w:=w) hT (he _ _ hu) h;exact fZ hw e1 e2
  ·cases h
 case h_20 f e F gT=>
  split at h
  ·rename_i u hu;have Fc:∃u s,T=.val u s:=by
    unfold xh val at h;exact tI
   obtain⟨u1,s1,rfl⟩:=Fc;simp only[execOp,gT];obtain⟨i,e1,e2,rfl⟩:=Pp (w:=w) hT (he _ _ hu) h;exact fZ hw e1 e2
  ·cases h
 case h_21 f e A gT=>
  split at h
  ·rename_i u v hu c;have Fc:∃u s,T=.val u s:=by
    unfold gv val at h;exact tI
   obtain⟨u1,s1,rfl⟩:=Fc;simp only[execOp,gT];obtain⟨i,e1,e2,rfl⟩:=Eb (w:=w) hT (he _ _ hu) (he _ _ c) h;exact fZ hw e1 e2
  ·cases h
 case h_22 f e A gT=>
  split at h
  ·rename_i u v hu c;have Fc:∃u s,T=.val u s:=by
    unfold ue val at h;exact tI
   obtain⟨u1,s1,rfl⟩:=Fc;simp only[execOp,gT];obtain⟨i,e1,e2,rfl⟩:=Pq (w:=w) hT (he _ _ hu) (he _ _ c) h;exact fZ hw e1 e2
  ·cases h
 case h_23 f e A I gT=>
  split at h
  ·rename_i u v hu c;have Fc:∃u s,T=.val u s:=by
    unfold qs val at h;exact tI
   obtain⟨u1,s1,rfl⟩:=Fc;simp only[execOp,gT];obtain⟨i,e1,e2,rfl⟩:=LC (w:=w) hT hw (he _ _ hu) (he _ _ c) h;exact fZ hw e1 e2
  ·cases h
 case h_24 f m k H gT=>
  split at h
  ·rename_i y b p ha hb hc;have Fc:∃u s,T=.val u s:=by
    unfold jo val at h;exact tI
   exact Y8
  ·cases h
 case h_25 f m k H gT=>
  split at h
  ·rename_i y b p ha hb hc;have Fc:∃u s,T=.val u s:=by
    unfold jo val at h;exact tI
   exact Y8
  ·cases h
 case h_26 e a f I gT=>
  split at h
  ·rename_i u hu;have Fc:∃u s,T=.val u s:=by
    unfold jg val at h;exact tI
   obtain⟨u1,s1,rfl⟩:=Fc;simp only[execOp,gT];obtain⟨i,e1,e2,rfl⟩:=Cv (w:=w) (xt:=a) hT (he _ _ hu) h;exact fZ hw e1 e2
  ·cases h
 case h_27 e A gT=>
  split at h
  ·rename_i u hu;have Fc:∃u s,T=.val u s:=by
    unfold pB val at h;exact tI
   obtain⟨u1,s1,rfl⟩:=Fc;simp only[execOp,gT];obtain⟨i,e1,e2,rfl⟩:=IL (C:=C) (w:=w) (he _ _ hu) h;exact fZ hw e1 e2
  ·cases h
 case h_28 p gT=>
  split at h
  ·cases h
  ·rename_i q n;have j:cT ρ q (p.args.map mK).toList:=by rw[agu];exact sn he n
   simp only[execOp,gT];split at h
   ·rename_i b hc;have:(do let t<-resolve mK p o.type;invoke t.target t.args:Sem Next).run C.P w=(builtin b p.argTypes o.type (p.args.map fun|.const _=>true|_=>false) (p.args.map mK)).run C.P w:=by
     unfold resolve;rw[hc];rfl
    rw[this];exact IS hT hw j h
   ·rename_i F hc;split at h
    ·rename_i u hu;have:(do let t<-resolve mK p o.type;invoke t.target t.args:Sem Next)=(do let t<-Deferred.ofValue (mK F) (p.args.map mK);invoke t.target t.args:Sem Next):=by
      unfold resolve;rw[hc]
     rw[this];exact Ed B E hw (he _ _ hu) j h
    ·cases h
   ·cases h
 case h_29 p gT=>
  split at h
  ·rename_i q F n hc;split at h
   ·rename_i u hu;have j:cT ρ q (p.args.map mK).toList:=by rw[agu];exact sn he n
    simp only[execOp,gT];have:(do pure (.defer (<-resolve mK p o.type)):Sem Next)=(do pure (.defer (<-Deferred.ofValue (mK F) (p.args.map mK))):Sem Next):=by
     unfold resolve;rw[hc]
    rw[this];exact Pu (he _ _ hu) j h
   ·cases h
  ·cases h
 case h_30 e gT=>
  split at h
  ·rename_i f u hu;cases h;have d:=he _ _ hu;simp only[execOp,gT];cases J:mK e<;>rw[J]at d<;>cases d;rename_i d;exact⟨Z,_,Z,.iface _ d⟩
  ·cases h
 case h_31=>cases h
end
structure FB where
 fn:FuncId
 kind:CallKind
 round:Option Nat
def eg(b:FB)(tm:Array Value)(df:List Deferred)(todo:List Item):Frame:=
 {fn:=b.fn,tmps:=tm,todo,defers:=df,mode:=.run,kind:=b.kind,roundOf:=b.round}
def D0(tm:Array Value):Operand->Value
 |.tmp d=>tm.getD d undef
 |.const v=>v
 |.global b=>.pointer (some ⟨b,0,none⟩)
 |.func c=>.func (.func c) #[] #[]
theorem Cx(b:FB)(tm:Array Value)(df:List Deferred)(c:List Item):(eg b tm df c).eval=D0 tm:=by
 funext d;cases d<;>rfl
variable{X:Code} {S:List Item} {g:List Nat} {J:List Frame}
section
variable{P:Program} {b:FB} {tm:Array Value} {df:List Deferred} {k:List Item} {cs:List Frame} {w:World}
theorem VT:step P (lone (eg b tm df (.code .skip::k)) cs w)=.next (lone (eg b tm df k) cs w):=
 step_lone_go (by simp[stepG,stepG.exec,eg])
theorem LF{id:Nat}:step P (lone (eg b tm df (.inBlock id::k)) cs w)=.next (lone (eg b tm df k) cs w):=
 step_lone_go (by simp[stepG,stepG.exec,eg])
theorem aay{x y:Code}:step P (lone (eg b tm df (.code (.seq x y)::k)) cs w)=.next (lone (eg b tm df (.code x:: .code y::k)) cs w):=
 step_lone_go (by simp[stepG,stepG.exec,eg])
theorem NU{c:Operand}{d:Code}{t:Bool}(e:D0 tm c=.bool t):
  step P (lone (eg b tm df (.code (.cond c X d)::k)) cs w)=.next (lone (eg b tm df (.code (if t then X else d)::k)) cs w):=
 step_lone_go (by
  have:=congrFun (Cx b tm df (.code (.cond c X d)::k)) c;simp only[eg]at this;simp[stepG,stepG.exec,eg,this,e])
theorem SE{id:Nat}{c:Code}:step P (lone (eg b tm df (.code (.block id c)::k)) cs w)=.next (lone (eg b tm df (.code c:: .inBlock id::k)) cs w):=
 step_lone_go (by simp[stepG,stepG.exec,eg])
theorem NV{c:Code}:step P (lone (eg b tm df (.code (.loop c)::k)) cs w)=.next (lone (eg b tm df (.code c:: .inLoop c::k)) cs w):=
 step_lone_go (by simp[stepG,stepG.exec,eg])
theorem Pv{c:Code}:step P (lone (eg b tm df (.inLoop c::k)) cs w)=.next (lone (eg b tm df (.code c:: .inLoop c::k)) cs w):=
 step_lone_go (by simp[stepG,stepG.exec,eg])
theorem VU{id:Nat}(c:exitTo id k=some S):step P (lone (eg b tm df (.code (.exit id)::k)) cs w)=.next (lone (eg b tm df S) cs w):=
 step_lone_go (by simp[stepG,stepG.exec,eg,c])
theorem aaz(c:b.round=none):step P (lone (eg b tm df (.code .ret::k)) cs w)=.next (lone {eg b tm df (.code .ret::k)with mode:=.returning} cs w):=
 step_lone_go (by simp[stepG,stepG.exec,eg,c])
theorem aaA(c:b.round=none):step P (lone (eg b tm df []) cs w)=.next (lone {eg b tm df []with mode:=.returning} cs w):=
 step_lone_go (by simp[stepG,stepG.exec,eg,c])
theorem Pw{id:Nat}{ops:Array Oper}:step P (lone (eg b tm df (.code (.region id ops false)::k)) cs w)=.next (lone (eg b tm df (.inRegion ops (agx ops.size)::k)) cs w):=
 step_lone_go (by simp[stepG,stepG.exec,eg])
theorem Cy{id:Nat}{ops:Array Oper}:step P (lone (eg b tm df (.code (.region id ops true)::k)) cs w)=
   .next (lone (eg b tm df (.inRegion ops (Region.schedule (P.follows .mixedOrders) ops (w.tape w.drawn (.order b.fn id)))::k)) cs {w with drawn:=w.drawn+1}):=
 step_lone_go (by simp[stepG,stepG.exec,eg,choose,Sem.run,Question.forced,Question.cut])
theorem re{ops:Array Oper}:step P (lone (eg b tm df (.inRegion ops []::k)) cs w)=.next (lone (eg b tm df k) cs w):=
 step_lone_go (by simp[stepG,stepG.exec,eg])
def ni(tm:Array Value)(b:Option Tmp)(v:Value):Array Value:=
 match b with
 |some c=>tm.setIfInBounds c v
 |none=>tm
theorem ly{ops:Array Oper}{o:Oper}(d:ops[a]?=some o)(v:Value):
  (eg b tm df (.inRegion ops (a::g)::k)).finish v=eg b (ni tm o.dst v) df (.inRegion ops g::k):=by
 cases c:o.dst<;>simp[Frame.finish,eg,ni,d,c]
theorem AS{ops:Array Oper}{o:Oper}(c:ops[a]?=some o)(d:Region.wanted o (yielded ops tm)=false):
  step P (lone (eg b tm df (.inRegion ops (a::g)::k)) cs w)=.next (lone (eg b (ni tm o.dst undef) df (.inRegion ops g::k)) cs w):=by
 rw[<-ly c];exact step_lone_go (by
  simp only[eg];simp[stepG,stepG.exec,c,d])
theorem mW{ops:Array Oper}{o:Oper}(l:ops[a]?=some o)(j:Region.wanted o (yielded ops tm)=true)(i:b.round=none∨∀e,o.op≠.defer e):
  stepG P true {frame:=eg b tm df (.inRegion ops (a::g)::k),callers:=cs,status:=.running,dying:=none} w=
   stepG.apply P true (eg b tm df (.inRegion ops (a::g)::k)) cs none (execOp (D0 tm) o) w:=by
 have d:=Cx b tm df (.inRegion ops (a::g)::k);simp only[eg]at d;have f:(match b.round,o.op with
   |some n,.defer e=>stepG.apply P true (eg b tm df (.inRegion ops (a::g)::k)) cs none (do Instr.deferInRound n (<-resolve (D0 tm) e o.type);pure .skip) w
   |_,_=>stepG.apply P true (eg b tm df (.inRegion ops (a::g)::k)) cs none (execOp (D0 tm) o) w)=stepG.apply P true (eg b tm df (.inRegion ops (a::g)::k)) cs none (execOp (D0 tm) o) w:=by
  split
  ·rename_i n e c m;rcases i with h|h
   ·rw[h]at c;cases c
   ·exact absurd m (h e)
  ·rfl
 rw[<-f];simp[stepG,stepG.exec,stepG.oper,Frame.oper?,eg,l,j,d];rfl
theorem yq{ops:Array Oper}{o:Oper}(c:ops[a]?=some o)(f:Region.wanted o (yielded ops tm)=true)(e:b.round=none∨∀h,o.op≠.defer h){v:Value} 
  (d:(execOp (D0 tm) o).run P w=.ok (.value v) B∨((execOp (D0 tm) o).run P w=.ok .skip B/\v=undef)):
  step P (lone (eg b tm df (.inRegion ops (a::g)::k)) cs w)=.next (lone (eg b (ni tm o.dst v) df (.inRegion ops g::k)) cs B):=by
 rw[<-ly c];refine step_lone_go ?_;rw[mW c f e];rcases d with d|⟨d,rfl⟩
 ·simp[stepG.apply,d]
 ·simp[stepG.apply,d]
theorem SF{ops:Array Oper}{rest:List Nat}{o:Oper}(e:ops[a]?=some o)(d:Region.wanted o (yielded ops tm)=true)(c:b.round=none∨∀i,o.op≠.defer i){f:FuncId} 
  (h:(execOp (D0 tm) o).run P w=.ok (.enter f z) B):
  step P (lone (eg b tm df (.inRegion ops (a::rest)::k)) cs w)=.next (lone (Frame.enter P f z .normal) (eg b tm df (.inRegion ops (a::rest)::k)::cs) B):=by
 refine step_lone_go ?_;rw[mW e d c];simp[stepG.apply,h,eg]
theorem IT{ops:Array Oper}{o:Oper}(h:ops[a]?=some o)(e:Region.wanted o (yielded ops tm)=true)(d:b.round=none∨∀j,o.op≠.defer j){l:Nat}{f:FuncId}{c:Code} 
  (i:(execOp (D0 tm) o).run P w=.ok (.round l f z X c) B):
  step P (lone (eg b tm df (.inRegion ops (a::g)::k)) cs w)=.next (lone (Frame.round l f z X c .normal) (eg b tm df (.inRegion ops (a::g)::k)::cs) B):=by
 refine step_lone_go ?_;rw[mW h e d];simp[stepG.apply,i]
theorem SG{ops:Array Oper}{o:Oper}(c:ops[a]?=some o)(e:Region.wanted o (yielded ops tm)=true)(d:b.round=none){f:Deferred} 
  (h:(execOp (D0 tm) o).run P w=.ok (.defer f) B):
  step P (lone (eg b tm df (.inRegion ops (a::g)::k)) cs w)=.next (lone (eg b (ni tm o.dst undef) (f::df) (.inRegion ops g::k)) cs B):=by
 rw[<-ly (df:=f::df) c];refine step_lone_go ?_;rw[mW c e (.inl d)];simp[stepG.apply,h,eg]
theorem SH{ops:Array Oper}{o:Oper}(e:ops[a]?=some o)(d:Region.wanted o (yielded ops tm)=true)(c:b.round=none∨∀h,o.op≠.defer h){v:Value} 
  (f:(execOp (D0 tm) o).run P w=.halt (.panic v) B):
  step P (lone (eg b tm df (.inRegion ops (a::g)::k)) cs w)=.next (lone {eg b tm df (.inRegion ops (a::g)::k)with mode:=.panicking [{v,recovered:=false}]} cs B):=by
 refine step_lone_go ?_;rw[mW e d c];simp[stepG.apply,f,eg,Frame.raise]
def yr:List Frame->List Frame
 |[]=>[]
 |c::d=>(match c.mode with
  |.panicking ({v,recovered:=false,goexit:=false}::b)=>{c with mode:=.panicking ({v,recovered:=true}::b)}
  |_=>c)::d
theorem Bs{ops:Array Oper}{i:Nat}{rest:List Nat}{o:Oper}(ho:ops[i]?=some o)(hw:Region.wanted o (yielded ops tm)=true)(hd:b.round=none) 
  (h:(execOp (D0 tm) o).run P w=.ok .recover B) (hn:tryRecover (eg b tm df (.inRegion ops (i::rest)::k)) cs=none):
  step P (lone (eg b tm df (.inRegion ops (i::rest)::k)) cs w)=.next (lone (eg b (ni tm o.dst .nilIface) df (.inRegion ops rest::k)) cs B):=by
 rw[<-ly ho];exact Zi
theorem Bt{ops:Array Oper}{i:Nat}{rest:List Nat}{o:Oper}(ho:ops[i]?=some o)(hw:Region.wanted o (yielded ops tm)=true)(hd:b.round=none){v:Value} 
  (h:(execOp (D0 tm) o).run P w=.ok .recover B) (hn:tryRecover (eg b tm df (.inRegion ops (i::rest)::k)) cs=some (v,J)):
  step P (lone (eg b tm df (.inRegion ops (i::rest)::k)) cs w)=.next (lone (eg b (ni tm o.dst v) df (.inRegion ops rest::k)) J B):=by
 rw[<-ly ho];exact Zi
end
def Cz(ρ:Ren):List Deferred->List Deferred->Prop
 |[],[]=>True
 |d::e,c::b=>acx ρ d c/\Cz ρ e b
 |_,_=>False
def Gy(ρ:Ren)(e:Option Nat)(b:FB):Prop:=
 match e with
 |none=>b.round=none
 |some d=>∃c,ρ d=some c/\b.round=some c.b
def kindOf(b:Bool):CallKind:=if b then .deferred else .normal
structure lz (ρ:Ren) (fc:FC) (fr:Fr) (b:FB) (tm:Array Value) (df:List Deferred):Prop where
 fn:b.fn=fc.fn
 round:Gy ρ fc.round b
 kind:b.kind=kindOf fc.DZ
 tm:gB ρ fc.nt fr.tm tm
 df:Cz ρ fr.df df
def uv(ρ:Ren)(d:Bool)(ps:dW)(cs:List Frame):Prop:=
 match d,ps with
 |false,_=>True
 |true,.none=>∃c e,cs=c::e/\c.mode=.returning
 |true,.gg v=>∃c e b,cs=c::e/\c.mode=.panicking [{v:=b,recovered:=false}]/\cX ρ v b
 |true,.rD=>∃c e b,cs=c::e/\c.mode=.panicking [{v:=b,recovered:=true}]
def pH(ps c:dW)(cs b:List Frame):Prop:=
 (c=ps/\b=cs)∨(∃v,ps=.gg v/\c=.rD/\b=yr cs)
theorem pH.refl(ps:dW)(cs:List Frame):pH ps ps cs cs:=.inl ⟨rfl,rfl⟩
theorem pH.trans{f b c:dW}{d e:List Frame}(h:pH f b J d)(k:pH b c d e):pH f c J e:=by
 rcases h with⟨rfl,rfl⟩|⟨v,rfl,rfl,rfl⟩
 ·exact k
 ·rcases k with⟨rfl,rfl⟩|⟨i,j,_,_⟩
  ·exact .inr ⟨v,Z,Z,Z⟩
  ·cases j
theorem uv.step{ρ:Ren}{ps c:dW}{cs b:List Frame}(f:uv ρ L ps cs)(k:pH ps c cs b):uv ρ L c b:=by
 rcases k with⟨rfl,rfl⟩|⟨v,rfl,rfl,rfl⟩
 ·exact f
 ·cases L with
  |false=>trivial
  |true=>
   obtain⟨i,h,d,rfl,e,_⟩:=f;exact⟨{i with mode:=.panicking [{v:=d,recovered:=true}]},h,d,by simp[yr,e],Z⟩
theorem uv.mono{ρ c:Ren}(d:ρ.le c){b:Bool}{ps:dW}{cs:List Frame}(f:uv ρ b ps cs):uv c b ps cs:=by
 cases b with
 |false=>trivial
 |true=>
  cases ps with
  |none=>exact f
  |gg v=>obtain⟨k,j,h,l,e,i⟩:=f;exact⟨k,j,h,l,e,i.mono d⟩
  |rD=>exact f
theorem IP.mono{ρ b:Ren}(c:ρ.le b){t e:Target}(d:IP ρ t e):IP b t e:=by
 unfold IP at d⊢;split at d
 ·obtain⟨i,h,f⟩:=d;exact⟨i,c _ _ h,f⟩
 ·exact⟨d.1,d.2.mono c⟩
 ·exact d.elim
theorem Cz.mono{ρ d:Ren}(c:ρ.le d):∀{f b:List Deferred},Cz ρ f b->Cz d f b
 |[],[],_=>trivial
 |_::_,_::_,⟨e,h⟩=>⟨⟨e.target.mono c,e.args.mono c⟩,Cz.mono c h⟩
 |[],_::_,k=>k.elim
 |_::_,[],k=>k.elim
theorem Gy.mono{ρ c:Ren}(d:ρ.le c){e:Option Nat}{b:FB}(f:Gy ρ e b):Gy c e b:=by
 cases e with
 |none=>exact f
 |some j=>obtain⟨h,i,k⟩:=f;exact⟨h,d _ _ i,k⟩
theorem lz.mono{ρ d:Ren}(c:ρ.le d){fc:FC}{fr:Fr}{b:FB}{tm:Array Value}{df:List Deferred}(e:lz ρ fc fr b tm df):lz d fc fr b tm df:=
 ⟨e.fn,e.round.mono c,e.kind,e.tm.mono c,e.df.mono c⟩
def Gz(P:Program)(m:Machine)(ρ:Ren)(b:FB)(k:List Item)(tm:Array Value)(df:List Deferred)(cs:List Frame)(w:World):Ex->Prop
 |.norm=>Steps P m (lone (eg b tm df k) cs w)
 |.exit id=>∃c,Steps P m (lone (eg b tm df (.code (.exit id)::c)) cs w)/\exitTo id c=exitTo id k
 |.ret=>∃c,Steps P m (lone (eg b tm df (.code .ret::c)) cs w)
 |.panic v=>∃c d,cX ρ v d/\Steps P m (lone {eg b tm df c with mode:=.panicking [{v:=d,recovered:=false}]} cs w)
theorem Gz.of_steps{P:Program}{m d:Machine}{ρ:Ren}{b:FB}{k:List Item}{tm:Array Value}{df:List Deferred}{cs:List Frame}{w:World}{h:Ex}(e:Steps P m d)(f:Gz P d ρ b k tm df cs w h):Gz P m ρ b k tm df cs w h:=by
 cases h with
 |norm=>exact e.trans f
 |exit id=>obtain⟨c,s,l⟩:=f;exact⟨c,e.trans s,l⟩
 |ret=>obtain⟨c,s⟩:=f;exact⟨c,e.trans s⟩
 |panic v=>obtain⟨c,i,j,s⟩:=f;exact⟨c,i,j,e.trans s⟩
section
variable(C:dR) (w0:World) (N0:Nat) (G:Nat->Prop)
def j4(ρ:Ren)(fc:FC)(m:Machine)(b:FB)(k:List Item)(ps:dW)(cs:List Frame)(l:Ex)(j:Fr)(i:dW)(dC:St):Prop:=
 ∃c h f d e,ρ.le c/\di w0 N0 G c dC h/\lz c fc j b f d/\pH ps i cs e/\Gz C.P m c b k f d e h l
def BT(ρ:Ren)(f:FuncId)(e:Array Value)(i:Bool)(ps:dW)(k:CR)(j:dW)(dC:St)(cs:List Frame)(w:World):Prop:=
 ∃b d F h,ρ.le b/\di w0 N0 G b dC d/\pH ps j cs h/\Steps C.P (lone (Frame.enter C.P f e (kindOf i)) cs w) (lone F h d)/\F.fn=f/\F.defers=[]/\F.kind=kindOf i/\(∃fn,C.P.funcs[f]?=some fn/\
  match k with
  |.ret v=>F.mode=.returning/\∃c,(results fn F.tmps).run C.P d=.ok c d/\cX b v c
  |.eH v=>∃c,F.mode=.panicking [{v:=c,recovered:=false}]/\cX b v c)
def IU(ρ:Ren)(j:Loc)(h:Array Value)(l:CR)(dC:St)(w:World):Prop:=
 ∃fn d b c,(Instr.yield j.b h).run C.P w=.ok (.round j.b fn d b c) w/\∀(k:Frame) (cs:List Frame),∃e i,ρ.le e/\di w0 N0 G e dC i/\
  match l with
  |.ret v=>∃f,cX e v f/\Steps C.P (lone (Frame.round j.b fn d b c .normal) (k::cs) w) (lone (k.finish f) cs i)
  |.eH v=>∃f,cX e v f/\Steps C.P (lone (Frame.round j.b fn d b c .normal) (k::cs) w) (lone (k.raise [{v:=f,recovered:=false}]) cs i)
structure wH (rc:Rec):Prop where
 code:∀fc c fr ps st x fr' ps' dC,rc.code fc c fr ps st=some (x,fr',ps',dC)->codeOk c=true->∀ρ w b tm df cs k,di w0 N0 G ρ st w->lz ρ fc fr b tm df->uv ρ fc.DZ ps cs->
  j4 C w0 N0 G ρ fc (lone (eg b tm df (.code c::k)) cs w) b k ps cs x fr' ps' dC
 call:∀f args DZ ps st cr ps' dC,rc.call f args DZ ps st=some (cr,ps',dC)->∀ρ w IV cs,di w0 N0 G ρ st w->cT ρ args IV.toList->uv ρ DZ ps cs->
  BT C w0 N0 G ρ f IV DZ ps cr ps' dC cs w
 round:∀l args st cr dC,rc.round l args st=some (cr,dC)->∀ρ w L IV,di w0 N0 G ρ st w->ρ l=some L->cT ρ args IV.toList->IU C w0 N0 G ρ L IV cr dC w
end
variable{K:Option Tmp} {Q:AK} {U:dW}
section
variable{C:dR} {w0:World} {N0:Nat} {G:Nat->Prop} {ρ:Ren} {fc:FC} {fr:Fr} {ps:dW} {st:St} {b:FB} {tm:Array Value} {df:List Deferred} {cs:List Frame} {w:World}
theorem gB.get{t:Tr Value}(e:gB ρ a t tm){i:Nat}{v:Value}(b:t.get i=some v):cX ρ v (tm.getD i undef):=by
 obtain⟨c,f,d⟩:=e.2 _ _ b;have:tm.getD i undef=c:=by simp[agq,f]
 rw[this];exact d
theorem Ee{v:Value}(b:rG v=true)(ρ:Ren):cX ρ v v:=by
 unfold rG at b;split at b
 ·exact .agg (jI b ρ)
 ·exact uo b ρ
theorem pI(f:gB ρ a fr.tm tm):oL ρ (jy fr) (D0 tm):=by
 intro d v b;cases d with
 |tmp j=>exact f.get b
 |const h=>
  simp only[jy]at b;split at b
  ·rename_i c;cases b;exact Ee c ρ
  ·cases b
 |global i=>cases b
 |func e=>cases b;exact .func e .nil .nil
theorem dy{nt:Nat}{dst:Option Tmp}{v v':Value}{fr':Fr}(f:gB ρ nt fr.tm tm)(h:cX ρ v v')(b:gV nt fr dst v=some fr'):gB ρ nt fr'.tm (ni tm dst v')/\fr'.df=fr.df:=by
 unfold gV at b;split at b
 ·cases b;exact⟨f,rfl⟩
 ·rename_i k;split at b
  ·rename_i c;cases b;have c:=agF.mp c;refine⟨⟨by simp[ni,f.1],fun m n d=>?_⟩,Z⟩;rw[cB]at d;by_cases e:m=k
   ·subst e;rw[if_pos rfl]at d;cases d;exact⟨v',by simp only[ni];rw[ags (by rw[f.1];exact c)],h⟩
   ·rw[if_neg e]at d;obtain⟨j,i,l⟩:=f.2 _ _ d;exact⟨j,by simp only[ni];rw[agv (fun i=>e i.symm)];exact i,l⟩
  ·cases b
theorem xe{ops:Array Oper}{o:Oper}(p:gB ρ a fr.tm tm)(c:gC ops.toList fr o=some L):Region.wanted o (yielded ops tm)=L:=by
 unfold gC at c;unfold Region.wanted;split at c
 ·rename_i f;cases c;rw[f]
 ·rename_i r d f;rw[f];split at c
  ·cases c
  ·rename_i t i;rw[ck,agm]at i;split at c
   ·cases c
   ·rename_i q j;have l:yielded ops tm r=(match tm[q]? with|some (.bool b)=>some b|_=>none):=by
     unfold yielded;rw[i];simp only[Option.bind_some,j];rfl
    simp only[l];split at c
    ·rename_i m e;cases c;obtain⟨k,n,h⟩:=p.2 _ _ e;cases h;rw[n];cases m<;>cases d<;>rfl
    ·rename_i s e;cases c;obtain⟨k,n,h⟩:=p.2 _ _ e;cases h;rw[n];rfl
    ·cases c
def ZB(C:dR)(w0:World)(N0:Nat)(G:Nat->Prop)(ρ:Ren)(fc:FC)(m:Machine)(b:FB)(tm:Array Value)(df:List Deferred)(ops:Array Oper)(p:Nat)(f:List Nat)(k:List Item)(ps:dW)(cs:List Frame)(o:AK):Prop:=
 match o with
 |.next n e dC=>∃c d j h i,ρ.le c/\di w0 N0 G c dC d/\lz c fc n b j h/\pH ps e cs i/\Steps C.P m (lone (eg b j h (.inRegion ops f::k)) i d)
 |.eH v _ e dC=>e=ps/\∃c d l,ρ.le c/\di w0 N0 G c dC d/\cX c v l/\Steps C.P m (lone {eg b tm df (.inRegion ops (p::f)::k)with mode:=.panicking [{v:=l,recovered:=false}]} cs d)
theorem ys{v:Value}(c:AK.go a fr K v ps st=some Q):∃b,gV a fr K v=some b/\Q=.next b ps st:=by
 unfold AK.go at c;split at c
 ·rename_i b d;cases c;exact⟨b,d,rfl⟩
 ·cases c
theorem nj(b:pH .none U cs J):U=.none/\J=cs:=by
 rcases b with b|⟨v,c,_⟩
 ·exact b
 ·cases c
theorem im{C:dR}{ev:Operand->Option Value}{o:Oper}(b:j8 C ev o st=some T)(c:∀e,T≠.defer e):∀d,o.op≠.defer d:=by
 intro d f;unfold j8 at b;rw[f]at b;simp only at b;split at b
 ·split at b
  ·unfold Co at b;split at b
   ·cases b;exact c _ rfl
   ·cases b
  ·cases b
 ·cases b
theorem IW(i:lz ρ fc fr b tm df)(e:uv ρ fc.DZ ps cs)(h:∀v,fc.DZ=true->ps=.gg v->False):tryRecover (eg b tm df S) cs=none:=by
 cases d:fc.DZ with
 |false=>
  have c:b.kind=.normal:=by rw[i.kind,d];rfl
  simp[tryRecover,eg,c]
 |true=>
  have c:b.kind=.deferred:=by rw[i.kind,d];rfl
  rw[d]at e;cases ps with
  |none=>
   obtain⟨l,j,rfl,f⟩:=e;simp[tryRecover,eg,c,f]
  |gg v=>exact(h v d rfl).elim
  |rD=>
   obtain⟨l,j,k,rfl,f⟩:=e;simp[tryRecover,eg,c,f]
theorem IX(M:nQ C)(N:Fm C)(O:nX C){rc:Rec}(aa:wH C w0 N0 G rc){o:Oper}(A:nT C rc fc o fr ps st=some Q)(p:di w0 N0 G ρ st w)(c:lz ρ fc fr b tm df)(ae:uv ρ fc.DZ ps cs) 
  {ops:Array Oper} (i:List Nat) (k:List Item) (z:ops[a]?=some o) (e:Region.wanted o (yielded ops tm)=true):
  ZB C w0 N0 G ρ fc (lone (eg b tm df (.inRegion ops (a::i)::k)) cs w) b tm df ops a i k ps cs Q:=by
 unfold nT at A;have B:=pI c.tm;split at A
 ·cases A
 ·rename_i v dC j;obtain⟨H,x,rfl⟩:=ys A;obtain⟨n,m,g,l,s⟩:=qz M N O p B j;obtain⟨u,E⟩:=dy (c.tm.mono s.le) s.value x;refine⟨n,g,ni tm o.dst m,df,cs,s.le,s.world,⟨c.fn,c.round.mono s.le,c.kind,u,by rw[E];exact c.df.mono s.le⟩,.refl _ _,.one ?_⟩;exact yq z e (.inr (im j (by intro ah Y;cases Y))) l
 ·rename_i v dC j;cases A;obtain⟨rfl,m,l,y⟩:=qz M N O p B j;exact⟨Z,ρ,w,m,Ren.le_refl _,p,y,.one (SH z e (.inr (im j (by intro ah Y;cases Y))) l)⟩
 ·rename_i au ab j;obtain⟨r,l,q⟩:=qz M N O p B j;have R:=SF (P:=C.P) (b:=b) (df:=df) (k:=k) (cs:=cs) (rest:=i) z e (.inr (im j (by intro ah Y;cases Y))) l;split at A
  ·rename_i v an dC J;obtain⟨H,x,rfl⟩:=ys A;obtain⟨n,g,F,al,f,t,U,d,W,E,aj,fn,I,V,m,af,y⟩:=aa.call _ _ _ _ _ _ _ _ J ρ w r (eg b tm df (.inRegion ops (a::i)::k)::cs) p q trivial;obtain⟨_,rfl⟩:=nj U;obtain⟨u,h⟩:=dy (c.tm.mono f) y x;refine⟨n,g,ni tm o.dst m,df,cs,f,t,⟨c.fn,c.round.mono f,c.kind,u,by rw[h];exact c.df.mono f⟩,.refl _ _,?_⟩;refine .head R (d.trans (.one ?_));rw[<-ly z];exact step_leave_returned ⟨V,E,aj,fn,by rw[W];exact I,af⟩
  ·rename_i v an dC J;cases A;obtain⟨n,g,F,al,f,t,U,d,W,E,aj,fn,I,m,V,y⟩:=aa.call _ _ _ _ _ _ _ _ J ρ w r (eg b tm df (.inRegion ops (a::i)::k)::cs) p q trivial;obtain⟨_,rfl⟩:=nj U;refine⟨Z,n,g,m,f,t,y,.head R (d.trans (.one ?_))⟩;have:=step_leave_panicked (P:=C.P) (c:=eg b tm df (.inRegion ops (a::i)::k)) (cs:=cs) (w:=g) (fr:=F) ⟨V,E,fn,by rw[W];exact I⟩;rw[this];rfl
  ·cases A
 ·rename_i av ab j;obtain⟨aq,r,ak,q,l⟩:=qz M N O p B j;split at A
  ·rename_i v dC J;obtain⟨H,x,rfl⟩:=ys A;obtain⟨fn,ad,S,ac,ag,d⟩:=aa.round _ _ _ _ _ J ρ w aq r p ak q;rw[ag]at l;obtain⟨n,g,f,t,m,y,L⟩:=d (eg b tm df (.inRegion ops (a::i)::k)) cs;obtain⟨u,h⟩:=dy (c.tm.mono f) y x;refine⟨n,g,ni tm o.dst m,df,cs,f,t,⟨c.fn,c.round.mono f,c.kind,u,by rw[h];exact c.df.mono f⟩,.refl _ _,?_⟩;refine .head (IT z e (.inr (im j (by intro ah Y;cases Y))) l) ?_;rw[ly z]at L;exact L
  ·rename_i v dC J;cases A;obtain⟨fn,ad,S,ac,ag,d⟩:=aa.round _ _ _ _ _ J ρ w aq r p ak q;rw[ag]at l;obtain⟨n,g,f,t,m,y,L⟩:=d (eg b tm df (.inRegion ops (a::i)::k)) cs;exact⟨Z,n,g,m,f,t,y,.head (IT z e (.inr (im j (by intro ah Y;cases Y))) l) L⟩
  ·cases A
 ·rename_i j;have l:(execOp (D0 tm) o).run C.P w=.ok .recover w:=qz M N O p B j;split at A
  ·cases A
  ·rename_i D;have K:b.round=none:=by have:=c.round;rw[D]at this;exact this
   split at A
   ·rename_i v T;obtain⟨H,x,rfl⟩:=ys A;rw[T]at ae;obtain⟨ar,am,m,rfl,V,y⟩:=ae;obtain⟨u,h⟩:=dy c.tm y x;have X:b.kind=.deferred:=by rw[c.kind,T];rfl
    refine⟨ρ,w,ni tm o.dst m,df,yr (ar::am),Ren.le_refl _,p,⟨c.fn,c.round,c.kind,u,by rw[h];exact c.df⟩,.inr ⟨v,Z,Z,Z⟩,.one ?_⟩;refine Bt z e K l ?_;simp[tryRecover,eg,X,V,yr]
   ·rename_i ai;obtain⟨H,x,rfl⟩:=ys A;obtain⟨u,h⟩:=dy c.tm .nilIface x;refine⟨ρ,w,ni tm o.dst .nilIface,df,cs,Ren.le_refl _,p,⟨c.fn,c.round,c.kind,u,by rw[h];exact c.df⟩,.refl _ _,.one ?_⟩;refine Bs z e K l ?_;exact IW c ae ai
 ·rename_i ah j;obtain⟨ap,l,ao⟩:=qz M N O p B j;split at A
  ·cases A
  ·rename_i D;have K:b.round=none:=by have:=c.round;rw[D]at this;exact this
   obtain⟨H,x,rfl⟩:=ys A;obtain⟨u,h⟩:=dy (fr:={fr with df:=ah::fr.df}) (v':=undef) c.tm (.tuple .nil) x;refine⟨ρ,w,ni tm o.dst undef,ap::df,cs,Ren.le_refl _,p,⟨c.fn,c.round,c.kind,u,by rw[h];exact⟨ao,c.df⟩⟩,.refl _ _,.one ?_⟩;exact SG z e K l
theorem o9(n:nQ C)(p:Fm C)(q:nX C){rc:Rec}(t:wH C w0 N0 G rc){o:Oper}{ops:Array Oper}(l:kg C rc fc ops.toList o fr ps st=some Q)(i:di w0 N0 G ρ st w)(c:lz ρ fc fr b tm df)(r:uv ρ fc.DZ ps cs)(d:List Nat)(k:List Item)(j:ops[a]?=some o):
  ZB C w0 N0 G ρ fc (lone (eg b tm df (.inRegion ops (a::d)::k)) cs w) b tm df ops a d k ps cs Q:=by
 unfold kg at l;split at l
 ·cases l
 ·rename_i e;obtain⟨u,s,rfl⟩:=ys l;have f:=xe c.tm e;obtain⟨m,h⟩:=dy (v':=undef) c.tm (.tuple .nil) s;exact⟨ρ,w,ni tm o.dst undef,df,cs,Ren.le_refl _,i,⟨c.fn,c.round,c.kind,m,by rw[h];exact c.df⟩,.refl _ _,.one (AS j f)⟩
 ·rename_i e;exact IX n p q t l i c r d k j (xe c.tm e)
theorem Px{rc:Rec}{o:Oper}{v:Value}{b:Fr}{dC:St}(c:nT C rc fc o fr ps st=some (.eH v b U dC)):b=fr:=by
 unfold nT at c;repeat' split at c
 all_goals first
  |cases c;done
  |(obtain⟨_,_,d⟩:=ys c;cases d;done)
  |(cases c;rfl)
theorem CA{rc:Rec}{ops:List Oper}{o:Oper}{v:Value}{b:Fr}{dC:St}(c:kg C rc fc ops o fr ps st=some (.eH v b U dC)):b=fr:=by
 unfold kg at c;split at c
 ·cases c
 ·obtain⟨_,_,d⟩:=ys c;cases d
 ·exact Px c
theorem GA(L:nQ C)(M:Fm C)(N:nX C){rc:Rec}(U:wH C w0 N0 G rc){ops:Array Oper}(k:List Item):∀(g:List Oper) (h:Nat) (fr:Fr) (ps:dW) (st:St) (ρ:Ren) (w:World) (tm:Array Value) (df:List Deferred) (cs:List Frame) (J:Ex) (e:Fr) (c:dW) (dC:St),
  g=ops.toList.drop h->pC C rc fc ops.toList g fr ps st=some (J,e,c,dC)->di w0 N0 G ρ st w->lz ρ fc fr b tm df->uv ρ fc.DZ ps cs->
  j4 C w0 N0 G ρ fc (lone (eg b tm df (.inRegion ops ((agx ops.size).drop h)::k)) cs w) b k ps cs J e c dC:=by
 intro g;induction g with
 |nil=>
  intro h fr ps st ρ w tm df cs J e c dC m r o l p;simp only[pC,Option.some.injEq,Prod.mk.injEq]at r;obtain⟨rfl,rfl,rfl,rfl⟩:=r;have a:ops.size<=h:=by
   have:=congrArg List.length m;simp at this;omega
  refine⟨ρ,w,tm,df,cs,Ren.le_refl _,o,l,.refl _ _,?_⟩;rw[List.drop_eq_nil_of_le (by simpa using a)];exact .one re
 |cons ab g X=>
  intro h fr ps st ρ w tm df cs J e c dC m r o l p;have a:h<ops.size:=by
   have:=congrArg List.length m;simp at this;omega
  have O:ops[h]?=some ab:=by
   have:=congrArg (fun ac=>ac[0]?) m;simp only[List.getElem?_cons_zero,List.getElem?_drop,Nat.add_zero,agm]at this;exact this.symm
  have Q:g=ops.toList.drop (h+1):=by
   have:=congrArg List.tail m;simpa using this
  have d:(agx ops.size).drop h=h::(agx ops.size).drop (h+1):=by
   rw[List.drop_eq_getElem_cons (by simpa using a)];simp
  simp only[pC]at r;split at r
  ·cases r
  ·rename_i s x t q;obtain⟨j,y,S,A,R,f,n,V,u,i⟩:=o9 L M N U q o l p ((agx ops.size).drop (h+1)) k O;obtain⟨E,aa,I,K,z,F,H,T,P,D⟩:=X (h+1) s x t j y S A R J e c dC Q r n V ((p.mono f).step u);refine⟨E,aa,I,K,z,f.trans F,H,T,u.trans P,?_⟩;rw[d];exact .of_steps i D
  ·rename_i v s x t q;simp only[Option.some.injEq,Prod.mk.injEq]at r;obtain⟨rfl,rfl,rfl,rfl⟩:=r;have B:=CA q;subst B;obtain⟨rfl,j,y,W,f,n,Y,i⟩:=o9 L M N U q o l p ((agx ops.size).drop (h+1)) k O;refine⟨j,y,tm,df,cs,f,n,l.mono f,.refl _ _,?_⟩;rw[d];exact⟨_,W,Y,i⟩
end
theorem VV{f b:Fn}(c:Sm f b=true):f=b:=by
 cases f<;>cases b<;>simp[Sm]at c<;>rw[c]
theorem Fo{e b:Addr}(c:addrEq e b=true):e=b:=by
 obtain⟨j,i,s⟩:=e;obtain⟨h,f,d⟩:=b;simp only[addrEq,agj,agA]at c;obtain⟨⟨rfl,rfl⟩,c⟩:=c;cases s<;>cases d<;>simp at c⊢
theorem IY{d b:ByteArray}(c:pz d b=true):d=b:=by
 rw[pz,qy,beq_iff_eq]at c;apply ByteArray.ext;exact Array.ext' c
mutual
theorem so:∀(a b:Value),nV a b=true->a=b
 |.func f ⟨x⟩ ⟨y⟩,b,h=>by
  cases b<;>first|(simp[nV]at h;done)|skip
  rename_i f' x' y';obtain⟨x'⟩:=x';obtain⟨y'⟩:=y';simp only[nV,agj]at h;rw[VV h.1.1,yc x x' h.1.2,yc y y' h.2]
 |.iface t v,b,h=>by
  cases b<;>first|(simp[nV]at h;done)|skip
  rename_i t' v';simp only[nV,agj,agA]at h;rw[h.1,so v v' h.2]
 |.agg ⟨x⟩,b,h=>by
  exact abY
 |.tuple ⟨x⟩,b,h=>by
  exact abY
 |.bool a,b,h=>by
  cases b<;>first|(simp[nV]at h;done)|(simp[nV]at h;rw[h])
 |.int k a,b,h=>by
  cases b<;>first|(simp[nV]at h;done)|skip
  simp only[nV,agj]at h;rw[sk.1 h.1,Ct.1 h.2]
 |.string a,b,h=>by
  cases b<;>first|(simp[nV]at h;done)|skip
  simp only[nV]at h;rw[IY h]
 |.pointer none,b,h=>by
  exact acd
 |.pointer (some a),b,h=>by
  cases b<;>first|(simp[nV]at h;done)|skip
  rename_i q;cases q<;>first|(simp[nV]at h;done)|(simp only[nV]at h;rw[Fo h])
 |.slice none l c,b,h=>by
  cases b<;>first|(simp[nV]at h;done)|skip
  rename_i q l' c';cases q<;>first|(simp[nV]at h;done)|skip
  simp only[nV,agj,agA]at h;rw[h.1,h.2]
 |.slice (some a) l c,b,h=>by
  cases b<;>first|(simp[nV]at h;done)|skip
  rename_i q l' c';cases q<;>first|(simp[nV]at h;done)|skip
  simp only[nV,agj,agA]at h;rw[Fo h.1.1,h.1.2,h.2]
 |.map none,b,h=>by
  exact acd
 |.map (some a),b,h=>by
  cases b<;>first|(simp[nV]at h;done)|skip
  rename_i q;cases q<;>first|(simp[nV]at h;done)|(simp only[nV,agA]at h;rw[h])
 |.nilFunc,b,h=>by cases b<;>first|rfl|(simp[nV]at h;done)
 |.nilIface,b,h=>by cases b<;>first|rfl|(simp[nV]at h;done)
 |.float k x,b,h=>by cases b<;>(simp[nV]at h;done)
 |.complex k x y,b,h=>by cases b<;>(simp[nV]at h;done)
 |.chan r,b,h=>by cases b<;>(simp[nV]at h;done)
theorem yc:∀(a b:List Value),zO a b=true->a=b
 |[],[],_=>rfl
 |x::a,y::b,h=>by
  simp only[zO,agj]at h;rw[so x y h.1,yc a b h.2]
 |[],_::_,h=>by simp[zO]at h
 |_::_,[],h=>by simp[zO]at h
end
theorem yt:∀{i b:List MapEntry},pi i b=true->i=b
 |[],[],_=>rfl
 |x::i,j::b,c=>by
  simp only[pi,NL,agj,agA]at c;obtain⟨⟨⟨e,d⟩,f⟩,h⟩:=c;obtain⟨k,v,o⟩:=x;obtain⟨n,m,l⟩:=j;rw[yt h];simp only at e d f;rw[so _ _ e,so _ _ d,f]
 |[],_::_,c=>by simp[pi]at c
 |_::_,[],c=>by simp[pi]at c
theorem IZ{d b:fX}(c:yd d b=true):d=b:=by
 cases d<;>cases b<;>first|(simp[yd]at c;done)|skip
 ·simp only[yd,agj,agA]at c;rw[yc _ _ c.1.1.1,c.1.1.2,c.1.2,c.2]
 ·simp only[yd,agj,agA]at c;rw[yt c.1,c.2]
 ·simp only[yd,agj,agA]at c;rw[IY c.1,c.2]
section
variable{C:dR} {ev Ef:Operand->Option Value} {st:St}
theorem pa:∀{xs:List Operand},(∀b∈xs,ev b=Ef b)->nf ev xs=nf Ef xs:=by
 intro xs;induction xs with
 |nil=>intro _;rfl
 |cons b xs c=>intro e;simp only[nf];rw[e b sm,c (fun f d=>e f (by simp[d]))]
theorem wI:∀{b:List (Nat×Operand)},(∀c∈b.map (·.2),ev c=Ef c)->l9 ev b=l9 Ef b:=by
 intro b;induction b with
 |nil=>intro _;rfl
 |cons c b e=>obtain⟨i,c⟩:=c;intro f;simp only[l9];rw[f c sm,e (fun h d=>f h (by simp at d⊢;exact .inr d))]
theorem zT(o:Oper)(d:∀e∈o.op.operands,ev e=Ef e):j8 C ev o st=j8 C Ef o st:=by
 unfold j8;split
 case h_31=>rfl
 case h_4=>rfl
 case h_16=>rfl
 all_goals (rename_i m;rw[m]at d;simp only[Op.operands]at d)
 case h_30 e=>rw[d e sm]
 case h_6=>rw[wI (ev:=ev) (Ef:=Ef) (fun e c=>d e (by simpa using c))]
 case h_7=>rw[wI (ev:=ev) (Ef:=Ef) (fun e c=>d e (by simpa using c))]
 case h_15 v b=>rw[pa (ev:=ev) (Ef:=Ef) (xs:=v.toList) (fun e c=>d e (by simp;exact .inl (by simpa using c))),pa (ev:=ev) (Ef:=Ef) (xs:=b.toList) (fun e c=>d e (by simp;exact .inr (by simpa using c)))]
 case h_18 e q p n=>
  have r:=d e sm;have x:∀f,q=some f->ev f=Ef f:=fun f h=>d f (by subst h;simp);have w:∀f,p=some f->ev f=Ef f:=fun f h=>d f (by subst h;simp);have y:∀f,n=some f->ev f=Ef f:=fun f h=>d f (by subst h;simp);rw[r];cases q<;>cases p<;>cases n<;>simp_all
 case h_28 u=>
  simp only[Call.operands]at d;rw[pa (ev:=ev) (Ef:=Ef) (xs:=u.args.toList) (fun e c=>d e (by simp;exact .inr (by simpa using c)))];split
  ·rfl
  ·split
   ·rfl
   ·rename_i s k;rw[d s (by rw[k];simp)]
   ·rfl
 case h_29 u=>
  simp only[Call.operands]at d;rw[pa (ev:=ev) (Ef:=Ef) (xs:=u.args.toList) (fun e c=>d e (by simp;exact .inr (by simpa using c)))];split
  ·rename_i s _ k;rw[d s (by rw[k];simp)]
  ·rfl
 all_goals first
  |rfl
  |(simp at d;simp only[d];done)
  |(simp at d;obtain⟨j,i⟩:=d;simp only[j,i];done)
  |(simp at d;obtain⟨j,i,t⟩:=d;simp only[j,i,t];done)
end
inductive LG (ops:Array Oper):(Nat->Bool)->List Nat->Prop
 |nil {D:Nat->Bool} (h:∀i,i<ops.size->D i=true):LG ops D []
 |cons {D:Nat->Bool} {i:Nat} {L:List Nat} {o:Oper} (ho:ops[i]?=some o) (hn:D i=false) (he:∀e∈o.after.toList,Region.binds .any e=true->D e.on=true) (t:LG ops (fun x=>D x||x==i) L):LG ops D (i::L)
def zU(ops:Array Oper):Prop:=∀(d:Nat) (c:Oper),ops[d]?=some c->∀b∈c.after.toList,Region.binds .any b=true->b.on<d
theorem Py{p q:Nat->Bool}:∀(c:List Nat),(∀h∈c,q h=true->p h=true)->∀j∈c,p j=true->q j=false->c.countP q<c.countP p:=by
 intro c;induction c with
 |nil=>intro _ j b;simp at b
 |cons h c l=>
  intro m j b f i;have n:c.countP q<=c.countP p:=List.countP_mono_left fun k d=>m k (by simp[d]);rcases agk.1 b with rfl|b
  ·rw[List.countP_cons_of_neg (by simp[i]),List.countP_cons_of_pos f];omega
  ·have:=l (fun k d=>m k (by simp[d])) j b f i;simp only[List.countP_cons];by_cases e:q h=true
   ·rw[if_pos e,if_pos (m h sm e)];omega
   ·rw[if_neg e];omega
theorem aaB{ops:Array Oper}(g:zU ops):∀(d G:Nat) (listed:Array Bool) (h:List Nat),listed.size=ops.size->(agx ops.size).countP (fun b=> !listed.getD b false)<=d->
  ∃a,Region.linearise.go .any ops d G listed h=h.reverse++a/\LG ops (fun x=>listed.getD x false) a:=by
 intro d;induction d with
 |zero=>
  intro G listed h C E;refine⟨[],by simp[Region.linearise.go],.nil fun b c=>?_⟩;have y:(agx ops.size).countP (fun b=> !listed.getD b false)=0:=om;rw[List.countP_eq_zero]at y;have:=y b (by simpa using c);simpa using this
 |succ d A=>
  intro G listed h C E;simp only[Region.linearise.go];generalize s:(agx ops.size).filter (fun b=> !listed.getD b true&&((ops[b]?).map (·.after.all fun P=> !Region.binds .any P||listed.getD P.on false)).getD false)=i;have r:∀b,b<ops.size->listed.getD b true=listed.getD b false:=by
   intro b c;simp[agq,agr (by omega:b<listed.size)]
  cases k:i[G%i.length]? with
  |none=>
   have n:i=[]:=by
    cases i with
    |nil=>rfl
    |cons H J=>
     rw[List.getElem?_eq_getElem (Nat.mod_lt _ sm)]at k;cases k
   refine⟨[],by simp,.nil fun b=>?_⟩;induction b using Nat.strongRecOn with
   |_ b F=>
    intro c;cases q:listed.getD b false with
    |true=>rfl
    |false=>
     exfalso;have e:b∈i:=by
      rw[<-s,agE];refine⟨by simpa using c,?_⟩;rw[r b c,q,agr c];simp only[Bool.not_false,agB,agK,Bool.true_and];rw[Array.all_eq_true];intro D m;cases l:Region.binds .any ops[b].after[D]with
      |false=>rfl
      |true=>
       have w:=g b ops[b] (agr c) ops[b].after[D] sm l;rw[F _ w om];rfl
     rw[n]at e;simp at e
  |some b=>
   have e:b∈i:=List.mem_of_getElem? k;rw[<-s,agE]at e;obtain⟨c,f⟩:=e;have c:b<ops.size:=by simpa using c
   rw[r b c,agr c]at f;simp only[agB,agK,agj,agJ]at f;obtain⟨q,p⟩:=f;rw[Array.all_eq_true]at p;have j:∀x,(listed.setIfInBounds b true).getD x false=(listed.getD x false||x==b):=by
    intro x;by_cases v:x=b
    ·subst v;simp[agq,ags (by omega:x<listed.size)]
    ·simp[agq,agv (fun P=>v P.symm),v]
   have o:(agx ops.size).countP (fun x=> !(listed.setIfInBounds b true).getD x false)<=d:=by
    have:=Py (p:=fun x=> !listed.getD x false) (q:=fun x=> !(listed.setIfInBounds b true).getD x false) (agx ops.size) (fun x _ m=>by
     rw[j]at m;simp at m⊢;exact m.1) b (by simpa using c) (by simp[q]) (by rw[j];simp)
    omega
   obtain⟨a,z,t⟩:=A (G/i.length) (listed.setIfInBounds b true) (b::h) (by simp[C]) o;refine⟨b::a,by simp only;rw[z];simp,.cons (agr c) q (fun P B l=>?_) ?_⟩
   ·obtain⟨D,m,rfl⟩:=List.getElem_of_mem B;have:=p D (by simpa using m);simp only[Array.getElem_toList]at l⊢;rw[l]at this;simpa using this
   ·have u:(fun x=>(listed.setIfInBounds b true).getD x false)=(fun x=>listed.getD x false||x==b):=funext j;rw[<-u];exact t
theorem GB{ops:Array Oper}(h:zU ops)(t:Nat):LG ops (fun _=>false) (Region.schedule true ops t):=by
 have d:Region.schedule true ops t=Region.linearise .any ops t:=by simp[Region.schedule]
 rw[d];obtain⟨j,i,c⟩:=aaB h ops.size t (agL ops.size false) [] sm (by
  refine Nat.le_trans (List.countP_le_length) sm)
 have:Region.linearise .any ops t=j:=by simpa [Region.linearise]using i
 rw[this];have b:(fun f=>(agL ops.size false).getD f false)=(fun _=>false):=by
  funext f;by_cases e:f<ops.size
  ·simp[agq,e]
  ·simp[agq,e]
 rw[<-b];exact c
structure iV (ops:Array Oper) (bs:List Nat) (m:Nat) (order:List Nat):Prop where
 back:zU ops
 bits:∀(i:Nat) (o:Oper),ops[i]?=some o->∀j,jA bs i j=true->∃e∈o.after.toList,Region.binds .any e=true/\(e.on=j∨jA bs e.on j=true)
 mle:m<=ops.size
 all:∀i,i<m->i∈order
 lt:∀i,i∈order->i<m
 nodup:order.Nodup
 later:∀pre e post,order=pre++e::post->iO ops.toList e=true->∀i∈post,jA bs i e=true
 reads:∀(j:Nat) (oj:Oper) (t:Tmp),ops[j]?=some oj->gb oj.op=false->oj.dst=some t->∀(i:Nat) (oi:Oper),ops[i]?=some oi->t∈qu ops.toList oi->jA bs i j=true
 tail:∀(i:Nat) (o:Oper),m<=i->ops[i]?=some o->IB o.op=true/\o.guard=none/\∀j,j<m->jA bs i j=true
theorem GC{bs:List Nat}:∀(i:List Edge) (s:Nat),agD (i.foldl (fun s c=>match Region.binds .any c with|true=>Nat.lor (Nat.lor s (2^c.on)) (match nth bs c.on with|some b=>b|none=>0)|false=>s) s) a=true->
  agD s a=true∨∃c∈i,Region.binds .any c=true/\(c.on=a∨jA bs c.on a=true):=by
 intro i;induction i with
 |nil=>intro s h;exact .inl h
 |cons c i k=>
  intro s h;simp only[List.foldl_cons]at h;rcases k _ h with h|⟨m,j,d,l⟩
  ·cases d:Region.binds .any c with
   |false=>rw[d]at h;exact .inl h
   |true=>
    rw[d]at h;simp only at h;have e:((s|||2^c.on)|||(match nth bs c.on with|some b=>b|none=>0)).testBit a=true:=h;rw[Nat.testBit_or,Nat.testBit_or,agp,agp]at e;rcases e with(h|h)|h
    ·exact .inl h
    ·rw[Nat.testBit_two_pow]at h;exact .inr ⟨c,by simp,d,.inl (by simpa using h)⟩
    ·refine .inr ⟨c,by simp,d,.inr ?_⟩;unfold jA;cases f:nth bs c.on with
     |none=>rw[f]at h;simp at h
     |some b=>rw[f]at h;exact h
  ·exact .inr ⟨m,by simp[j],d,l⟩
theorem GD{ops:List Oper}{bs:List Nat}:∀{j:List Nat},BQ ops bs j=true->∀c f b,j=c++f::b->iO ops f=true->∀k∈b,jA bs k f=true:=by
 intro j;induction j with
 |nil=>intro _ c f b h;simp at h
 |cons n j l=>
  intro h c f b d e k i;simp only[BQ,agj,agp,agJ,agy]at h;cases c with
  |nil=>
   simp at d;obtain⟨rfl,rfl⟩:=d;rcases h.1 with h1|h1
   ·rw[h1]at e;cases e
   ·exact h1 k i
  |cons m c=>
   simp at d;obtain⟨rfl,rfl⟩:=d;exact l h.2 c f b Z e k i
theorem any_beq{l:List Nat}:l.any (Nat.beq a)=true↔a∈l:=by
 rw[List.any_eq_true];constructor
 ·rintro⟨d,c,b⟩;rw[agn b];exact c
 ·intro b;exact⟨a,b,Nat.beq_refl a⟩
theorem CB:∀{m:Nat} {c:List Nat},(∀b,b<m->b∈c)->c.length=m->c.Nodup:=by
 intro m c u x;have:∀(k:Nat) (c:List Nat),c.length<=k->(∀b,b<k->b∈c)->c.Nodup:=by
  intro k;induction k with
  |zero=>intro c q _;cases c with|nil=>simp|cons _ _=>simp at q
  |succ k w=>
   intro c q o;have e:=o k om;have t:(c.erase k).length<=k:=by rw[agN e];omega
   have s:=w (c.erase k) t (fun b l=>by
    rw[agG om];exact o b om)
   have j:k ∉ c.erase k:=by
    intro p;have n:∀b,b<k+1->b∈c.erase k:=by
     intro b l;by_cases u:b=k
     ·subst u;exact p
     ·rw[agG u];exact o b l
    have:∀(h:Nat) (d:List Nat),(∀b,b<h->b∈d)->h<=d.length:=by
     intro h;induction h with
     |zero=>intro d _;omega
     |succ h r=>
      intro d i;have:=r (d.erase h) (fun b l=>by rw[agG om];exact i b om);rw[agN (i h om)]at this;have v:0<d.length:=List.length_pos_of_mem (i h om);omega
    have:=this (k+1) _ n;omega
   have f:=List.perm_cons_erase e;exact f.nodup_iff.2 (List.nodup_cons.2 ⟨j,s⟩)
 exact this m c om u
theorem I0{ops:Array Oper}(h:Gm ops.toList=true):iV ops (rH ops.toList).bs (rH ops.toList).m (rH ops.toList).order:=by
 unfold Gm at h;simp only[agj]at h;obtain⟨⟨⟨⟨⟨⟨⟨⟨x,v⟩,z⟩,w⟩,y⟩,A⟩,g⟩,r⟩,s⟩:=h;have c:∀(d:Nat) (t:Oper),ops[d]?=some t->nth ops.toList d=some t/\d<ops.toList.length:=by
  intro d t e;rw[ck,agm];refine⟨e,?_⟩;rcases agR d ops.size with h|h
  ·simpa using h
  ·rw[agP h]at e;cases e
 rw[agy]at x v w y;have m:∀d,d<(rH ops.toList).m->d∈(rH ops.toList).order:=fun d l=>any_beq.1 (w d (by simpa using l));refine⟨fun d t e L B p=>?_,fun d t e q j=>?_,by simpa using agl z,m,fun d l=>agF.mp (y d l),CB m (agn A),GD g,fun q M N j u P d J l a=>?_,fun d t E e=>?_⟩
 ·obtain⟨i,f⟩:=c _ _ e;have:=x d (by simpa using f);rw[i]at this;simp only[agy]at this;have:=this L B;rw[p]at this;exact agF.mp (by simpa using this)
 ·obtain⟨i,f⟩:=c _ _ e;have:=v d (by simpa using f);rw[i]at this;split at this
  ·rename_i K H C F;cases C;have G:=agn this;unfold jA at j;rw[F]at j;simp only at j;rw[G]at j;rcases GC _ _ j with h|h
   ·simp at h
   ·exact h
  ·cases this
 ·obtain⟨i,f⟩:=c _ _ j;obtain⟨f1,f2⟩:=c _ _ l;unfold NM at r;rw[agy]at r;have:=r q (by simpa using f);rw[i]at this;simp only[u,Bool.false_or,P,agy]at this;have:=this d (by simpa using f2);rw[f1]at this;simp only[agp,agJ]at this;rcases this with h|h
  ·rw[any_beq.2 a]at h;cases h
  ·exact h
 ·obtain⟨i,f⟩:=c _ _ e;unfold Cp at s;rw[agy]at s;have:=s (d-(rH ops.toList).m) (by simp at f⊢;omega);rw[show(rH ops.toList).m+(d-(rH ops.toList).m)=d from om,i]at this;simp only[agj]at this;refine⟨this.2.1,by simpa using this.2.2,fun q D=>?_⟩;have n:=this.1;unfold jA;split at n
  ·rename_i b p;try rw[p]
   show agD b q=true;unfold subset at n;have o:=agn n;have k:((2^(rH ops.toList).m-1)&&&b).testBit q=(2^(rH ops.toList).m-1).testBit q:=congrArg (fun I=>agD I q) o;rw[Nat.testBit_and,Nat.testBit_two_pow_sub_one]at k;simpa [D]using k
  ·cases n
variable{V:fX} {O:Nat->Prop}
section
variable{C:dR} {w0:World} {N0:Nat} {G:Nat->Prop} {ρ:Ren} {st:St} {w:World} {ev:Operand->Option Value} {mK:Operand->Value}
def ZC(ρ:Ren)(w:World)(h:Nat)(v:Value)(e:fX)(f:Result Next):Prop:=
 ∃c co d,f=.ok (.value c) {w with heap:=w.heap.push co}/\(d.b=w.heap.size/\d.rw=true)/\∀b:Ren,ρ.le b->b h=some d->yj b d e (some co)/\cX b v c
theorem zV{c:List Value}(es i:Nat)(d:TypeId)(f:cT ρ c z.toList){v v':Value}(j:N=.ok (.value v') {w with heap:=w.heap.push (.cells z d)}) 
  (h:∀b:Ren,ρ.le b->b i=some ⟨w.heap.size,0,es,z.size,true⟩->cX b v v'):ZC ρ w i v (.cells c es i 0) N:=by
 refine⟨v',.cells z d,⟨w.heap.size,0,es,z.size,true⟩,j,⟨Z,Z⟩,fun b e m=>⟨⟨z,d,0,0,Z,Z,Z,?_,fun q r l=>?_,fun q _ p=>om⟩,h b e m⟩⟩
 ·have:=f.length;simp at this;simp;omega
 ·obtain⟨n,o,k⟩:=f.get l;exact⟨n,by simpa using o,k.mono e⟩
theorem Pz(hT:nQ C)(z:oL ρ ev mK){o:Oper}(g:gh o.op=true){v:Value}{s:St}(h:j8 C ev o ⟨.nil,a,.nil⟩=some (.val v s))(d:s.get a=some V):
  ZC ρ w a v V ((execOp mK o).run C.P w):=by
 have c:∀q:fX,((⟨.nil,a,.nil⟩:St).new q).get a=some q:=fun q=>by rw[dm,if_pos rfl]
 unfold j8 at h;split at h
 case h_4 u gT=>
  unfold xf at h;split at h
  ·rename_i m ht;split at h;rotate_left
   ·split at h
    ·rename_i A;obtain⟨rfl,rfl⟩:=c9 h;rw[c]at d;cases d;obtain⟨p,hz,i⟩:=mg hT ht w;refine⟨.pointer (some ⟨w.heap.size,0,none⟩),.cells p.cells u,⟨w.heap.size,0,0,0,true⟩,?_,⟨Z,Z⟩,fun j _ e=>⟨tv,.ptr (l:=⟨w.heap.size,0,0,0,true⟩) e⟩⟩;exact Nt
    ·cases h
   obtain⟨rfl,rfl⟩:=c9 h;rw[c]at d;cases d;obtain⟨p,hz,i⟩:=mg hT ht w;have k:cT ρ m.zero p.cells.toList:=by rw[i.cells];exact jI (hT.yn _ _ ht) ρ
   refine zV (v':=.pointer (some ⟨w.heap.size,0,none⟩)) m.size a u k ?_ (fun j _ e=>.ptr (l:=⟨w.heap.size,0,m.size,p.cells.size,true⟩) e);exact Nt
  ·cases h
 case h_5 u q gT=>
  split at h
  ·rename_i N J;unfold Li at h;split at h
   ·obtain⟨rfl,rfl⟩:=c9 h;rw[c]at d;cases d;have I:=z _ _ J;refine zV (v':=.pointer (some ⟨w.heap.size,0,none⟩)) _ a u I.cells ?_ (fun j _ e=>.ptr (l:=⟨w.heap.size,0,_,(mK q).cells.size,true⟩) e);simp only[execOp,gT,Instr.box];rw[Sem.run_bind];simp only[Sem.run_bind,Result.andThen_ok,newVar,iz,Sem.run_pure]
   ·cases h
  ·cases h
 case h_7 u n ps gT=>
  split at h
  ·rename_i l H;unfold kf at h;split at h
   ·rename_i m ht;split at h
    ·rename_i r hd;split at h
     ·rename_i te hte;split at h
      ·rename_i O b hf;split at h
       ·rename_i L;obtain⟨rfl,rfl⟩:=c9 h;rw[c]at d;cases d;simp only[agj]at b;have E:=agF.mp b.1.1;have M:=agl b.1.2;have hzl:=agn b.2;obtain⟨p,hz,i⟩:=mg hT hte w;have G:p.cells.size=te.size:=by rw[<-hzl,<-i.cells];simp
        have D:cT ρ (wo te.zero n) ((agU (n*te.size)).map (p.cells[· %p.cells.size]!)).toList:=by
         rw[<-G,Cr,i.cells];exact jI (vE (hT.yn _ _ hte) n) ρ
        have P:AN ρ l (ps.map fun(B,q)=>(B,mK q)).toList:=by rw[agu];exact uu z H
        obtain⟨x,If,RD⟩:=yo (place':=fun B=>some (B*te.size,te.size)) (fun B q K=>K) P D hf;have t:x.size=n*te.size:=by
         exact aaf
        refine zV (v':=.slice (some ⟨w.heap.size,0,none⟩) n n) te.size a r RD ?_ (fun j _ e=>.slice (l:=⟨w.heap.size,0,te.size,x.size,true⟩) e (agt _) (by simp[t]));simp only[execOp,gT];rw[Sem.run_bind];exact Ym
       ·cases h
      ·cases h
     ·cases h
    ·cases h
   ·cases h
  ·cases h
 case h_16 u gT=>
  obtain⟨rfl,rfl⟩:=c9 h;rw[c]at d;cases d;refine⟨.map (some w.heap.size),.map #[] 0,⟨w.heap.size,0,0,0,true⟩,?_,⟨Z,Z⟩,fun j _ e=>⟨⟨#[],Z,tv⟩,.map (l:=⟨w.heap.size,0,0,0,true⟩) e⟩⟩;simp only[execOp,gT];rfl
 all_goals (exfalso;first|(rename_i gT;rw[gT]at g;simp[gh]at g;done)|cases h)
theorem PA{o:Oper}(c:gh o.op=true){v:Value}{s:St}(h:j8 C ev o st=some (.val v s)):∃d,s=st.new d/\ui st d:=by
 unfold j8 at h;split at h
 case h_4 e b=>
  unfold xf at h;repeat' split at h
  all_goals first|(cases h;done)|(obtain⟨rfl,rfl⟩:=c9 h;first|exact⟨_,rfl,rfl⟩|exact⟨_,rfl,tv⟩)
 case h_5 e f b=>
  split at h
  ·unfold Li at h;split at h
   ·obtain⟨rfl,rfl⟩:=c9 h;exact⟨_,rfl,rfl⟩
   ·cases h
  ·cases h
 case h_7 e i ps b=>
  split at h
  ·unfold kf at h;repeat' split at h
   all_goals first|cases h;done|(obtain⟨rfl,rfl⟩:=c9 h;exact⟨_,rfl,rfl⟩)
  ·cases h
 case h_16 e b=>obtain⟨rfl,rfl⟩:=c9 h;exact⟨_,rfl,tv⟩
 all_goals (exfalso;first|(rename_i b;rw[b]at c;simp[gh]at c;done)|cases h)
theorem di.SI(h:di w0 N0 G ρ st w)(q:ui st V):di w0 N0 (fun k=>G k∨k=st.n) ρ (st.new V) w:=by
 have n:=h.ij;have c:∀b j,ρ b=some j->b≠st.n:=fun b j d p=>by subst p;rw[n]at d;cases d
 refine⟨h.wf.new q,h.below,h.Fi,?_,fun b j d=>?_,fun b j x d u=>?_,fun b v j t x y f e r m l o=>?_,h.j2.H0 h.sep (fun _=>False) (fun b j d=>(h.xT _ _ d).2.2) (agt _) (fun _ _ _=>Z) (fun _ i=>i.elim) (fun _ _ d=>.inl d) (fun b t C d s f e=>⟨f,by rw[dm,if_neg (c _ _ f)]at e;exact e⟩)⟩
 ·rintro k (i|rfl)
  ·exact⟨(h.K1 k i).1,Nat.lt_succ_of_lt (h.K1 k i).2⟩
  ·exact⟨n,Nat.lt_succ_self _⟩
 ·have:=h.xT b j d;exact⟨Nat.lt_succ_of_lt this.1,this.2⟩
 ·rw[dm,if_neg (c _ _ d)]at u;exact h.obj _ _ _ d u
 ·rw[dm,if_neg (c _ _ f)]at m;rw[dm,if_neg (c _ _ e)]at l;exact h.sep _ _ _ _ _ _ f e r m l o
theorem di.VW(h:di w0 N0 G ρ st w){co:Obj}{l:Loc}(g:ρ a=none)(p:a<st.n)(q:st.get a=some V)(y:l.b=w.heap.size)(C:yj (ρ.add a l) l V (some co))(P:∀o,O o->G o/\o≠a)(x:l.rw=true)(u:∀z i s,V≠.j2 z i s):
  di w0 N0 O (ρ.add a l) st {w with heap:=w.heap.push co}:=by
 have t:=ei (l:=l) g;have d:∀k,k<w.heap.size->(w.heap.push co)[k]?=w.heap[k]?:=fun k m=>by rw[agV,if_neg om]
 have D:=h.Fi;refine⟨h.wf,h.below.trans ⟨Z,Z,Z,by simp,fun k m=>d k om⟩,by show N0<=(w.heap.push co).size;simp;omega,fun o n=>?_,fun b f c=>?_,fun b f F c j=>?_,fun b v E H B A h1 h2 he g1 g2 BM=>?_,h.j2.H0 h.sep (fun _=>False) (fun b l i=>(h.xT _ _ i).2.2) sm (fun k m _=>d k m) (fun _ n=>n.elim) (fun b f i=>by
  by_cases e:b=a
  ·subst e;rw[c7]at i;cases i;exact .inr (.inl om)
  ·rw[dU _ _ e]at i;exact .inl i) (fun b f z i s h1 h2=>by
  by_cases e:b=a
  ·subst e;rw[q]at h2;cases h2;exact absurd rfl (u _ _ _)
  ·rw[dU _ _ e]at h1;exact⟨h1,h2⟩)⟩
 ·obtain⟨h1,h2⟩:=P o n;have:=h.K1 o h1;exact⟨by rw[dU _ _ h2];exact this.1,this.2⟩
 ·show b<st.n/\(b≠0->N0<=f.b/\f.rw=true)/\f.b<(w.heap.push co).size;by_cases i:b=a
  ·subst i;rw[c7]at c;cases c;exact⟨p,fun _=>⟨om,x⟩,by simp;omega⟩
  ·rw[dU _ _ i]at c;have:=h.xT _ _ c;exact⟨this.1,this.2.1,by simp;omega⟩
 ·show yj _ f F (w.heap.push co)[f.b]?;by_cases i:b=a
  ·subst i;rw[c7]at c;cases c;rw[q]at j;cases j;rw[y,agO];exact C
  ·rw[dU _ _ i]at c;rw[d _ (h.xT _ _ c).2.2];exact(h.obj _ _ _ c j).mono t
 ·by_cases e:b=a
  ·subst e;rw[c7]at h1;cases h1;rw[dU _ _ (fun i=>BM i.symm)]at h2;have:=(h.xT _ _ h2).2.2;omega
  ·rw[dU _ _ e]at h1;by_cases r:v=a
   ·subst r;rw[c7]at h2;cases h2;have:=(h.xT _ _ h1).2.2;omega
   ·rw[dU _ _ r]at h2;exact wk
theorem di.wJ(b:di w0 N0 G ρ st w)(d:∀c,O c->G c):di w0 N0 O ρ st w:=
 ⟨b.wf,b.below,b.Fi,fun c e=>b.K1 c (d c e),b.xT,b.obj,b.sep,b.j2⟩
def pJ(tm:Tr Value)(b:List Nat):Tr Value:=b.foldl (fun tm c=>tm.put c none) tm
theorem jJ:∀(b:List Nat) (tm:Tr Value) (e:Nat),(pJ tm b).get e=if e∈b then none else tm.get e:=by
 intro b;induction b with
 |nil=>intro tm e;simp[pJ]
 |cons f b h=>
  intro tm e;have:pJ tm (f::b)=pJ (tm.put f none) b:=rfl;rw[this,h,cY];by_cases d:e∈b
  ·rw[if_pos d,if_pos (by simp[d])]
  ·rw[if_neg d];by_cases c:e=f
   ·rw[if_pos c,if_pos (by simp[c])]
   ·rw[if_neg c,if_neg (by simp[d,c])]
def oM(fr:Fr)(b:List Nat):Fr:=⟨pJ fr.tm b,fr.df⟩
theorem LH{xs:List Operand}{t:Tmp}(c:Operand.tmp t∈xs):t∈tmpsOf xs:=by
 induction xs with
 |nil=>simp at c
 |cons d xs b=>
  rcases agk.1 c with rfl|h2
  ·simp[tmpsOf]
  ·cases d<;>simp[tmpsOf,b h2]
theorem zW{fr:Fr}{ops:List Oper}{o:Oper}(d:∀b∈qu ops o,b ∉ g):∀c∈o.op.operands,jy fr c=jy (oM fr g) c:=by
 intro c f;cases c with
 |tmp b=>
  have e:b∈qu ops o:=agw.2 (.inl (LH (by simpa using f)));show fr.tm.get b=(pJ fr.tm g).get b;rw[jJ,if_neg (d b e)]
 |_=>rfl
theorem yb{fr:Fr}{ops:List Oper}{o:Oper}(d:∀k∈qu ops o,k ∉ g):gC ops fr o=gC ops (oM fr g) o:=by
 unfold gC;split
 ·rfl
 ·rename_i m f i;split
  ·rfl
  ·rename_i l e;split
   ·rfl
   ·rename_i c b;have h:c∈qu ops o:=agw.2 (.inr (by simp[i,e,b]));have j:(oM fr g).tm.get c=fr.tm.get c:=by
     show(pJ fr.tm g).get c=_;rw[jJ,if_neg (d c h)]
    rw[j]
end
theorem rJ{C:dR}{ev:Operand->Option Value}{o:Oper}{st s:St}{v:Value}(c:gb o.op=false)(d:gh o.op=false)(h:j8 C ev o st=some (.val v s))(x:s.n=st.n):s=st:=by
 have key:∀{t:Value} {j:St},val t j=some (.val v s)->j=st∨j.n=st.n+1->s=st:=by
  intro t j p h2;obtain⟨_,rfl⟩:=c9 p;rcases h2 with h2|h2
  ·exact h2
  ·omega
 unfold j8 at h;split at h
 case h_28 r b=>
  rw[b]at c;split at h
  ·cases h
  ·split at h
   ·rename_i u i;obtain⟨f,l,e⟩:=r;simp only at i;subst i;unfold j9 at h;split at h<;>first|(simp[gb]at c;done)|skip
    ·unfold yf at h;exact XQ
    ·exact XQ
    ·exact XQ
    ·cases h
   ·rename_i D i;exfalso;obtain⟨f,l,e⟩:=r;simp only at i;subst i;simp[gb]at c
   ·cases h
 case h_29 r b=>rw[b]at c;simp[gb]at c
 case h_30 n b=>rw[b]at c;simp[gb]at c
 case h_2 n b=>rw[b]at c;simp[gb]at c
 case h_9 m y n b=>rw[b]at c;simp[gb]at c
 case h_24 m q k w b=>rw[b]at c;simp[gb]at c
 case h_25 m q k w b=>rw[b]at c;simp[gb]at c
 case h_4 m b=>rw[b]at d;simp[gh]at d
 case h_5 m n b=>rw[b]at d;simp[gh]at d
 case h_7 m F ps b=>rw[b]at d;simp[gh]at d
 case h_16 m b=>rw[b]at d;simp[gh]at d
 case h_31=>cases h
 all_goals
  first
  |unfold xc at h
  |unfold ye at h
  |unfold ng at h
  |unfold ig at h
  |unfold gU at h
  |unfold jn at h
  |unfold pA at h
  |unfold fI at h
  |unfold xh at h
  |unfold gv at h
  |unfold ue at h
  |unfold qs at h
  |unfold jg at h
  |unfold pB at h
  |skip
  repeat' split at h
  all_goals first|cases h;done|exact key h (.inl rfl)|exact key h (.inr rfl)
def wK(ops:Array Oper)(b:Nat):Option Tmp:=(ops[b]?).bind (·.dst)
def gg(ops:Array Oper)(D:Nat->Bool)(b:List Nat):List Nat:=(b.filter fun c=> !D c).filterMap (wK ops)
theorem nU{ops:Array Oper}{D:Nat->Bool}{t:Nat}:t∈gg ops D g↔∃d∈g,D d=false/\wK ops d=some t:=by
 unfold gg;rw[List.mem_filterMap];constructor
 ·rintro⟨d,b,c⟩;rw[agE]at b;exact⟨d,b.1,by simpa using b.2,c⟩
 ·rintro⟨d,b,e,c⟩;exact⟨d,agE.2 ⟨b,by simp[e]⟩,c⟩
def CC(G:Nat->Prop)(D:Nat->Bool)(b:List tJ):Nat->Prop:=fun d=>G d∨∃e v c,tJ.obj e v d c∈b/\D e=false
variable{E:Ex×Fr×dW×St}
section
variable{C:dR} {w0:World} {N0:Nat} {G:Nat->Prop} {fc:FC} {b:FB} {rc:Rec} {ops:Array Oper} {bs:List Nat} {m:Nat} {order:List Nat}
structure Down (ops:Array Oper) (D:Nat->Bool):Prop where
 xT:∀i,D i=true->i<ops.size
 closed:∀i o,D i=true->ops[i]?=some o->∀e∈o.after.toList,Region.binds .any e=true->D e.on=true
theorem Down.bits{D:Nat->Bool}(l:Down ops D)(h:iV ops bs m order):∀b j,D b=true->jA bs b j=true->D j=true:=by
 intro b;induction b using Nat.strongRecOn with
 |_ b n=>
  intro j f o;have i:=l.xT b f;have d:ops[b]?=some ops[b]:=agr i;obtain⟨k,e,c,h1|h1⟩:=h.bits b _ d j o
  ·rw[<-h1];exact l.closed b _ f d k e c
  ·exact n k.on (h.back b _ d k e c) j (l.closed b _ f d k e c) h1
theorem Down.ready{D:Nat->Bool}(j:Down ops D)(e:iV ops bs m order){o:Oper}(h:ops[a]?=some o)(f:∀d∈o.after.toList,Region.binds .any d=true->D d.on=true)(i:jA bs a W=true):D W=true:=by
 obtain⟨d,c,b,h1|h1⟩:=e.bits a _ h W i
 ·rw[<-h1];exact f d c b
 ·exact j.bits e d.on W (f d c b) h1
theorem Down.add{D:Nat->Bool}(l:Down ops D){o:Oper}(f:ops[a]?=some o)(k:∀i∈o.after.toList,Region.binds .any i=true->D i.on=true):Down ops (fun x=>D x||x==a):=by
 refine⟨fun x b=>?_,fun x j b c i d e=>?_⟩
 ·simp only[agp,beq_iff_eq]at b;rcases b with b|rfl
  ·exact l.xT x b
  ·rcases agR x ops.size with h|h
   ·exact h
   ·rw[agP h]at f;cases f
 ·simp only[agp,beq_iff_eq]at b⊢;rcases b with b|rfl
  ·exact .inl (l.closed x j b c i d e)
  ·rw[f]at c;cases c;exact .inl (k i d e)
structure Inv (w0:World) (N0:Nat) (G:Nat->Prop) (ops:Array Oper) (bs:List Nat) (m:Nat) (fc:FC) (b:FB) (D:Nat->Bool) (pre:List Nat) (bb:Nat) (I1:List tJ) (fr:Fr) (ps:dW) (st:St) (ρ:Ren) (w:World) (tm:Array Value) (df:List Deferred) (cs:List Frame):Prop where
 down:Down ops D
 sub:∀i,D i=true->i<m->i∈pre
 PB:∀i∈pre,iO ops.toList i=true->D i=true
 cover:∀i∈pre,iO ops.toList i=false->∃c∈I1,c.idx=i
 SJ:∀j,agD bb j=true->∃e,D e=true/\jA bs e j=true
 LI:∀i v N ob,tJ.obj i v N ob∈I1->D i=false->N<st.n
 I2:∀i v N ob i' v' ob',tJ.obj i v N ob∈I1->tJ.obj i' v' N ob'∈I1->D i=false->D i'=false->i=i'
 aaC:∀c∈I1,iO ops.toList c.idx=false/\c.idx∈pre
 ee:∀c∈I1,∀d,wK ops c.idx=some d->d<fc.nt
 PC:∀i v N ob,tJ.obj i v N ob∈I1->¬G N
 world:di w0 N0 (CC G D I1) ρ st w
 frame:lz ρ fc (oM fr (gg ops D pre)) b tm df
 eH:uv ρ fc.DZ ps cs
theorem LJ{fr b:Fr}{v:Value}(c:gV a fr K v=some b):b.df=fr.df/\(∀f,K≠some f->b.tm.get f=fr.tm.get f)/\∀d,K=some d->d<a:=by
 unfold gV at c;split at c
 ·cases c;exact⟨rfl,(fun _ _=>rfl),(fun d h=>by cases h)⟩
 ·rename_i d;split at c
  ·rename_i e;cases c;refine⟨Z,fun f i=>?_,fun j h=>by cases h;exact agF.mp e⟩;show(fr.tm.set d v).get f=_;rw[cB,if_neg (fun h=>i (by rw[h]))]
  ·cases c
theorem lz.sub{ρ:Ren}{fr fr':Fr}{tm:Array Value}{df:List Deferred}(c:lz ρ fc fr b tm df)(d:fr'.df=fr.df)(f:∀h v,fr'.tm.get h=some v->fr.tm.get h=some v):lz ρ fc fr' b tm df:=
 ⟨c.fn,c.round,c.kind,⟨c.tm.1,fun i v e=>c.tm.2 i v (f i v e)⟩,by rw[d];exact c.df⟩
theorem advance(aw:iV ops bs m order){D:Nat->Bool}{ps:dW}{ρ:Ren}{w:World}{tm:Array Value}{df:List Deferred}{cs:List Frame}:
  ∀(p e:List Nat) (c:List tJ) (fr:Fr) (st:St),order=e++p->eM C rc fc ops.toList bs p a c fr ps st=some E->Inv w0 N0 G ops bs m fc b D e a c fr ps st ρ w tm df cs->
  ∃R o A ae ac,order=R++o/\eM C rc fc ops.toList bs o a A ae ps ac=some E/\Inv w0 N0 G ops bs m fc b D R a A ae ps ac ρ w tm df cs/\(o=[]∨∃j an,o=j::an/\iO ops.toList j=true):=by
 intro p;induction p with
 |nil=>intro e c fr st J h d;exact⟨e,[],c,fr,st,J,h,d,.inl rfl⟩
 |cons u an ai=>
  intro e c fr st J h d;cases r:iO ops.toList u with
  |true=>exact⟨e,u::an,c,fr,st,J,h,d,.inr ⟨u,an,rfl,r⟩⟩
  |false=>
   have S:order=(e++[u])++an:=by rw[J];simp
   have ab:u ∉ e:=by
    have:=aw.nodup;rw[J,agI]at this;intro am;exact this.2.2 u am u sm Z
   have ao:u<m:=aw.lt u (by rw[J];simp);have au:D u=false:=by
    cases i:D u with
    |false=>rfl
    |true=>exact absurd (d.sub u i ao) ab
   rw[eM]at h;split at h
   ·rename_i aA aI O aH;rw[ck,agm]at O;have ad:gb aA.op=false:=by
     unfold iO at r;rw[ck,agm,O]at r;exact r
    have L:wK ops u=aA.dst:=by unfold wK;rw[O];rfl
    simp only[ad]at h;have F:∀(aa:tJ) (f:Fr) (x:St) (v:Value),aa.idx=u->gV fc.nt fr aA.dst v=some f->
      (∀l n P s,tJ.obj l n P s∈aa::c->D l=false->P<x.n)->(∀K W P H I X y,tJ.obj K W P H∈aa::c->tJ.obj I X P y∈aa::c->D K=false->D I=false->K=I)->
      (∀l n P s,tJ.obj l n P s∈aa::c->¬G P)->di w0 N0 (CC G D (aa::c)) ρ x w->Inv w0 N0 G ops bs m fc b D (e++[u]) a (aa::c) f ps x ρ w tm df cs:=by
     intro aa f x v ak t Y U V M;obtain⟨av,aj,ap⟩:=LJ t;refine⟨d.down,fun ah k aq=>by simp[d.sub ah k aq],fun ah k g=>?_,fun ah k g=>?_,d.SJ,Y,U,fun Q q=>?_,fun Q q aG i=>?_,V,M,?_,d.eH⟩
     ·rcases agw.1 k with k|k
      ·exact d.PB ah k g
      ·simp at k;subst k;rw[r]at g;cases g
     ·rcases agw.1 k with k|k
      ·obtain⟨Q,q,aD⟩:=d.cover ah k g;exact⟨Q,by simp[q],aD⟩
      ·simp at k;subst k;exact⟨aa,by simp,ak⟩
     ·rcases agk.1 q with rfl|q
      ·rw[ak];exact⟨r,by simp⟩
      ·obtain⟨h1,h2⟩:=d.aaC Q q;exact⟨h1,by simp[h2]⟩
     ·rcases agk.1 q with rfl|q
      ·rw[ak,L]at i;exact ap aG i
      ·exact d.ee Q q aG i
     ·refine d.frame.sub (fr':=oM f (gg ops D (e++[u]))) av fun ay aE aB=>?_;have B:(pJ f.tm (gg ops D (e++[u]))).get ay=some aE:=aB;rw[jJ]at B;split at B
      ·cases B
      ·rename_i ag;show(pJ fr.tm (gg ops D e)).get ay=some aE;have h1:ay ∉ gg ops D e:=fun hm=>ag (by
        rw[nU]at hm⊢;obtain⟨ah,k,i,g⟩:=hm;exact⟨ah,by simp[k],i,g⟩)
       have h2:aA.dst≠some ay:=fun j=>ag (by
        rw[nU];exact⟨u,by simp,au,by rw[L];exact j⟩)
       rw[jJ,if_neg h1,<-aj ay h2];exact B
    split at h
    ·cases h
    ·rename_i ax;split at h
     ·rename_i f t;exact ai (e++[u]) (.skip u::c) f st S h (F (.skip u) f st lr Z t
       (fun l n P s hm i=>by rcases agk.1 hm with j|hm;cases j;exact d.LI _ _ _ _ hm i)
       (fun K W P H I X y h1 h2 d1 d2=>by
        rcases agk.1 h1 with j|h1
        ·cases j
        ·rcases agk.1 h2 with j|h2
         ·cases j
         ·exact d.I2 _ _ _ _ _ _ _ h1 h2 d1 d2)
       (fun l n P s hm=>by rcases agk.1 hm with j|hm;cases j;exact d.PC _ _ _ _ hm)
       (d.world.wJ (by
        rintro aF (N|⟨l,n,s,hm,i⟩)
        ·exact .inl N
        ·rcases agk.1 hm with j|hm
         ·cases j
         ·exact .inr ⟨l,n,s,hm,i⟩)))
     ·cases h
    ·rename_i ax;split at h
     ·rename_i v x ar;split at h
      ·cases h
      ·rename_i f t;split at h
       ·rename_i T;obtain⟨z,rfl,al⟩:=PA T ar;split at h
        ·rename_i s af;rw[dm,if_pos rfl]at af;cases af;exact ai (e++[u]) (.obj u v st.n z::c) f (st.new z) S h (F (.obj u v st.n z) f (st.new z) v Z t
          (fun l n P y hm i=>by
           show P<st.n+1;rcases agk.1 hm with j|hm
           ·cases j;omega
           ·have:=d.LI _ _ _ _ hm i;omega)
          (fun K W P H I X y h1 h2 d1 d2=>by
           rcases agk.1 h1 with j|h1
           ·cases j;rcases agk.1 h2 with j|h2
            ·cases j;rfl
            ·have:=d.LI _ _ _ _ h2 d2;omega
           ·rcases agk.1 h2 with j|h2
            ·cases j;have:=d.LI _ _ _ _ h1 d1;omega
            ·exact d.I2 _ _ _ _ _ _ _ h1 h2 d1 d2)
          (fun l n P s hm=>by
           rcases agk.1 hm with j|hm
           ·cases j;exact fun aC=>absurd (d.world.K1 _ (.inl aC)).2 (Nat.lt_irrefl _)
           ·exact d.PC _ _ _ _ hm)
          ((d.world.SI al).wJ (by
           rintro aF (N|⟨l,n,y,hm,i⟩)
           ·exact .inl (.inl N)
           ·rcases agk.1 hm with j|hm
            ·cases j;exact .inr rfl
            ·exact .inl (.inr ⟨l,n,y,hm,i⟩))))
        ·cases h
       ·rename_i T;split at h
        ·rename_i az;have:=rJ ad T ar (agn az);subst this;exact ai (e++[u]) (.val u v::c) f x S h (F (.val u v) f x v Z t
          (fun l n P s hm i=>by rcases agk.1 hm with j|hm;cases j;exact d.LI _ _ _ _ hm i)
          (fun K W P H I X y h1 h2 d1 d2=>by
           rcases agk.1 h1 with j|h1
           ·cases j
           ·rcases agk.1 h2 with j|h2
            ·cases j
            ·exact d.I2 _ _ _ _ _ _ _ h1 h2 d1 d2)
          (fun l n P s hm=>by rcases agk.1 hm with j|hm;cases j;exact d.PC _ _ _ _ hm)
          (d.world.wJ (by
           rintro aF (N|⟨l,n,s,hm,i⟩)
           ·exact .inl N
           ·rcases agk.1 hm with j|hm
            ·cases j
            ·exact .inr ⟨l,n,s,hm,i⟩)))
        ·cases h
     ·cases h
   ·cases h
end
theorem GF{C:dR}{ops:List Oper}{fr:Fr}{st:St}{b:Nat}:∀{c:List tJ},o7 C ops fr st b c=true->∀e∈c,agD b e.idx=true∨pD C ops fr st e=true:=by
 intro c;induction c with
 |nil=>intro _ e d;simp at d
 |cons i c f=>
  intro h e d;simp only[o7,agj,agp]at h;rcases agk.1 d with rfl|d
  ·exact h.1
  ·exact f h.2 e d
def SK(j:List Nat):AK->AK->Prop
 |.next f b d,.next h c e=>c=b/\e=d/\h.df=f.df/\∀i,i ∉ j->h.tm.get i=f.tm.get i
 |.eH l _ b d,.eH k _ c e=>k=l/\c=b/\e=d
 |_,_=>False
theorem vC{fr fr2:Fr}{v:Value}{ps:dW}{st:St}(b:fr2.df=fr.df)(f:∀d,d ∉ g->fr2.tm.get d=fr.tm.get d)(c:AK.go a fr K v ps st=some Q):
  ∃e,AK.go a fr2 K v ps st=some e/\SK g Q e:=by
 unfold AK.go gV at c⊢;cases K with
 |none=>cases c;exact⟨_,rfl,rfl,rfl,b,f⟩
 |some j=>
  simp only at c⊢;cases h:Nat.blt j a with
  |false=>rw[h]at c;cases c
  |true=>
   rw[h]at c;cases c;refine⟨_,Z,Z,Z,b,fun d i=>?_⟩;show(fr2.tm.set j v).get d=(fr.tm.set j v).get d;rw[cB,cB,f d i]
theorem AT{C:dR}{rc:Rec}{fc:FC}{ops:List Oper}{o:Oper}{fr:Fr}{ps:dW}{st:St}(c:∀b∈qu ops o,b ∉ g)(h:kg C rc fc ops o fr ps st=some Q):
  ∃d,kg C rc fc ops o (oM fr g) ps st=some d/\SK g Q d:=by
 have hdf:(oM fr g).df=fr.df:=rfl;have htm:∀b,b ∉ g->(oM fr g).tm.get b=fr.tm.get b:=fun b e=>by
  show(pJ fr.tm g).get b=_;rw[jJ,if_neg e]
 unfold kg at h⊢;rw[<-yb c];split at h
 ·cases h
 ·exact vC hdf htm h
 ·unfold nT at h⊢;rw[<-zT o (zW c)];split at h
  ·cases h
  ·exact vC hdf htm h
  ·cases h;exact⟨_,rfl,rfl,rfl,rfl⟩
  ·exact aeI
  ·exact aeI
  ·split at h
   ·cases h
   ·split at h
    ·exact vC hdf htm h
    ·exact vC hdf htm h
  ·rename_i f i;split at h
   ·cases h
   ·exact vC (fr:={fr with df:=f::fr.df}) (fr2:={oM fr g with df:=f::fr.df}) Z htm h
section
variable{C:dR} {w0:World} {N0:Nat} {G:Nat->Prop} {fc:FC} {b:FB} {rc:Rec} {ops:Array Oper} {bs:List Nat} {m:Nat} {order:List Nat}
def BU(C:dR)(w0:World)(N0:Nat)(G:Nat->Prop)(ops:Array Oper)(m:Nat)(ρ:Ren)(fc:FC)(o:Machine)(b:FB)(k:List Item)(ps:dW)(cs:List Frame)(l:Ex×Fr×dW×St):Prop:=
 match l with
 |(.norm,e,d,dC)=>∃f q c n j h i,LG ops f q/\Down ops f/\(∀p,p<m->f p=true)/\ρ.le c/\di w0 N0 G c dC n/\lz c fc e b j h/\pH ps d cs i/\
   Steps C.P o (lone (eg b j h (.inRegion ops q::k)) i n)/\(∀p,m<=p->f p=false)
 |(r,e,d,dC)=>j4 C w0 N0 G ρ fc o b k ps cs r e d dC
theorem BU.of_steps{ρ d:Ren}{f i:Machine}{k:List Item}{ps c:dW}{cs e:List Frame}(hle:ρ.le d)(DY:pH ps c cs e)(xS:Steps C.P f i)(h:BU C w0 N0 G ops m d fc i b k c e E):BU C w0 N0 G ops m ρ fc f b k ps cs E:=by
 obtain⟨t,s,r,dC⟩:=E;cases t with
 |norm=>
  obtain⟨q,o,dk,w',VC,Rw,cs',n,l,p,h4,h5,h6,h7,h8,j⟩:=h;exact⟨q,o,dk,w',VC,Rw,cs',n,l,p,hle.trans h4,h5,h6,DY.trans h7,xS.trans h8,j⟩
 |_=>
  exact Zu
theorem PD{fr:Fr}{d:Tmp}{v:Value}(b:AL fr (some d) v=true):fr.tm.get d=some v:=by
 unfold AL at b;simp only at b;split at b
 ·rename_i e c;rw[c,so _ _ b]
 ·cases b
theorem zX{c:Option Bool}(b:isSome c L=true):c=some L:=by
 unfold isSome at b;split at b
 ·rfl
 ·rfl
 ·cases b
theorem xn{ρ i:Ren}{D:Nat->Bool}{fr:Fr}{tm:Array Value}{df:List Deferred}{o:Oper}{v v':Value}(y:ops[a]?=some o)(z:lz ρ fc (oM fr (gg ops D g)) b tm df)(F:ρ.le i)(t:AL fr o.dst v=true)(B:cX i v v') 
  (w:∀G,o.dst=some G->G<fc.nt):lz i fc (oM fr (gg ops (fun x=>D x||x==a) g)) b (ni tm o.dst v') df:=by
 have c:=z.mono F;refine⟨c.fn,c.round,c.kind,⟨?_,fun m C A=>?_⟩,c.df⟩
 ·have:=c.tm.1;unfold ni;split<;>simp[this]
 ·have d:(pJ fr.tm (gg ops (fun x=>D x||x==a) g)).get m=some C:=A;rw[jJ]at d;split at d
  ·cases d
  ·rename_i p;cases f:o.dst with
   |none=>
    have h:m ∉ gg ops D g:=fun l=>p (by
     rw[nU]at l⊢;obtain⟨u,s,q,e⟩:=l;refine⟨u,s,?_,e⟩;have j:u≠a:=fun n=>by subst n;unfold wK at e;rw[y]at e;simp[f]at e
     simp[q,j])
    obtain⟨r,n,P⟩:=c.tm.2 m C (by show(pJ fr.tm (gg ops D g)).get m=some C;rw[jJ,if_neg h];exact d);exact⟨r,by simpa [ni]using n,P⟩
   |some G=>
    rw[f]at t;by_cases k:m=G
    ·subst k;rw[PD t]at d;cases d;refine⟨v',?_,B⟩;simp only[ni];rw[ags (by rw[c.tm.1];exact w m f)]
    ·have h:m ∉ gg ops D g:=fun l=>p (by
      rw[nU]at l⊢;obtain⟨u,s,q,e⟩:=l;refine⟨u,s,?_,e⟩;have j:u≠a:=fun n=>by subst n;unfold wK at e;rw[y]at e;simp[f]at e;exact k e.symm
      simp[q,j])
     obtain⟨r,n,P⟩:=c.tm.2 m C (by show(pJ fr.tm (gg ops D g)).get m=some C;rw[jJ,if_neg h];exact d);refine⟨r,?_,P⟩;simp only[ni];rw[agv (fun n=>k n.symm)];exact n
theorem Inv.reads{hp:iV ops bs m order}{D:Nat->Bool}{f:List Nat}{q:Nat}{h:List tJ}{fr:Fr}{ps:dW}{st:St}{ρ:Ren}{w:World}{tm:Array Value}{df:List Deferred}{cs:List Frame}(l:Inv w0 N0 G ops bs m fc b D f q h fr ps st ρ w tm df cs) 
  {x:Nat} {o:Oper} (k:ops[x]?=some o) (t:∀y∈o.after.toList,Region.binds .any y=true->D y.on=true):∀v∈qu ops.toList o,v ∉ gg ops D f:=by
 intro v r n;rw[nU]at n;obtain⟨p,u,e,c⟩:=n;unfold wK at c;cases d:ops[p]? with
 |none=>rw[d]at c;simp at c
 |some i=>
  rw[d]at c;simp at c;have j:gb i.op=false:=by
   cases s:gb i.op with
   |false=>rfl
   |true=>
    have:iO ops.toList p=true:=by unfold iO;rw[ck,agm,d];exact s
    rw[l.PB p u this]at e;cases e
  have:=hp.reads p i v d j c x o k r;rw[l.down.ready hp k t this]at e;cases e
theorem GG{o:Oper}(b:ops[a]?=some o):iO ops.toList a=gb o.op:=by
 unfold iO;rw[ck,agm,b]
theorem LK(ae:nQ C)(ay:Fm C)(az:nX C)(hp:iV ops bs m order){D:Nat->Bool}{e:List tJ}{fr:Fr}{ps:dW}{st:St}{ρ:Ren}{w:World}{tm:Array Value}{df:List Deferred}{cs:List Frame}(hi:Inv w0 N0 G ops bs m fc b D g a e fr ps st ρ w tm df cs) 
  (aA:o7 C ops.toList fr st a e=true) {o:Oper} (q:ops[W]?=some o) (P:D W=false) (am:∀K∈o.after.toList,Region.binds .any K=true->D K.on=true) (B:W∈g) (aE:List Nat) (k:List Item):
  ∃d t r,ρ.le d/\Steps C.P (lone (eg b tm df (.inRegion ops (W::aE)::k)) cs w) (lone (eg b r df (.inRegion ops aE::k)) cs t)/\Inv w0 N0 G ops bs m fc b (fun x=>D x||x==W) g a e fr ps st d t r df cs:=by
 have X:iO ops.toList W=false:=by
  cases av:iO ops.toList W with
  |false=>rfl
  |true=>rw[hi.PB W B av]at P;cases P
 have an:gb o.op=false:=by rw[<-GG q];exact X
 have V:=hi.down.add q am;obtain⟨aq,J,f⟩:=hi.cover W B X;have Lc:=Inv.reads (hp:=hp) hi q am;have p:pD C ops.toList fr st aq=true:=by
  rcases GF aA aq J with h|h
  ·exfalso;rw[f]at h;obtain⟨K,R,L⟩:=hi.SJ W h;rw[hi.down.bits hp K W R L]at P;cases P
  ·exact h
 have z:nth ops.toList W=some o:=by rw[ck,agm];exact q
 have E:∀ac,o.dst=some ac->ac<fc.nt:=by
  intro ac j;exact hi.ee aq J ac (by rw[f];unfold wK;rw[q];exact j)
 have y:∀(d:Ren) (t:World) (r:Array Value),di w0 N0 (CC G (fun x=>D x||x==W) e) d st t->lz d fc (oM fr (gg ops (fun x=>D x||x==W) g)) b r df->ρ.le d->
   Inv w0 N0 G ops bs m fc b (fun x=>D x||x==W) g a e fr ps st d t r df cs:=by
  intro d t r R L ao;refine⟨V,fun O F ak=>?_,fun O F aj=>?_,hi.cover,fun O F=>?_,fun aL M Y aa U j=>hi.LI _ _ _ _ U (by simp only[ago]at j;exact j.1),fun aK aI Y aF aH aB ad R L d1 d2=>hi.I2 _ _ _ _ _ _ _ R L (by simp only[ago]at d1;exact d1.1) (by simp only[ago]at d2;exact d2.1),hi.aaC,hi.ee,hi.PC,R,L,hi.eH.mono ao⟩
  ·simp only[agp,beq_iff_eq]at F;rcases F with F|rfl
   ·exact hi.sub O F ak
   ·exact B
  ·simp[hi.PB O F aj]
  ·obtain⟨K,aD,ax⟩:=hi.SJ O F;exact⟨K,by simp[aD],ax⟩
 have l:∀x,CC G (fun x=>D x||x==W) e x->CC G D e x:=by
  rintro x (H|⟨O,v,aa,U,j⟩)
  ·exact .inl H
  ·simp only[ago]at j;exact .inr ⟨O,v,aa,U,j.1⟩
 cases aq with
 |val O v=>
  simp only[tJ.idx]at f;subst f;simp only[pD,z,agj]at p;obtain⟨⟨⟨hwa,T⟩,S⟩,c⟩:=p;have hwa:=zX hwa;split at c
  ·rename_i ap s I;simp only[agj]at c;have:=so _ _ c.1;subst this;have aC:=rJ an (by simpa using T) I (agn c.2);subst aC;have N:j8 C (jy (oM fr (gg ops D g))) o s=some (.val ap s):=by rw[<-zT o (zW Lc)];exact I
   obtain⟨d,M,t,A,n⟩:=qz ae ay az hi.world (pI hi.frame.tm) N;refine⟨d,t,ni tm o.dst M,n.le,.one (yq q ?_ (.inr (im I (by intro ac K;cases K))) A),?_⟩
   ·exact XT
   ·exact y d t _ (n.world.wJ l) (xn q hi.frame n.le S n.value E) n.le
  ·cases c
 |skip O=>
  simp only[tJ.idx]at f;subst f;simp only[pD,z,agj]at p;have hwa:=zX p.1;refine⟨ρ,w,ni tm o.dst undef,Ren.le_refl _,.one (AS q ?_),?_⟩
  ·exact XT
  ·exact y ρ w _ (hi.world.wJ l) (xn (v':=undef) q hi.frame (Ren.le_refl _) p.2 (.tuple .nil) E) (Ren.le_refl _)
 |obj O v Y aa=>
  simp only[tJ.idx]at f;subst f;simp only[pD,z,agj]at p;obtain⟨⟨⟨⟨hwa,T⟩,S⟩,Q⟩,c⟩:=p;have hwa:=zX hwa;split at Q
  ·rename_i aJ au;have:=IZ Q;subst this;split at c
   ·rename_i ap s I;simp only[agj]at c;have:=so _ _ c.1;subst this;have i:=c.2;split at i
    ·rename_i aw ag;have:=IZ i;subst this;have N:j8 C (jy (oM fr (gg ops D g))) o ⟨.nil,Y,.nil⟩=some (.val ap s):=by rw[<-zT o (zW Lc)];exact I
     obtain⟨M,co,ar,A,ah,ab⟩:=Pz (w:=w) ae (pI hi.frame.tm) T N ag;have al:ρ Y=none:=(hi.world.K1 Y (.inr ⟨O,ap,aw,J,P⟩)).1;have u:=ei (l:=ar) al;obtain⟨ai,af⟩:=ab (ρ.add Y ar) u (c7 _ _ _);refine⟨ρ.add Y ar,{w with heap:=w.heap.push co},ni tm o.dst M,u,.one (yq q ?_ (.inr (im I (by intro ac K;cases K))) (.inl A)),?_⟩
     ·exact XT
     ·refine y _ _ _ (hi.world.VW al (hi.LI _ _ _ _ J P) au ah.1 ai (fun x H=>⟨l x H,?_⟩) ah.2 (by intro _ _ _ K;subst K;cases i)) (xn q hi.frame u S af E) u;rintro rfl;rcases H with H|⟨aG,aB,ad,U,j⟩
      ·exact hi.PC _ _ _ _ J H
      ·simp only[ago]at j;have:=hi.I2 _ _ _ _ _ _ _ J U P j.1;subst this;simp at j
    ·cases i
   ·cases c
  ·cases Q
theorem Eg:∀(k:List Oper) (tm:Tr Value) (i:Nat) (j:Value),(k.foldl (fun tm e=>match e.dst with|some q=>(match gb e.op with|true=>tm|false=>tm.put q none)|none=>tm) tm).get i=some j->
  tm.get i=some j/\∀e∈k,gb e.op=false->e.dst≠some i:=by
 intro k;induction k with
 |nil=>intro tm i j m;exact⟨m,fun e b=>by simp at b⟩
 |cons r k n=>
  intro tm i j m;simp only[List.foldl_cons]at m;obtain⟨d,h⟩:=n _ i j m;split at d
  ·rename_i q f;split at d
   ·rename_i o;refine⟨d,fun e b c=>?_⟩;rcases agk.1 b with rfl|b
    ·rw[o]at c;cases c
    ·exact h e b c
   ·rw[cY]at d;split at d
    ·cases d
    ·rename_i l;refine⟨d,fun e b c=>?_⟩;rcases agk.1 b with rfl|b
     ·rw[f];intro p;cases p;exact l rfl
     ·exact h e b c
  ·rename_i f;refine⟨d,fun e b c=>?_⟩;rcases agk.1 b with rfl|b
   ·rw[f];intro p;cases p
   ·exact h e b c
theorem LL(aw:nQ C)(ay:Fm C)(az:nX C)(bk:∀G,wH C w0 N0 G rc)(hp:iV ops bs m order)(k:List Item){D:Nat->Bool}(N:LG ops D g):
  ∀(z f:List Nat) (Y:Nat) (n:List tJ) (fr:Fr) (ps:dW) (st:St) (ρ:Ren) (w:World) (tm:Array Value) (df:List Deferred) (cs:List Frame) (A:Ex×Fr×dW×St),
  order=z++f->eM C rc fc ops.toList bs f Y n fr ps st=some A->(∀h,m<=h->D h=false)->Inv w0 N0 G ops bs m fc b D z Y n fr ps st ρ w tm df cs->
  BU C w0 N0 G ops m ρ fc (lone (eg b tm df (.inRegion ops g::k)) cs w) b k ps cs A:=by
 induction N with
 |@nil D ae=>
  intro z f Y n fr ps st ρ w tm df cs A O aA V aD;obtain⟨xb,e,r,ad,af,tW,d,c,P⟩:=advance hp f z n fr st O aA aD;have E9:∀h,h<m->D h=true:=fun h aL=>ae h (Nat.lt_of_lt_of_le aL hp.mle);have L:e=[]:=by
   rcases P with aA|⟨a,ah,rfl,Q⟩
   ·exact aA
   ·exfalso;have H:a<m:=hp.lt a (by rw[tW];simp);have be:=c.sub a (E9 a H) H;have:=hp.nodup;rw[tW,agI]at this;exact this.2.2 a be a sm Z
  subst L;simp only[eM]at d;split at d
  ·cases d;have E:gg ops D xb=[]:=by
    exact YH
   have F:=c.frame;rw[E]at F;exact⟨D,[],ρ,w,tm,df,cs,.nil ae,c.down,E9,Ren.le_refl _,c.world.wJ (fun x M=>.inl M),F,.refl _ _,.refl _ _,V⟩
  ·cases d
 |@cons D h g bn s am Q N aN=>
  intro z f Y n fr ps st ρ w tm df cs A O aA V aD;obtain⟨xb,e,r,ad,af,tW,d,c,P⟩:=advance hp f z n fr st O aA aD;have ag:∀x,x∈xb->x∈e->False:=by
   intro x R d;have:=hp.nodup;rw[tW,agI]at this;exact this.2.2 x R x d Z
  by_cases aW:h<m
  ·have aB:h∈xb++e:=by rw[<-tW];exact hp.all h aW
   have ab:∀j,m<=j->(D j||j==h)=false:=by
    intro j hj;have:j≠h:=om;simp[V j hj,this]
   rcases agw.1 aB with aG|X
   ·
    have B:o7 C ops.toList ad af Y r=true:=by
     rcases P with rfl|⟨a,ah,rfl,q⟩
     ·simp only[eM]at d;split at d
      ·rename_i B;exact B
      ·cases d
     ·rw[eM]at d;split at d
      ·rename_i bu aY W bA;rw[ck,agm]at W;have:gb bu.op=true:=by rw[<-GG W];exact q
       simp only[this]at d;split at d
       ·cases d
       ·rename_i B;exact B
      ·cases d
    obtain⟨aP,bt,bg,y,J,bj⟩:=LK aw ay az hp c B s am Q aG g k;exact .of_steps y (.refl _ _) J (aN xb e Y r ad ps af aP bt bg df cs A tW d ab bj)
   ·
    have aO:∃ah,e=h::ah/\iO ops.toList h=true:=by
     rcases P with rfl|⟨a,ah,rfl,q⟩
     ·simp at X
     ·rcases agk.1 X with rfl|aR
      ·exact⟨ah,Z,q⟩
      ·exfalso;have bo:=hp.later xb a ah tW q h aR;have aS:=c.down.ready hp s Q bo;exact ag a (c.sub a aS (hp.lt a (by rw[tW];simp))) sm
    obtain⟨ah,rfl,q⟩:=aO;rw[eM]at d;have av:nth ops.toList h=some bn:=by rw[ck,agm];exact s
    have W:gb bn.op=true:=by rw[<-GG s];exact q
    split at d
    ·rename_i bD aY al aU;rw[av]at al;cases al;simp only[W]at d;split at d
     ·cases d
     ·rename_i B;have I:=Inv.reads (hp:=hp) c s Q;split at d
      ·cases d
      ·rename_i v o aK aQ aj;cases d;have F:=CA aj;subst F;obtain⟨aH,ac,i⟩:=AT I aj;cases aH with
       |next _ _ _=>exact i.elim
       |eH bq bh ap ak=>
        obtain⟨rfl,rfl,rfl⟩:=i;obtain⟨rfl,aa,aE,aF,y,S,br,J⟩:=o9 aw ay az (bk _) ac c.world c.frame c.eH g k s;refine⟨aa,aE,tm,df,cs,y,S.wJ (fun x M=>.inl M),?_,.refl _ _,_,aF,br,J⟩;refine(c.frame.mono y).sub (fr':={o with tm:=pj ops.toList o.tm}) Z fun t bm aC=>?_;obtain⟨R,au⟩:=Eg ops.toList o.tm t bm aC;show(pJ o.tm (gg ops D xb)).get t=some bm;rw[jJ,if_neg ?_]
        ·exact R
        ·intro u;rw[nU]at u;obtain⟨j,hj,ao,p⟩:=u;unfold wK at p;cases T:ops[j]? with
         |none=>rw[T]at p;simp at p
         |some aI=>
          rw[T]at p;simp at p;have aJ:gb aI.op=false:=by
           cases hq:gb aI.op with
           |false=>rfl
           |true=>rw[c.PB j hj (by rw[GG T];exact hq)]at ao;cases ao
          exact au aI (by have:=Array.mem_of_getElem? T;simpa using this) aJ p
      ·rename_i o aK aQ aj;obtain⟨aH,ac,i⟩:=AT I aj;cases aH with
       |eH _ _ _ _=>exact i.elim
       |next bh ap ak=>
        obtain⟨rfl,rfl,ar,ax⟩:=i;obtain⟨aa,aE,ba,bf,aT,y,S,bl,an,J⟩:=o9 aw ay az (bk _) ac c.world c.frame c.eH g k s;have ai:order=(xb++[h])++ah:=by rw[tW];simp
        have bc:h ∉ xb:=fun u=>ag h u sm;refine .of_steps y an J (aN (xb++[h]) ah aY r o ap ak aa aE ba bf aT A ai d ab ?_);refine⟨c.down.add s Q,fun j hj aM=>?_,fun j hj K=>?_,fun j hj K=>?_,fun j hj=>?_,fun bv aF bz aq u hd=>?_,fun bG bB bz bx bE bq bw R d d1 d2=>c.I2 _ _ _ _ _ _ _ R d (by simp only[ago]at d1;exact d1.1) (by simp only[ago]at d2;exact d2.1),fun bC bp=>?_,c.ee,c.PC,?_,?_,(c.eH.mono y).step an⟩
        ·simp only[agp,beq_iff_eq]at hj;rcases hj with hj|rfl
         ·simp[c.sub j hj aM]
         ·simp
        ·rcases agw.1 hj with hj|hj
         ·simp[c.PB j hj K]
         ·simp at hj;simp[hj]
        ·rcases agw.1 hj with hj|hj
         ·exact c.cover j hj K
         ·simp at hj;subst hj;rw[q]at K;cases K
        ·refine⟨h,by simp,?_⟩;unfold jA;rw[aU];exact hj
        ·simp only[ago]at hd;exact(S.K1 bz (.inr ⟨bv,aF,aq,u,hd.1⟩)).2
        ·obtain⟨R,au⟩:=c.aaC bC bp;exact⟨R,by simp[au]⟩
        ·refine S.wJ ?_;rintro x (M|⟨j,v,aq,u,hd⟩)
         ·exact .inl M
         ·simp only[ago]at hd;exact .inr ⟨j,v,aq,u,hd.1⟩
        ·refine bl.sub (fr':=oM o (gg ops (fun x=>D x||x==h) (xb++[h]))) ar.symm fun t bm aC=>?_;have U:(pJ o.tm (gg ops (fun x=>D x||x==h) (xb++[h]))).get t=some bm:=aC;rw[jJ]at U;split at U
         ·cases U
         ·rename_i aV;rw[ax t ?_]
          ·exact U
          ·intro u;refine aV ?_;rw[nU]at u⊢;obtain⟨j,hj,hd,p⟩:=u;have aX:j≠h:=fun a=>bc (a▸hj);exact⟨j,by simp[hj],by simp[hd,aX],p⟩
    ·cases d
  ·
   have E9:∀j,j<m->D j=true:=by
    intro j hj;exact c.down.ready hp s Q ((hp.tail h bn om s).2.2 j hj)
   have L:e=[]:=by
    rcases P with aA|⟨a,ah,rfl,q⟩
    ·exact aA
    ·exfalso;have H:a<m:=hp.lt a (by rw[tW];simp);exact ag a (c.sub a (E9 a H) H) sm
   subst L;simp only[eM]at d;split at d
   ·cases d;have E:gg ops D xb=[]:=by
     exact YH
    have F:=c.frame;rw[E]at F;exact⟨D,h::g,ρ,w,tm,df,cs,.cons s am Q N,c.down,E9,Ren.le_refl _,c.world.wJ (fun x M=>.inl M),F,.refl _ _,.refl _ _,V⟩
   ·cases d
end
end Go.AM
