/- Part of the proof. -/
import Derived.Test.YtpejealjkmhkgaaGreatDoorKAd
import Derived.IntWalk
set_option linter.all false
set_option maxHeartbeats 16000000
set_option maxRecDepth 100000
open Nat renaming le_of_ble_eq_true->abK,le_refl->abL,eq_of_beq_eq_true->aeu,min->aeM,sub_zero->aeQ,mul_le_mul_right->aeS
open Int renaming ofNat->aet
open Bool renaming and_eq_true->aev,false_eq_true->aeN
open Option renaming map_some->aeO,isSome_none->aeT
open List renaming extract_eq_take_drop->aeP
open Array renaming getElem?_toList->aeR
namespace Go.AM
open Go.RowKit (Below)
variable{a g u x:Value}
section
variable{C:dR} {w0:World} {N0:Nat} {G:Nat->Prop} {ρ:Ren} {st dC:St} {w:World} {v:Value}
theorem AO(l:cq)(ρ:Ren):cT ρ (ofBytes l) (ofBytes l):=by
 induction l with
 |nil=>exact .nil
 |cons c l b=>exact .cons (.int _ _) b
theorem IM{P:Program}{w:World}:∀{m c:List Value} {n:cq} (_:cT ρ m c) (_:sj m=some n) (s:ByteArray),
  Sem.run P (forIn (m:=Sem) c s (fun(v:Value) (B:ByteArray)=>match v with|Value.int .u8 A=>(pure (ForInStep.yield (B.push (UInt8.ofNat A.toNat))):Sem (ForInStep ByteArray))|_=>do(stuck "bytesToString: byte expected" :Sem PUnit);pure (ForInStep.yield B))) w=Result.ok ⟨⟨s.data.toList++n⟩⟩ w:=by
 intro m;induction m with
 |nil=>intro c n b h s;cases b;simp[sj]at h;subst h;simp
 |cons v m o=>
  intro c n b h s;cases b with
  |@cons _ D _ t r b=>
   simp only[sj]at h;split at h
   ·rename_i E C e l;cases h;unfold toByte at e;split at e
    ·rename_i A;cases e;cases r;simp only[List.forIn_cons,Sem.run_bind,Sem.run_pure,Result.andThen_ok];rw[o b l];simp
    ·cases e
   ·cases h
theorem IN(P:nQ C)(W:di w0 N0 G ρ st w){s ac:TypeId}(J:cX ρ a g)(c:ig C s ac a st=some (.val v dC)):rh w0 N0 G ρ dC v ((convert s ac g).run C.P w):=by
 unfold ig at c;split at c
 ·rename_i ak aj aa q;have o:=ed P aa w;have r:=ed P q w;split at c
  ·rename_i ai ap af aq A t;obtain⟨rfl,rfl⟩:=c9 c;cases J;refine⟨ρ,_,w,?_,Ren.le_refl _,W,.int _ _⟩;unfold convert;rw[cb _ o,cb _ r,A,t];rfl
  ·rename_i h A t;obtain⟨rfl,rfl⟩:=c9 c;cases J;refine⟨ρ,_,w,?_,Ren.le_refl _,W,.string _⟩;unfold convert;rw[cb _ o,cb _ r,A,t];rfl
  ·rename_i M h A t;split at c
   ·rename_i y H;split at c
    ·rename_i V;obtain⟨rfl,rfl⟩:=c9 c;cases J;have n:=ed P H w;rw[V]at n;generalize T:(Question.appendCap h.size 0 M).cut (w.tape w.drawn (Question.appendCap h.size 0 M))=b;have O:h.size<=b:=by rw[<-T];exact Nat.le_add_right _ _
     have p:(choose (Question.appendCap h.size 0 M)).run C.P w=.ok b {w with drawn:=w.drawn+1}:=by
      simp only[choose,Sem.run,Question.forced,aeN,if_false,T]
     have x:=W.drewN (w.drawn+1);generalize m:(h.data.map fun ad=>(.int .u8 ad.toNat:Value))++Array.replicate (b-h.size) (.int .u8 0:Value)=e;have d:e.size=b:=by
      rw[<-m];simp;omega
     have j:h.data.toList.length=h.size:=(size_data h).symm;refine⟨ρ.add st.n ⟨w.heap.size,0,1,e.size⟩,.slice (some ⟨w.heap.size,0,none⟩) h.size b,{w with drawn:=w.drawn+1,heap:=w.heap.push (.cells e M (b,b+1))},?_,ei W.ij,?_,?_⟩
     ·unfold convert;rw[cb _ o,cb _ r,A,t];simp only;rw[cb _ n];simp only[Conv.stringToBytes];rw[cb _ p];simp only[m];rw[cb _ (iz _ _)];have R:(markStringish ⟨w.heap.size,0,none⟩).run C.P {w with drawn:=w.drawn+1,heap:=w.heap.push (.cells e M)}=.ok () {w with drawn:=w.drawn+1,heap:=w.heap.push (.cells e M (b,b+1))}:=by
       simp only[markStringish,Go.shape,Sem.run_bind,Sem.run,World.shape?,Array.getElem?_push_size,Result.andThen_ok,freeze,World.freeze,d,if_neg Nat.one_ne_zero];congr 1;congr 1;apply Array.ext_getElem?;intro k;simp only[Array.getElem?_modify,Array.getElem?_push];by_cases B:k=w.heap.size
       ·subst B;simp
       ·rw[if_neg (fun M=>B M.symm),if_neg B,if_neg B]
      rw[cb _ R];rfl
     ·refine x.new Z Z ⟨e,M,b,b+1,Z,Z,Z,?_,fun k v K=>?_,fun k B Q=>?_⟩
      ·simp[ofBytes];omega
      ·have X:k<h.data.toList.length:=by
        rcases Nat.lt_or_ge k (ofBytes h.data.toList).length with Q|Q
        ·simpa [ofBytes]using Q
        ·rw[List.getElem?_eq_none Q]at K;cases K
       refine⟨v,?_,?_⟩
       ·rw[<-m,Nat.zero_add,Array.getElem?_append_left (by simpa using X)];rw[<-aeR,Array.toList_map];exact K
       ·have:=(AO h.data.toList (ρ.add st.n ⟨w.heap.size,0,1,e.size⟩)).get K;obtain⟨ag,Y,u⟩:=this;rw[K]at Y;cases Y;exact u
      ·simp at B;omega
     ·rw[j];refine .slice (l:=⟨w.heap.size,0,1,e.size⟩) (c7 _ _ _) O (by simp;omega)
    ·cases c
   ·cases c
  ·rename_i M am S ab A t;split at c
   ·rename_i y H;split at c
    ·rename_i V;have n:=ed P H w;rw[V]at n;split at c
     ·obtain⟨rfl,rfl⟩:=c9 c;cases J;refine⟨ρ,.string .empty,w,?_,Ren.le_refl _,W,?_⟩
      ·unfold convert;rw[cb _ o,cb _ r,A,t];simp only;rw[cb _ n];rfl
      ·exact .string _
     ·rename_i ad an;split at c
      ·rename_i ae f;split at c
       ·rename_i l z;obtain⟨rfl,rfl⟩:=c9 c;have N:∃F E D,g=.slice (some F) S E/\(loadCells F S).run C.P w=.ok D w/\cT ρ ae D.toList:=by
         cases J with
         |jp _ F=>
          refine⟨F,0, #[],Z,by simp[loadCells,loadCellsFrom],?_⟩;have:=fk f;cases ae with
          |nil=>exact .nil
          |cons _ _=>simp at this
         |slice i al ah=>
          obtain⟨D,L,I⟩:=W.read i f C.P;exact⟨_,_,D,Z,L,I⟩
        obtain⟨F,E,D,rfl,L,I⟩:=N;refine⟨ρ,.string ⟨l.toArray⟩,w,?_,Ren.le_refl _,W,.string _⟩;unfold convert;rw[cb _ o,cb _ r,A,t];simp only;rw[cb _ n];simp only[Conv.bytesToString];rw[cb _ L];have U:=IM (P:=C.P) (w:=w) I z ByteArray.empty;rw[<-Array.forIn_toList];exact cb (fun s=>(pure (.string s):Sem Value)) U
       ·cases c
      ·cases c
     ·cases c
    ·cases c
   ·cases c
  ·cases c
 ·cases c
theorem Ec(n:nQ C)(j:di w0 N0 G ρ st w){t:TypeId}{l c N E:Value}(X:cX ρ l N)(f:cX ρ c E)(b:jn C t l c st=some (.val v dC)):
  rh w0 N0 G ρ dC v ((Instr.makeSlice t N E).run C.P w):=by
 unfold jn at b;split at b
 ·rename_i q l c S;split at b
  ·rename_i A Q;split at b
   ·rename_i e m;split at b
    ·rename_i h;simp only[aev]at h;obtain⟨⟨⟨⟨U,W⟩,Y⟩,d⟩,a⟩:=h;have k:=abK U;have T:=Nat.blt_eq.mp W;have i:=abK Y;have g:=abK d;have J:=aeu a;obtain⟨rfl,rfl⟩:=c9 b;cases X;cases f;obtain⟨u,D,I⟩:=Fk n m w;obtain⟨R,V,s⟩:=mg n m w;have M:R.cells.size=e.size:=by rw[<-J,<-s.cells];simp
     have F:IntKind.i64.wrap (aet l)=l:=Go.IntWalk.i64_in _ (by simp;omega);have L:IntKind.i64.wrap (aet c)=c:=Go.IntWalk.i64_in _ (by simp;omega);have K:cT ρ (wo e.zero c) ((Array.range (c*e.size)).map (R.cells[· %R.cells.size]!)).toList:=by
      rw[<-M,Cr,s.cells];exact jI (vE (n.yn _ _ m) c) ρ
     refine⟨_,.slice (some ⟨w.heap.size,0,none⟩) l c,_,?_,ei j.ij,j.row A K,?_⟩
     ·simp only[Instr.makeSlice];rw[cb _ (ed n S w)];simp only[Q];rw[cb _ (show(asInt (.int .i64 (aet l))).run C.P w=.ok (aet l) w from rfl),cb _ (show(asInt (.int .i64 (aet c))).run C.P w=.ok (aet c) w from rfl),cb _ D];simp only[F,L,I];have O:((e.bytes:Int)*(c:Int))<=1099511627776:=by
       have:((c*e.bytes:Nat):Int)<=1099511627776:=om;rw[Int.natCast_mul,Int.mul_comm]at this;exact this
      have B:¬((decide ((c:Int)<0)||decide ((e.bytes:Int)*(c:Int)>2^48))||decide ((l:Int)<0)||decide ((l:Int)>(c:Int)))=true:=by
       simp only[Bool.or_eq_true,decide_eq_true_eq,Int.reducePow];omega
      rw[if_neg B];have o:(askRoom ((c:Int).toNat*e.bytes)).run C.P w=.ok () w:=by
       unfold askRoom;split<;>rfl
      rw[cb _ o,cb _ (fO n m w)];simp only[Int.toNat_natCast];by_cases H:c*e.size=0
      ·have r:∀p:Nat->Value,Array.map p (Array.range 0)= #[]:=fun _=>Array.eq_empty_of_size_eq_zero sm;simp only[H,if_true,r];rw[cb _ (Sem.run_pure (P:=C.P) (w:=w) _),cb _ (iz _ _)];simp only[r,Sem.run_pure]
      ·simp only[if_neg H];rw[cb _ V,cb _ (Sem.run_pure (P:=C.P) (w:=w) _),cb _ (iz _ _)];rfl
     ·refine .slice (l:=⟨w.heap.size,0,e.size,_⟩) (c7 _ _ _) (abL _) ?_;simp
    ·cases b
   ·cases b
  ·cases b
 ·cases b
theorem l6{P:Program}{h c:Option Value}{v n:Nat}(t:(h=none/\c=none)∨∃l b,h=some l/\c=some b/\cX ρ l b)(e:lu h v=some n):
  (h=none/\c=none/\n=v)∨∃b,c=some b/\h.isSome=true/\∀(o:Nat) (code:BoundsCode) (w:World),n<=o->(Instr.sliceBound b o code).run P w=.ok n w:=by
 rcases t with⟨rfl,rfl⟩|⟨l,b,rfl,rfl,m⟩
 ·simp[lu]at e;exact .inl ⟨rfl,rfl,e.symm⟩
 ·unfold lu at e;split at e
  ·rename_i r;cases r
  ·rename_i C o r;cases r;cases e;cases m;refine .inr ⟨_,Z,Z,fun B code w A=>?_⟩;have s:(0:Int)<=aet n/\aet n<=(B:Int):=by simp;omega
   simp only[Instr.sliceBound,asIntOf];rw[cb _ (Sem.run_pure (P:=P) (w:=w) _)];simp only[if_pos s];rfl
  ·cases e
theorem xl{P:Program}{lo r mx o h mx':Option Value}{isS:Bool}{len cap l D m:Nat} 
  (D1:(lo=none/\o=none)∨∃t b,lo=some t/\o=some b/\cX ρ t b) (s:(r=none/\h=none)∨∃t b,r=some t/\h=some b/\cX ρ t b)
  (v:(mx=none/\mx'=none)∨∃t b,mx=some t/\mx'=some b/\cX ρ t b) {SA:Nat} (e1:lu lo 0=some l) (A:lu r len=some D) (G:lu mx SA=some m)
  (h1:l<=D) (E:D<=m) (I:m<=SA) (H:SA<=cap) (e:r.isSome=true∨mx.isNone=true):
  (Instr.sliceBounds isS len cap o h mx').run P w=.ok (l,D,if mx.isSome then m else cap) w:=by
 unfold Instr.sliceBounds;rcases l6 (P:=P) v G with⟨rfl,rfl,rfl⟩|⟨J,rfl,c,B⟩
 ·rw[cb _ (Sem.run_pure (P:=P) (w:=w) _)];rcases l6 (P:=P) s A with⟨rfl,rfl,rfl⟩|⟨F,rfl,C,n⟩
  ·rw[cb _ (Sem.run_pure (P:=P) (w:=w) _)];exact YV
  ·simp only;rw[cb _ (n _ _ _ om)];exact YV
 ·simp only;rw[cb _ (B _ _ _ om)];rcases l6 (P:=P) s A with⟨rfl,rfl,rfl⟩|⟨F,rfl,C,n⟩
  ·exfalso;rcases e with e|e
   ·cases e
   ·rw[Option.isNone_iff_eq_none]at e;rw[e]at c;cases c
  ·simp only;rw[cb _ (n _ _ _ E)];rcases l6 (P:=P) D1 e1 with⟨rfl,rfl,rfl⟩|⟨yl,rfl,hls,hlr⟩
   ·rw[cb _ (Sem.run_pure (P:=P) (w:=w) _),c];rfl
   ·simp only;rw[cb _ (hlr _ _ _ h1),c];rfl
end
section
variable{C:dR} {w0:World} {N0:Nat} {G:Nat->Prop} {ρ:Ren} {st dC:St} {w:World} {v:Value}
theorem Ps(s:ByteArray)(l b:Nat)(c:l<=b)(e:b<=s.data.toList.length):s.extract l b=Lh s l b:=by
 apply ByteArray.ext;rw[ByteArray.data_extract];apply Array.ext';simp only[Lh,Array.toList_extract,aeP];rw[List.drop_take]
theorem Pt(ak:nQ C)(aw:di w0 N0 G ρ st w){t:TypeId}{lo ao D O N l:Option Value}(S:cX ρ a g) 
  (Y:(lo=none/\O=none)∨∃x r,lo=some x/\O=some r/\cX ρ x r) (i:(ao=none/\N=none)∨∃x r,ao=some x/\N=some r/\cX ρ x r)
  (q:(D=none/\l=none)∨∃x r,D=some x/\l=some r/\cX ρ x r) (b:pA C t a lo ao D st=some (.val v dC)):
  ∃ax,(Instr.sliceAt t g O N l).run C.P w=.ok ax w/\cX ρ v ax/\dC=st:=by
 unfold pA at b;split at b
 ·cases b
 ·rename_i aS aB;have u:=ed ak aB w;split at b
  ·rename_i s M;split at b
   ·rename_i A j H U;split at b
    ·rename_i c;simp only[aev]at c;have V:=abK c.1;have T:=abK c.2;obtain⟨rfl,rfl⟩:=c9 b;cases S;have d:l=none:=by rcases q with⟨_,y⟩|⟨x,r,y,_,_⟩<;>first|exact y|cases y
     subst d;refine⟨.string (s.extract A j),?_,by rw[Ps s A j V T];exact .string _,Z⟩;have F:=xl (w:=w) (P:=C.P) (isS:=false) (cap:=s.size) Y i (.inl ⟨rfl,rfl⟩) (mx:=none) (mx':=none) (SA:=s.size) H U (m:=s.size) rfl V (by rw[size_data];exact T) (abL _) (abL _) (.inr rfl);rw[size_data]at F;unfold Instr.sliceAt;rw[cb _ u,M];simp only[Instr.slice];rw[cb _ u,M];simp only[aeT,aeN,if_false];rw[size_data,cb _ F];rfl
    ·cases b
   ·cases b
  ·rename_i al aT ab R M;split at b
   ·rename_i m A j aa p H U aK;split at b
    ·cases b
    ·rename_i c;simp only[aev,Bool.or_eq_true]at c;obtain⟨⟨⟨am,ag⟩,I⟩,aG⟩:=c;have V:=abK am;have T:=abK ag;have aD:=abK I;have ay:∃J e,g=.slice J ab e/\R<=e:=by cases S<;>first|exact⟨_,_,rfl,abL _⟩|exact⟨_,_,rfl,by assumption⟩
     obtain⟨J,e,rfl,az⟩:=ay;have F:=xl (w:=w) (P:=C.P) (isS:=true) (cap:=e) Y i q H U aK V T aD az aG;have K:∀(h:Nat),(if D.isSome then aa else e)=h->(Instr.sliceAt t (.slice J ab e) O N l).run C.P w=.ok (.slice (if h=A then J else J.map (·.add (A*m.size))) (j-A) (h-A)) w:=by
      intro h o;rw[o]at F;unfold Instr.sliceAt;rw[cb _ u,M];simp only[Instr.slice];rw[cb _ u,M];simp only;rw[cb _ F];simp only;rw[cb _ (fO ak p w)];rfl
     have ah:∀h,(if D.isSome then aa else e)=h->aa<=h/\(D.isSome=true->h=aa)/\h<=e:=by
      intro h o;split at o
      ·subst o;exact⟨abL _,fun _=>rfl,om⟩
      ·rename_i aJ;subst o;exact⟨om,fun y=>absurd y aJ,abL _⟩
     obtain⟨h,o⟩:∃h,(if D.isSome then aa else e)=h:=⟨_,rfl⟩;obtain⟨aN,aL,ad⟩:=ah h o;split at b
     ·split at b
      ·rename_i Q;obtain⟨rfl,rfl⟩:=c9 b;cases S;refine⟨_,K h o,?_,Z⟩;have:j-A=0:=om;have au:h-A=0:=om;rw[this,au];have E:h=A:=om;rw[if_pos E];exact .me
      ·cases b
     ·rename_i aR aC;split at b
      ·rename_i Q;have Q:=aeu Q;subst Q;obtain⟨rfl,rfl⟩:=c9 b;refine⟨_,K h o,?_,Z⟩;have E:A=0:=om;have n:j=0:=om;subst E n;cases S with
       |jp _ J=>
        have:h=0:=om;subst this;simp only[if_true,aeQ];exact .jp _ _
       |@slice _ _ _ _ _ an L aE X=>
        simp only[aeQ,Nat.zero_mul];split
        ·rename_i W;subst W;exact .jp _ _
        ·simp only[aeO,kS,Nat.add_zero];exact .slice L (Nat.zero_le _) (Nat.le_trans (Nat.add_le_add_left (aeS _ ad) _) X)
      ·split at b
       ·rename_i av B;split at b
        ·rename_i k;have k:=aeu k;subst k;obtain⟨rfl,rfl⟩:=c9 b;refine⟨_,K h o,?_,Z⟩;cases S with
         |jp _ J=>
          have E:A=0:=om;have:h=0:=om;subst this E;have n:j=0:=om;have f:aa=0:=om;subst n f;simp only[if_true];exact .jp _ _
         |@slice _ _ _ _ _ an L aE X=>
          have af:an.es=m.size:=by
           unfold Pa at B;split at B
           ·rename_i aQ av aO aP ai;cases B;obtain⟨aH,z,aq,ar,aI,aA⟩:=aw.obj _ _ _ L ai;exact aA.es
           ·cases B
          split
          ·rename_i W;subst W;have f:aa-h=0:=om;have n:j-h=0:=om;rw[f,n,Nat.sub_self];exact .jp _ _
          ·simp only[aeO,kS,Nat.add_assoc];refine .slice L om ?_;rw[af]at X⊢;have H:h*m.size=A*m.size+(h-A)*m.size:=by rw[<-Nat.add_mul];congr 1;omega
           have U:h*m.size<=e*m.size:=aeS _ ad;omega
        ·cases b
       ·cases b
     ·cases b
   ·cases b
  ·rename_i ae al aR aC M;split at b
   ·rename_i m A j p H U;split at b
    ·rename_i c;simp only[aev]at c;obtain⟨⟨am,ag⟩,I⟩:=c;have V:=abK am;have T:=abK ag;obtain⟨rfl,rfl⟩:=c9 b;obtain⟨an,L,rfl⟩:=qx S;have d:l=none:=by rcases q with⟨_,y⟩|⟨x,r,y,_,_⟩<;>first|exact y|cases y
     subst d;have F:=xl (w:=w) (P:=C.P) (isS:=false) (cap:=ae) Y i (.inl ⟨rfl,rfl⟩) (mx:=none) (mx':=none) (SA:=ae) H U (m:=ae) rfl V T (abL _) (abL _) (.inr rfl);refine⟨.slice (some (if ae=A then⟨an.b,an.d+aC,none⟩else(⟨an.b,an.d+aC,none⟩:Addr).add (A*m.size))) (j-A) (ae-A),?_,?_,Z⟩
     ·unfold Instr.sliceAt;rw[cb _ u,M];simp only[Instr.sureAddr];rw[cb _ (Sem.run_pure (P:=C.P) (w:=w) _),cb _ F];simp only[aeT,aeN,if_false];rw[cb _ (fO ak p w)];rfl
     ·split at I
      ·rename_i aQ av aO aP ai;simp only[aev]at I;have B:=aeu I.1;have aM:=abK I.2;obtain⟨aH,z,aq,ar,aI,aA⟩:=aw.obj _ _ _ L ai;have ap:=aA.es;have aF:=aA.fits;split
       ·rename_i W;subst W;have n:j-ae=0:=om;rw[n,Nat.sub_self];exact .jp _ _
       ·rw[kS,Nat.add_assoc];refine .slice L (abL _) ?_;rw[ap,B];have H:ae*m.size=A*m.size+(ae-A)*m.size:=by rw[<-Nat.add_mul];congr 1;omega
        omega
      ·cases I
    ·cases b
   ·cases b
  ·cases b
end
variable{d:TypeDesc} {q:Bool} {y:TI} {k z:Nat} {p:Program}
section
variable{C:dR} {w0:World} {N0:Nat} {G:Nat->Prop} {ρ:Ren} {st dC:St} {w:World} {v:Value}
theorem sl{m b l n:Value}(e:cX ρ m l)(h:cX ρ b n)(c:jm d m b=some q):Instr.sameNow d l n=some q:=by
 unfold jm at c;split at c
 ·cases e;cases h;cases c;rfl
 ·split at c
  ·rename_i o;have:=sk.1 o;subst this;cases e;cases h;cases c;simp[Instr.sameNow,vB]
  ·cases c
 ·rename_i m b;cases e;cases h;cases c;show some (m==b)=some (pz m b);rw[beq_toListBytes,toList_data,toList_data,pz,qy]
 ·cases c
theorem vF(r:cX ρ a g):∀{c b:List MapEntry} {n:Nat} {w:Option (Nat×Value)},mO ρ c b->rE d a c n=some w->
  (w=none/\Instr.findNow d g b n=some none)∨∃v A h,w=some (v,A)/\Instr.findNow d g b n=some (some (v,h))/\cX ρ A h/\n<=v/\v<n+c.length:=by
 intro c;induction c with
 |nil=>
  intro b n w l m;cases b with
  |nil=>simp[rE]at m;subst m;exact .inl ⟨rfl,rfl⟩
  |cons _ _=>exact l.elim
 |cons J c F=>
  intro b n w l m;cases b with
  |nil=>exact l.elim
  |cons E b=>
   obtain⟨s,C,I,D⟩:=l;simp only[rE]at m;split at m
   ·rename_i e;cases m;refine .inr ⟨n,J.val,E.val,Z,?_,C,abL _,by simp⟩;simp only[Instr.findNow,sl r s e]
   ·rename_i e;rcases F D m with⟨o,t⟩|⟨v,A,h,o,t,B,G,H⟩
    ·exact .inl ⟨o,by simp only[Instr.findNow,sl r s e];exact t⟩
    ·exact .inr ⟨v,A,h,o,by simp only[Instr.findNow,sl r s e];exact t,B,om,by simp only[List.length_cons];omega⟩
   ·cases m
theorem mO.length:∀{c e:List MapEntry},mO ρ c e->c.length=e.length
 |[],[],_=>rfl
 |_::_,_::_,⟨_,_,_,h⟩=>by simp[mO.length h]
 |[],_::_,b=>b.elim
 |_::_,[],b=>b.elim
theorem us(e:nQ C){t:TypeId}(l:C.tt.get t=some y)(b:rF y.desc=true)(o:Bool)(n:Nat)(m:Value):(Instr.checkKey o (n+1) t m).run C.P w=.ok () w:=by
 have h:=ed e l w;unfold Instr.checkKey;rw[cb _ h];cases c:y.desc<;>rw[c]at b<;>first|(simp[rF]at b;done)|rfl
theorem xm{w:World}{o:Obj}(c:w.heap[k]?=some o)(l:∀e h b,o≠.cells e h b):(getObj k).run p w=.ok o w:=by
 simp only[getObj,Sem.run,c]
theorem AP(b:nQ C){t:TypeId}(c:C.tt.get t=some y){es:List MapEntry}{e:Option (Nat×Value)}(h:Instr.findNow y.desc a es 0=some e):(Instr.findKey t a es).run C.P w=.ok e w:=by
 unfold Instr.findKey;rw[cb _ (ed b c w),h];rfl
theorem LC(l:nQ C)(k:di w0 N0 G ρ st w){t:TypeId}(W:cX ρ a g)(R:cX ρ u x)(b:qs C t a u q st=some (.val v dC)):
  ∃O,(Instr.lookup t g x q).run C.P w=.ok O w/\cX ρ v O/\dC=st:=by
 unfold qs at b;split at b
 ·cases b
 ·rename_i ac Q;split at b
  ·rename_i S i N;split at b
   ·rename_i T ab E F;split at b
    ·cases b
    ·rename_i V;split at b
     ·cases b
     ·rename_i y e;obtain⟨M,j,U⟩:=mg l F w;have D:=U.mk;have h:∀(c:Array MapEntry) (m:Option (Nat×Value)),Instr.findNow T.desc x c.toList 0=some m->∀A:Bool,(do
        Instr.checkKey A 10000 S x
        match<-Instr.findKey S x c.toList with
        |some (_,v)=>do
         let a<-pure (v,true)
         pure (if q=true then Value.tuple #[a.1,Value.bool a.2]else a.1)
        |none=>do
         let M<-zeroValue i
         let a<-pure (M,false)
         pure (if q=true then Value.tuple #[a.1,Value.bool a.2]else a.1):Sem Value).run C.P w=.ok (match m with|some (_,K)=>(if q=true then .tuple #[K,.bool true]else K)|none=>(if q=true then .tuple #[M,.bool false]else M)) w:=by
       intro c m n A;rw[cb _ (us l E V _ 9999 _),cb _ (AP l E n)];cases m with
       |none=>simp only;rw[cb _ j];rfl
       |some ah=>rfl
      have L:∃c:Array MapEntry,mO ρ y c.toList/\∀m,Instr.findNow T.desc x c.toList 0=some m->
        (Instr.lookup t g x q).run C.P w=.ok (match m with|some (_,K)=>(if q=true then .tuple #[K,.bool true]else K)|none=>(if q=true then .tuple #[M,.bool false]else M)) w:=by
       split at e
       ·cases e;cases W;refine⟨#[],tv,fun m n=>?_⟩;unfold Instr.lookup;rw[cb _ (ed l Q w)];simp only[N];rw[cb _ (Sem.run_pure (P:=C.P) (w:=w) _)];exact h #[] m n _
       ·rename_i ae;split at e
        ·rename_i z X d;cases e;cases W with
         |map p=>
          obtain⟨c,A,B⟩:=k.obj _ _ _ p d;refine⟨c,B,fun m n=>?_⟩;unfold Instr.lookup;rw[cb _ (ed l Q w)];simp only[N];rw[cb _ (xm A (by intro _ _ _ ad;cases ad))];simp only;rw[cb _ (Sem.run_pure (P:=C.P) (w:=w) _)];exact h c m n _
        ·cases e
       ·cases e
      obtain⟨c,r,s⟩:=L;split at b
      ·cases b
      ·rename_i af ag J;obtain⟨rfl,rfl⟩:=c9 b;rcases vF R r J with⟨A,_⟩|⟨Y,K,f,A,o,B,_⟩
       ·cases A
       ·cases A;refine⟨_,s _ o,?_,Z⟩;cases q
        ·exact B
        ·exact .tuple (.cons B (.cons (.bool _) .nil))
      ·rename_i J;split at b
       ·cases b
       ·rename_i aa H;rw[D]at H;cases H;obtain⟨rfl,rfl⟩:=c9 b;rcases vF R r J with⟨_,o⟩|⟨Y,K,f,A,_⟩
        ·refine⟨_,s _ o,?_,Z⟩;have I:=Gu (l.yn _ _ F) D ρ;cases q
         ·exact I
         ·exact .tuple (.cons I (.cons (.bool _) .nil))
        ·cases A
   ·cases b
  ·cases b
theorem di.SB(h:di w0 N0 G ρ st w){r:Nat}{l:Loc}{es:List MapEntry}{n:List MapEntry}{c:Array MapEntry}(hl:ρ r=some l)(hg:st.get r=some (.map es k))(F:mO ρ n c.toList):
  di w0 N0 G ρ (st.put r (.map n z)) {w with heap:=w.heap.setIfInBounds l.b (.map c z)}:=by
 have A:=h.xT _ _ hl;have Gh:∀C,C≠l.b->(w.heap.setIfInBounds l.b (.map c z))[C]?=w.heap[C]?:=fun C D=>Array.getElem?_setIfInBounds_ne (fun e=>D e.symm);have s:(w.heap.setIfInBounds l.b (.map c z))[l.b]?=some (.map c z):=Array.getElem?_setIfInBounds_self_of_lt A.2.2;have RM:∀E B t,ρ E=some B->(st.put r (.map n z)).get E=some t->B.b=l.b->E=r∨t=.dead:=by
  intro E B t H v zG;by_cases m:E=r
  ·exact .inl m
  ·rw[c8,if_neg m]at v;have:=h.sep _ _ _ _ _ _ hl H zG.symm hg v (fun e=>m e.symm);cases t<;>first|exact .inr rfl|exact this.elim
 refine⟨⟨fun b I hb=>?_,fun b M e K L hb=>?_,h.wf.NN⟩,?_,by simpa using h.Fi,h.K1,fun b o hb=>by have:=h.xT b o hb;exact⟨this.1,this.2.1,by simpa using this.2.2⟩,fun b o I hb Vi=>?_,fun b b' l1 J o1 o2 h1 h2 he g1 g2 BM=>?_⟩
 ·exact acu
 ·rw[c8]at hb;split at hb
  ·cases hb
  ·exact h.wf.dP _ _ _ _ _ hb
 ·exact h.below.trans ⟨Z,Z,Z,by simp,fun C D=>Gh C om⟩
 ·show yj ρ o I (w.heap.setIfInBounds l.b (.map c z))[o.b]?;by_cases zG:o.b=l.b
  ·rcases RM _ _ _ hb Vi zG with rfl|rfl
   ·rw[c8,if_pos rfl]at Vi;cases Vi;rw[zG,s];exact⟨c,Z,F⟩
   ·trivial
  ·exact Zq
 ·exact Yo
theorem LD(r:cX ρ a g)(n:cX ρ u x):∀{c:List MapEntry} {b:List MapEntry} {h:Nat},mO ρ c b->h<c.length->
  mO ρ (xi c h a u) (b.modify h fun w=>{w with key:=g,val:=x}):=by
 intro c;induction c with
 |nil=>intro b h s e;simp at e
 |cons w c t=>
  intro b h s e;cases b with
  |nil=>exact s.elim
  |cons A b=>
   obtain⟨v,o,l,m⟩:=s;cases h with
   |zero=>simp only[xi,List.modify_zero_cons];exact⟨r,n,l,m⟩
   |succ h=>simp only[xi,List.modify_succ_cons];exact⟨v,o,l,t m (by simpa using e)⟩
theorem mO.append{h c b e:List MapEntry}(l:mO ρ h c)(t:mO ρ b e):mO ρ (h++b) (c++e):=by
 induction h generalizing c with
 |nil=>cases c with|nil=>exact t|cons _ _=>exact l.elim
 |cons w h m=>cases c with
  |nil=>exact l.elim
  |cons v c=>obtain⟨r,n,s,o⟩:=l;exact⟨r,n,s,m o⟩
theorem Cw{w:World}{o b:Obj}(e:w.heap[k]?=some o)(l:∀h m c,o≠.cells h m c):(setObj k b).run p w=.ok () {w with heap:=w.heap.setIfInBounds k b}:=by
 simp only[setObj,Sem.run,e]
theorem Gx{r b:Value}{es:List MapEntry}(c:Instr.findNow d r es k=some (some (z,a))):∃e,es[z-k]?=some e/\Instr.sameNow d r e.key=some true/\k<=z:=by
 induction es generalizing k with
 |nil=>simp[Instr.findNow]at c
 |cons e es h=>
  simp only[Instr.findNow]at c;split at c
  ·rename_i m;simp only[Option.some.injEq,Prod.mk.injEq]at c;obtain⟨rfl,_⟩:=c;exact⟨e,by simp,m,abL _⟩
  ·obtain⟨o,n,l,s⟩:=h c;refine⟨o,?_,l,om⟩;rw[show z-k=(z-(k+1))+1 from by omega];simpa using n
  ·cases c
theorem SC{e b:Value}(c:Instr.sameNow d e b=some true)(m:Program)(w:World):(Instr.keyThatStays b e).run m w=.ok e w:=by
 have l:Instr.sameBits 10000 b e=true:=by
  unfold Instr.sameNow at c;split at c
  ·split at c
   ·rename_i h;subst h;simp only[Option.some.injEq,beq_iff_eq]at c;subst c;show(_==_&&_==_)=true;simp
   ·cases c
  ·rename_i e b;simp only[Option.some.injEq]at c;rw[beq_toListBytes,beq_iff_eq]at c;show(b==e)=true;rw[beq_toListBytes,beq_iff_eq];exact c.symm
  ·simp only[Option.some.injEq,beq_iff_eq]at c;subst c;show(_==_)=true;simp
  ·cases c
 unfold Instr.keyThatStays;rw[if_pos l];rfl
theorem D8(B:nQ C)(D:di w0 N0 G ρ st w){t:TypeId}{Y h:Value}(W:cX ρ a g)(o:cX ρ u x)(K:cX ρ Y h)(c:jo C t a u Y st=some (.val v dC)):
  ∃I,(Instr.mapUpdate t g x h).run C.P w=.ok () I/\di w0 N0 G ρ dC I/\v=lr/\dC.n=st.n:=by
 unfold jo at c;split at c
 ·rename_i q z S;split at c
  ·rename_i i k Q;split at c
   ·rename_i T p b s A;cases W with
    |@map _ N F=>
    obtain⟨e,H,r⟩:=D.obj _ _ _ F A;split at c
    ·cases c
    ·rename_i L;have n:∀(O:Option (Nat×Value)),Instr.findNow T.desc x e.toList 0=some O->(Instr.mapUpdate t (.map (some N.b)) x h).run C.P w=((match O with
       |some (P,_)=>do
        let key<-Instr.keyThatStays (((e[P]?).map (·.key)).getD x) x
        setObj N.b (.map (e.modify P fun H=>{H with key,val:=h}) b)
       |none=>setObj N.b (.map (e.push {key:=x,val:=h,born:=b}) (b+1))):Sem Unit).run C.P w:=by
      intro O U;unfold Instr.mapUpdate;rw[cb _ (ed B S w)];simp only[Q];rw[cb _ (xm H (by intro _ _ _ M;cases M))];simp only;rw[cb _ (us B s L _ 9999 _),cb _ (AP B s U)];cases O<;>rfl
     split at c
     ·cases c
     ·rename_i P aa E;obtain⟨rfl,rfl⟩:=c9 c;rcases vF o r E with⟨m,_⟩|⟨f,y,V,m,l,d,_,X⟩
      ·cases m
      ·cases m;obtain⟨j,J,R,_⟩:=Gx (b:=x) l;rw[aeQ,aeR]at J;refine⟨{w with heap:=w.heap.setIfInBounds N.b (.map (e.modify P fun H=>{H with key:=x,val:=h}) b)},?_,?_,Z,Z⟩
       ·rw[n _ l];simp only[J,aeO,Option.getD_some];rw[cb _ (SC R C.P w)];exact Cw H (by intro _ _ _ M;cases M)
       ·refine D.SB F A ?_;rw[Array.toList_modify];exact LD o K r om
     ·rename_i E;obtain⟨rfl,rfl⟩:=c9 c;rcases vF o r E with⟨_,l⟩|⟨f,y,V,m,_⟩
      ·refine⟨{w with heap:=w.heap.setIfInBounds N.b (.map (e.push {key:=x,val:=h,born:=b}) (b+1))},?_,?_,Z,Z⟩
       ·rw[n _ l];exact Cw H (by intro _ _ _ M;cases M)
       ·refine D.SB F A ?_;rw[Array.toList_push];exact r.append ⟨o,K,Z,tv⟩
      ·cases m
   ·cases c
  ·cases c
 ·cases c
end
def oL(ρ:Ren)(c:Operand->Option Value)(b:Operand->Value):Prop:=∀e v,c e=some v->cX ρ v (b e)
def IP(ρ:Ren)(t e:Target):Prop:=
 match t,e with
 |.collected n,.collected b=>∃l,ρ n=some l/\b=l.b
 |.fn (.func m) o,.fn (.func h) c=>m=h/\cT ρ o.toList c.toList
 |_,_=>False
structure acx (ρ:Ren) (d d':Deferred):Prop where
 target:IP ρ d.target d'.target
 args:cT ρ d.args.toList d'.args.toList
structure Fm (C:dR):Prop where
 fn:∀f fi,C.ff.get f=some fi->∃fn,C.P.funcs[f]?=some fn/\fn.body=some fi.body/\fn.ntmps=fi.nt/\fn.results.toList=fi.VE/\(fn.name== "runtime.NumGoroutine")=false
def nX(C:dR):Prop:=∀e c v,C.ext e c=some v->∀(ρ:Ren) (b:Array Value) (w:World),cT ρ c b.toList->(callFunc e b).run C.P w=.ok (.value v) w/\cX ρ v v
def AQ(C:dR)(w0:World)(N0:Nat)(G:Nat->Prop)(ρ:Ren)(st:St)(w:World)(o:AR)(h:Result Next):Prop:=
 match o with
 |.val v dC=>∃m e l,(h=.ok (.value e) l∨(h=.ok .skip l/\e=undef))/\Kept w0 N0 G ρ dC v e l m
 |.eH v dC=>dC=st/\∃e,h=.halt (.panic e) w/\cX ρ v e
 |.enter t c=>∃b,h=.ok (.enter t b) w/\cT ρ c b.toList
 |.yield A c=>∃r b,ρ A=some r/\cT ρ c b.toList/\h=(Instr.yield r.b b).run C.P w
 |.recover=>h=.ok .recover w
 |.defer s=>∃n,h=.ok (.defer n) w/\acx ρ s n
variable{i:Array Value} {j:List Value} {f:Array TypeId}
section
variable{C:dR} {w0:World} {N0:Nat} {G:Nat->Prop} {ρ:Ren} {st dC:St} {w:World} {v:Value}
theorem SD(T:nQ C)(a:di w0 N0 G ρ st w){ty:TypeId}(l:cT ρ j i.toList)(h:IA C f.toList j st=some (.val v dC)):
  rh w0 N0 G ρ dC v ((Builtin.copy_ f ty i).run C.P w):=by
 obtain⟨f⟩:=f;obtain⟨i⟩:=i;unfold IA at h;split at h
 ·rename_i Q E y b q src J;simp only at J l;subst J;cases l with
  |@cons _ g _ _ N l=>
  cases l with
  |@cons _ A _ _ D l=>
  cases l;split at h
  ·rename_i ap X;split at h
   ·rename_i ae d;split at h
    ·rename_i ag r U n;split at h
     ·rename_i I e;have V:∃c m,g=.slice c b m:=by cases N<;>exact⟨_,_,rfl⟩
      obtain⟨c,m,rfl⟩:=V;have ai:(⟨Q::E⟩:Array TypeId)[0]?=some Q:=rfl;have ab:(⟨[.slice c b m,A]⟩:Array Value)[0]?=some (.slice c b m):=rfl;have k:(⟨[.slice c b m,A]⟩:Array Value)[1]?=some A:=rfl;have K:(Builtin.lenOf A).run C.P w=.ok r w:=by
       unfold rf at n;split at n
       ·cases n;cases D<;>rfl
       ·cases n;cases D;rename_i s;show Result.ok s.size w=_;rw[size_data]
       ·cases n
      have F:∃o,(Builtin.firstCells ag.size (aeM r b) A).run C.P w=.ok o w/\cT ρ I o.toList:=by
       unfold ii at e;split at e
       ·cases e;cases D;exact⟨#[],rfl,.nil⟩
       ·rename_i Y am R ar;cases D with
        |jp _ ac=>
         simp only[rf,Option.some.injEq]at n;subst n;have O:aeM 0 b=0:=Nat.zero_min _;rw[O]at e⊢;refine⟨#[],by simp[Builtin.firstCells,loadCells,loadCellsFrom],?_⟩;have:=fk e;cases I with
         |nil=>exact .nil
         |cons _ _=>simp at this
        |slice B aj z=>
         obtain⟨x,aq,an⟩:=a.read B e C.P;exact⟨x,aq,an⟩
       ·rename_i s;cases e;cases D;refine⟨_,Z,?_⟩;have:((s.extract 0 (aeM r b)).data.map fun Y=>(.int .u8 Y.toNat:Value)).toList=ofBytes (s.data.toList.take (aeM r b)):=by
         simp[ofBytes,ByteArray.data_extract,aeP]
        rw[this];exact AO _ _
       ·cases e
      obtain⟨o,af,M⟩:=F;have t:∀(p:Result Value),((do
        if let some ao:=c then storeCells ao o.toList
        pure (goInt (aeM r b)):Sem Value)).run C.P w=p->(Builtin.copy_ ⟨Q::E⟩ ty ⟨[.slice c b m,A]⟩).run C.P w=p:=by
       intro p ad;simp only[Builtin.copy_,ai,ab,k];rw[cb _ (ed T X w)];simp only[d];rw[cb _ K,cb _ (fO T U w),cb _ af];exact ad
      split at h
      ·obtain⟨rfl,rfl⟩:=c9 h;cases N;refine⟨ρ,.int .i64 (aet (aeM r 0)),w,t _ Z,Ren.le_refl _,a,.int _ _⟩
      ·rename_i ak;obtain⟨rfl,rfl⟩:=c9 h;have ah:o.toList=[]:=by cases aa:o.toList with|nil=>rfl|cons _ _=>rw[aa]at M;cases M
       refine⟨ρ,.int .i64 (aet (aeM r b)),w,t _ ?_,Ren.le_refl _,a,.int _ _⟩;rw[ah];cases c<;>rfl
      ·rename_i Y am P;split at h
       ·rename_i al W;obtain⟨rfl,rfl⟩:=c9 h;have H:∃R,ρ Y=some R/\c=some ⟨R.b,R.d+am,none⟩:=by
         cases N with
         |jp _ ac=>
          exfalso;have O:aeM r 0=0:=Nat.min_zero _;rw[O]at e;have:I=[]:=by
           unfold ii at e;split at e
           ·cases e;rfl
           ·have:=fk e;cases I with
            |nil=>rfl
            |cons _ _=>simp at this
           ·cases e;simp[ofBytes]
           ·cases e
          exact P this
         |slice B aj z=>exact⟨_,B,rfl⟩
        obtain⟨R,B,rfl⟩:=H;obtain⟨u,S,L,_⟩:=a.write B W M C.P;refine⟨ρ,.int .i64 (aet (aeM r b)),u,t _ ?_,Ren.le_refl _,L,.int _ _⟩;simp only;rw[cb _ S];rfl
       ·cases h
      ·cases h
     ·cases h
    ·cases h
   ·cases h
  ·cases h
 ·cases h
theorem VP(F:nQ C)(I:di w0 N0 G ρ st w){ty:TypeId}(e:cT ρ j i.toList)(b:yf C f.toList j st=some (.val v dC)):
  (Builtin.len_ f ty i).run C.P w=.ok v w/\cX ρ v v/\dC=st:=by
 obtain⟨f⟩:=f;obtain⟨i⟩:=i;unfold yf at b;split at b
 ·rename_i L t S O r;simp only at r e;subst r;cases e with
  |@cons _ B _ A o e=>
  have m:(⟨L::t⟩:Array TypeId)[0]?=some L:=rfl;have h:(⟨B::A⟩:Array Value)[0]?=some B:=rfl;split at b
  ·cases b
  ·rename_i Q D;have l:=ed F D w;split at b
   ·rename_i s c;obtain⟨rfl,rfl⟩:=c9 b;cases o;refine⟨?_,.int _ _,Z⟩;simp only[Builtin.len_,m,h];rw[cb _ l,c];show Result.ok (goInt s.size) w=_;rw[size_data];rfl
   ·rename_i N J c;obtain⟨rfl,rfl⟩:=c9 b;refine⟨?_,.int _ _,Z⟩;simp only[Builtin.len_,m,h];rw[cb _ l,c];rfl
   ·rename_i N J T c;obtain⟨rfl,rfl⟩:=c9 b;refine⟨?_,.int _ _,Z⟩;simp only[Builtin.len_,m,h];rw[cb _ l,c];cases o<;>rfl
   ·rename_i c;obtain⟨rfl,rfl⟩:=c9 b;refine⟨?_,.int _ _,Z⟩;simp only[Builtin.len_,m,h];rw[cb _ l,c];cases o;rfl
   ·rename_i R c;split at b
    ·rename_i P M E;obtain⟨rfl,rfl⟩:=c9 b;cases o with
     |map n=>
      obtain⟨K,J,H⟩:=I.obj _ _ _ n E;refine⟨?_,.int _ _,Z⟩;simp only[Builtin.len_,m,h];rw[cb _ l,c];simp only;rw[cb _ (xm J (by intro _ _ _ I;cases I))];have n:=H.length;simp only[Array.length_toList]at n;rw[n];rfl
    ·cases b
   ·cases b
 ·cases b
theorem IQ{P:Program}:∀{l b:List Value} {m c e:Value},cT ρ l b->cX ρ m c->nO true m l=some e->(b.foldlM Builtin.max2 c).run P w=.ok e w/\cX ρ e e:=by
 intro l;induction l with
 |nil=>
  intro b m c e hr hx h;exact abQ
 |cons D l o=>
  intro b m c e hr hx h;cases hr with
  |cons r hr=>
   unfold nO at h;split at h
   ·rename_i v;cases v
   ·rename_i B t A s C v;cases v;cases hx;cases r;simp only[zP]at h;have:=o hr (.int _ _) h;refine⟨?_,this.2⟩;rw[List.foldlM_cons];have n:(Builtin.max2 (.int B t) (.int A s)).run P w=.ok (.int B (if s>t then s else t)) w:=rfl;rw[cb _ n];simpa using this.1
   ·cases h
theorem IR{P:Program}:∀{l b:List Value} {m c e:Value},cT ρ l b->cX ρ m c->nO false m l=some e->(b.foldlM Builtin.min2 c).run P w=.ok e w/\cX ρ e e:=by
 intro l;induction l with
 |nil=>
  intro b m c e hr hx h;exact abQ
 |cons D l o=>
  intro b m c e hr hx h;cases hr with
  |cons r hr=>
   unfold nO at h;split at h
   ·rename_i v;cases v
   ·rename_i B t A s C v;cases v;cases hx;cases r;simp only[zP]at h;have:=o hr (.int _ _) h;refine⟨?_,this.2⟩;rw[List.foldlM_cons];have n:(Builtin.min2 (.int B t) (.int A s)).run P w=.ok (.int B (if s<t then s else t)) w:=rfl;rw[cb _ n];simpa using this.1
   ·cases h
end
end Go.AM
