/- Part of the proof. -/
import Derived.Test.YtpejealjkmhkgaaGreatDoorKAd
import Derived.IntWalk
set_option linter.all false
set_option maxHeartbeats 16000000
set_option maxRecDepth 100000
open Nat renaming le_of_ble_eq_true->YL,le_refl->YM,eq_of_beq_eq_true->YO,min->YQ,sub_zero->YU,mul_le_mul_right->YW
open Int renaming ofNat->YN
open Bool renaming and_eq_true->YP,false_eq_true->YR
open Option renaming map_some->YS,isSome_none->YX
open List renaming extract_eq_take_drop->YT
open Array renaming getElem?_toList->YV
namespace Go.AM
open Go.RowKit (Below)
variable{a f p q:Value}
section
variable{C:dU} {w0:World} {N0:Nat} {G:Nat->Prop} {ρ:Ren} {st dI:St} {w:World} {v:Value}
theorem ye(l:List UInt8)(ρ:Ren):cU ρ (ofBytes l) (ofBytes l):=by
 induction l with
 |nil=>exact .nil
 |cons c l b=>exact .cons (.int _ _) b
theorem Fx{P:Program}{w:World}:∀{o c:List Value} {t:List UInt8} (_:cU ρ o c) (_:qk o=some t) (s:ByteArray),
  Sem.run P (forIn (m:=Sem) c s (fun(z:Value) (B:ByteArray)=>match z with|Value.int .u8 A=>(pure (ForInStep.yield (B.push (UInt8.ofNat A.toNat))):Sem (ForInStep ByteArray))|_=>do(stuck "bytesToString: byte expected" :Sem PUnit);pure (ForInStep.yield B))) w=Result.ok ⟨⟨s.data.toList++t⟩⟩ w:=by
 intro o;induction o with
 |nil=>intro c t b m s;cases b;simp[qk]at m;subst m;simp
 |cons z o v=>
  intro c t b m s;cases b with
  |@cons _ D _ y x b=>
   simp only[qk]at m;split at m
   ·rename_i E C l n;cases m;unfold toByte at l;split at l
    ·rename_i A;cases l;cases x;simp only[List.forIn_cons,Sem.run_bind,Sem.run_pure,Result.andThen_ok];rw[v b n];simp
    ·cases l
   ·cases m
theorem Fy(P:l6 C)(W:dj w0 N0 G ρ st w){s ac:TypeId}(J:cY ρ a f)(c:gW C s ac a st=some (.val v dI)):pq w0 N0 G ρ dI v ((convert s ac f).run C.P w):=by
 unfold gW at c;split at c
 ·rename_i ak aj aa k;have x:=dT P aa w;have y:=dT P k w;split at c
  ·rename_i ai ap af aq A z;obtain⟨rfl,rfl⟩:=c7 c;cases J;refine⟨ρ,_,w,?_,Ren.le_refl _,W,.int _ _⟩;unfold convert;rw[b5 _ x,b5 _ y,A,z];rfl
  ·rename_i n A z;obtain⟨rfl,rfl⟩:=c7 c;cases J;refine⟨ρ,_,w,?_,Ren.le_refl _,W,.string _⟩;unfold convert;rw[b5 _ x,b5 _ y,A,z];rfl
  ·rename_i M n A z;split at c
   ·rename_i r H;split at c
    ·rename_i V;obtain⟨rfl,rfl⟩:=c7 c;cases J;have t:=dT P H w;rw[V]at t;generalize T:(Question.appendCap n.size 0 M).cut (w.tape w.drawn (Question.appendCap n.size 0 M))=b;have O:n.size<=b:=by rw[<-T];exact Nat.le_add_right _ _
     have j:(choose (Question.appendCap n.size 0 M)).run C.P w=.ok b {w with drawn:=w.drawn+1}:=by
      simp only[choose,Sem.run,Question.forced,YR,if_false,T]
     have q:=W.drewN (w.drawn+1);generalize o:(n.data.map fun ad=>(.int .u8 ad.toNat:Value))++Array.replicate (b-n.size) (.int .u8 0:Value)=m;have d:m.size=b:=by
      rw[<-o];simp;omega
     have h:n.data.toList.length=n.size:=(size_data n).symm;refine⟨ρ.add st.n ⟨w.heap.size,0,1,m.size⟩,.slice (some ⟨w.heap.size,0,none⟩) n.size b,{w with drawn:=w.drawn+1,heap:=w.heap.push (.cells m M (b,b+1))},?_,er W.gY,?_,?_⟩
     ·unfold convert;rw[b5 _ x,b5 _ y,A,z];simp only;rw[b5 _ t];simp only[Conv.stringToBytes];rw[b5 _ j];simp only[o];rw[b5 _ (gg _ _)];have R:(markStringish ⟨w.heap.size,0,none⟩).run C.P {w with drawn:=w.drawn+1,heap:=w.heap.push (.cells m M)}=.ok () {w with drawn:=w.drawn+1,heap:=w.heap.push (.cells m M (b,b+1))}:=by
       simp only[markStringish,Go.shape,Sem.run_bind,Sem.run,World.shape?,Array.getElem?_push_size,Result.andThen_ok,freeze,World.freeze,d,if_neg Nat.one_ne_zero];congr 1;congr 1;apply Array.ext_getElem?;intro i;simp only[Array.getElem?_modify,Array.getElem?_push];by_cases B:i=w.heap.size
       ·subst B;simp
       ·rw[if_neg (fun M=>B M.symm),if_neg B,if_neg B]
      rw[b5 _ R];rfl
     ·refine q.new Z Z ⟨m,M,b,b+1,Z,Z,Z,?_,fun i v K=>?_,fun i B Q=>?_⟩
      ·simp[ofBytes];omega
      ·have X:i<n.data.toList.length:=by
        rcases Nat.lt_or_ge i (ofBytes n.data.toList).length with Q|Q
        ·simpa [ofBytes]using Q
        ·rw[List.getElem?_eq_none Q]at K;cases K
       refine⟨v,?_,?_⟩
       ·rw[<-o,Nat.zero_add,Array.getElem?_append_left (by simpa using X)];rw[<-YV,Array.toList_map];exact K
       ·have:=(ye n.data.toList (ρ.add st.n ⟨w.heap.size,0,1,m.size⟩)).get K;obtain⟨ag,Y,p⟩:=this;rw[K]at Y;cases Y;exact p
      ·simp at B;omega
     ·rw[h];refine .slice (l:=⟨w.heap.size,0,1,m.size⟩) (c6 _ _ _) O (by simp;omega)
    ·cases c
   ·cases c
  ·rename_i M am S ab A z;split at c
   ·rename_i r H;split at c
    ·rename_i V;have t:=dT P H w;rw[V]at t;split at c
     ·obtain⟨rfl,rfl⟩:=c7 c;cases J;refine⟨ρ,.string .empty,w,?_,Ren.le_refl _,W,?_⟩
      ·unfold convert;rw[b5 _ x,b5 _ y,A,z];simp only;rw[b5 _ t];rfl
      ·exact .string _
     ·rename_i ad an;split at c
      ·rename_i ae e;split at c
       ·rename_i l u;obtain⟨rfl,rfl⟩:=c7 c;have N:∃F E D,f=.slice (some F) S E/\(loadCells F S).run C.P w=.ok D w/\cU ρ ae D.toList:=by
         cases J with
         |iu _ F=>
          refine⟨F,0, #[],Z,by simp[loadCells,loadCellsFrom],?_⟩;have:=eZ e;cases ae with
          |nil=>exact .nil
          |cons _ _=>simp at this
         |slice g al ah=>
          obtain⟨D,L,I⟩:=W.read g e C.P;exact⟨_,_,D,Z,L,I⟩
        obtain⟨F,E,D,rfl,L,I⟩:=N;refine⟨ρ,.string ⟨l.toArray⟩,w,?_,Ren.le_refl _,W,.string _⟩;unfold convert;rw[b5 _ x,b5 _ y,A,z];simp only;rw[b5 _ t];simp only[Conv.bytesToString];rw[b5 _ L];have U:=Fx (P:=C.P) (w:=w) I u ByteArray.empty;rw[<-Array.forIn_toList];exact b5 (fun s=>(pure (.string s):Sem Value)) U
       ·cases c
      ·cases c
     ·cases c
    ·cases c
   ·cases c
  ·cases c
 ·cases c
theorem BF(s:l6 C)(h:dj w0 N0 G ρ st w){t:TypeId}{l c N E:Value}(X:cY ρ l N)(e:cY ρ c E)(b:iq C t l c st=some (.val v dI)):
  pq w0 N0 G ρ dI v ((Instr.makeSlice t N E).run C.P w):=by
 unfold iq at b;split at b
 ·rename_i k l c S;split at b
  ·rename_i A Q;split at b
   ·rename_i m o;split at b
    ·rename_i n;simp only[YP]at n;obtain⟨⟨⟨⟨U,W⟩,Y⟩,d⟩,a⟩:=n;have i:=YL U;have T:=Nat.blt_eq.mp W;have g:=YL Y;have f:=YL d;have J:=YO a;obtain⟨rfl,rfl⟩:=c7 b;cases X;cases e;obtain⟨p,D,I⟩:=Cw s o w;obtain⟨R,V,z⟩:=kW s o w;have M:R.cells.size=m.size:=by rw[<-J,<-z.cells];simp
     have F:IntKind.i64.wrap (YN l)=l:=Go.IntWalk.i64_in _ (by simp;omega);have L:IntKind.i64.wrap (YN c)=c:=Go.IntWalk.i64_in _ (by simp;omega);have K:cU ρ (tR m.zero c) ((Array.range (c*m.size)).map (R.cells[· %R.cells.size]!)).toList:=by
      rw[<-M,zK,z.cells];exact iO (s4 (s.vD _ _ o) c) ρ
     refine⟨_,.slice (some ⟨w.heap.size,0,none⟩) l c,_,?_,er h.gY,h.row A K,?_⟩
     ·simp only[Instr.makeSlice];rw[b5 _ (dT s S w)];simp only[Q];rw[b5 _ (show(asInt (.int .i64 (YN l))).run C.P w=.ok (YN l) w from rfl),b5 _ (show(asInt (.int .i64 (YN c))).run C.P w=.ok (YN c) w from rfl),b5 _ D];simp only[F,L,I];have O:((m.bytes:Int)*(c:Int))<=1099511627776:=by
       have:((c*m.bytes:Nat):Int)<=1099511627776:=om;rw[Int.natCast_mul,Int.mul_comm]at this;exact this
      have B:¬((decide ((c:Int)<0)||decide ((m.bytes:Int)*(c:Int)>2^48))||decide ((l:Int)<0)||decide ((l:Int)>(c:Int)))=true:=by
       simp only[Bool.or_eq_true,decide_eq_true_eq,Int.reducePow];omega
      rw[if_neg B];have x:(askRoom ((c:Int).toNat*m.bytes)).run C.P w=.ok () w:=by
       unfold askRoom;split<;>rfl
      rw[b5 _ x,b5 _ (e1 s o w)];simp only[Int.toNat_natCast];by_cases H:c*m.size=0
      ·have y:∀j:Nat->Value,Array.map j (Array.range 0)= #[]:=fun _=>Array.eq_empty_of_size_eq_zero sm;simp only[H,if_true,y];rw[b5 _ (Sem.run_pure (P:=C.P) (w:=w) _),b5 _ (gg _ _)];simp only[y,Sem.run_pure]
      ·simp only[if_neg H];rw[b5 _ V,b5 _ (Sem.run_pure (P:=C.P) (w:=w) _),b5 _ (gg _ _)];rfl
     ·refine .slice (l:=⟨w.heap.size,0,m.size,_⟩) (c6 _ _ _) (YM _) ?_;simp
    ·cases b
   ·cases b
  ·cases b
 ·cases b
theorem jK{P:Program}{m c:Option Value}{z n:Nat}(y:(m=none/\c=none)∨∃o b,m=some o/\c=some b/\cY ρ o b)(l:ko m z=some n):
  (m=none/\c=none/\n=z)∨∃b,c=some b/\m.isSome=true/\∀(t:Nat) (code:BoundsCode) (w:World),n<=t->(Instr.sliceBound b t code).run P w=.ok n w:=by
 rcases y with⟨rfl,rfl⟩|⟨o,b,rfl,rfl,s⟩
 ·simp[ko]at l;exact .inl ⟨rfl,rfl,l.symm⟩
 ·unfold ko at l;split at l
  ·rename_i v;cases v
  ·rename_i C t v;cases v;cases l;cases s;refine .inr ⟨_,Z,Z,fun B code w A=>?_⟩;have x:(0:Int)<=YN n/\YN n<=(B:Int):=by simp;omega
   simp only[Instr.sliceBound,asIntOf];rw[b5 _ (Sem.run_pure (P:=P) (w:=w) _)];simp only[if_pos x];rfl
  ·cases l
theorem uL{P:Program}{lo y mx v s Vv:Option Value}{WE:Bool}{len cap l J m:Nat} 
  (x:(lo=none/\v=none)∨∃A b,lo=some A/\v=some b/\cY ρ A b) (z:(y=none/\s=none)∨∃A b,y=some A/\s=some b/\cY ρ A b)
  (E:(mx=none/\Vv=none)∨∃A b,mx=some A/\Vv=some b/\cY ρ A b) {Ou:Nat} (D:ko lo 0=some l) (F:ko y len=some J) (M:ko mx Ou=some m)
  (C:l<=J) (K:J<=m) (O:m<=Ou) (N:Ou<=cap) (o:y.isSome=true∨mx.isNone=true):
  (Instr.sliceBounds WE len cap v s Vv).run P w=.ok (l,J,if mx.isSome then m else cap) w:=by
 unfold Instr.sliceBounds;rcases jK (P:=P) E M with⟨rfl,rfl,rfl⟩|⟨Q,rfl,n,H⟩
 ·rw[b5 _ (Sem.run_pure (P:=P) (w:=w) _)];rcases jK (P:=P) z F with⟨rfl,rfl,rfl⟩|⟨L,rfl,I,t⟩
  ·rw[b5 _ (Sem.run_pure (P:=P) (w:=w) _)];rcases jK (P:=P) x D with⟨rfl,rfl,rfl⟩|⟨G,rfl,B,c⟩
   ·rw[b5 _ (Sem.run_pure (P:=P) (w:=w) _)];rfl
   ·simp only;rw[b5 _ (c _ _ _ C)];rfl
  ·simp only;rw[b5 _ (t _ _ _ om)];rcases jK (P:=P) x D with⟨rfl,rfl,rfl⟩|⟨G,rfl,B,c⟩
   ·rw[b5 _ (Sem.run_pure (P:=P) (w:=w) _)];rfl
   ·simp only;rw[b5 _ (c _ _ _ C)];rfl
 ·simp only;rw[b5 _ (H _ _ _ om)];rcases jK (P:=P) z F with⟨rfl,rfl,rfl⟩|⟨L,rfl,I,t⟩
  ·exfalso;rcases o with o|o
   ·cases o
   ·rw[Option.isNone_iff_eq_none]at o;rw[o]at n;cases n
  ·simp only;rw[b5 _ (t _ _ _ K)];rcases jK (P:=P) x D with⟨rfl,rfl,rfl⟩|⟨G,rfl,B,c⟩
   ·rw[b5 _ (Sem.run_pure (P:=P) (w:=w) _),n];rfl
   ·simp only;rw[b5 _ (c _ _ _ C),n];rfl
end
section
variable{C:dU} {w0:World} {N0:Nat} {G:Nat->Prop} {ρ:Ren} {st dI:St} {w:World} {v:Value}
theorem LS(c:ByteArray)(l b:Nat)(m:l<=b)(n:b<=c.data.toList.length):c.extract l b=H4 c l b:=by
 apply ByteArray.ext;rw[ByteArray.data_extract];apply Array.ext';simp only[H4,Array.toList_extract,YT];rw[List.drop_take]
theorem LU(ak:l6 C)(aw:dj w0 N0 G ρ st w){t:TypeId}{lo ao D O N n:Option Value}(S:cY ρ a f) 
  (Y:(lo=none/\O=none)∨∃q z,lo=some q/\O=some z/\cY ρ q z) (g:(ao=none/\N=none)∨∃q z,ao=some q/\N=some z/\cY ρ q z)
  (k:(D=none/\n=none)∨∃q z,D=some q/\n=some z/\cY ρ q z) (b:nD C t a lo ao D st=some (.val v dI)):
  ∃ax,(Instr.sliceAt t f O N n).run C.P w=.ok ax w/\cY ρ v ax/\dI=st:=by
 unfold nD at b;split at b
 ·cases b
 ·rename_i aS aB;have p:=dT ak aB w;split at b
  ·rename_i s M;split at b
   ·rename_i A h H U;split at b
    ·rename_i c;simp only[YP]at c;have V:=YL c.1;have T:=YL c.2;obtain⟨rfl,rfl⟩:=c7 b;cases S;have d:n=none:=by rcases k with⟨_,r⟩|⟨q,z,r,_,_⟩<;>first|exact r|cases r
     subst d;refine⟨.string (s.extract A h),?_,by rw[LS s A h V T];exact .string _,rfl⟩;have F:=uL (w:=w) (P:=C.P) (WE:=false) (cap:=s.size) Y g (.inl ⟨rfl,rfl⟩) (mx:=none) (Vv:=none) (Ou:=s.size) H U (m:=s.size) rfl V (by rw[size_data];exact T) (YM _) (YM _) (.inr rfl);rw[size_data]at F;unfold Instr.sliceAt;rw[b5 _ p,M];simp only[Instr.slice];rw[b5 _ p,M];simp only[YX,YR,if_false];rw[size_data,b5 _ F];rfl
    ·cases b
   ·cases b
  ·rename_i al aT ab R M;split at b
   ·rename_i o A h aa j H U aK;split at b
    ·cases b
    ·rename_i c;simp only[YP,Bool.or_eq_true]at c;obtain⟨⟨⟨am,ag⟩,I⟩,aG⟩:=c;have V:=YL am;have T:=YL ag;have aD:=YL I;have ay:∃J l,f=.slice J ab l/\R<=l:=by cases S<;>first|exact⟨_,_,rfl,YM _⟩|exact⟨_,_,rfl,by assumption⟩
     obtain⟨J,l,rfl,az⟩:=ay;have F:=uL (w:=w) (P:=C.P) (WE:=true) (cap:=l) Y g k H U aK V T aD az aG;have K:∀(m:Nat),(if D.isSome then aa else l)=m->(Instr.sliceAt t (.slice J ab l) O N n).run C.P w=.ok (.slice (if m=A then J else J.map (·.add (A*o.size))) (h-A) (m-A)) w:=by
      intro m y;rw[y]at F;unfold Instr.sliceAt;rw[b5 _ p,M];simp only[Instr.slice];rw[b5 _ p,M];simp only;rw[b5 _ F];simp only;rw[b5 _ (e1 ak j w)];rfl
     have ah:∀m,(if D.isSome then aa else l)=m->aa<=m/\(D.isSome=true->m=aa)/\m<=l:=by
      intro m y;split at y
      ·subst y;exact⟨YM _,fun _=>rfl,om⟩
      ·rename_i aJ;subst y;exact⟨om,fun r=>absurd r aJ,YM _⟩
     obtain⟨m,y⟩:∃m,(if D.isSome then aa else l)=m:=⟨_,rfl⟩;obtain⟨aN,aL,ad⟩:=ah m y;split at b
     ·split at b
      ·rename_i Q;obtain⟨rfl,rfl⟩:=c7 b;cases S;refine⟨_,K m y,?_,Z⟩;have:h-A=0:=om;have au:m-A=0:=om;rw[this,au];have E:m=A:=om;rw[if_pos E];exact .kT
      ·cases b
     ·rename_i aR aC;split at b
      ·rename_i Q;have Q:=YO Q;subst Q;obtain⟨rfl,rfl⟩:=c7 b;refine⟨_,K m y,?_,Z⟩;have E:A=0:=om;have x:h=0:=om;subst E x;cases S with
       |iu _ J=>
        have:m=0:=om;subst this;simp only[if_true,YU];exact .iu _ _
       |@slice _ _ _ _ _ an L aE X=>
        simp only[YU,Nat.zero_mul];split
        ·rename_i W;subst W;exact .iu _ _
        ·simp only[YS,j4,Nat.add_zero];exact .slice L (Nat.zero_le _) (Nat.le_trans (Nat.add_le_add_left (YW _ ad) _) X)
      ·split at b
       ·rename_i av B;split at b
        ·rename_i i;have i:=YO i;subst i;obtain⟨rfl,rfl⟩:=c7 b;refine⟨_,K m y,?_,Z⟩;cases S with
         |iu _ J=>
          have E:A=0:=om;have:m=0:=om;subst this E;have x:h=0:=om;have e:aa=0:=om;subst x e;simp only[if_true];exact .iu _ _
         |@slice _ _ _ _ _ an L aE X=>
          have af:an.es=o.size:=by
           unfold LA at B;split at B
           ·rename_i aQ av aO aP ai;cases B;obtain⟨aH,u,aq,ar,aI,aA⟩:=aw.obj _ _ _ L ai;exact aA.es
           ·cases B
          split
          ·rename_i W;subst W;have e:aa-m=0:=om;have x:h-m=0:=om;rw[e,x,Nat.sub_self];exact .iu _ _
          ·simp only[YS,j4,Nat.add_assoc];refine .slice L om ?_;rw[af]at X⊢;have H:m*o.size=A*o.size+(m-A)*o.size:=by rw[<-Nat.add_mul];congr 1;omega
           have U:m*o.size<=l*o.size:=YW _ ad;omega
        ·cases b
       ·cases b
     ·cases b
   ·cases b
  ·rename_i ae al aR aC M;split at b
   ·rename_i o A h j H U;split at b
    ·rename_i c;simp only[YP]at c;obtain⟨⟨am,ag⟩,I⟩:=c;have V:=YL am;have T:=YL ag;obtain⟨rfl,rfl⟩:=c7 b;obtain⟨an,L,rfl⟩:=oF S;have d:n=none:=by rcases k with⟨_,r⟩|⟨q,z,r,_,_⟩<;>first|exact r|cases r
     subst d;have F:=uL (w:=w) (P:=C.P) (WE:=false) (cap:=ae) Y g (.inl ⟨rfl,rfl⟩) (mx:=none) (Vv:=none) (Ou:=ae) H U (m:=ae) rfl V T (YM _) (YM _) (.inr rfl);refine⟨.slice (some (if ae=A then⟨an.b,an.d+aC,none⟩else(⟨an.b,an.d+aC,none⟩:Addr).add (A*o.size))) (h-A) (ae-A),?_,?_,Z⟩
     ·unfold Instr.sliceAt;rw[b5 _ p,M];simp only[Instr.sureAddr];rw[b5 _ (Sem.run_pure (P:=C.P) (w:=w) _),b5 _ F];simp only[YX,YR,if_false];rw[b5 _ (e1 ak j w)];rfl
     ·split at I
      ·rename_i aQ av aO aP ai;simp only[YP]at I;have B:=YO I.1;have aM:=YL I.2;obtain⟨aH,u,aq,ar,aI,aA⟩:=aw.obj _ _ _ L ai;have ap:=aA.es;have aF:=aA.fits;split
       ·rename_i W;subst W;have x:h-ae=0:=om;rw[x,Nat.sub_self];exact .iu _ _
       ·rw[j4,Nat.add_assoc];refine .slice L (YM _) ?_;rw[ap,B];have H:ae*o.size=A*o.size+(ae-A)*o.size:=by rw[<-Nat.add_mul];congr 1;omega
        omega
      ·cases I
    ·cases b
   ·cases b
  ·cases b
end
variable{d:TypeDesc} {k:Bool} {r:TI} {i u:Nat} {j:Program}
section
variable{C:dU} {w0:World} {N0:Nat} {G:Nat->Prop} {ρ:Ren} {st dI:St} {w:World} {v:Value}
theorem qm{o b n s:Value}(l:cY ρ o n)(m:cY ρ b s)(c:io d o b=some k):Instr.sameNow d n s=some k:=by
 unfold io at c;split at c
 ·cases l;cases m;cases c;rfl
 ·split at c
  ·rename_i t;have:=ql.1 t;subst this;cases l;cases m;cases c;simp[Instr.sameNow,pL]
  ·cases c
 ·rename_i o b;cases l;cases m;cases c;show some (o==b)=some (nC o b);rw[beq_toListBytes,toList_data,toList_data,nC,oG]
 ·cases c
theorem s5(v:cY ρ a f):∀{c b:List MapEntry} {s:Nat} {z:Option (Nat×Value)},lv ρ c b->pH d a c s=some z->
  (z=none/\Instr.findNow d f b s=some none)∨∃y A m,z=some (y,A)/\Instr.findNow d f b s=some (some (y,m))/\cY ρ A m/\s<=y/\y<s+c.length:=by
 intro c;induction c with
 |nil=>
  intro b s z n o;cases b with
  |nil=>simp[pH]at o;subst o;exact .inl ⟨rfl,rfl⟩
  |cons _ _=>exact n.elim
 |cons J c F=>
  intro b s z n o;cases b with
  |nil=>exact n.elim
  |cons E b=>
   obtain⟨w,C,I,D⟩:=n;simp only[pH]at o;split at o
   ·rename_i l;cases o;refine .inr ⟨s,J.val,E.val,Z,?_,C,YM _,by simp⟩;simp only[Instr.findNow,qm v w l]
   ·rename_i l;rcases F D o with⟨t,x⟩|⟨y,A,m,t,x,B,G,H⟩
    ·exact .inl ⟨t,by simp only[Instr.findNow,qm v w l];exact x⟩
    ·exact .inr ⟨y,A,m,t,by simp only[Instr.findNow,qm v w l];exact x,B,om,by simp only[List.length_cons];omega⟩
   ·cases o
theorem lv.length:∀{c l:List MapEntry},lv ρ c l->c.length=l.length
 |[],[],_=>rfl
 |_::_,_::_,⟨_,_,_,m⟩=>by simp[lv.length m]
 |[],_::_,b=>b.elim
 |_::_,[],b=>b.elim
theorem r8(l:l6 C){t:TypeId}(o:C.tt.get t=some r)(b:pI r.desc=true)(v:Bool)(n:Nat)(s:Value):(Instr.checkKey v (n+1) t s).run C.P w=.ok () w:=by
 have m:=dT l o w;unfold Instr.checkKey;rw[b5 _ m];cases c:r.desc<;>rw[c]at b<;>first|(simp[pI]at b;done)|rfl
theorem uM{w:World}{o:Obj}(c:w.heap[i]?=some o)(n:∀l m b,o≠.cells l m b):(getObj i).run j w=.ok o w:=by
 simp only[getObj,Sem.run,c]
theorem yf(b:l6 C){t:TypeId}(c:C.tt.get t=some r){es:List MapEntry}{l:Option (Nat×Value)}(m:Instr.findNow r.desc a es 0=some l):(Instr.findKey t a es).run C.P w=.ok l w:=by
 unfold Instr.findKey;rw[b5 _ (dT b c w),m];rfl
theorem Ir(n:l6 C)(i:dj w0 N0 G ρ st w){t:TypeId}(W:cY ρ a f)(R:cY ρ p q)(b:oA C t a p k st=some (.val v dI)):
  ∃O,(Instr.lookup t f q k).run C.P w=.ok O w/\cY ρ v O/\dI=st:=by
 unfold oA at b;split at b
 ·cases b
 ·rename_i ac Q;split at b
  ·rename_i S g N;split at b
   ·rename_i T ab E F;split at b
    ·cases b
    ·rename_i V;split at b
     ·cases b
     ·rename_i r l;obtain⟨M,h,U⟩:=kW n F w;have D:=U.mk;have m:∀(c:Array MapEntry) (o:Option (Nat×Value)),Instr.findNow T.desc q c.toList 0=some o->∀A:Bool,(do
        Instr.checkKey A 10000 S q
        match<-Instr.findKey S q c.toList with
        |some (_,v)=>do
         let a<-pure (v,true)
         pure (if k=true then Value.tuple #[a.1,Value.bool a.2]else a.1)
        |none=>do
         let M<-zeroValue g
         let a<-pure (M,false)
         pure (if k=true then Value.tuple #[a.1,Value.bool a.2]else a.1):Sem Value).run C.P w=.ok (match o with|some (_,K)=>(if k=true then .tuple #[K,.bool true]else K)|none=>(if k=true then .tuple #[M,.bool false]else M)) w:=by
       intro c o s A;rw[b5 _ (r8 n E V _ 9999 _),b5 _ (yf n E s)];cases o with
       |none=>simp only;rw[b5 _ h];rfl
       |some ah=>rfl
      have L:∃c:Array MapEntry,lv ρ r c.toList/\∀o,Instr.findNow T.desc q c.toList 0=some o->
        (Instr.lookup t f q k).run C.P w=.ok (match o with|some (_,K)=>(if k=true then .tuple #[K,.bool true]else K)|none=>(if k=true then .tuple #[M,.bool false]else M)) w:=by
       split at l
       ·cases l;cases W;refine⟨#[],tv,fun o s=>?_⟩;unfold Instr.lookup;rw[b5 _ (dT n Q w)];simp only[N];rw[b5 _ (Sem.run_pure (P:=C.P) (w:=w) _)];exact m #[] o s _
       ·rename_i ae;split at l
        ·rename_i u X d;cases l;cases W with
         |map j=>
          obtain⟨c,A,B⟩:=i.obj _ _ _ j d;refine⟨c,B,fun o s=>?_⟩;unfold Instr.lookup;rw[b5 _ (dT n Q w)];simp only[N];rw[b5 _ (uM A (by intro _ _ _ ad;cases ad))];simp only;rw[b5 _ (Sem.run_pure (P:=C.P) (w:=w) _)];exact m c o s _
        ·cases l
       ·cases l
      obtain⟨c,y,z⟩:=L;split at b
      ·cases b
      ·rename_i af ag J;obtain⟨rfl,rfl⟩:=c7 b;rcases s5 R y J with⟨A,_⟩|⟨Y,K,e,A,x,B,_⟩
       ·cases A
       ·cases A;refine⟨_,z _ x,?_,Z⟩;cases k
        ·exact B
        ·exact .tuple (.cons B (.cons (.bool _) .nil))
      ·rename_i J;split at b
       ·cases b
       ·rename_i aa H;rw[D]at H;cases H;obtain⟨rfl,rfl⟩:=c7 b;rcases s5 R y J with⟨_,x⟩|⟨Y,K,e,A,_⟩
        ·refine⟨_,z _ x,?_,Z⟩;have I:=Dx (n.vD _ _ F) D ρ;cases k
         ·exact I
         ·exact .tuple (.cons I (.cons (.bool _) .nil))
        ·cases A
   ·cases b
  ·cases b
theorem dj.Ov(v:dj w0 N0 G ρ st w){l:Loc}{es:List MapEntry}{A:List MapEntry}{m:Array MapEntry}{n:Nat}(z:ρ i=some l)(S:st.get i=some (.map es u))(d:lv ρ A m.toList):
  dj w0 N0 G ρ (st.put i (.map A n)) {w with heap:=w.heap.setIfInBounds l.b (.map m n)}:=by
 have J:=v.vt _ _ z;have s:∀Q,Q≠l.b->(w.heap.setIfInBounds l.b (.map m n))[Q]?=w.heap[Q]?:=fun Q T=>Array.getElem?_setIfInBounds_ne (fun x=>T x.symm);have D:(w.heap.setIfInBounds l.b (.map m n))[l.b]?=some (.map m n):=Array.getElem?_setIfInBounds_self_of_lt J.2.2;have t:∀U K F,ρ U=some K->(st.put i (.map A n)).get U=some F->K.b=l.b->U=i∨F=.dead:=by
  intro U K F e I b;by_cases y:U=i
  ·exact .inl y
  ·rw[cW,if_neg y]at I;have:=v.sep _ _ _ _ _ _ z e b.symm S I (fun x=>y x.symm);cases F<;>first|exact .inr rfl|exact this.elim
 refine⟨⟨fun R g c=>?_,fun R p x j k c=>?_,v.wf.Kt⟩,?_,by simpa using v.Cu,v.HZ,fun R B c=>by have:=v.vt R B c;exact⟨this.1,this.2.1,by simpa using this.2.2⟩,fun R B g c o=>?_,fun R X f h a Y E C P N L H=>?_⟩
 ·rw[cW]at c;split at c
  ·rename_i x;subst x;exact v.wf.lt _ _ S
  ·exact v.wf.lt _ _ c
 ·rw[cW]at c;split at c
  ·cases c
  ·exact v.wf.dS _ _ _ _ _ c
 ·exact v.below.trans ⟨Z,Z,Z,by simp,fun Q T=>s Q om⟩
 ·show vA ρ B g (w.heap.setIfInBounds l.b (.map m n))[B.b]?;by_cases b:B.b=l.b
  ·rcases t _ _ _ c o b with rfl|rfl
   ·rw[cW,if_pos rfl]at o;cases o;rw[b,D];exact⟨m,Z,d⟩
   ·trivial
  ·rw[s _ b];rw[cW]at o;split at o
   ·rename_i x;subst x;rw[z]at c;cases c;exact absurd rfl b
   ·exact v.obj _ _ _ c o
 ·by_cases b:f.b=l.b
  ·rcases t _ _ _ E N b with O|O
   ·rcases t _ _ _ C L (P▸b)with M|M
    ·exact absurd (O.trans M.symm) H
    ·subst M;cases a<;>trivial
   ·subst O;cases Y<;>trivial
  ·have W:R≠i:=fun x=>by subst x;rw[z]at E;cases E;exact b rfl
   have V:X≠i:=fun x=>by subst x;rw[z]at C;cases C;exact b P
   rw[cW,if_neg W]at N;rw[cW,if_neg V]at L;exact v.sep _ _ _ _ _ _ E C P N L H
theorem Is(v:cY ρ a f)(s:cY ρ p q):∀{c:List MapEntry} {b:List MapEntry} {m:Nat},lv ρ c b->m<c.length->
  lv ρ (uJ c m a p) (b.modify m fun z=>{z with key:=f,val:=q}):=by
 intro c;induction c with
 |nil=>intro b m w l;simp at l
 |cons z c x=>
  intro b m w l;cases b with
  |nil=>exact w.elim
  |cons A b=>
   obtain⟨y,t,n,o⟩:=w;cases m with
   |zero=>simp only[uJ,List.modify_zero_cons];exact⟨v,s,n,o⟩
   |succ m=>simp only[uJ,List.modify_succ_cons];exact⟨y,t,n,x o (by simpa using l)⟩
theorem lv.append{m c b l:List MapEntry}(n:lv ρ m c)(x:lv ρ b l):lv ρ (m++b) (c++l):=by
 induction m generalizing c with
 |nil=>cases c with|nil=>exact x|cons _ _=>exact n.elim
 |cons z m o=>cases c with
  |nil=>exact n.elim
  |cons y c=>obtain⟨v,s,w,t⟩:=n;exact⟨v,s,w,o t⟩
theorem zP{w:World}{o b:Obj}(l:w.heap[i]?=some o)(n:∀m s c,o≠.cells m s c):(setObj i b).run j w=.ok () {w with heap:=w.heap.setIfInBounds i b}:=by
 simp only[setObj,Sem.run,l]
theorem DA{v b:Value}{es:List MapEntry}(c:Instr.findNow d v es i=some (some (u,a))):∃l,es[u-i]?=some l/\Instr.sameNow d v l.key=some true/\i<=u:=by
 induction es generalizing i with
 |nil=>simp[Instr.findNow]at c
 |cons l es m=>
  simp only[Instr.findNow]at c;split at c
  ·rename_i o;simp only[Option.some.injEq,Prod.mk.injEq]at c;obtain⟨rfl,_⟩:=c;exact⟨l,by simp,o,YM _⟩
  ·obtain⟨t,s,n,w⟩:=m c;refine⟨t,?_,n,om⟩;rw[show u-i=(u-(i+1))+1 from by omega];simpa using s
  ·cases c
theorem Ow{l b:Value}(c:Instr.sameNow d l b=some true)(o:Program)(w:World):(Instr.keyThatStays b l).run o w=.ok l w:=by
 have n:Instr.sameBits 10000 b l=true:=by
  unfold Instr.sameNow at c;split at c
  ·split at c
   ·rename_i m;subst m;simp only[Option.some.injEq,beq_iff_eq]at c;subst c;show(_==_&&_==_)=true;simp
   ·cases c
  ·rename_i l b;simp only[Option.some.injEq]at c;rw[beq_toListBytes,beq_iff_eq]at c;show(b==l)=true;rw[beq_toListBytes,beq_iff_eq];exact c.symm
  ·simp only[Option.some.injEq,beq_iff_eq]at c;subst c;show(_==_)=true;simp
  ·cases c
 unfold Instr.keyThatStays;rw[if_pos n];rfl
theorem ue(B:l6 C)(D:dj w0 N0 G ρ st w){t:TypeId}{Y m:Value}(W:cY ρ a f)(x:cY ρ p q)(K:cY ρ Y m)(c:ir C t a p Y st=some (.val v dI)):
  ∃I,(Instr.mapUpdate t f q m).run C.P w=.ok () I/\dj w0 N0 G ρ dI I/\v=kn/\dI.n=st.n:=by
 unfold ir at c;split at c
 ·rename_i k u S;split at c
  ·rename_i g i Q;split at c
   ·rename_i T j b z A;cases W with
    |@map _ N F=>
    obtain⟨l,H,y⟩:=D.obj _ _ _ F A;split at c
    ·cases c
    ·rename_i L;have s:∀(O:Option (Nat×Value)),Instr.findNow T.desc q l.toList 0=some O->(Instr.mapUpdate t (.map (some N.b)) q m).run C.P w=((match O with
       |some (P,_)=>do
        let key<-Instr.keyThatStays (((l[P]?).map (·.key)).getD q) q
        setObj N.b (.map (l.modify P fun H=>{H with key,val:=m}) b)
       |none=>setObj N.b (.map (l.push {key:=q,val:=m,born:=b}) (b+1))):Sem Unit).run C.P w:=by
      intro O U;unfold Instr.mapUpdate;rw[b5 _ (dT B S w)];simp only[Q];rw[b5 _ (uM H (by intro _ _ _ M;cases M))];simp only;rw[b5 _ (r8 B z L _ 9999 _),b5 _ (yf B z U)];cases O<;>rfl
     split at c
     ·cases c
     ·rename_i P aa E;obtain⟨rfl,rfl⟩:=c7 c;rcases s5 x y E with⟨o,_⟩|⟨e,r,V,o,n,d,_,X⟩
      ·cases o
      ·cases o;obtain⟨h,J,R,_⟩:=DA (b:=q) n;rw[YU,YV]at J;refine⟨{w with heap:=w.heap.setIfInBounds N.b (.map (l.modify P fun H=>{H with key:=q,val:=m}) b)},?_,?_,Z,Z⟩
       ·rw[s _ n];simp only[J,YS,Option.getD_some];rw[b5 _ (Ow R C.P w)];exact zP H (by intro _ _ _ M;cases M)
       ·refine D.Ov F A ?_;rw[Array.toList_modify];exact Is x K y om
     ·rename_i E;obtain⟨rfl,rfl⟩:=c7 c;rcases s5 x y E with⟨_,n⟩|⟨e,r,V,o,_⟩
      ·refine⟨{w with heap:=w.heap.setIfInBounds N.b (.map (l.push {key:=q,val:=m,born:=b}) (b+1))},?_,?_,Z,Z⟩
       ·rw[s _ n];exact zP H (by intro _ _ _ M;cases M)
       ·refine D.Ov F A ?_;rw[Array.toList_push];exact y.append ⟨x,K,Z,tv⟩
      ·cases o
   ·cases c
  ·cases c
 ·cases c
end
def mJ(ρ:Ren)(c:Operand->Option Value)(b:Operand->Value):Prop:=∀l v,c l=some v->cY ρ v (b l)
def FA(ρ:Ren)(t l:Target):Prop:=
 match t,l with
 |.collected s,.collected b=>∃n,ρ s=some n/\b=n.b
 |.fn (.func o) v,.fn (.func m) c=>o=m/\cU ρ v.toList c.toList
 |_,_=>False
structure Vw (ρ:Ren) (d d':Deferred):Prop where
 target:FA ρ d.target d'.target
 args:cU ρ d.args.toList d'.args.toList
structure Cy (C:dU):Prop where
 fn:∀f fi,C.ff.get f=some fi->∃fn,C.P.funcs[f]?=some fn/\fn.body=some fi.body/\fn.ntmps=fi.nt/\fn.results.toList=fi.Ro/\(fn.name== "runtime.NumGoroutine")=false
def mb(C:dU):Prop:=∀l c v,C.ext l c=some v->∀(ρ:Ren) (b:Array Value) (w:World),cU ρ c b.toList->(callFunc l b).run C.P w=.ok (.value v) w/\cY ρ v v
def yg(C:dU)(w0:World)(N0:Nat)(G:Nat->Prop)(ρ:Ren)(st:St)(w:World)(t:AR)(m:Result Next):Prop:=
 match t with
 |.val v dI=>∃o l n,(m=.ok (.value l) n∨(m=.ok .skip n/\l=undef))/\Kept w0 N0 G ρ dI v l n o
 |.eE v dI=>dI=st/\∃l,m=.halt (.panic l) w/\cY ρ v l
 |.enter z c=>∃b,m=.ok (.enter z b) w/\cU ρ c b.toList
 |.yield A c=>∃x b,ρ A=some x/\cU ρ c b.toList/\m=(Instr.yield x.b b).run C.P w
 |.recover=>m=.ok .recover w
 |.defer y=>∃s,m=.ok (.defer s) w/\Vw ρ y s
variable{g:Array Value} {h:List Value} {e:Array TypeId}
section
variable{C:dU} {w0:World} {N0:Nat} {G:Nat->Prop} {ρ:Ren} {st dI:St} {w:World} {v:Value}
theorem Ox(T:l6 C)(a:dj w0 N0 G ρ st w){ty:TypeId}(n:cU ρ h g.toList)(m:Fj C e.toList h st=some (.val v dI)):
  pq w0 N0 G ρ dI v ((Builtin.copy_ e ty g).run C.P w):=by
 obtain⟨e⟩:=e;obtain⟨g⟩:=g;unfold Fj at m;split at m
 ·rename_i Q E r b k src J;simp only at J n;subst J;cases n with
  |@cons _ f _ _ N n=>
  cases n with
  |@cons _ A _ _ D n=>
  cases n;split at m
  ·rename_i ap X;split at m
   ·rename_i ae d;split at m
    ·rename_i ag y U t;split at m
     ·rename_i I l;have V:∃c o,f=.slice c b o:=by cases N<;>exact⟨_,_,rfl⟩
      obtain⟨c,o,rfl⟩:=V;have ai:(⟨Q::E⟩:Array TypeId)[0]?=some Q:=rfl;have ab:(⟨[.slice c b o,A]⟩:Array Value)[0]?=some (.slice c b o):=rfl;have i:(⟨[.slice c b o,A]⟩:Array Value)[1]?=some A:=rfl;have K:(Builtin.lenOf A).run C.P w=.ok y w:=by
       unfold po at t;split at t
       ·cases t;cases D<;>rfl
       ·cases t;cases D;rename_i s;show Result.ok s.size w=_;rw[size_data]
       ·cases t
      have F:∃x,(Builtin.firstCells ag.size (YQ y b) A).run C.P w=.ok x w/\cU ρ I x.toList:=by
       unfold gX at l;split at l
       ·cases l;cases D;exact⟨#[],rfl,.nil⟩
       ·rename_i Y am R ar;cases D with
        |iu _ ac=>
         simp only[po,Option.some.injEq]at t;subst t;have O:YQ 0 b=0:=Nat.zero_min _;rw[O]at l⊢;refine⟨#[],by simp[Builtin.firstCells,loadCells,loadCellsFrom],?_⟩;have:=eZ l;cases I with
         |nil=>exact .nil
         |cons _ _=>simp at this
        |slice B aj u=>
         obtain⟨q,aq,an⟩:=a.read B l C.P;exact⟨q,aq,an⟩
       ·rename_i s;cases l;cases D;refine⟨_,Z,?_⟩;have:((s.extract 0 (YQ y b)).data.map fun Y=>(.int .u8 Y.toNat:Value)).toList=ofBytes (s.data.toList.take (YQ y b)):=by
         simp[ofBytes,ByteArray.data_extract,YT]
        rw[this];exact ye _ _
       ·cases l
      obtain⟨x,af,M⟩:=F;have z:∀(j:Result Value),((do
        if let some ao:=c then storeCells ao x.toList
        pure (goInt (YQ y b)):Sem Value)).run C.P w=j->(Builtin.copy_ ⟨Q::E⟩ ty ⟨[.slice c b o,A]⟩).run C.P w=j:=by
       intro j ad;simp only[Builtin.copy_,ai,ab,i];rw[b5 _ (dT T X w)];simp only[d];rw[b5 _ K,b5 _ (e1 T U w),b5 _ af];exact ad
      split at m
      ·obtain⟨rfl,rfl⟩:=c7 m;cases N;refine⟨ρ,.int .i64 (YN (YQ y 0)),w,z _ Z,Ren.le_refl _,a,.int _ _⟩
      ·rename_i ak;obtain⟨rfl,rfl⟩:=c7 m;have ah:x.toList=[]:=by cases aa:x.toList with|nil=>rfl|cons _ _=>rw[aa]at M;cases M
       refine⟨ρ,.int .i64 (YN (YQ y b)),w,z _ ?_,Ren.le_refl _,a,.int _ _⟩;rw[ah];cases c<;>rfl
      ·rename_i Y am P;split at m
       ·rename_i al W;obtain⟨rfl,rfl⟩:=c7 m;have H:∃R,ρ Y=some R/\c=some ⟨R.b,R.d+am,none⟩:=by
         cases N with
         |iu _ ac=>
          exfalso;have O:YQ y 0=0:=Nat.min_zero _;rw[O]at l;have:I=[]:=by
           unfold gX at l;split at l
           ·cases l;rfl
           ·have:=eZ l;cases I with
            |nil=>rfl
            |cons _ _=>simp at this
           ·cases l;simp[ofBytes]
           ·cases l
          exact P this
         |slice B aj u=>exact⟨_,B,rfl⟩
        obtain⟨R,B,rfl⟩:=H;obtain⟨p,S,L,_⟩:=a.write B W M C.P;refine⟨ρ,.int .i64 (YN (YQ y b)),p,z _ ?_,Ren.le_refl _,L,.int _ _⟩;simp only;rw[b5 _ S];rfl
       ·cases m
      ·cases m
     ·cases m
    ·cases m
   ·cases m
  ·cases m
 ·cases m
theorem Rx(F:l6 C)(I:dj w0 N0 G ρ st w){ty:TypeId}(l:cU ρ h g.toList)(b:vw C e.toList h st=some (.val v dI)):
  (Builtin.len_ e ty g).run C.P w=.ok v w/\cY ρ v v/\dI=st:=by
 obtain⟨e⟩:=e;obtain⟨g⟩:=g;unfold vw at b;split at b
 ·rename_i L z S O y;simp only at y l;subst y;cases l with
  |@cons _ B _ A x l=>
  have o:(⟨L::z⟩:Array TypeId)[0]?=some L:=rfl;have m:(⟨B::A⟩:Array Value)[0]?=some B:=rfl;split at b
  ·cases b
  ·rename_i Q D;have n:=dT F D w;split at b
   ·rename_i s c;obtain⟨rfl,rfl⟩:=c7 b;cases x;refine⟨?_,.int _ _,Z⟩;simp only[Builtin.len_,o,m];rw[b5 _ n,c];show Result.ok (goInt s.size) w=_;rw[size_data];rfl
   ·rename_i N J c;obtain⟨rfl,rfl⟩:=c7 b;refine⟨?_,.int _ _,Z⟩;simp only[Builtin.len_,o,m];rw[b5 _ n,c];rfl
   ·rename_i N J T c;obtain⟨rfl,rfl⟩:=c7 b;refine⟨?_,.int _ _,Z⟩;simp only[Builtin.len_,o,m];rw[b5 _ n,c];cases x<;>rfl
   ·rename_i c;obtain⟨rfl,rfl⟩:=c7 b;refine⟨?_,.int _ _,Z⟩;simp only[Builtin.len_,o,m];rw[b5 _ n,c];cases x;rfl
   ·rename_i R c;split at b
    ·rename_i P M E;obtain⟨rfl,rfl⟩:=c7 b;cases x with
     |map t=>
      obtain⟨K,J,H⟩:=I.obj _ _ _ t E;refine⟨?_,.int _ _,Z⟩;simp only[Builtin.len_,o,m];rw[b5 _ n,c];simp only;rw[b5 _ (uM J (by intro _ _ _ I;cases I))];have t:=H.length;simp only[Array.length_toList]at t;rw[t];rfl
    ·cases b
   ·cases b
 ·cases b
theorem FD{P:Program}:∀{s c:List Value} {t m o:Value},cU ρ s c->cY ρ t m->kR true t s=some o->(c.foldlM Builtin.max2 m).run P w=.ok o w/\cY ρ o o:=by
 intro s;induction s with
 |nil=>
  intro c t m o b n l;cases b;cases n<;>simp only[kR,Option.some.injEq]at l<;>first|cases l;done|(subst l;exact⟨rfl,.int _ _⟩)
 |cons F s x=>
  intro c t m o b n l;cases b with
  |cons y b=>
   unfold kR at l;split at l
   ·rename_i B;cases B
   ·rename_i D A C z E B;cases B;cases n;cases y;simp only[xi]at l;have:=x b (.int _ _) l;refine⟨?_,this.2⟩;rw[List.foldlM_cons];have v:(Builtin.max2 (.int D A) (.int C z)).run P w=.ok (.int D (if z>A then z else A)) w:=rfl;rw[b5 _ v];simpa using this.1
   ·cases l
theorem FF{P:Program}:∀{s c:List Value} {t m o:Value},cU ρ s c->cY ρ t m->kR false t s=some o->(c.foldlM Builtin.min2 m).run P w=.ok o w/\cY ρ o o:=by
 intro s;induction s with
 |nil=>
  intro c t m o b n l;cases b;cases n<;>simp only[kR,Option.some.injEq]at l<;>first|cases l;done|(subst l;exact⟨rfl,.int _ _⟩)
 |cons F s x=>
  intro c t m o b n l;cases b with
  |cons y b=>
   unfold kR at l;split at l
   ·rename_i B;cases B
   ·rename_i D A C z E B;cases B;cases n;cases y;simp only[xi]at l;have:=x b (.int _ _) l;refine⟨?_,this.2⟩;rw[List.foldlM_cons];have v:(Builtin.min2 (.int D A) (.int C z)).run P w=.ok (.int D (if z<A then z else A)) w:=rfl;rw[b5 _ v];simpa using this.1
   ·cases l
end
end Go.AM
