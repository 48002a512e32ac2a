/- Part of the proof. -/
import Derived.Test.YtpejealjkmhkgaaGreatDoorKAm
set_option linter.all false
set_option maxHeartbeats 16000000
set_option maxRecDepth 100000
open Nat renaming ble_eq_true_of_le->abK,eq_of_beq_eq_true->abL,ble->aeO,beq->aeS,blt->aeW,le_of_ble_eq_true->aeY,mul_le_mul_right->aeZ,sub_mul->ae1
open List renaming map_cons->aet,flatten_cons->aeu,mem_of_mem_take->aev,mem_of_mem_drop->aeM,mem_of_getElem?->aeN,length_drop->aeP,length_map->aeT,drop_take->aeU,drop_drop->aeV,map_drop->aeX
open Option renaming map_some->aeQ,map_none->aeR
open Int renaming ofNat_eq_natCast->ae0,negSucc_lt_zero->ae2
namespace Go.VM
open Go.AM
theorem sg{d b:Nat}(l:d≠b):aeS d b=false:=by
 cases f:aeS d b with
 |false=>rfl
 |true=>exact absurd (abL f) l
theorem pk(f b:Int):qp f b=decide (f=b):=by
 cases f<;>cases b
 ·rename_i f b;simp only[qp];by_cases d:f=b
  ·subst d;simp
  ·rw[sg d];exact(decide_eq_false (by intro l;exact d (Int.ofNat.inj l))).symm
 ·simp[qp]
 ·simp[qp]
 ·rename_i f b;simp only[qp];by_cases d:f=b
  ·subst d;simp
  ·rw[sg d];exact(decide_eq_false (by intro l;exact d (Int.negSucc.inj l))).symm
theorem qF(f b:Nat):aeW f b=decide (f<b):=by
 by_cases d:f<b
 ·rw[decide_eq_true d];exact abK d
 ·rw[decide_eq_false d];cases l:aeW f b with
  |false=>rfl
  |true=>exact absurd (aeY l) d
theorem N3(f b:Nat):aeO f b=decide (f<=b):=by
 by_cases d:f<=b
 ·rw[decide_eq_true d];exact abK d
 ·rw[decide_eq_false d];cases l:aeO f b with
  |false=>rfl
  |true=>exact absurd (aeY l) d
theorem N4(f b:Nat):aeS f b=decide (f=b):=by
 by_cases d:f=b
 ·subst d;simp
 ·rw[decide_eq_false d];exact sg d
theorem z7(d b:Int):tZ d b=decide (d<b):=by
 cases d<;>cases b<;>simp only[tZ]
 ·rename_i d b;rw[qF];exact decide_eq_decide.2 sm
 ·rename_i d b;exact(decide_eq_false (by have:=ae2 b;simp only[ae0];omega)).symm
 ·rename_i d b;exact(decide_eq_true (by have:=ae2 d;simp only[ae0];omega)).symm
 ·rename_i d b;rw[qF];exact decide_eq_decide.2 om
theorem Jn:∀(d b:cq),l8 d b=decide (d=b):=by
 intro d;induction d with
 |nil=>intro b;cases b<;>simp[l8]
 |cons o d f=>
  intro b;cases b with
  |nil=>simp[l8]
  |cons m b=>
   simp only[l8];by_cases l:o=m
   ·subst l;simp[f]
   ·have:aeS o.toNat m.toNat=false:=sg fun q=>l (UInt8.toNat_inj.1 q);rw[this];simp[l]
theorem vL(d b:cq):pz ⟨⟨d⟩⟩ ⟨⟨b⟩⟩=decide (d=b):=Jn d b
variable{a:V->Prop} {e:BinOp} {g:IntKind} {h n:Operand} {c p:V} {i:List V} {j:Nat}
section
variable{C:dR} {Φ:Fz} {ρ:Nat->Nat} {σ:VS} {st:St} {m:Nat} {ev:Operand->Option V} {mK:Operand->Option Value}
theorem Ep{l b:Int}(d:GW e g l b a):∃f,a f/\e9 Φ m f/\ub e g l b=some (erase ρ f):=by
 unfold GW at d;split at d;all_goals first
  |exact d.elim
  |exact⟨_,d,.d (.int _ _),rfl⟩
  |exact⟨_,d.2,.d (.int _ _),by simp only[ub,pk,decide_eq_false d.1];rfl⟩
  |exact⟨_,d,.d (.bool _),by simp only[ub,pk,z7];rfl⟩
  |(refine⟨_,d,.d (.bool _),?_⟩
    simp only[ub,pk,z7,bX,erase,cz];congr 2;rw[<-decide_not];exact decide_eq_decide.2 om)
theorem G5{l b:Int}(d:SS e g l b a):∃f,a f/\e9 Φ m f/\uc e g l b=some (erase ρ f):=by
 obtain⟨o,rfl,d⟩:=d;split at d
 ·exact⟨_,d,.d (.int _ _),Z⟩
 ·exact⟨_,d,.d (.int _ _),Z⟩
 ·exact d.elim
theorem Er{l b:cq}(d:GX e l b a):∃f,a f/\e9 Φ m f/\xg e ⟨⟨l⟩⟩ ⟨⟨b⟩⟩=some (erase ρ f):=by
 unfold GX at d;split at d;all_goals first
  |exact d.elim
  |exact⟨_,d,.d (.bool _),by simp only[xg,vL];rfl⟩
  |exact⟨_,d.2,.d (.str _),by simp only[xg,abK d.1];rfl⟩
theorem pb:∀{f:List V} {l:cH},sq f=some l->f=l.map V.d:=by
 intro f;induction f with
 |nil=>intro l d;cases d;rfl
 |cons r f m=>
  intro l d;unfold sq at d;split at d
  ·rename_i b;cases b
  ·rename_i b;cases b;split at d
   ·rename_i q o;cases d;rw[m o];rfl
   ·cases d
  ·cases d
theorem O6{t:TypeId}{F b:V}{G:Bool->Prop}(d:vEq C t h n F b G):∃y,G y/\O9 C t h n (erase ρ F) (erase ρ b)=some y:=by
 unfold vEq at d;split at d
 ·rename_i I K;split at d
  ·rename_i D q;split at d
   ·rename_i f;exact⟨_,d,by simp only[O9,q,f,erase,cz,jm]⟩
   ·exact d.elim
  ·exact d.elim
 ·rename_i O m;split at d
  ·rename_i L J o l;obtain⟨y,B,z⟩:=d;refine⟨y,z,?_⟩;rw[pb o,pb l];simp only[erase,nY];exact B
  ·exact d.elim
 ·split at d
  ·rename_i D H I M K q o l;split at d
   ·rename_i N f;split at d
    ·rename_i s;refine⟨_,d,?_⟩;simp only[Bool.and_eq_true]at s;obtain⟨⟨⟨w,u⟩,x⟩,v⟩:=s;have E:=abL w;have A:=abL u;subst E;subst A;unfold O9;rw[q];unfold Jg at f;split at f<;>first|cases f|skip
     all_goals
      rename_i r;dsimp only;rw[r];unfold GY at o l;split at o<;>first|cases o|skip
      all_goals
       split at l<;>first|cases l|skip
       all_goals
        first
         |(cases x;done)
         |rfl
         |(simp only[erase,cz]
           have:(kA h||kA n)=true:=by simpa using v
           simp only[this];rfl)
    ·exact d.elim
   ·exact d.elim
  ·exact d.elim
theorem L3{t:TypeId}{u b:V}(hk:aaF C e t h n u b a):∃s,a s/\e9 Φ m s/\Gj C e t h n (erase ρ u) (erase ρ b)=some (erase ρ s):=by
 unfold aaF at hk;split at hk
 ·rename_i F L B E;split at hk
  ·rename_i x;obtain⟨s,l,f,h3⟩:=G5 (Φ:=Φ) (ρ:=ρ) (m:=m) hk;exact⟨s,l,f,by simp only[Gj,erase,cz,x];exact h3⟩
  ·rename_i x;split at hk
   ·rename_i y;obtain⟨s,l,f,h3⟩:=Ep (Φ:=Φ) (ρ:=ρ) (m:=m) hk;exact⟨s,l,f,by simp only[Gj,erase,cz,x,y];exact h3⟩
   ·exact hk.elim
 ·obtain⟨s,l,f,h3⟩:=Er (Φ:=Φ) (ρ:=ρ) (m:=m) hk;exact⟨s,l,f,by simp only[Gj,erase,cz];exact h3⟩
 ·rename_i l f;have shape:∀(r:Option Value),(match(generalizing:=false) e with|.eql=>(O9 C t h n (erase ρ u) (erase ρ b)).map .bool|.neq=>(O9 C t h n (erase ρ u) (erase ρ b)).map fun r=>.bool (!r)|_=>none)=r->O9 C t h n (erase ρ u) (erase ρ b)≠none->Gj C e t h n (erase ρ u) (erase ρ b)=r:=by
   intro r z A;subst z;unfold Gj;split
   ·rename_i D H J G q o;exfalso;cases u with
    |d v=>
     cases v<;>simp[erase,cz]at q;cases b with
     |d w=>
      cases w<;>simp[erase,cz]at o;exact l _ _ _ _ Z Z
     |_=>simp[erase]at o
    |_=>simp[erase]at q
   ·rename_i I K q o;exfalso;cases u with
    |d v=>
     cases v<;>simp[erase,cz]at q;cases b with
     |d w=>
      cases w<;>simp[erase,cz]at o;exact f _ _ Z Z
     |_=>simp[erase]at o
    |_=>simp[erase]at q
   ·rfl
  split at hk
  ·exact abN
  ·exact abN
  ·exact hk.elim
theorem PO{d:UnOp}(b:vUn d c a):∃f,a f/\e9 Φ m f/\aUn d (erase ρ c)=some (erase ρ f):=by
 unfold vUn at b;split at b
 ·exact⟨_,b,.d (.int _ _),Z⟩
 ·exact⟨_,b,.d (.int _ _),Z⟩
 ·exact⟨_,b,.d (.bool _),Z⟩
 ·exact b.elim
theorem AW(l:cq):sj ((l.map fun d=>[uy d]).flatten.map cz)=some l:=by
 induction l with
 |nil=>rfl
 |cons d l b=>
  simp only[aet,aeu,List.cons_append,List.nil_append,uy,cz,sj,toByte];simp only[uy]at b;rw[b];simp
theorem Jo(ρ:Nat->Nat)(l:cq):cl ρ (l.map fun b=>[io b]).flatten=(l.map fun b=>[uy b]).flatten.map cz:=by
 induction l with
 |nil=>rfl
 |cons b l d=>
  simp only[aet,aeu,List.cons_append,List.nil_append,cl,d];rfl
theorem CS(O:Real Φ ρ σ st){s d:TypeId}(r:e9 Φ σ.length c)(b:CJ C s d c σ a):
  ∃J,a J/\e9 Φ σ.length J/\ig C s d (erase ρ c) st=some (.val (erase ρ J) st):=by
 unfold CJ at b;split at b
 ·rename_i Y W o m;split at b
  ·rename_i l f;split at b
   ·exact⟨_,b,.d (.int _ _),by simp only[ig,o,m,l,f,erase,cz];rfl⟩
   ·exact b.elim
  ·rename_i l f;split at b
   ·exact⟨_,b,.d (.str _),by simp only[ig,o,m,l,f,erase,cz];rfl⟩
   ·exact b.elim
  ·rename_i p l f;split at b
   ·rename_i U q;split at b
    ·rename_i z;split at b
     ·exact⟨_,b,.d (.str _),by simp only[ig,o,m,l,f,erase,cz,q,z];rfl⟩
     ·rename_i n h M D G;obtain⟨g,rfl,rfl,A⟩:=b;cases r with
      |d r=>
      cases r with
      |ps K R y w X=>
       simp only[Nat.mul_one,aeT]at y w;refine⟨_,A,.d (.str _),?_⟩;simp only[ig,o,m,l,f,erase,cz,q,z,aeT];rw[jr (O.fz _ _ K) y,w];simp only[AW];rfl
     ·rename_i e M S P D;split at b
      ·rename_i N G t;obtain⟨g,rfl,rfl,A,y,w⟩:=b;rw[ck]at t;obtain⟨⟨⟨i,j,I⟩,H,T,_⟩,_⟩:=O.obj e _ t rfl;have F:∀(B:List (List V)) (v u:Nat),(∀c∈B,c.length=1)->(B.flatten.drop v).take u=((B.drop v).take u).flatten:=by
        intro B;induction B with
        |nil=>intro v u _;simp
        |cons c B x=>
         intro v u E;have r:=E c sm;obtain⟨k,rfl⟩:=List.length_eq_one_iff.1 r;have x:=fun v u=>x v u (fun Q L=>E Q (by simp[L]));cases v with
         |zero=>
          cases u with
          |zero=>simp
          |succ u=>
           have:=x 0 u;simp only[List.drop_zero]at this;simp[this]
         |succ v=>simpa using x v u
       refine⟨_,w,.d (.str _),?_⟩;simp only[ig,o,m,l,f,erase,cz,q,z,Nat.mul_one];rw[jr I (by rw[cW,rM H];omega),<-pM,F _ _ _ H,A,Jo];simp only[AW];rfl
      ·exact b.elim
     ·exact b.elim
    ·exact b.elim
   ·exact b.elim
  ·exact b.elim
 ·exact b.elim
theorem uA{t:TypeId}(o:e9 Φ m c)(b:pL C t c a)(ρ:Nat->Nat)(st:St):
  ∃l,a l/\e9 Φ m l/\gU C t (erase ρ c) st=some (.val (erase ρ l) st):=by
 unfold pL at b;split at b
 ·rename_i q d;split at b
  ·exact b.elim
  ·rename_i f;refine⟨_,b,.iface o,?_⟩;unfold gU;rw[d];dsimp only;split
   ·rename_i r;exact absurd r (f _)
   ·simp only[erase];rfl
 ·exact b.elim
theorem AX{t:TypeId}(r:eV Φ m i)(b:NY C t i j a)(ρ:Nat->Nat):
  ∃q,a q/\e9 Φ m q/\Cn C t (cl ρ i) j=some (erase ρ q):=by
 unfold NY at b;split at b
 ·rename_i s f;split at b
  ·rename_i l;obtain⟨d,o⟩:=z6 _ _ _ _ b;refine⟨_,o,.agg (L2 r _ _),?_⟩;simp only[Cn,f,l,cW,abK d,erase,pM]
  ·rename_i l;obtain⟨q,d,o⟩:=cA b;rw[ck]at d;refine⟨q,o,r q (aeN d),?_⟩;simp only[Cn,f,l,ck,dL,List.getElem?_map,d,aeQ]
 ·exact b.elim
theorem G6{t:TypeId}(d:e9 Φ m c){f:Nat}(b:LX C t c f a)(ρ:Nat->Nat)(st:St):
  ∃q,a q/\e9 Φ m q/\xh C t (erase ρ c) f st=some (.val (erase ρ q) st):=by
 unfold LX at b;split at b
 ·rename_i x z l;split at b
  ·rename_i o s;split at b
   ·rename_i y r;cases d with
    |agg d=>
     obtain⟨q,v,u,w⟩:=AX d b ρ;refine⟨q,v,u,?_⟩;simp only[xh,l,erase,s,r,w];rfl
   ·exact b.elim
  ·exact b.elim
 ·exact b.elim
theorem Aa{t:TypeId}(r:e9 Φ m c){f:Nat}(b:xq C t c f a)(ρ:Nat->Nat)(st:St):
  ∃u,a u/\e9 Φ m u/\fI C t (erase ρ c) f st=some (.val (erase ρ u) st):=by
 unfold xq at b;split at b
 ·rename_i L l;split at b
  ·rename_i s d;split at b
   ·rename_i D v q;split at b
    ·rename_i M G o;rw[vJ]at b;cases r with
     |bp B=>exact⟨_,b,.bp B,by simp only[fI,l,erase,d,q,o];rfl⟩
    ·rename_i M K F G o;rw[vJ]at b;cases r with
     |ptr B=>exact⟨_,b,.ptr B,by simp only[fI,l,erase,d,q,o,Nat.add_assoc];rfl⟩
    ·rename_i O N H o;cases r with
     |fp x E z w y=>
      obtain⟨I,A⟩:=Jk _ _ _ b;refine⟨_,A,.fp x (by rw[aeP];omega) ?_ (fun J d=>w J (aeM d)) y,by simp only[fI,l,erase,d,q,o];rfl⟩;rw[aeP,aeX,<-z,aeU,aeV]
    ·exact b.elim
   ·exact b.elim
  ·exact b.elim
 ·exact b.elim
end
theorem Fu{q:Type}:∀{b:List (List q)} {d:Nat} (f:Nat),(∀l∈b,l.length=d)->b.flatten.drop (f*d)=(b.drop f).flatten:=by
 intro b;induction b with
 |nil=>intro d f _;simp
 |cons l b m=>
  intro d f r;cases f with
  |zero=>simp
  |succ f=>
   rw[aeu,Nat.succ_mul,List.drop_succ_cons,<-m f fun s o=>r s (by simp[o])];rw[show f*d+d=l.length+f*d from by rw[r l sm];omega,List.drop_length_add_append]
theorem Fv{q:Type}:∀{b:List (List q)} {d:Nat} (f:Nat),(∀l∈b,l.length=d)->b.flatten.take (f*d)=(b.take f).flatten:=by
 intro b;induction b with
 |nil=>intro d f _;simp
 |cons l b m=>
  intro d f r;cases f with
  |zero=>simp
  |succ f=>
   rw[aeu,Nat.succ_mul,List.take_succ_cons,aeu,<-m f fun s o=>r s (by simp[o])];rw[show f*d+d=l.length+f*d from by rw[r l sm];omega,List.take_length_add_append]
variable{k:Bool}
section
variable{C:dR} {Φ:Fz} {ρ:Nat->Nat} {σ:VS} {st:St} {m:Nat} {ev:Operand->Option V} {mK:Operand->Option Value}
theorem gi{o:Option V}{f:Nat->Prop}(b:lc o j f)(ρ:Nat->Nat):∃d,f d/\lu (o.map (erase ρ)) j=some d:=by
 unfold lc at b;split at b
 ·exact⟨_,b,Z⟩
 ·obtain⟨d,rfl,b⟩:=b;exact⟨d,b,Z⟩
 ·exact b.elim
theorem G7(ae:Real Φ ρ σ st){t:TypeId}(E:e9 Φ σ.length c){lo D H:Option V}(b:LW C t c lo D H σ a):
  ∃i,a i/\e9 Φ σ.length i/\pA C t (erase ρ c) (lo.map (erase ρ)) (D.map (erase ρ)) (H.map (erase ρ)) st=some (.val (erase ρ i) st):=by
 unfold LW at b;split at b
 ·exact b.elim
 ·rename_i al r;split at b
  ·rename_i s z;split at b
   ·obtain⟨M,b,u⟩:=gi b ρ;obtain⟨l,b,q⟩:=gi b ρ;obtain⟨⟨B,A⟩,b⟩:=b;refine⟨_,b,.d (.str _),?_⟩;simp only[pA,r,z,erase,cz,u,q,aeR];rw[abK B,abK A];rfl
   ·exact b.elim
  ·rename_i k z;split at b
   ·exact b.elim
   ·rename_i w x;split at b
    ·obtain⟨M,o,u⟩:=gi b ρ;obtain⟨l,m,q⟩:=gi o ρ;obtain⟨O,J,F⟩:=gi m ρ;clear b o m;obtain⟨⟨rfl,rfl,rfl,Q⟩,h⟩:=J;refine⟨_,h,.d .ci,?_⟩;have U:((D.map (erase ρ)).isSome||(H.map (erase ρ)).isNone)=true:=by simpa using Q
     simp only[pA,r,z,erase,cz,x,u,q,F,U];rfl
    ·rename_i ak am aa f y;split at b
     ·obtain⟨M,b,u⟩:=gi b ρ;obtain⟨l,b,q⟩:=gi b ρ;obtain⟨⟨B,A,R,Q,rfl⟩,b⟩:=b;cases E with
      |d E=>
      cases E with
      |ps N S ai ab j p=>
       rename_i ap an aj;have v:((y.take l).drop M).length=l-M:=by
        rw[aeP,List.length_take];omega
       have n:M*w.size<=l*w.size:=aeZ _ B;have P:l*w.size<=y.length*w.size:=aeZ _ A;refine⟨_,b,.d (.ps N (fun ac T=>S ac (aev (aeM T))) ?_ ?_ (fun ac T=>j ac (aev (aeM T))) p),?_⟩
       ·rw[v,ae1];omega
       ·have W:∀c∈y.take l,c.length=w.size:=fun c E=>S c (aev E);rw[v,<-Fu M W,<-Fv l S,aeX,List.map_take,<-ab,List.take_take,Nat.min_eq_left P,aeU,aeV,ae1]
       ·have K:Pa st ak=some w.size:=by simp only[Pa,ae.fz _ _ N]
        have G:aeS f 0=false:=sg om;have I:(aeO M l&&aeO l f&&aeO f f&&((D.map (erase ρ)).isSome||true))=true:=by
         rw[abK B,abK (Nat.le_trans A R),abK (Nat.le_refl _)];simp
        have F:lu none f=some f:=rfl;simp only[pA,r,z,erase,cz,x,u,q,aeR,F,Option.isNone_none,I,G,K,Nat.beq_refl,v];rfl
     ·exact b.elim
    ·rename_i af aa ah ag f;split at b
     ·rename_i ad y L;obtain⟨M,o,u⟩:=gi b ρ;obtain⟨l,m,q⟩:=gi o ρ;obtain⟨O,J,F⟩:=gi m ρ;clear b o m;obtain⟨⟨B,A,R,Q,rfl,rfl,e⟩,b⟩:=J;rw[ck]at L;obtain⟨⟨⟨ao,aj,N⟩,_⟩,_⟩:=ae.obj af _ L rfl;cases E with
      |ms Y=>
       refine⟨_,b,.ms Y,?_⟩;rcases Nat.eq_zero_or_pos f with g|g
       ·subst g;obtain rfl:O=0:=om;obtain rfl:l=0:=om;obtain rfl:M=0:=om;have X:((D.map (erase ρ)).isSome||(H.map (erase ρ)).isNone)=true:=by simpa using e
        simp only[pA,r,z,erase,x,u,q,F,X];rfl
       have K:Pa st (ρ af)=some w.size:=by simp only[Pa,N]
       have G:aeS f 0=false:=sg om;have I:(aeO M l&&aeO l O&&aeO O f&&((D.map (erase ρ)).isSome||(H.map (erase ρ)).isNone))=true:=by
        rw[abK B,abK A,abK R];simpa using e
       simp only[pA,r,z,erase,x,u,q,F,I,G,K,Nat.beq_refl,Nat.add_mul];rfl
     ·exact b.elim
    ·exact b.elim
  ·exact b.elim
theorem Ab{t:TypeId}(s:e9 Φ m c)(b:xu C t c p a)(ρ:Nat->Nat)(st:St):
  ∃N,a N/\e9 Φ m N/\gv C t (erase ρ c) (erase ρ p) st=some (.val (erase ρ N) st):=by
 unfold xu at b;split at b
 ·rename_i g _ e r;split at b
  ·rename_i B x;split at b
   ·rename_i f l;split at b
    ·rename_i W Q X w G;split at b
     ·rename_i v;have:=abL v;subst this;obtain⟨z,rfl,q,b⟩:=b;cases s with
      |ms E=>
       refine⟨_,b,.ptr E,?_⟩;have o:aeW z w=true:=by rw[qF];exact decide_eq_true q
       simp only[gv,r,erase,cz,x,l,o,Nat.add_mul,Nat.add_zero];rfl
     ·exact b.elim
    ·rename_i j h Q G u;split at b
     ·rename_i v;have:=abL v;subst this;obtain⟨z,rfl,S,y,b⟩:=b;rw[ck]at y;have q:z<u.length:=(List.getElem?_eq_some_iff.1 y).1;cases s with
      |d s=>
      cases s with
      |ps M D Y R O P=>
       rename_i k T i;have K:=aeN y;have I:=D S K;have H:=N2 D y (f:=0) (n:=f.size) om;have J:=rM D;refine⟨_,b,.fp M (by rw[I];rw[J]at H;omega) ?_ (O S K) P,?_⟩
       ·have F:=H.1;rw[Nat.add_zero,List.drop_zero,List.take_of_length_le (by omega:S.length<=f.size)]at F;have A:=congrArg (fun U=>(U.drop (z*f.size)).take f.size) R;simp only[aeU,aeV,List.take_take]at A;rw[I];have L:f.size<=u.length*f.size-z*f.size:=by
         rw[<-ae1];exact Nat.le_mul_of_pos_left _ om
        rw[Nat.min_eq_left L,<-aeX,<-List.map_take,F]at A;exact A
       ·have o:aeW z u.length=true:=by rw[qF];exact decide_eq_true q
        simp only[gv,r,erase,cz,x,l,o];rfl
     ·exact b.elim
    ·exact b.elim
   ·exact b.elim
  ·rename_i w B x;split at b
   ·rename_i f l;split at b
    ·rename_i W T;obtain⟨z,rfl,q,b⟩:=b;rw[vJ]at b;cases s with
     |bp E=>
      refine⟨_,b,.bp E,?_⟩;have o:aeW z w=true:=by rw[qF];exact decide_eq_true q
      simp only[gv,r,erase,cz,x,l,o];rfl
    ·exact b.elim
   ·exact b.elim
  ·exact b.elim
 ·exact b.elim
theorem G8{t:TypeId}(l:e9 Φ m c)(b:LY C t c p a)(ρ:Nat->Nat)(st:St):
  ∃o,a o/\e9 Φ m o/\ue C t (erase ρ c) (erase ρ p) st=some (.val (erase ρ o) st):=by
 unfold LY at b;split at b
 ·rename_i A s _ F d;split at b
  ·rename_i f;obtain⟨D,rfl,H,B,b⟩:=b;refine⟨_,b,.d (.int _ _),?_⟩;simp only[ue,d,erase,cz,f,B];rfl
  ·exact b.elim
 ·rename_i A E _ F d;split at b
  ·rename_i r y f;split at b
   ·rename_i G q;obtain⟨D,rfl,w,b⟩:=b;cases l with
    |agg l=>
     obtain⟨o,x,u,z⟩:=AX l b ρ;refine⟨o,x,u,?_⟩;have v:aeW D r=true:=by rw[qF];exact decide_eq_true w
     simp only[ue,d,erase,cz,f,q,v,z];rfl
   ·exact b.elim
  ·exact b.elim
 ·exact b.elim
theorem AY(ρ:Nat->Nat)(D:TypeDesc)(x:V):∀(m:List rL) (A:Nat) (w:Option (Nat×V)),eN D x m A=some w->
  rE D (erase ρ x) (m.map (ke ρ)) A=some (w.map fun C=>(C.1,erase ρ C.2))/\(∀s q,w=some (s,q)->∃o∈m,o.val=q):=by
 intro m;induction m with
 |nil=>intro A w l;cases l;exact⟨rfl,fun s q o=>by cases o⟩
 |cons o m z=>
  intro A w l;unfold eN at l;split at l
  ·rename_i B E d;split at l
   ·rename_i b;cases l;refine⟨?_,fun s q f=>⟨o,by simp,by cases f;rfl⟩⟩;simp only[aet,rE,ke,d,erase,cz,jm,vL,b];rfl
   ·rename_i b;obtain⟨t,r⟩:=z (A+1) w l;refine⟨?_,fun s q f=>by obtain⟨o,u,v⟩:=r s q f;exact⟨o,by simp[u],v⟩⟩;simp only[aet,rE,ke,d,erase,cz,jm,vL,b];exact t
  ·rename_i G B F E d;split at l
   ·rename_i y b;cases l;refine⟨?_,fun s q f=>⟨o,by simp,by cases f;rfl⟩⟩;simp only[aet,rE,ke,d,erase,cz,jm,pk,y,b];rfl
   ·rename_i y b;obtain⟨t,r⟩:=z (A+1) w l;refine⟨?_,fun s q f=>by obtain⟨o,u,v⟩:=r s q f;exact⟨o,by simp[u],v⟩⟩;simp only[aet,rE,ke,d,erase,cz,jm,pk,y,b];exact t
   ·cases l
  ·rename_i B E d;split at l
   ·rename_i b;cases l;refine⟨?_,fun s q f=>⟨o,by simp,by cases f;rfl⟩⟩;simp only[aet,rE,ke,d,erase,cz,jm,b];rfl
   ·rename_i b;obtain⟨t,r⟩:=z (A+1) w l;refine⟨?_,fun s q f=>by obtain⟨o,u,v⟩:=r s q f;exact⟨o,by simp[u],v⟩⟩;simp only[aet,rE,ke,d,erase,cz,jm,b];exact t
  ·cases l
theorem uB(r:Real Φ ρ σ st){es:List rL}(b:yy σ c=some es):
  ((erase ρ c=.map none/\es=[])∨(∃f o,erase ρ c=.map (some f)/\st.get f=some (.map (es.map (ke ρ)) o)))/\∀s∈es,e9 Φ σ.length s.key/\e9 Φ σ.length s.val:=by
 unfold yy at b;split at b
 ·cases b;exact⟨.inl ⟨rfl,rfl⟩,fun _ r=>by simp at r⟩
 ·rename_i f;split at b
  ·rename_i t l d;cases b;rw[ck]at d;obtain⟨⟨m,q⟩,_⟩:=r.obj f _ d rfl;exact⟨.inr ⟨_,_,Z,m⟩,q⟩
  ·cases b
 ·cases b
theorem xz{b:TI}(o:dn (ux b.zero) fun t=>V1 b.agg t a)(Φ:Fz)(m:Nat)(ρ:Nat->Nat):∃l,a l/\e9 Φ m l/\Iz b.agg b.zero=some (erase ρ l):=by
 obtain⟨t,d,q⟩:=cA o;obtain⟨l,s,r,f⟩:=yA q ρ (qo Φ m d).1;rw[jk ρ d]at f;exact⟨l,s,r,f⟩
theorem yB{o b:V}(f:e9 Φ m o)(l:e9 Φ m b):e9 Φ m (.dS [o,b]):=.dS fun q d=>by
 rcases List.mem_cons.1 d with rfl|d
 ·exact f
 ·rcases List.mem_cons.1 d with rfl|d
  ·exact l
  ·simp at d
theorem Es(T:Real Φ ρ σ st){t:TypeId}(b:GZ C t c p k σ a):
  ∃f,a f/\e9 Φ σ.length f/\qs C t (erase ρ c) (erase ρ p) k st=some (.val (erase ρ f) st):=by
 unfold GZ at b;split at b
 ·exact b.elim
 ·rename_i R o;split at b
  ·rename_i N P r;split at b
   ·rename_i O v l m;split at b
    ·rename_i Q u y;obtain⟨A,I,b⟩:=b;obtain⟨G,B⟩:=uB T y;obtain⟨q,F⟩:=AY ρ _ _ _ _ _ I;have w:qs C t (erase ρ c) (erase ρ p) k st=match(generalizing:=false) (A.map fun c=>(c.1,erase ρ c.2):Option (Nat×Value))with
       |some (_,f)=>val (if k then .tuple #[f,.bool true]else f) st
       |none=>match(generalizing:=false) Iz v.agg v.zero with
        |none=>none
        |some L=>val (if k then .tuple #[L,.bool false]else L) st:=by
      unfold qs;rcases G with⟨z,rfl⟩|⟨M,S,z,D⟩
      ·simp only[List.map_nil]at q;simp only[o,r,l,m,u,z,q];cases A with
       |none=>rfl
       |some H=>rfl
      ·simp only[o,r,l,m,u,z,D,q];cases A with
       |none=>rfl
       |some H=>rfl
     rw[w];cases A with
     |some H=>
      obtain⟨U,f⟩:=H;obtain⟨z,J,K⟩:=F U f rfl;have d:e9 Φ σ.length f:=K▸(B z J).2;cases k with
      |true=>exact⟨_,b,yB d (.d (.bool _)),rfl⟩
      |false=>exact⟨_,b,d,rfl⟩
     |none=>
      dsimp only at b;obtain⟨f,s,x,E⟩:=xz b Φ σ.length ρ;rw[aeR];dsimp only;rw[E];cases k with
      |true=>exact⟨_,s,yB x (.d (.bool _)),rfl⟩
      |false=>exact⟨_,s,x,rfl⟩
    ·exact b.elim
   ·exact b.elim
  ·exact b.elim
theorem yC(A:e9 Φ m c){t:TypeId}(b:uz C c t k a)(ρ:Nat->Nat)(st:St):
  ∃f,a f/\e9 Φ m f/\jg C (erase ρ c) t k st=some (.val (erase ρ f) st):=by
 unfold uz at b;split at b
 ·exact b.elim
 ·rename_i o u;split at b
  ·exact b.elim
  ·rename_i w;have d:∀y,(match(generalizing:=false) erase ρ c with
    |.iface B f=>match(generalizing:=false) aeS B t with
     |true=>val (if k then .tuple #[f,.bool true]else f) st
     |false=>match(generalizing:=false) k,Iz o.agg o.zero with
      |true,some x=>val (.tuple #[x,.bool false]) st
      |_,_=>none
    |.nilIface=>match(generalizing:=false) k,Iz o.agg o.zero with
     |true,some x=>val (.tuple #[x,.bool false]) st
     |_,_=>none
    |_=>none)=y->jg C (erase ρ c) t k st=y:=by
    intro y z;subst z;unfold jg;rw[u];dsimp only;split
    ·rename_i D;exact absurd D (w _)
    ·rfl
   split at b
   ·rename_i B f;cases A with
    |iface v=>
    split at b
    ·rename_i l;cases k with
     |true=>exact⟨_,b,yB v (.d (.bool _)),d _ (by simp only[erase,l];rfl)⟩
     |false=>exact⟨_,b,v,d _ (by simp only[erase,l];rfl)⟩
    ·rename_i l;split at b
     ·obtain⟨f,q,s,r⟩:=xz b Φ m ρ;exact⟨_,q,yB s (.d (.bool _)),d _ (by simp only[erase,l,r];rfl)⟩
     ·exact b.elim
   ·split at b
    ·obtain⟨f,q,s,r⟩:=xz b Φ m ρ;exact⟨_,q,yB s (.d (.bool _)),d _ (by simp only[erase,cz,r];rfl)⟩
    ·exact b.elim
   ·exact b.elim
theorem CT(f:e9 Φ m c)(b:CK c j a)(ρ:Nat->Nat)(st:St):
  ∃l,a l/\e9 Φ m l/\pB (erase ρ c) j st=some (.val (erase ρ l) st):=by
 unfold CK at b;split at b
 ·rename_i q;obtain⟨l,d,o⟩:=cA b;rw[ck]at d;cases f with
  |dS f=>
   refine⟨l,o,f l (aeN d),?_⟩;simp only[pB,erase,ck,dL,List.getElem?_map,d,aeQ];rfl
 ·exact b.elim
theorem L4(A:Real Φ ρ σ st){ts:List TypeId}(b:aaH C ts i σ a):
  ∃o,a o/\e9 Φ σ.length o/\yf C ts (cl ρ i) st=some (.val (erase ρ o) st):=by
 unfold aaH at b;split at b
 ·rename_i G _ D _;split at b
  ·exact b.elim
  ·rename_i y f;split at b
   ·rename_i F d;exact⟨_,b,.d (.int _ _),by simp only[yf,cl,f,d,erase,cz];rfl⟩
   ·rename_i E _ d;exact⟨_,b,.d (.int _ _),by simp only[yf,cl,f,d];rfl⟩
   ·rename_i l d;exact⟨_,b,.d (.int _ _),by simp only[yf,cl,f,d,erase,cz];rfl⟩
   ·rename_i l _ _ _ _ t d;exact⟨_,b,.d (.int _ _),by simp only[yf,cl,f,d,erase,cz];rfl⟩
   ·rename_i l _ _ _ u _ d;exact⟨_,b,.d (.int _ _),by simp only[yf,cl,f,d,erase,cz];rfl⟩
   ·rename_i v w d;obtain⟨x,r,m⟩:=cA b;obtain⟨s,_⟩:=uB A r;refine⟨_,m,.d (.int _ _),?_⟩;rcases s with⟨l,rfl⟩|⟨B,z,l,q⟩
    ·simp only[yf,cl,f,d,l];rfl
    ·simp only[yf,cl,f,d,l,q,aeT];rfl
   ·exact b.elim
 ·exact b.elim
theorem O3(f:Bool)(q:IntKind):∀(r:List V) (l:Int) (s:V->Prop),vmm f q l r s->∃t,s t/\e9 Φ m t/\nO f (.int q l) (cl ρ r)=some (erase ρ t):=by
 intro r;induction r with
 |nil=>intro l s o;exact⟨_,o,.d (.int _ _),rfl⟩
 |cons B r v=>
  intro l s o;cases B with
  |d A=>
   cases A with
   |int z u=>
    have o:vmm f q (match(generalizing:=false) f with|true=>max l u|false=>min l u) r s:=o;obtain⟨t,x,w,y⟩:=v _ s o;refine⟨t,x,w,?_⟩;rw[<-y];simp only[cl,erase,cz,nO,z7];congr 2;cases f with
    |true=>
     simp only[decide_eq_true_eq];by_cases b:l<u
     ·rw[if_pos b];omega
     ·rw[if_neg b];omega
    |false=>
     simp only[decide_eq_true_eq];by_cases b:u<l
     ·rw[if_pos b];omega
     ·rw[if_neg b];omega
   |_=>exact o.elim
  |_=>exact o.elim
theorem CU(r:oL Φ ρ m ev mK){o:Option Operand}{q:Option V}(d:SW ev o=some q):(o=none/\q=none)∨∃f l,o=some f/\q=some l/\mK f=some (erase ρ l):=by
 cases o with
 |none=>cases d;exact .inl ⟨rfl,rfl⟩
 |some f=>
  simp only[SW]at d;cases b:ev f with
  |none=>rw[b]at d;cases d
  |some l=>rw[b]at d;cases d;exact .inr ⟨f,l,rfl,rfl,(r _ _ b).1⟩
theorem np(y:Real Φ ρ σ st)(f:oL Φ ρ σ.length ev mK){o:Oper}(l:CM C ev o.op σ a):
  ∃v,a v/\e9 Φ σ.length v/\j8 C mK o st=some (.val (erase ρ v) st):=by
 obtain⟨H,W,T,J,I,L⟩:=o;dsimp only at l;unfold CM at l;split at l
 ·obtain⟨v,b,h2⟩:=cA l;obtain⟨h3,d⟩:=f _ _ b;exact⟨v,h2,d,by simp only[j8,h3];rfl⟩
 ·split at l
  ·rename_i e X v b h2 h3;obtain⟨z,_⟩:=f _ _ b;obtain⟨A,G⟩:=f _ _ h2;obtain⟨u,E⟩:=f _ _ h3;cases e with
   |true=>exact⟨X,l,G,by simp only[j8,z,A,u,erase,cz];rfl⟩
   |false=>exact⟨v,l,E,by simp only[j8,z,A,u,erase,cz];rfl⟩
  ·exact l.elim
 ·obtain⟨g,b,h2⟩:=cA l;obtain⟨h3,d⟩:=CQ f b;obtain⟨v,h5,h6,h7⟩:=G4 d h2 ρ st;exact D6
 ·obtain⟨s,b,h2⟩:=cA l;obtain⟨h3,d⟩:=f _ _ b;obtain⟨v,h5,h6,h7⟩:=AV y d h2;exact D6
 ·obtain⟨s,b,h2⟩:=cA l;obtain⟨h3,d⟩:=f _ _ b;obtain⟨v,h5,h6,h7⟩:=Bw d h2 ρ st;exact D6
 ·obtain⟨s,b,h2⟩:=cA l;obtain⟨x,q,h2⟩:=cA h2;obtain⟨h3,d⟩:=f _ _ b;obtain⟨F8,r⟩:=f _ _ q;obtain⟨v,h5,h6,h7⟩:=L3 (Φ:=Φ) (ρ:=ρ) (m:=σ.length) h2;exact⟨v,h5,h6,by simp only[j8,h3,F8,h7];rfl⟩
 ·obtain⟨s,b,h2⟩:=cA l;obtain⟨h3,d⟩:=f _ _ b;obtain⟨v,h5,h6,h7⟩:=PO (Φ:=Φ) (ρ:=ρ) (m:=σ.length) h2;exact⟨v,h5,h6,by simp only[j8,h3,h7];rfl⟩
 ·obtain⟨s,b,h2⟩:=cA l;obtain⟨h3,d⟩:=f _ _ b;obtain⟨v,h5,h6,h7⟩:=CS y d h2;exact D6
 ·obtain⟨s,b,h2⟩:=cA l;obtain⟨h3,d⟩:=f _ _ b;obtain⟨v,h5,h6,h7⟩:=uA d h2 ρ st;exact D6
 ·split at l
  ·obtain⟨s,b,h2⟩:=cA l;obtain⟨x,q,h2⟩:=cA h2;obtain⟨h3,d⟩:=nl f b;obtain⟨F8,r⟩:=nl f q;exact⟨_,h2,.fn d r,by simp only[j8,h3,F8,aau,erase];rfl⟩
  ·exact l.elim
 ·obtain⟨s,b,h2⟩:=cA l;obtain⟨g,F,h2⟩:=cA h2;obtain⟨U,w,h2⟩:=cA h2;obtain⟨N,t,h2⟩:=cA h2;obtain⟨h3,d⟩:=f _ _ b;obtain⟨v,h5,h6,h7⟩:=G7 y d h2;refine⟨v,h5,h6,?_⟩;rcases CU f F with⟨rfl,rfl⟩|⟨Q,M,rfl,rfl,Y⟩<;>rcases CU f w with⟨rfl,rfl⟩|⟨O,S,rfl,rfl,P⟩<;>rcases CU f t with⟨rfl,rfl⟩|⟨R,K,rfl,rfl,c⟩<;>
   simp only[j8,h3, *,aeQ]<;>exact h7
 ·obtain⟨s,b,h2⟩:=cA l;obtain⟨h3,d⟩:=f _ _ b;obtain⟨v,h5,h6,h7⟩:=Aa d h2 ρ st;exact D6
 ·obtain⟨s,b,h2⟩:=cA l;obtain⟨h3,d⟩:=f _ _ b;obtain⟨v,h5,h6,h7⟩:=G6 d h2 ρ st;exact D6
 ·obtain⟨s,b,h2⟩:=cA l;obtain⟨x,q,h2⟩:=cA h2;obtain⟨h3,d⟩:=f _ _ b;obtain⟨F8,r⟩:=f _ _ q;obtain⟨v,h5,h6,h7⟩:=Ab d h2 ρ st;exact X2
 ·obtain⟨s,b,h2⟩:=cA l;obtain⟨x,q,h2⟩:=cA h2;obtain⟨h3,d⟩:=f _ _ b;obtain⟨F8,r⟩:=f _ _ q;obtain⟨v,h5,h6,h7⟩:=G8 d h2 ρ st;exact X2
 ·obtain⟨s,b,h2⟩:=cA l;obtain⟨x,q,h2⟩:=cA h2;obtain⟨h3,d⟩:=f _ _ b;obtain⟨F8,r⟩:=f _ _ q;obtain⟨v,h5,h6,h7⟩:=Es y h2;exact X2
 ·obtain⟨s,b,h2⟩:=cA l;obtain⟨h3,d⟩:=f _ _ b;obtain⟨v,h5,h6,h7⟩:=yC d h2 ρ st;exact D6
 ·obtain⟨s,b,h2⟩:=cA l;obtain⟨h3,d⟩:=f _ _ b;obtain⟨v,h5,h6,h7⟩:=CT d h2 ρ st;exact D6
 ·rename_i h;obtain⟨B,b,h2⟩:=cA l;obtain⟨h3,d⟩:=nl f b;split at h2
  ·rename_i x D;simp only[j8,h3,D];unfold SU at h2;split at h2
   ·obtain⟨v,h5,h6,h7⟩:=L4 y h2;exact⟨v,h5,h6,h7⟩
   ·exact YS
   ·exact YS
   ·exact h2.elim
  ·exact h2.elim
 ·exact l.elim
end
end Go.VM
