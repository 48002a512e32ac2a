/- Part of the proof. -/
import Derived.Test.YtpejealjkmhkgaaGreatDoorKAm
set_option linter.all false
set_option maxHeartbeats 16000000
set_option maxRecDepth 100000
open Nat renaming ble_eq_true_of_le->YL,eq_of_beq_eq_true->YM,ble->YS,beq->YW,blt->Y0,le_of_ble_eq_true->Y2,mul_le_mul_right->Y3,sub_mul->Y5
open List renaming map_cons->YN,flatten_cons->YO,mem_of_mem_take->YP,mem_of_mem_drop->YQ,mem_of_getElem?->YR,length_drop->YT,length_map->YX,drop_take->YY,drop_drop->YZ,map_drop->Y1
open Option renaming map_some->YU,map_none->YV
open Int renaming ofNat_eq_natCast->Y4,negSucc_lt_zero->Y6
namespace Go.VM
open Go.AM
theorem nR{d b:Nat}(l:d≠b):YW d b=false:=by
 cases f:YW d b with
 |false=>rfl
 |true=>exact absurd (YM f) l
theorem nv(f b:Int):oy f b=decide (f=b):=by
 cases f<;>cases b
 ·rename_i f b;simp only[oy];by_cases d:f=b
  ·subst d;simp
  ·rw[nR d];exact(decide_eq_false (by intro l;exact d (Int.ofNat.inj l))).symm
 ·simp[oy]
 ·simp[oy]
 ·rename_i f b;simp only[oy];by_cases d:f=b
  ·subst d;simp
  ·rw[nR d];exact(decide_eq_false (by intro l;exact d (Int.negSucc.inj l))).symm
theorem oN(f b:Nat):Y0 f b=decide (f<b):=by
 by_cases d:f<b
 ·rw[decide_eq_true d];exact YL d
 ·rw[decide_eq_false d];cases l:Y0 f b with
  |false=>rfl
  |true=>exact absurd (Y2 l) d
theorem KI(f b:Nat):YS f b=decide (f<=b):=by
 by_cases d:f<=b
 ·rw[decide_eq_true d];exact YL d
 ·rw[decide_eq_false d];cases l:YS f b with
  |false=>rfl
  |true=>exact absurd (Y2 l) d
theorem KJ(f b:Nat):YW f b=decide (f=b):=by
 by_cases d:f=b
 ·subst d;simp
 ·rw[decide_eq_false d];exact nR d
theorem xx(d b:Int):rP d b=decide (d<b):=by
 cases d<;>cases b<;>simp only[rP]
 ·rename_i d b;rw[oN];exact decide_eq_decide.2 sm
 ·rename_i d b;exact(decide_eq_false (by have:=Y6 b;simp only[Y4];omega)).symm
 ·rename_i d b;exact(decide_eq_true (by have:=Y6 d;simp only[Y4];omega)).symm
 ·rename_i d b;rw[oN];exact decide_eq_decide.2 om
theorem Gd:∀(d b:List UInt8),kP d b=decide (d=b):=by
 intro d;induction d with
 |nil=>intro b;cases b<;>simp[kP]
 |cons o d f=>
  intro b;cases b with
  |nil=>simp[kP]
  |cons m b=>
   simp only[kP];by_cases l:o=m
   ·subst l;simp[f]
   ·have:YW o.toNat m.toNat=false:=nR fun q=>l (UInt8.toNat_inj.1 q);rw[this];simp[l]
theorem te(d b:List UInt8):nC ⟨⟨d⟩⟩ ⟨⟨b⟩⟩=decide (d=b):=Gd d b
variable{a:V->Prop} {e:BinOp} {g:IntKind} {h n:Operand} {c p:V} {i:List V} {j:Nat}
section
variable{C:dU} {Φ:Fz} {ρ:Nat->Nat} {σ:VS} {st:St} {m:Nat} {ev:Operand->Option V} {lq:Operand->Option Value}
theorem BS{l b:Int}(d:DW e g l b a):∃f,a f/\eV Φ m f/\rS e g l b=some (erase ρ f):=by
 unfold DW at d;split at d;all_goals first
  |exact d.elim
  |exact⟨_,d,.d (.int _ _),rfl⟩
  |exact⟨_,d.2,.d (.int _ _),by simp only[rS,nv,decide_eq_false d.1];rfl⟩
  |exact⟨_,d,.d (.bool _),by simp only[rS,nv,xx];rfl⟩
  |(refine⟨_,d,.d (.bool _),?_⟩
    simp only[rS,nv,xx,ct,erase,cx];congr 2;rw[<-decide_not];exact decide_eq_decide.2 om)
theorem D5{l b:Int}(d:OL e g l b a):∃f,a f/\eV Φ m f/\rT e g l b=some (erase ρ f):=by
 obtain⟨o,rfl,d⟩:=d;split at d
 ·exact⟨_,d,.d (.int _ _),Z⟩
 ·exact⟨_,d,.d (.int _ _),Z⟩
 ·exact d.elim
theorem BT{l b:List UInt8}(d:DX e l b a):∃f,a f/\eV Φ m f/\uH e ⟨⟨l⟩⟩ ⟨⟨b⟩⟩=some (erase ρ f):=by
 unfold DX at d;split at d;all_goals first
  |exact d.elim
  |exact⟨_,d,.d (.bool _),by simp only[uH,te];rfl⟩
  |exact⟨_,d.2,.d (.str _),by simp only[uH,YL d.1];rfl⟩
theorem nc:∀{f:List V} {l:List D},qs f=some l->f=l.map V.d:=by
 intro f;induction f with
 |nil=>intro l d;cases d;rfl
 |cons r f m=>
  intro l d;unfold qs at d;split at d
  ·rename_i b;cases b
  ·rename_i b;cases b;split at d
   ·rename_i q o;cases d;rw[m o];rfl
   ·cases d
  ·cases d
theorem CE{t:TypeId}{F b:V}{G:Bool->Prop}(d:WG C t h n F b G):∃y,G y/\Lz C t h n (erase ρ F) (erase ρ b)=some y:=by
 unfold WG at d;split at d
 ·rename_i I K;split at d
  ·rename_i D q;split at d
   ·rename_i f;exact⟨_,d,by simp only[Lz,q,f,erase,cx,io]⟩
   ·exact d.elim
  ·exact d.elim
 ·rename_i O m;split at d
  ·rename_i L J o l;obtain⟨y,B,z⟩:=d;refine⟨y,z,?_⟩;rw[nc o,nc l];simp only[erase,mc];exact B
  ·exact d.elim
 ·split at d
  ·rename_i D H I M K q o l;split at d
   ·rename_i N f;split at d
    ·rename_i s;refine⟨_,d,?_⟩;simp only[Bool.and_eq_true]at s;obtain⟨⟨⟨w,u⟩,x⟩,v⟩:=s;have E:=YM w;have A:=YM u;subst E;subst A;unfold Lz;rw[q];unfold F6 at f;split at f<;>first|cases f|skip
     all_goals
      rename_i r;dsimp only;rw[r];unfold DY at o l;split at o<;>first|cases o|skip
      all_goals
       split at l<;>first|cases l|skip
       all_goals
        first
         |(cases x;done)
         |rfl
         |(simp only[erase,cx]
           have:(jH h||jH n)=true:=by simpa using v
           simp only[this];rfl)
    ·exact d.elim
   ·exact d.elim
  ·exact d.elim
theorem IR{t:TypeId}{w b:V}(f:T8 C e t h n w b a):∃v,a v/\eV Φ m v/\Dl C e t h n (erase ρ w) (erase ρ b)=some (erase ρ v):=by
 unfold T8 at f;split at f
 ·rename_i I O F H;split at f
  ·rename_i A;obtain⟨v,q,o,l⟩:=D5 (Φ:=Φ) (ρ:=ρ) (m:=m) f;exact⟨v,q,o,by simp only[Dl,erase,cx,A];exact l⟩
  ·rename_i A;split at f
   ·rename_i B;obtain⟨v,q,o,l⟩:=BS (Φ:=Φ) (ρ:=ρ) (m:=m) f;exact⟨v,q,o,by simp only[Dl,erase,cx,A,B];exact l⟩
   ·exact f.elim
 ·obtain⟨v,q,o,l⟩:=BT (Φ:=Φ) (ρ:=ρ) (m:=m) f;exact⟨v,q,o,by simp only[Dl,erase,cx];exact l⟩
 ·rename_i q o;have shape:∀(y:Option Value),(match(generalizing:=false) e with|.eql=>(Lz C t h n (erase ρ w) (erase ρ b)).map .bool|.neq=>(Lz C t h n (erase ρ w) (erase ρ b)).map fun y=>.bool (!y)|_=>none)=y->Lz C t h n (erase ρ w) (erase ρ b)≠none->Dl C e t h n (erase ρ w) (erase ρ b)=y:=by
   intro y D E;subst D;unfold Dl;split
   ·rename_i G K M J u s;exfalso;cases w with
    |d x=>
     cases x<;>simp[erase,cx]at u;cases b with
     |d z=>
      cases z<;>simp[erase,cx]at s;exact q _ _ _ _ Z Z
     |_=>simp[erase]at s
    |_=>simp[erase]at u
   ·rename_i L N u s;exfalso;cases w with
    |d x=>
     cases x<;>simp[erase,cx]at u;cases b with
     |d z=>
      cases z<;>simp[erase,cx]at s;exact o _ _ Z Z
     |_=>simp[erase]at s
    |_=>simp[erase]at u
   ·rfl
  split at f
  ·obtain⟨y,l,r⟩:=CE (ρ:=ρ) f;exact⟨_,l,.d (.bool _),shape _ (by simp only[r];rfl) (by rw[r];simp)⟩
  ·obtain⟨y,l,r⟩:=CE (ρ:=ρ) f;exact⟨_,l,.d (.bool _),shape _ (by simp only[r];rfl) (by rw[r];simp)⟩
  ·exact f.elim
theorem Mf{d:UnOp}(b:WY d c a):∃f,a f/\eV Φ m f/\WC d (erase ρ c)=some (erase ρ f):=by
 unfold WY at b;split at b
 ·exact⟨_,b,.d (.int _ _),Z⟩
 ·exact⟨_,b,.d (.int _ _),Z⟩
 ·exact⟨_,b,.d (.bool _),Z⟩
 ·exact b.elim
theorem yl(l:List UInt8):qk ((l.map fun d=>[sc d]).flatten.map cx)=some l:=by
 induction l with
 |nil=>rfl
 |cons d l b=>
  simp only[YN,YO,List.cons_append,List.nil_append,sc,cx,qk,toByte];simp only[sc]at b;rw[b];simp
theorem Ge(ρ:Nat->Nat)(l:List UInt8):cm ρ (l.map fun b=>[gq b]).flatten=(l.map fun b=>[sc b]).flatten.map cx:=by
 induction l with
 |nil=>rfl
 |cons b l d=>
  simp only[YN,YO,List.cons_append,List.nil_append,cm,d];rfl
theorem Aj(O:Real Φ ρ σ st){s d:TypeId}(r:eV Φ σ.length c)(b:Aa C s d c σ a):
  ∃J,a J/\eV Φ σ.length J/\gW C s d (erase ρ c) st=some (.val (erase ρ J) st):=by
 unfold Aa at b;split at b
 ·rename_i Y W o m;split at b
  ·rename_i l f;split at b
   ·exact⟨_,b,.d (.int _ _),by simp only[gW,o,m,l,f,erase,cx];rfl⟩
   ·exact b.elim
  ·rename_i l f;split at b
   ·exact⟨_,b,.d (.str _),by simp only[gW,o,m,l,f,erase,cx];rfl⟩
   ·exact b.elim
  ·rename_i p l f;split at b
   ·rename_i U q;split at b
    ·rename_i z;split at b
     ·exact⟨_,b,.d (.str _),by simp only[gW,o,m,l,f,erase,cx,q,z];rfl⟩
     ·rename_i n h M D G;obtain⟨g,rfl,rfl,A⟩:=b;cases r with
      |d r=>
      cases r with
      |ps K R y w X=>
       simp only[Nat.mul_one,YX]at y w;refine⟨_,A,.d (.str _),?_⟩;simp only[gW,o,m,l,f,erase,cx,q,z,YX];rw[iw (O.fz _ _ K) y,w];simp only[yl];rfl
     ·rename_i e M S P D;split at b
      ·rename_i N G t;obtain⟨g,rfl,rfl,A,y,w⟩:=b;rw[cv]at t;obtain⟨⟨⟨i,j,I⟩,H,T,_⟩,_⟩:=O.obj e _ t rfl;have F:∀(B:List (List V)) (v u:Nat),(∀c∈B,c.length=1)->(B.flatten.drop v).take u=((B.drop v).take u).flatten:=by
        intro B;induction B with
        |nil=>intro v u _;simp
        |cons c B x=>
         intro v u E;have r:=E c sm;obtain⟨k,rfl⟩:=List.length_eq_one_iff.1 r;have x:=fun v u=>x v u (fun Q L=>E Q (by simp[L]));cases v with
         |zero=>
          cases u with
          |zero=>simp
          |succ u=>
           have:=x 0 u;simp only[List.drop_zero]at this;simp[this]
         |succ v=>simpa using x v u
       refine⟨_,w,.d (.str _),?_⟩;simp only[gW,o,m,l,f,erase,cx,q,z,Nat.mul_one];rw[iw I (by rw[cX,pQ H];omega),<-nQ,F _ _ _ H,A,Ge];simp only[yl];rfl
      ·exact b.elim
     ·exact b.elim
    ·exact b.elim
   ·exact b.elim
  ·exact b.elim
 ·exact b.elim
theorem se{t:TypeId}(o:eV Φ m c)(b:nO C t c a)(ρ:Nat->Nat)(st:St):
  ∃l,a l/\eV Φ m l/\gH C t (erase ρ c) st=some (.val (erase ρ l) st):=by
 unfold nO at b;split at b
 ·rename_i q d;split at b
  ·exact b.elim
  ·rename_i f;refine⟨_,b,.iface o,?_⟩;unfold gH;rw[d];dsimp only;split
   ·rename_i r;exact absurd r (f _)
   ·simp only[erase];rfl
 ·exact b.elim
theorem ym{t:TypeId}(r:eP Φ m i)(b:KE C t i j a)(ρ:Nat->Nat):
  ∃q,a q/\eV Φ m q/\zG C t (cm ρ i) j=some (erase ρ q):=by
 unfold KE at b;split at b
 ·rename_i s f;split at b
  ·rename_i l;obtain⟨d,o⟩:=xw _ _ _ _ b;refine⟨_,o,.agg (IQ r _ _),?_⟩;simp only[zG,f,l,cX,YL d,erase,nQ]
  ·rename_i l;obtain⟨q,d,o⟩:=cy b;rw[cv]at d;refine⟨q,o,r q (YR d),?_⟩;simp only[zG,f,l,cv,dM,List.getElem?_map,d,YU]
 ·exact b.elim
theorem D6{t:TypeId}(hx:eV Φ m c){f:Nat}(b:IK C t c f a)(ρ:Nat->Nat)(st:St):
  ∃o,a o/\eV Φ m o/\uI C t (erase ρ c) f st=some (.val (erase ρ o) st):=by
 unfold IK at b;split at b
 ·rename_i w y d;split at b
  ·rename_i l r;split at b
   ·rename_i x q;cases hx with
    |agg hx=>
     obtain⟨o,u,s,v⟩:=ym hx b ρ;refine⟨o,u,s,?_⟩;simp only[uI,d,erase,r,q,v];rfl
   ·exact b.elim
  ·exact b.elim
 ·exact b.elim
theorem xy{t:TypeId}(hx:eV Φ m c){f:Nat}(b:uP C t c f a)(ρ:Nat->Nat)(st:St):
  ∃u,a u/\eV Φ m u/\fa C t (erase ρ c) f st=some (.val (erase ρ u) st):=by
 unfold uP at b;split at b
 ·rename_i L l;split at b
  ·rename_i s d;split at b
   ·rename_i D v r;split at b
    ·rename_i M G q;rw[tc]at b;cases hx with
     |bp B=>exact⟨_,b,.bp B,by simp only[fa,l,erase,d,r,q];rfl⟩
    ·rename_i M K F G q;rw[tc]at b;cases hx with
     |ptr B=>exact⟨_,b,.ptr B,by simp only[fa,l,erase,d,r,q,Nat.add_assoc];rfl⟩
    ·rename_i N o H q;cases hx with
     |fp x E z w y=>
      obtain⟨I,A⟩:=Ga _ _ _ b;refine⟨_,A,.fp x (by rw[YT];omega) ?_ (fun J d=>w J (YQ d)) y,by simp only[fa,l,erase,d,r,q];rfl⟩;rw[YT,Y1,<-z,YY,YZ]
    ·exact b.elim
   ·exact b.elim
  ·exact b.elim
 ·exact b.elim
end
theorem CF{q:Type}:∀{b:List (List q)} {d:Nat} (f:Nat),(∀l∈b,l.length=d)->b.flatten.drop (f*d)=(b.drop f).flatten:=by
 intro b;induction b with
 |nil=>intro d f _;simp
 |cons l b m=>
  intro d f r;cases f with
  |zero=>simp
  |succ f=>
   rw[YO,Nat.succ_mul,List.drop_succ_cons,<-m f fun s o=>r s (by simp[o])];rw[show f*d+d=l.length+f*d from by rw[r l sm];omega,List.drop_length_add_append]
theorem CG{q:Type}:∀{b:List (List q)} {d:Nat} (f:Nat),(∀l∈b,l.length=d)->b.flatten.take (f*d)=(b.take f).flatten:=by
 intro b;induction b with
 |nil=>intro d f _;simp
 |cons l b m=>
  intro d f r;cases f with
  |zero=>simp
  |succ f=>
   rw[YO,Nat.succ_mul,List.take_succ_cons,YO,<-m f fun s o=>r s (by simp[o])];rw[show f*d+d=l.length+f*d from by rw[r l sm];omega,List.take_length_add_append]
variable{k:Bool}
section
variable{C:dU} {Φ:Fz} {ρ:Nat->Nat} {σ:VS} {st:St} {m:Nat} {ev:Operand->Option V} {lq:Operand->Option Value}
theorem fP{o:Option V}{f:Nat->Prop}(b:kg o j f)(ρ:Nat->Nat):∃d,f d/\ko (o.map (erase ρ)) j=some d:=by
 unfold kg at b;split at b
 ·exact⟨_,b,Z⟩
 ·obtain⟨d,rfl,b⟩:=b;exact⟨d,b,Z⟩
 ·exact b.elim
theorem D7(ae:Real Φ ρ σ st){t:TypeId}(E:eV Φ σ.length c){lo D H:Option V}(b:IJ C t c lo D H σ a):
  ∃i,a i/\eV Φ σ.length i/\nD C t (erase ρ c) (lo.map (erase ρ)) (D.map (erase ρ)) (H.map (erase ρ)) st=some (.val (erase ρ i) st):=by
 unfold IJ at b;split at b
 ·exact b.elim
 ·rename_i al r;split at b
  ·rename_i s z;split at b
   ·obtain⟨M,b,u⟩:=fP b ρ;obtain⟨l,b,q⟩:=fP b ρ;obtain⟨⟨B,A⟩,b⟩:=b;refine⟨_,b,.d (.str _),?_⟩;simp only[nD,r,z,erase,cx,u,q,YV];rw[YL B,YL A];rfl
   ·exact b.elim
  ·rename_i k z;split at b
   ·exact b.elim
   ·rename_i w x;split at b
    ·obtain⟨M,o,u⟩:=fP b ρ;obtain⟨l,m,q⟩:=fP o ρ;obtain⟨O,J,F⟩:=fP m ρ;clear b o m;obtain⟨⟨rfl,rfl,rfl,Q⟩,h⟩:=J;refine⟨_,h,.d .cn,?_⟩;have U:((D.map (erase ρ)).isSome||(H.map (erase ρ)).isNone)=true:=by simpa using Q
     simp only[nD,r,z,erase,cx,x,u,q,F,U];rfl
    ·rename_i ak am aa f y;split at b
     ·obtain⟨M,b,u⟩:=fP b ρ;obtain⟨l,b,q⟩:=fP b ρ;obtain⟨⟨B,A,R,Q,rfl⟩,b⟩:=b;cases E with
      |d E=>
      cases E with
      |ps N S ai ab j p=>
       rename_i ap an aj;have v:((y.take l).drop M).length=l-M:=by
        rw[YT,List.length_take];omega
       have n:M*w.size<=l*w.size:=Y3 _ B;have P:l*w.size<=y.length*w.size:=Y3 _ A;refine⟨_,b,.d (.ps N (fun ac T=>S ac (YP (YQ T))) ?_ ?_ (fun ac T=>j ac (YP (YQ T))) p),?_⟩
       ·rw[v,Y5];omega
       ·have W:∀c∈y.take l,c.length=w.size:=fun c E=>S c (YP E);rw[v,<-CF M W,<-CG l S,Y1,List.map_take,<-ab,List.take_take,Nat.min_eq_left P,YY,YZ,Y5]
       ·have K:LA st ak=some w.size:=by simp only[LA,ae.fz _ _ N]
        have G:YW f 0=false:=nR om;have I:(YS M l&&YS l f&&YS f f&&((D.map (erase ρ)).isSome||true))=true:=by
         rw[YL B,YL (Nat.le_trans A R),YL (Nat.le_refl _)];simp
        have F:ko none f=some f:=rfl;simp only[nD,r,z,erase,cx,x,u,q,YV,F,Option.isNone_none,I,G,K,Nat.beq_refl,v];rfl
     ·exact b.elim
    ·rename_i af aa ah ag f;split at b
     ·rename_i ad y L;obtain⟨M,o,u⟩:=fP b ρ;obtain⟨l,m,q⟩:=fP o ρ;obtain⟨O,J,F⟩:=fP m ρ;clear b o m;obtain⟨⟨B,A,R,Q,rfl,rfl,e⟩,b⟩:=J;rw[cv]at L;obtain⟨⟨⟨ao,aj,N⟩,_⟩,_⟩:=ae.obj af _ L rfl;cases E with
      |ms Y=>
       refine⟨_,b,.ms Y,?_⟩;rcases Nat.eq_zero_or_pos f with g|g
       ·subst g;obtain rfl:O=0:=om;obtain rfl:l=0:=om;obtain rfl:M=0:=om;have X:((D.map (erase ρ)).isSome||(H.map (erase ρ)).isNone)=true:=by simpa using e
        simp only[nD,r,z,erase,x,u,q,F,X];rfl
       have K:LA st (ρ af)=some w.size:=by simp only[LA,N]
       have G:YW f 0=false:=nR om;have I:(YS M l&&YS l O&&YS O f&&((D.map (erase ρ)).isSome||(H.map (erase ρ)).isNone))=true:=by
        rw[YL B,YL A,YL R];simpa using e
       simp only[nD,r,z,erase,x,u,q,F,I,G,K,Nat.beq_refl,Nat.add_mul];rfl
     ·exact b.elim
    ·exact b.elim
  ·exact b.elim
theorem xz{t:TypeId}(s:eV Φ m c)(b:uQ C t c p a)(ρ:Nat->Nat)(st:St):
  ∃N,a N/\eV Φ m N/\gf C t (erase ρ c) (erase ρ p) st=some (.val (erase ρ N) st):=by
 unfold uQ at b;split at b
 ·rename_i g _ e r;split at b
  ·rename_i B x;split at b
   ·rename_i f l;split at b
    ·rename_i W Q X w G;split at b
     ·rename_i v;have:=YM v;subst this;obtain⟨z,rfl,q,b⟩:=b;cases s with
      |ms E=>
       refine⟨_,b,.ptr E,?_⟩;have o:Y0 z w=true:=by rw[oN];exact decide_eq_true q
       simp only[gf,r,erase,cx,x,l,o,Nat.add_mul,Nat.add_zero];rfl
     ·exact b.elim
    ·rename_i j h Q G u;split at b
     ·rename_i v;have:=YM v;subst this;obtain⟨z,rfl,S,y,b⟩:=b;rw[cv]at y;have q:z<u.length:=(List.getElem?_eq_some_iff.1 y).1;cases s with
      |d s=>
      cases s with
      |ps M D Y R O P=>
       rename_i k T i;have K:=YR y;have I:=D S K;have H:=KH D y (f:=0) (n:=f.size) om;have J:=pQ D;refine⟨_,b,.fp M (by rw[I];rw[J]at H;omega) ?_ (O S K) P,?_⟩
       ·have F:=H.1;rw[Nat.add_zero,List.drop_zero,List.take_of_length_le (by omega:S.length<=f.size)]at F;have A:=congrArg (fun U=>(U.drop (z*f.size)).take f.size) R;simp only[YY,YZ,List.take_take]at A;rw[I];have L:f.size<=u.length*f.size-z*f.size:=by
         rw[<-Y5];exact Nat.le_mul_of_pos_left _ om
        rw[Nat.min_eq_left L,<-Y1,<-List.map_take,F]at A;exact A
       ·have o:Y0 z u.length=true:=by rw[oN];exact decide_eq_true q
        simp only[gf,r,erase,cx,x,l,o];rfl
     ·exact b.elim
    ·exact b.elim
   ·exact b.elim
  ·rename_i w B x;split at b
   ·rename_i f l;split at b
    ·rename_i W T;obtain⟨z,rfl,q,b⟩:=b;rw[tc]at b;cases s with
     |bp E=>
      refine⟨_,b,.bp E,?_⟩;have o:Y0 z w=true:=by rw[oN];exact decide_eq_true q
      simp only[gf,r,erase,cx,x,l,o];rfl
    ·exact b.elim
   ·exact b.elim
  ·exact b.elim
 ·exact b.elim
theorem D8{t:TypeId}(hx:eV Φ m c)(b:IL C t c p a)(ρ:Nat->Nat)(st:St):
  ∃l,a l/\eV Φ m l/\rU C t (erase ρ c) (erase ρ p) st=some (.val (erase ρ l) st):=by
 unfold IL at b;split at b
 ·rename_i A s _ E d;split at b
  ·rename_i f;obtain⟨q,rfl,G,B,b⟩:=b;refine⟨_,b,.d (.int _ _),?_⟩;simp only[rU,d,erase,cx,f,B];rfl
  ·exact b.elim
 ·rename_i A D _ E d;split at b
  ·rename_i r y f;split at b
   ·rename_i F o;obtain⟨q,rfl,w,b⟩:=b;cases hx with
    |agg hx=>
     obtain⟨l,x,u,z⟩:=ym hx b ρ;refine⟨l,x,u,?_⟩;have v:Y0 q r=true:=by rw[oN];exact decide_eq_true w
     simp only[rU,d,erase,cx,f,o,v,z];rfl
   ·exact b.elim
  ·exact b.elim
 ·exact b.elim
theorem yn(ρ:Nat->Nat)(D:TypeDesc)(x:V):∀(m:List pP) (A:Nat) (w:Option (Nat×V)),eN D x m A=some w->
  pH D (erase ρ x) (m.map (iT ρ)) A=some (w.map fun C=>(C.1,erase ρ C.2))/\(∀s q,w=some (s,q)->∃o∈m,o.val=q):=by
 intro m;induction m with
 |nil=>intro A w l;cases l;exact⟨rfl,fun s q o=>by cases o⟩
 |cons o m z=>
  intro A w l;unfold eN at l;split at l
  ·rename_i B E d;split at l
   ·rename_i b;cases l;refine⟨?_,fun s q f=>⟨o,by simp,by cases f;rfl⟩⟩;simp only[YN,pH,iT,d,erase,cx,io,te,b];rfl
   ·rename_i b;obtain⟨t,r⟩:=z (A+1) w l;refine⟨?_,fun s q f=>by obtain⟨o,u,v⟩:=r s q f;exact⟨o,by simp[u],v⟩⟩;simp only[YN,pH,iT,d,erase,cx,io,te,b];exact t
  ·rename_i G B F E d;split at l
   ·rename_i y b;cases l;refine⟨?_,fun s q f=>⟨o,by simp,by cases f;rfl⟩⟩;simp only[YN,pH,iT,d,erase,cx,io,nv,y,b];rfl
   ·rename_i y b;obtain⟨t,r⟩:=z (A+1) w l;refine⟨?_,fun s q f=>by obtain⟨o,u,v⟩:=r s q f;exact⟨o,by simp[u],v⟩⟩;simp only[YN,pH,iT,d,erase,cx,io,nv,y,b];exact t
   ·cases l
  ·rename_i B E d;split at l
   ·rename_i b;cases l;refine⟨?_,fun s q f=>⟨o,by simp,by cases f;rfl⟩⟩;simp only[YN,pH,iT,d,erase,cx,io,b];rfl
   ·rename_i b;obtain⟨t,r⟩:=z (A+1) w l;refine⟨?_,fun s q f=>by obtain⟨o,u,v⟩:=r s q f;exact⟨o,by simp[u],v⟩⟩;simp only[YN,pH,iT,d,erase,cx,io,b];exact t
  ·cases l
theorem sf(r:Real Φ ρ σ st){es:List pP}(b:vP σ c=some es):
  ((erase ρ c=.map none/\es=[])∨(∃f o,erase ρ c=.map (some f)/\st.get f=some (.map (es.map (iT ρ)) o)))/\∀s∈es,eV Φ σ.length s.key/\eV Φ σ.length s.val:=by
 unfold vP at b;split at b
 ·cases b;exact⟨.inl ⟨rfl,rfl⟩,fun _ r=>by simp at r⟩
 ·rename_i f;split at b
  ·rename_i t l d;cases b;rw[cv]at d;obtain⟨⟨m,q⟩,_⟩:=r.obj f _ d rfl;exact⟨.inr ⟨_,_,Z,m⟩,q⟩
  ·cases b
 ·cases b
theorem uU{b:TI}(o:dn (sb b.zero) fun t=>RG b.agg t a)(Φ:Fz)(m:Nat)(ρ:Nat->Nat):∃l,a l/\eV Φ m l/\Fi b.agg b.zero=some (erase ρ l):=by
 obtain⟨t,d,q⟩:=cy o;obtain⟨l,s,r,f⟩:=vR q ρ (nb Φ m d).1;rw[hJ ρ d]at f;exact⟨l,s,r,f⟩
theorem vS{o b:V}(f:eV Φ m o)(l:eV Φ m b):eV Φ m (.dV [o,b]):=.dV fun q d=>by
 rcases List.mem_cons.1 d with rfl|d
 ·exact f
 ·rcases List.mem_cons.1 d with rfl|d
  ·exact l
  ·simp at d
theorem BU(T:Real Φ ρ σ st){t:TypeId}(b:DZ C t c p k σ a):
  ∃f,a f/\eV Φ σ.length f/\oA C t (erase ρ c) (erase ρ p) k st=some (.val (erase ρ f) st):=by
 unfold DZ at b;split at b
 ·exact b.elim
 ·rename_i R o;split at b
  ·rename_i N P r;split at b
   ·rename_i O v l m;split at b
    ·rename_i Q u y;obtain⟨A,I,b⟩:=b;obtain⟨G,B⟩:=sf T y;obtain⟨q,F⟩:=yn ρ _ _ _ _ _ I;have w:oA C t (erase ρ c) (erase ρ p) k st=match(generalizing:=false) (A.map fun c=>(c.1,erase ρ c.2):Option (Nat×Value))with
       |some (_,f)=>val (if k then .tuple #[f,.bool true]else f) st
       |none=>match(generalizing:=false) Fi v.agg v.zero with
        |none=>none
        |some L=>val (if k then .tuple #[L,.bool false]else L) st:=by
      unfold oA;rcases G with⟨z,rfl⟩|⟨M,S,z,D⟩
      ·simp only[List.map_nil]at q;simp only[o,r,l,m,u,z,q];cases A with
       |none=>rfl
       |some H=>rfl
      ·simp only[o,r,l,m,u,z,D,q];cases A with
       |none=>rfl
       |some H=>rfl
     rw[w];cases A with
     |some H=>
      obtain⟨U,f⟩:=H;obtain⟨z,J,K⟩:=F U f rfl;have d:eV Φ σ.length f:=K▸(B z J).2;cases k with
      |true=>exact⟨_,b,vS d (.d (.bool _)),rfl⟩
      |false=>exact⟨_,b,d,rfl⟩
     |none=>
      dsimp only at b;obtain⟨f,s,x,E⟩:=uU b Φ σ.length ρ;rw[YV];dsimp only;rw[E];cases k with
      |true=>exact⟨_,s,vS x (.d (.bool _)),rfl⟩
      |false=>exact⟨_,s,x,rfl⟩
    ·exact b.elim
   ·exact b.elim
  ·exact b.elim
theorem vT(A:eV Φ m c){t:TypeId}(b:sd C c t k a)(ρ:Nat->Nat)(st:St):
  ∃f,a f/\eV Φ m f/\ik C (erase ρ c) t k st=some (.val (erase ρ f) st):=by
 unfold sd at b;split at b
 ·exact b.elim
 ·rename_i o u;split at b
  ·exact b.elim
  ·rename_i w;have d:∀y,(match(generalizing:=false) erase ρ c with
    |.iface B f=>match(generalizing:=false) YW B t with
     |true=>val (if k then .tuple #[f,.bool true]else f) st
     |false=>match(generalizing:=false) k,Fi o.agg o.zero with
      |true,some x=>val (.tuple #[x,.bool false]) st
      |_,_=>none
    |.nilIface=>match(generalizing:=false) k,Fi o.agg o.zero with
     |true,some x=>val (.tuple #[x,.bool false]) st
     |_,_=>none
    |_=>none)=y->ik C (erase ρ c) t k st=y:=by
    intro y z;subst z;unfold ik;rw[u];dsimp only;split
    ·rename_i D;exact absurd D (w _)
    ·rfl
   split at b
   ·rename_i B f;cases A with
    |iface v=>
    split at b
    ·rename_i l;cases k with
     |true=>exact⟨_,b,vS v (.d (.bool _)),d _ (by simp only[erase,l];rfl)⟩
     |false=>exact⟨_,b,v,d _ (by simp only[erase,l];rfl)⟩
    ·rename_i l;split at b
     ·obtain⟨f,q,s,r⟩:=uU b Φ m ρ;exact⟨_,q,vS s (.d (.bool _)),d _ (by simp only[erase,l,r];rfl)⟩
     ·exact b.elim
   ·split at b
    ·obtain⟨f,q,s,r⟩:=uU b Φ m ρ;exact⟨_,q,vS s (.d (.bool _)),d _ (by simp only[erase,cx,r];rfl)⟩
    ·exact b.elim
   ·exact b.elim
theorem Ak(f:eV Φ m c)(b:Ab c j a)(ρ:Nat->Nat)(st:St):
  ∃l,a l/\eV Φ m l/\nE (erase ρ c) j st=some (.val (erase ρ l) st):=by
 unfold Ab at b;split at b
 ·rename_i q;obtain⟨l,d,o⟩:=cy b;rw[cv]at d;cases f with
  |dV f=>
   refine⟨l,o,f l (YR d),?_⟩;simp only[nE,erase,cv,dM,List.getElem?_map,d,YU];rfl
 ·exact b.elim
theorem IS(B:Real Φ ρ σ st){m:List TypeId}(b:Ua C m i σ a):
  ∃q,a q/\eV Φ σ.length q/\vw C m (cm ρ i) st=some (.val (erase ρ q) st):=by
 unfold Ua at b;split at b
 ·rename_i H _ E _;split at b
  ·exact b.elim
  ·rename_i z f;split at b
   ·rename_i G d;exact⟨_,b,.d (.int _ _),by simp only[vw,cm,f,d,erase,cx];rfl⟩
   ·rename_i F _ d;exact⟨_,b,.d (.int _ _),by simp only[vw,cm,f,d];rfl⟩
   ·rename_i l d;exact⟨_,b,.d (.int _ _),by simp only[vw,cm,f,d,erase,cx];rfl⟩
   ·rename_i l _ _ _ _ u d;exact⟨_,b,.d (.int _ _),by simp only[vw,cm,f,d,erase,cx];rfl⟩
   ·rename_i l _ _ _ v _ d;exact⟨_,b,.d (.int _ _),by simp only[vw,cm,f,d,erase,cx];rfl⟩
   ·rename_i w x d;obtain⟨y,s,o⟩:=cy b;obtain⟨t,_⟩:=sf B s;refine⟨_,o,.d (.int _ _),?_⟩;rcases t with⟨l,rfl⟩|⟨D,A,l,r⟩
    ·simp only[vw,cm,f,d,l];rfl
    ·simp only[vw,cm,f,d,l,r,YX];rfl
   ·exact b.elim
 ·exact b.elim
theorem CH(f:Bool)(q:IntKind):∀(r:List V) (l:Int) (s:V->Prop),Vy f q l r s->∃t,s t/\eV Φ m t/\kR f (.int q l) (cm ρ r)=some (erase ρ t):=by
 intro r;induction r with
 |nil=>intro l s o;exact⟨_,o,.d (.int _ _),rfl⟩
 |cons B r v=>
  intro l s o;cases B with
  |d A=>
   cases A with
   |int z u=>
    have o:Vy f q (match(generalizing:=false) f with|true=>max l u|false=>min l u) r s:=o;obtain⟨t,x,w,y⟩:=v _ s o;refine⟨t,x,w,?_⟩;rw[<-y];simp only[cm,erase,cx,kR,xx];congr 2;cases f with
    |true=>
     simp only[decide_eq_true_eq];by_cases b:l<u
     ·rw[if_pos b];omega
     ·rw[if_neg b];omega
    |false=>
     simp only[decide_eq_true_eq];by_cases b:u<l
     ·rw[if_pos b];omega
     ·rw[if_neg b];omega
   |_=>exact o.elim
  |_=>exact o.elim
theorem Al(r:mJ Φ ρ m ev lq){o:Option Operand}{q:Option V}(d:OO ev o=some q):(o=none/\q=none)∨∃f l,o=some f/\q=some l/\lq f=some (erase ρ l):=by
 cases o with
 |none=>cases d;exact .inl ⟨rfl,rfl⟩
 |some f=>
  simp only[OO]at d;cases b:ev f with
  |none=>rw[b]at d;cases d
  |some l=>rw[b]at d;cases d;exact .inr ⟨f,l,rfl,rfl,(r _ _ b).1⟩
theorem lL(F:Real Φ ρ σ st)(t:mJ Φ ρ σ.length ev lq){o:Oper}(u:Ad C ev o.op σ a):
  ∃v,a v/\eV Φ σ.length v/\h0 C lq o st=some (.val (erase ρ v) st):=by
 obtain⟨N,h,e,P,O,R⟩:=o;dsimp only at u;unfold Ad at u;split at u
 ·obtain⟨v,d,b⟩:=cy u;obtain⟨f,s⟩:=t _ _ d;exact⟨v,b,s,by simp only[h0,f];rfl⟩
 ·split at u
  ·rename_i n i v d b f;obtain⟨G,_⟩:=t _ _ d;obtain⟨H,M⟩:=t _ _ b;obtain⟨B,K⟩:=t _ _ f;cases n with
   |true=>exact⟨i,u,M,by simp only[h0,G,H,B,erase,cx];rfl⟩
   |false=>exact⟨v,u,K,by simp only[h0,G,H,B,erase,cx];rfl⟩
  ·exact u.elim
 ·obtain⟨p,d,b⟩:=cy u;obtain⟨f,s⟩:=Ah t d;obtain⟨v,q,r,l⟩:=D4 s b ρ st;exact⟨v,q,r,by simp only[h0,f];exact l⟩
 ·obtain⟨z,d,b⟩:=cy u;obtain⟨f,s⟩:=t _ _ d;obtain⟨v,q,r,l⟩:=yk F s b;exact⟨v,q,r,by simp only[h0,f];exact l⟩
 ·obtain⟨z,d,b⟩:=cy u;obtain⟨f,s⟩:=t _ _ d;obtain⟨v,q,r,l⟩:=yS s b ρ st;exact⟨v,q,r,by simp only[h0,f];exact l⟩
 ·obtain⟨z,d,b⟩:=cy u;obtain⟨E,w,b⟩:=cy b;obtain⟨f,s⟩:=t _ _ d;obtain⟨x,y⟩:=t _ _ w;obtain⟨v,q,r,l⟩:=IR (Φ:=Φ) (ρ:=ρ) (m:=σ.length) b;exact⟨v,q,r,by simp only[h0,f,x,l];rfl⟩
 ·obtain⟨z,d,b⟩:=cy u;obtain⟨f,s⟩:=t _ _ d;obtain⟨v,q,r,l⟩:=Mf (Φ:=Φ) (ρ:=ρ) (m:=σ.length) b;exact⟨v,q,r,by simp only[h0,f,l];rfl⟩
 ·obtain⟨z,d,b⟩:=cy u;obtain⟨f,s⟩:=t _ _ d;obtain⟨v,q,r,l⟩:=Aj F s b;exact⟨v,q,r,by simp only[h0,f];exact l⟩
 ·obtain⟨z,d,b⟩:=cy u;obtain⟨f,s⟩:=t _ _ d;obtain⟨v,q,r,l⟩:=se s b ρ st;exact⟨v,q,r,by simp only[h0,f];exact l⟩
 ·split at u
  ·obtain⟨z,d,b⟩:=cy u;obtain⟨E,w,b⟩:=cy b;obtain⟨f,s⟩:=lK t d;obtain⟨x,y⟩:=lK t w;exact⟨_,b,.fn s y,by simp only[h0,f,x,TX,erase];rfl⟩
  ·exact u.elim
 ·obtain⟨z,d,b⟩:=cy u;obtain⟨p,L,b⟩:=cy b;obtain⟨g,D,b⟩:=cy b;obtain⟨T,A,b⟩:=cy b;obtain⟨f,s⟩:=t _ _ d;obtain⟨v,q,r,l⟩:=D7 F s b;refine⟨v,q,r,?_⟩;rcases Al t L with⟨rfl,rfl⟩|⟨X,S,rfl,rfl,j⟩<;>rcases Al t D with⟨rfl,rfl⟩|⟨U,c,rfl,rfl,W⟩<;>rcases Al t A with⟨rfl,rfl⟩|⟨Y,Q,rfl,rfl,k⟩<;>
   simp only[h0,f, *,YU]<;>exact l
 ·obtain⟨z,d,b⟩:=cy u;obtain⟨f,s⟩:=t _ _ d;obtain⟨v,q,r,l⟩:=xy s b ρ st;exact⟨v,q,r,by simp only[h0,f];exact l⟩
 ·obtain⟨z,d,b⟩:=cy u;obtain⟨f,s⟩:=t _ _ d;obtain⟨v,q,r,l⟩:=D6 s b ρ st;exact⟨v,q,r,by simp only[h0,f];exact l⟩
 ·obtain⟨z,d,b⟩:=cy u;obtain⟨E,w,b⟩:=cy b;obtain⟨f,s⟩:=t _ _ d;obtain⟨x,y⟩:=t _ _ w;obtain⟨v,q,r,l⟩:=xz s b ρ st;exact⟨v,q,r,by simp only[h0,f,x];exact l⟩
 ·obtain⟨z,d,b⟩:=cy u;obtain⟨E,w,b⟩:=cy b;obtain⟨f,s⟩:=t _ _ d;obtain⟨x,y⟩:=t _ _ w;obtain⟨v,q,r,l⟩:=D8 s b ρ st;exact⟨v,q,r,by simp only[h0,f,x];exact l⟩
 ·obtain⟨z,d,b⟩:=cy u;obtain⟨E,w,b⟩:=cy b;obtain⟨f,s⟩:=t _ _ d;obtain⟨x,y⟩:=t _ _ w;obtain⟨v,q,r,l⟩:=BU F b;exact⟨v,q,r,by simp only[h0,f,x];exact l⟩
 ·obtain⟨z,d,b⟩:=cy u;obtain⟨f,s⟩:=t _ _ d;obtain⟨v,q,r,l⟩:=vT s b ρ st;exact⟨v,q,r,by simp only[h0,f];exact l⟩
 ·obtain⟨z,d,b⟩:=cy u;obtain⟨f,s⟩:=t _ _ d;obtain⟨v,q,r,l⟩:=Ak s b ρ st;exact⟨v,q,r,by simp only[h0,f];exact l⟩
 ·rename_i aa;obtain⟨I,d,b⟩:=cy u;obtain⟨f,s⟩:=lK t d;split at b
  ·rename_i E J;simp only[h0,f,J];unfold OM at b;split at b
   ·obtain⟨v,q,r,l⟩:=IS F b;exact⟨v,q,r,l⟩
   ·split at b
    ·obtain⟨v,q,r,l⟩:=CH (Φ:=Φ) (m:=σ.length) (ρ:=ρ) _ _ _ _ _ b;exact⟨v,q,r,by simp only[iE,cm,erase,cx,l];rfl⟩
    ·exact b.elim
   ·split at b
    ·obtain⟨v,q,r,l⟩:=CH (Φ:=Φ) (m:=σ.length) (ρ:=ρ) _ _ _ _ _ b;exact⟨v,q,r,by simp only[iE,cm,erase,cx,l];rfl⟩
    ·exact b.elim
   ·exact b.elim
  ·exact b.elim
 ·exact u.elim
end
end Go.VM
