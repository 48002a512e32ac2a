/- Part of the proof. -/
import Derived.Test.YtpejealjkmhkgaaGreatDoorBAm
set_option linter.all false
set_option maxHeartbeats 16000000
set_option maxRecDepth 100000
open Int renaming ofNat->agj,ofNat_eq_natCast->agk
open List renaming getElem?_eq_getElem->agl,length_cons->agn,length_nil->agp,drop_eq_getElem_cons->agq,take_of_length_le->agr,getElem_mem->ags,drop_of_length_le->agt,length_append->agu,take_add_one->agv,length_map->agw,mem_singleton->agy,mem_append->agz,length_take->agA,getElem?_map->agB,mem_cons->agC,take_append_drop->agE,map_append->agF,find?_append->agI,cons_append->agJ,drop_zero->agK,map->agN
open Nat renaming zero_le->agm,le_refl->ago,le_of_lt->agD,pow_le_pow_right->agG,zero_add->agL,beq->agM
open Bool renaming and_eq_true->agx
open And renaming intro->agH
namespace Go.Proofs.YtpejealjkmhkgaaGreatDoor
open Go.AM Go.VM
def bT{c d:UInt8}(h:decide (agj c.toNat=agj d.toNat)=true):c=d:=UInt8.toNat_inj.1 (AJ h)
def bF{c d:UInt8}(h:decide (agj c.toNat=agj d.toNat)=false):c≠d:=fun a=>ED h (by rw[a])
def nbT{c d:UInt8}(h:(!decide (agj c.toNat=agj d.toNat))=true):c≠d:=bF (by simpa using h)
def nbF{c d:UInt8}(h:(!decide (agj c.toNat=agj d.toNat))=false):c=d:=bT (by simpa using h)
def abK{a b:Nat}(h:a+b<9223372036854775806):IntKind.i64.wrap (IntKind.i64.wrap (agj a+agj b)+1)=agj (a+b+1):=by
 rw[c4 om,cp om]
def afh(t:cq):dZ false (47::47::t)=1+dZ true (47::t):=rfl
def skS(c:cq)(a:Nat)(b:Bool×Nat):Tm:=[(0,cn c),(1,b5 a),(5,b6 b.1),(6,b5 b.2)]
variable{A I:Bool} {r:cq}
def xR{b n:Nat}{i:V}{a:Tm}(k:n<4294967296)(f:gm a 5=some i)(d:i=b6 A)(h:gm a 0=some (cn r))(e:gm a 1=some (b5 b))(c:gm a 6=some (.d (.int .i64 (IntKind.i64.wrap (agj n+1))))):mP (skS r b (A,n+1)) a:=
 ⟨h,e,by rw[f,d],by rw[c,cp om];try rfl,tv⟩
variable{g:cO->VS->Prop} {j:VS}
theorem HY(s:cq)(a:Nat)(V:a<=s.length)(y:s.length<4294967296)(O:g (.ret (b5 (dZ false (s.drop a)))) j):b4 C ca p2 [cn s,b5 a] j g:=by
 refine cj ?_;refine cD (dB:=skS s a (false,0)) ?_;refine cd.iter (skS s a) (fun _=>j) (fun R=>s.length-R.2) (fun R=>a+R.2<=s.length/\dZ false (s.drop a)=R.2+dZ R.1 (s.drop (a+R.2))) ?_ (false,0) ⟨V,by simp⟩;rintro⟨S,b⟩ ⟨U,he⟩;have U:a+b<=s.length:=U;have he:dZ false (s.drop a)=b+dZ S (s.drop (a+b)):=he;apply aZ<;>intro P
 ·rw[c4 om]at P;have h:a+b<s.length:=ee P;have f:s.drop (a+b)=s[a+b]::s.drop (a+b+1):=agq h;have X:=c4 (a:=a) (b:=b) om;refine bZ X (cc s[a+b] (by rw[ck];exact agl h) ?_);generalize s[a+b]=c at f;cases S with
  |true=>
   refine⟨(decide (c≠10),b+1),⟨by show a+(b+1)<=s.length;omega,?_⟩,iK,.same (xR om Z ?_ Z Z Z) Z,Z,Z⟩
   ·show dZ false (s.drop a)=b+1+dZ (decide (c≠10)) (s.drop (a+b+1));rw[he,f,dZ];omega
   ·show b6 (!decide (agj c.toNat=10))=b6 (decide (c≠10));congr 1;by_cases Y:c=10
    ·subst Y;rfl
    ·rw[decide_eq_true Y,Bool.not_eq_true',decide_eq_false_iff_not];intro W;exact Y (bT (d:=10) (decide_eq_true W))
  |false=>
   have E:=abK (a:=a) (b:=b) om;apply aZ<;>intro e
   ·have d:=bT (d:=47) e;subst d;repeat refine cg e ?_
    apply aZ<;>intro n
    ·have o:=n;rw[E]at o;have M:a+b+1<s.length:=ee o;have w:s.drop (a+b+1)=s[a+b+1]::s.drop (a+b+1+1):=agq M;repeat first|refine cg n ?_|refine cg e ?_
     refine bZ E (cc s[a+b+1] (by rw[ck];exact agl M) ?_);generalize s[a+b+1]=u at w;repeat first|refine cg n ?_|refine cg e ?_
     apply aZ<;>intro l
     ·have d:=bT (d:=47) l;subst d;repeat first|refine cg l ?_
      refine⟨(true,b+1),⟨by show a+(b+1)<=s.length;omega,?_⟩,iK,.same (xR om Z Z Z Z Z) Z,Z,Z⟩;show dZ false (s.drop a)=b+1+dZ true (s.drop (a+b+1));rw[he,f,w,afh];omega
     ·have d:=bF (d:=47) l;repeat first|refine a7 l ?_
      refine n9 ?_ O;rw[he,f,w,dZ,if_neg (by rintro⟨_,h⟩;simp at h;exact d h),if_neg dc];try rfl
    ·have o:=n;rw[E]at o;have M:s.length<=a+b+1:=dq o;repeat first|refine a7 n ?_|refine cg e ?_
     refine n9 ?_ O;rw[he,f,agt M,dZ,if_neg (by rintro⟨_,h⟩;simp at h),if_neg dc];try rfl
   ·have d:=bF (d:=47) e;repeat refine a7 e ?_
    have T:¬(c=47/\(s.drop (a+b+1)).head? =some 47):=fun h=>d h.1;apply aZ<;>intro k
    ·have K:=nbT (d:=32) k;repeat refine cg k ?_
     apply aZ<;>intro q
     ·have Q:=nbT (d:=9) q;repeat first|refine cg k ?_|refine cg q ?_
      apply aZ<;>intro i
      ·have D:=nbT (d:=10) i;repeat first|refine cg q ?_|refine cg i ?_
       apply aZ<;>intro p
       ·have x:=nbT (d:=13) p;repeat first|refine cg p ?_|refine cg i ?_
        refine n9 ?_ O;rw[he,f,dZ,if_neg T,if_neg (by rintro(h|h|h|h);exact K h;exact Q h;exact D h;exact x h)];try rfl
       ·have x:=nbF (d:=13) p;repeat first|refine a7 p ?_|refine cg i ?_
        exact⟨(false,b+1),⟨by show a+(b+1)<=s.length;omega,by show _=b+1+dZ false (s.drop (a+b+1));rw[he,f,A7 (.inr (.inr (.inr x)))];omega⟩,iK,.same (xR om Z Z Z Z Z) Z,Z,Z⟩
      ·have D:=nbF (d:=10) i;repeat first|refine a7 i ?_|refine cg q ?_
       exact⟨(false,b+1),⟨by show a+(b+1)<=s.length;omega,by show _=b+1+dZ false (s.drop (a+b+1));rw[he,f,A7 (.inr (.inr (.inl D)))];omega⟩,iK,.same (xR om Z Z Z Z Z) Z,Z,Z⟩
     ·have Q:=nbF (d:=9) q;repeat first|refine a7 q ?_|refine cg k ?_
      exact⟨(false,b+1),⟨by show a+(b+1)<=s.length;omega,by show _=b+1+dZ false (s.drop (a+b+1));rw[he,f,A7 (.inr (.inl Q))];omega⟩,iK,.same (xR om Z Z Z Z Z) Z,Z,Z⟩
    ·have K:=nbF (d:=32) k;repeat refine a7 k ?_
     exact⟨(false,b+1),⟨by show a+(b+1)<=s.length;omega,by show _=b+1+dZ false (s.drop (a+b+1));rw[he,f,A7 (.inl K)];omega⟩,iK,.same (xR om Z Z Z Z Z) Z,Z,Z⟩
 ·rw[c4 om]at P;have h:s.length<=a+b:=dq P;refine n9 ?_ O;rw[he,agt h];simp[dZ]
def abL:cq->UInt8×Nat
 |h::b::_=>match wC h,wC b with
  |some a,some c=>(UInt8.ofNat (16*a+c),4)
  |_,_=>(0,0)
 |_=>(0,0)
def aer:cq->UInt8×Nat
 |[]=>(0,0)
 |e::a=>if e=34∨e=92 then(e,2)else if e=110 then(10,2)else if e=120 then abL a else(0,0)
def H3:cq->UInt8×Nat
 |[]=>(0,0)
 |c::a=>if c<32∨c=34 then(0,0)else if c≠92 then(c,1)else aer a
def af6(a:UInt8×Nat):V:=.dS [io a.1,b5 a.2]
theorem aes:∀l:cq,fv l=match l with
  |[]=>none
  |c::_=>if c=34 then some ([],1)else match H3 l with
   |(_,0)=>none
   |(t,s+1)=>(fv (l.drop (s+1))).map fun q=>(t::q.1,q.2+(s+1)):=by
 intro l;cases l with
 |nil=>rw[fv.eq_def]
 |cons c x=>
  by_cases a:c=34
  ·subst a;rw[De];try rfl
  ·dsimp only;rw[if_neg a];by_cases d:c<32
   ·rw[JI a d,H3,if_pos (.inl d)]
   ·have k:¬(c<32∨c=34):=by rintro(h|h);exact d h;exact a h
    by_cases b:c≠92
    ·rw[Df a d b,H3,if_neg k,if_pos b];try rfl
    ·have b:c=92:=by simpa using b
     subst b;rw[p6,H3,if_neg k,if_neg sm];cases x with
     |nil=>rfl
     |cons n o=>
      rw[aer];dsimp only;by_cases f:n=34∨n=92
      ·rw[if_pos f,if_pos f];try rfl
      ·rw[if_neg f,if_neg f];by_cases e:n=110
       ·rw[if_pos e,if_pos e];try rfl
       ·rw[if_neg e,if_neg e];by_cases i:n=120
        ·rw[if_pos i,if_pos i];cases o with
         |nil=>rfl
         |cons h p=>
          cases p with
          |nil=>rfl
          |cons l w=>
           rw[abL];dsimp only;cases wC h with
           |none=>rfl
           |some C=>
            cases wC l with
            |none=>rfl
            |some t=>rfl
        ·rw[if_neg i,if_neg i]
def Rn{c:UInt8}(h:decide (0<=H2 c)=true):∃a,wC c=some a/\H2 c=agj a:=by
 unfold H2 at h⊢;cases b:wC c with
 |some a=>exact⟨a,rfl,rfl⟩
 |none=>rw[b]at h;exact absurd h dc
def Ro{c:UInt8}(h:decide (0<=H2 c)=false):wC c=none:=by
 unfold H2 at h;cases a:wC c with
 |some b=>rw[a]at h;exact absurd (by simp:decide ((0:Int)<=agj b)=true) (by rw[h];decide)
 |none=>rfl
def afW{c:UInt8}{b:Bool}(h:decide (agj c.toNat<32)=b):decide (c<32)=b:=by
 rw[<-h];exact decide_eq_decide.2 ⟨fun h=>by have:c.toNat<32:=h;simp only[agk];omega,fun h=>by show c.toNat<32;simp only[agk]at h;omega⟩
def aet{a b:Nat}(d:a<16)(c:b<16):IntKind.u8.wrap (IntKind.i64.wrap (IntKind.i64.wrap (16*agj a)+agj b))=agj (UInt8.ofNat (16*a+b)).toNat:=by
 simp only[agk];rw[wrap64 (n:=16*(a:Int)) om om,wrap64 om om,Ob om om];rw[UInt8.toNat_ofNat',Nat.mod_eq_of_lt om];omega
def H6{b w:V}(a:g (.ret w) j)(c:b=w):g (.ret b) j:=c▸a
theorem E7(s:cq)(X:s.length<4294967296)(a:g (.ret (af6 (H3 s))) j):b4 C ca sC [cn s] j g:=by
 refine cj ?_;cases s with
 |nil=>exact a
 |cons c W=>
  have M:decide ((c::W)=([]:cq))=false:=by simp
  repeat refine a7 M ?_
  refine bZ Z (cc c Z ?_);repeat refine a7 M ?_
  apply aZ<;>intro l
  ·have x:c<32:=of_decide_eq_true (afW l);repeat refine cg l ?_
   refine H6 a ?_;rw[H3,if_pos (.inl x)];try rfl
  ·have x:¬c<32:=of_decide_eq_false (afW l);repeat refine a7 l ?_
   refine bZ Z (cc c Z ?_);repeat refine a7 l ?_
   apply aZ<;>intro b
   ·have f:=bT (d:=34) b;repeat refine cg b ?_
    refine H6 a ?_;rw[H3,if_pos (.inr f)];try rfl
   ·have f:=bF (d:=34) b;have K:¬(c<32∨c=34):=by rintro(h|h);exact x h;exact f h
    repeat refine a7 b ?_
    refine bZ Z (cc c Z ?_);apply aZ<;>intro e
    ·have k:=nbT (d:=92) e;refine bZ Z (cc c Z ?_);refine H6 a ?_;rw[H3,if_neg K,if_pos k];try rfl
    ·have k:=nbF (d:=92) e;rw[H3,if_neg K,if_neg (by simpa using k)]at a;cases W with
     |nil=>exact a
     |cons O U=>
      refine bZ Z (cc O Z ?_);rw[aer]at a;apply aZ<;>intro b
      ·have f:=bT (d:=34) b;repeat refine cg b ?_
       refine bZ Z (cc O Z ?_);rw[if_pos (.inl f)]at a;exact a
      ·have f:=bF (d:=34) b;repeat refine a7 b ?_
       refine bZ Z (cc O Z ?_);repeat refine a7 b ?_
       apply aZ<;>intro e
       ·have k:=bT (d:=92) e;repeat refine cg e ?_
        refine bZ Z (cc O Z ?_);rw[if_pos (.inr k)]at a;exact a
       ·have k:=bF (d:=92) e;repeat refine a7 e ?_
        refine bZ Z (cc O Z ?_);rw[if_neg (by rintro(h|h);exact f h;exact k h)]at a;apply aZ<;>intro w
        ·have o:=bT (d:=110) w;rw[if_pos o]at a;exact a
        ·have o:=bF (d:=110) w;rw[if_neg o]at a;refine bZ Z (cc O Z ?_);apply aZ<;>intro i
         ·have p:=bT (d:=120) i;rw[if_pos p]at a;repeat refine cg i ?_
          cases U with
          |nil=>exact a
          |cons h S=>
           cases S with
           |nil=>exact a
           |cons P T=>
            have d:decide (4<=agj (c::O::h::P::T).length)=true:=decide_eq_true (by simp only[agn,agk];omega);rw[abL]at a;repeat first|refine cg d ?_|refine cg i ?_
            refine bZ Z (cc h Z ?_);repeat refine cg d ?_
            refine uQ h ?_;repeat refine cg d ?_
            apply aZ<;>intro n
            ·obtain⟨Y,D,R⟩:=Rn n;repeat first|refine cg d ?_|refine cg n ?_
             refine bZ Z (cc P Z ?_);repeat first|refine cg d ?_|refine cg n ?_
             refine uQ P ?_;repeat first|refine cg d ?_|refine cg n ?_
             apply aZ<;>intro q
             ·obtain⟨m,E,Q⟩:=Rn q;repeat first|refine cg d ?_|refine cg n ?_|refine cg q ?_
              rw[D,E]at a;repeat first
               |refine bZ rfl (cc h rfl ?_)
               |refine bZ rfl (cc P rfl ?_)
               |refine uQ h ?_
               |refine uQ P ?_
               |refine cf ?_
              refine H6 a ?_;show V.dS [V.d (.int .u8 (IntKind.u8.wrap (IntKind.i64.wrap (IntKind.i64.wrap (16*H2 h)+H2 P)))),b5 4]=_;rw[R,Q,aet (Od D) (Od E)];try rfl
             ·have E:=Ro q;repeat first|refine a7 q ?_|refine cg d ?_|refine cg n ?_
              rw[D,E]at a;exact a
            ·have D:=Ro n;repeat first|refine a7 n ?_|refine cg d ?_
             rw[D]at a;exact a
         ·have p:=bF (d:=120) i;rw[if_neg p]at a;repeat refine a7 i ?_
          exact a
def afX:List V:=[.d (.int .i64 0),.d (.str []),.d (.int .i64 0)]
def txS(a:cq):VS:=[.box afX,bytesRow a]
def txT(b:cq)(a:Nat×cq):Tm:=[(0,cn b),(2,.bp 0 0),(5,.ms 1 1 0 a.2.length a.2.length),(6,b5 a.1)]
def afD(a:Option (cq×Nat)):V:=match a with
 |some (c,b)=>.dS [Wj 4 c 0,b5 (b+1),b5 0]
 |none=>.dS [Wj 0 [] 0,b5 0,b5 3]
def af7:Nat->Bool:=fun a=>agM a 32
def afJ{c a n:Nat}(h:c<=a)(d:a<4294967296)(b:n=1:=by rfl):(c+n)*1<=fy/\c+n<=fy:=by
 unfold fy;omega
def afK(a:cq)(b:UInt8):some (V.ms 2 1 0 (a.length+1) (a.length+1))=some (V.ms 2 1 0 (a++[b]).length (a++[b]).length):=by simp
theorem afi{d:Nat->Nat}(a:cq)(b:UInt8):some (cN.row 1 (((a.map fun c=>[io c]).drop 0).take a.length++[[io b]]))=some (hV d (bytesRow (a++[b]))):=by
 rw[Mj,bytesRow,agF,agK,agr sm];try rfl
def afj:∀a:cq,(H3 a).2<=a.length:=by
 intro a;cases a with
 |nil=>exact ago _
 |cons c f=>
  rw[H3];split
  ·simp
  ·split
   ·simp
   ·cases f with
    |nil=>simp[aer]
    |cons i b=>
     rw[aer];split
     ·simp
     ·split
      ·simp
      ·split
       ·cases b with
        |nil=>simp[abL]
        |cons h d=>
         cases d with
         |nil=>simp[abL]
         |cons a e=>
          rw[abL];cases wC h<;>cases wC a<;>simp
       ·simp
theorem Rf(s:cq)(K:0<s.length)(R:s.length<4294967296):b4 C ca p3 [cn s] [] fun O E=>E=[]/\O=.ret (afD (fv (s.drop 1))):=by
 refine cv af7 (fun _=>Z) ?_;refine cD (dB:=txT s (1,[])) ?_;refine cd.iter (txT s) (fun e=>txS e.2) (fun e=>s.length-e.1)
  (fun e=>1<=e.1/\e.1<=s.length/\e.2.length<=e.1/\fv (s.drop 1)=(fv (s.drop e.1)).map fun p=>(e.2++p.1,p.2+(e.1-1))) ?_ (1,[]) ⟨ago _,K,agm _,by simp⟩
 rintro⟨b,a⟩ ⟨w,x,q,n⟩;have w:1<=b:=w;have x:b<=s.length:=x;have q:a.length<=b:=q;have n:fv (s.drop 1)=(fv (s.drop b)).map fun p=>(a++p.1,p.2+(b-1)):=n;apply aZ<;>intro f
 ·have h:b<s.length:=ee f;have t:s.drop b=s[b]::s.drop (b+1):=agq h;repeat refine cg f ?_
  refine bZ Z (cc s[b] (by rw[ck];exact agl h) ?_);generalize s[b]=c at t;repeat refine cg f ?_
  apply aZ<;>intro k
  ·have o:=nbT (d:=34) k;repeat first|refine cg k ?_|refine cg f ?_
   refine bZ Z (a6 ⟨x,ago _⟩ ?_);refine E7 _ (by rw[List.length_drop,agA];omega) ?_;rw[List.take_length];have d:=aes (s.drop b);rw[t]at d;simp only[if_neg o]at d;rw[<-t]at d;have l:=afj (s.drop b);rw[List.length_drop]at l;generalize H3 (s.drop b)=e at d l;obtain⟨D,i⟩:=e;cases i with
   |zero=>
    have d:fv (s.drop b)=none:=d;refine a8 0 ⟨Z,?_⟩;rw[n,d];try rfl
   |succ i=>
    have d:fv (s.drop b)=(fv (s.drop (b+(i+1)))).map fun e=>(D::e.1,e.2+(i+1)):=by dsimp only at d;rw[List.drop_drop]at d;exact d
    have l:i+1<=s.length-b:=l;intro P;refine a6 Z (a6 ⟨Z,Z,by simp,ago _,afJ q om⟩ ?_);refine a7 Z (a7 (fG a.length) ?_);refine⟨(b+(i+1),a++[D]),⟨by show 1<=b+(i+1);omega,by show b+(i+1)<=s.length;omega,by show(a++[D]).length<=b+(i+1);simp;omega,?_⟩,by show s.length-(b+(i+1))<s.length-b;omega,?_,Z,Z⟩
    ·show fv (s.drop 1)=(fv (s.drop (b+(i+1)))).map fun p=>((a++[D])++p.1,p.2+(b+(i+1)-1));rw[n,d,Option.map_map];congr 1;funext p;simp only[Function.comp,List.append_assoc,agJ,List.nil_append];rw[show p.2+(i+1)+(b-1)=p.2+(b+(i+1)-1)from by omega]
    ·exact .pick 1 [0,2] ⟨Z,Z,afK a D,int_eq (c4 om),tv⟩ Z Z Z Z Z dc ⟨Z,Z,afi a D,Th _ _,tv⟩
  ·have o:=nbF (d:=34) k;subst o;repeat first|refine a7 k ?_|refine cg f ?_
   refine a7 (decide_eq_false (by simp only[agk];omega)) ?_;refine aaN a Z Z (eT _ _ sm) sm ?_;refine a8 0 ⟨Z,?_⟩;rw[n,t,De];show cO.ret (.dS [Wj 4 a 0,.d (.int .i64 (IntKind.i64.wrap (agj b+1))),b5 0])=cO.ret (.dS [Wj 4 (a++[]) 0,b5 (1+(b-1)+1),b5 0]);rw[cp om,List.append_nil,show 1+(b-1)+1=b+1 from by omega];try rfl
 ·have h:s.length<=b:=dq f;repeat refine a7 f ?_
  refine cg (decide_eq_true (by simp only[agk];omega)) ?_;refine a8 0 ⟨Z,?_⟩;rw[n,agt h];rw[show fv []=none from by rw[fv.eq_def]];rfl
def Rp(s:cq)(b:0<s.length)(c:s.length<4294967296)(a:g (.ret (afD (fv (s.drop 1)))) j):b4 C ca p3 [cn s] j g:=by
 refine cC (Rf s b c) Z ?_ a;cases fv (s.drop 1)with
 |none=>rfl
 |some d=>rfl
def kR:List cq:=[[61,61,61],[58,58],[62,58],[60,58],[61,62],[61,61],[43,43],[40],[41],[91],[93],[123],[125],[60],[62],[44],[58],[61],[46],[43],[45],[42],[124],[63],[47]]
def afY:Nat->Bool:=fun a=>agM a 1
def Ia(a:∀b,g (.ret (.d (.ps b 0 1 25 (DE kR)))) j):b4 C ca tN [] j g:=by
 refine b4.body afY (fun _=>Z) ?_;intro b;exact a b
def afk(l:cq)(c:UInt8):∀a,decide (0<=indexByte l c.toNat a)=decide (c∈l):=by
 induction l with
 |nil=>intro a;rfl
 |cons e l d=>
  intro a;simp only[indexByte];by_cases b:e=c
  ·subst b;simp[Nat.beq_refl]
  ·have:agM e.toNat c.toNat=false:=by
    rw[Bool.eq_false_iff];intro h;exact b (UInt8.toNat_inj.1 (Nat.eq_of_beq_eq_true h))
   simp only[this];rw[d];simp[Ne.symm b]
def RJ(c:UInt8)(h:cq):∀b:cq,(b.map fun a=>[a]).find? (eB (c::h))=if c∈b then some [c]else none:=by
 intro b;induction b with
 |nil=>rfl
 |cons a b d=>
  simp only[List.map_cons,List.find?_cons];have f:eB (c::h) [a]=decide (a=c):=by
   simp only[eB,List.isPrefixOf,Bool.and_true];rw[Bool.eq_iff_iff];simp
  rw[f];by_cases e:a=c
  ·subst e;simp
  ·simp only[decide_eq_false e,d,agC,Ne.symm e,false_or]
theorem Xy(c:UInt8)(a:cq):jE (c::a)=(kR.find? (eB (c::a))).getD []:=by
 have d:kR=uX++Oc.map fun b=>[b]:=rfl;rw[d,agI,RJ];unfold jE;cases uX.find? (eB (c::a))with
 |some b=>rfl
 |none=>
  dsimp only;have:=afk Oc c 0;by_cases h:c∈Oc
  ·rw[decide_eq_true h]at this;rw[if_pos (of_decide_eq_true this),if_pos h];try rfl
  ·rw[decide_eq_false h]at this;rw[if_neg (of_decide_eq_false this),if_neg h];try rfl
def Ib(a:Ml):V:=match a with
 |.ok d c b=>.dS [Wj d c 0,b5 b,b5 0]
 |.err e=>.dS [Wj 0 [] 0,b5 0,b5 e]
theorem Ri{c:UInt8}(h:isDigit c=true):(k9 c||iT c)=false:=by
 have:=JG h;have a:k9 c=false:=by
  unfold k9;rw[decide_eq_false (by simp only[agk];omega)];rfl
 have b:iT c=false:=by
  unfold iT;rw[decide_eq_false (by simp only[agk];omega)];rfl
 rw[a,b];try rfl
theorem QO(p:UInt8->Bool)(l:cq):(l.take (et p l)).all p=true:=by
 unfold et;have h:l=l.takeWhile p++l.dropWhile p:=List.takeWhile_append_dropWhile.symm;have a:l.take (l.takeWhile p).length=l.takeWhile p:=by
  conv=>lhs;rw[h]
  conv=>lhs;arg 1;rw[<-h]
  rw[List.take_left'];try rfl
 rw[a];exact List.all_takeWhile
def dF{c d:UInt8}(h:c≠d):decide (agj c.toNat=agj d.toNat)=false:=decide_eq_false fun a=>h (UInt8.toNat_inj.1 (by simp only[agk]at a;omega))
theorem Xz(s:cq)(c:UInt8)(l:cq)(b:s=c::l)(h:s.length<4294967296)(a:decide (agj c.toNat=agj (34:UInt8).toNat)=true):b4 C ca iX [cn s] [] fun o e=>e=[]/\o=.ret (Ib (oa s)):=by
 have f:nth s 0=some c:=by rw[b];try rfl
 refine cm ?_;refine bZ Z (cc c f ?_);refine cg a ?_;have d:=bT (d:=34) a;subst d;refine Rp s (by rw[b];simp) h ?_;have ht:oa s=match fv (s.drop 1)with
  |some (n,k)=>.ok 4 n (k+1)
  |none=>.err 3:=by rw[b];try rfl
 generalize fv (s.drop 1)=i at ht;cases i with
 |none=>
  exact NE
 |some i=>
  exact NE
theorem RL(s:cq)(c:UInt8)(U:cq)(O:s=c::U)(S:s.length<4294967296)(Q:c≠34)(p:isDigit c=true):b4 C ca iX [cn s] [] fun V P=>P=[]/\V=.ret (Ib (oa s)):=by
 have K:nth s 0=some c:=by rw[O];try rfl
 refine cm ?_;refine bZ Z (cc c K ?_);refine a7 (dF (d:=34) Q) ?_;refine bZ Z (cc c K ?_);refine s0 c ?_;refine cg p ?_;refine KU s S ?_;have n:=y0 isDigit s;have d:oa s=mZ s (s.take (et isDigit s)) (et isDigit s) c:=by
  rw[O,oa,if_neg (by rw[Ri p];decide),if_pos p]
 have M:0<et isDigit s:=by rw[O,p5,if_pos p];omega
 generalize et isDigit s=b at n d M;have e:(s.take b).length=b:=by rw[agA];omega
 apply aZ<;>intro k
 ·have D:=ee (a:=19) k;repeat refine cg k ?_
  have a:19<b∨(1<b/\c=48)∨(s.drop b).head?.any isWord=true:=.inl D;have K5:oa s=.err 3:=by rw[d,mZ,e,if_pos a]
  exact n8
 ·have D:=dq (a:=19) k;repeat refine a7 k ?_
  apply aZ<;>intro t
  ·have E:=ee (a:=1) t;repeat first|refine a7 k ?_|refine cg t ?_
   refine bZ Z (cc c K ?_);repeat first|refine a7 k ?_|refine cg t ?_
   apply aZ<;>intro f
   ·have q:=bT (d:=48) f;repeat first|refine a7 k ?_|refine cg t ?_|refine cg f ?_
    have a:19<b∨(1<b/\c=48)∨(s.drop b).head?.any isWord=true:=.inr (.inl ⟨E,q⟩);have K5:oa s=.err 3:=by rw[d,mZ,e,if_pos a]
    exact n8
   ·have q:=bF (d:=48) f;repeat first|refine a7 k ?_|refine cg t ?_|refine a7 f ?_
    apply aZ<;>intro l
    ·have i:b<s.length:=ee l;have o:s.drop b=s[b]::s.drop (b+1):=agq i;repeat first|refine a7 f ?_|refine cg l ?_
     refine bZ Z (cc s[b] (by rw[ck];exact agl i) ?_);generalize s[b]=x at o;repeat first|refine a7 f ?_|refine cg l ?_
     refine Kr x ?_;cases w:isWord x;rotate_left
     ·repeat first|refine a7 f ?_|refine cg l ?_
      have a:19<b∨(1<b/\c=48)∨(s.drop b).head?.any isWord=true:=by rw[o];exact .inr (.inr w)
      have K5:oa s=.err 3:=by rw[d,mZ,e,if_pos a]
      exact n8
     ·repeat first|refine a7 f ?_|refine cg l ?_
      refine bZ Z (a6 ⟨agm _,n⟩ ?_);have a:¬(19<b∨(1<b/\c=48)∨(s.drop b).head?.any isWord=true):=by rw[o];rintro(h|h|h);exact absurd h om;exact q h.2;exact absurd h (by simp[w])
      have K5:oa s=.ok 3 (s.take b) b:=by rw[d,mZ,e,if_neg a]
      exact n8
    ·have i:s.length<=b:=dq l;repeat first|refine a7 f ?_|refine a7 l ?_
     refine bZ Z (a6 ⟨agm _,n⟩ ?_);have a:¬(19<b∨(1<b/\c=48)∨(s.drop b).head?.any isWord=true):=by rw[agt i];rintro(h|h|h);exact absurd h om;exact q h.2;exact absurd h sm
     have K5:oa s=.ok 3 (s.take b) b:=by rw[d,mZ,e,if_neg a]
     exact n8
  ·have E:=dq (a:=1) t;repeat refine de ?_
   apply aZ<;>intro l
   ·have i:b<s.length:=ee l;have o:s.drop b=s[b]::s.drop (b+1):=agq i;repeat refine de ?_
    refine bZ Z (cc s[b] (by rw[ck];exact agl i) ?_);generalize s[b]=x at o;repeat refine de ?_
    refine Kr x ?_;cases w:isWord x;rotate_left
    ·repeat refine de ?_
     have a:19<b∨(1<b/\c=48)∨(s.drop b).head?.any isWord=true:=by rw[o];exact .inr (.inr w)
     have K5:oa s=.err 3:=by rw[d,mZ,e,if_pos a]
     exact n8
    ·repeat refine de ?_
     refine bZ Z (a6 ⟨agm _,n⟩ ?_);have a:¬(19<b∨(1<b/\c=48)∨(s.drop b).head?.any isWord=true):=by rw[o];rintro(h|h|h);exact absurd h om;exact absurd h.1 om;exact absurd h (by simp[w])
     have K5:oa s=.ok 3 (s.take b) b:=by rw[d,mZ,e,if_neg a]
     exact n8
   ·have i:s.length<=b:=dq l;repeat refine de ?_
    refine bZ Z (a6 ⟨agm _,n⟩ ?_);have a:¬(19<b∨(1<b/\c=48)∨(s.drop b).head?.any isWord=true):=by rw[agt i];rintro(h|h|h);exact absurd h om;exact absurd h.1 om;exact absurd h sm
    have K5:oa s=.ok 3 (s.take b) b:=by rw[d,mZ,e,if_neg a]
    exact n8
theorem RQ(s:cq)(c:UInt8)(l:cq)(f:s=c::l)(k:s.length<4294967296)(e:c≠34)(i:isDigit c=false)(a:k9 c=true):b4 C ca iX [cn s] [] fun o h=>h=[]/\o=.ret (Ib (oa s)):=by
 have d:nth s 0=some c:=by rw[f];try rfl
 refine cm ?_;refine bZ Z (cc c d ?_);refine a7 (dF (d:=34) e) ?_;refine bZ Z (cc c d ?_);refine s0 c ?_;refine a7 i ?_;refine bZ Z (cc c d ?_);refine sZ c ?_;repeat refine cg a ?_
 refine D4 s k ?_;have hnl:=y0 isWord s;have Vn:=QO isWord s;have x5:oa s=nM (s.take (et isWord s)) (et isWord s):=by
  rw[f,oa,if_pos (by rw[show k9 c=true from a];try rfl)]
 exact Nn
theorem KV(s:cq)(c:UInt8)(o:cq)(h:s=c::o)(l:s.length<4294967296)(f:c≠34)(k:isDigit c=false)(a:k9 c=false)(e:iT c=true):b4 C ca iX [cn s] [] fun p i=>i=[]/\p=.ret (Ib (oa s)):=by
 have d:nth s 0=some c:=by rw[h];try rfl
 refine cm ?_;refine bZ Z (cc c d ?_);refine a7 (dF (d:=34) f) ?_;refine bZ Z (cc c d ?_);refine s0 c ?_;refine a7 k ?_;refine bZ Z (cc c d ?_);refine sZ c ?_;repeat refine a7 a ?_
 refine bZ Z (cc c d ?_);repeat refine a7 a ?_
 refine vl c ?_;repeat refine a7 a ?_
 repeat first|refine cg e ?_|refine a7 a ?_
 refine D4 s l ?_;have hnl:=y0 isWord s;have Vn:=QO isWord s;have x5:oa s=nM (s.take (et isWord s)) (et isWord s):=by
  rw[h,oa,if_pos (by rw[show iT c=true from e,Bool.or_true])]
 exact Nn
theorem abU(s:cq)(c:UInt8)(Q:cq)(w:s=c::Q)(V:s.length<4294967296)(t:c≠34)(q:isDigit c=false)(d:k9 c=false)(o:iT c=false):b4 C ca iX [cn s] [] fun U M=>M=[]/\U=.ret (Ib (oa s)):=by
 have l:nth s 0=some c:=by rw[w];try rfl
 refine cm ?_;refine bZ Z (cc c l ?_);refine a7 (dF (d:=34) t) ?_;refine bZ Z (cc c l ?_);refine s0 c ?_;refine a7 q ?_;refine bZ Z (cc c l ?_);refine sZ c ?_;repeat refine a7 d ?_
 refine bZ Z (cc c l ?_);repeat refine a7 d ?_
 refine vl c ?_;repeat refine a7 d ?_
 repeat first|refine a7 o ?_|refine a7 d ?_
 refine Ia (fun T=>?_);have a:oa s=if jE (c::Q)=[]then .err 3 else .ok 6 (jE (c::Q)) (jE (c::Q)).length:=by
  rw[w,oa,if_neg (by rw[show k9 c=false from d,show iT c=false from o];decide),if_neg (by rw[q];decide),if_neg (t)]
 rw[Xy,<-w]at a;refine cD (dB:=[(0,cn s),(2,.bp 0 0),(3,b5 0),(4,b5 0),(7,.d (.ps T 0 1 25 (DE kR))),(8,b5 0)]) ?_;have R:kR.length=25:=rfl;refine cd.iter (fun i:Nat=>[(0,cn s),(2,.bp 0 0),(3,b5 0),(4,b5 0),(7,.d (.ps T 0 1 25 (DE kR))),(8,b5 i)]) (fun _=>[.box afX]) (fun i=>25-i) (fun i=>i<=25/\(kR.take i).find? (eB s)=none) ?_ 0 ⟨om,Z⟩;rintro i ⟨W,n⟩;apply aZ<;>intro P
 ·have h:i<kR.length:=ee P;have p:kR[i]?=some kR[i]:=agl h;have D:kR[i]≠[]:=by have:=ags h;exact(show ∀x∈kR,x≠[]by decide) _ this
  have O:kR=kR.take i++kR[i]::kR.drop (i+1):=by rw[<-agq h,agE]
  have hnx:(kR.take (i+1)).find? (eB s)=none∨eB s kR[i]=true:=by
   cases hb:eB s kR[i]with
   |true=>exact .inr rfl
   |false=>left;rw[agv,p,agI,n];simp[hb]
  have k:eB s kR[i]=true->oa s=.ok 6 kR[i] kR[i].length:=fun hb=>by
   have:kR.find? (eB s)=some kR[i]:=(congrArg (List.find? (eB s)) O).trans (by rw[agI,n,List.find?_cons,hb];try rfl);rw[a,this];exact if_neg D
  have f:nth (DE kR) i=some [.str kR[i]]:=by rw[ck,DE,agB,p];try rfl
  generalize kR[i]=x at hnx k f;refine bZ Z (cc _ f ?_);apply aZ<;>intro e
  ·have b:x.length<=s.length:=JA e;repeat first
    |refine cg e ?_
    |refine bZ rfl (cc _ f ?_)
    |refine bZ rfl (a6 ⟨agm _,b⟩ ?_)
    |refine cf ?_
   apply aZ<;>intro K
   ·have hb:eB s x=true:=by rw[<-Mh b];exact K
    have E:=k hb;repeat first
     |refine cg e ?_
     |refine bZ rfl (cc _ f ?_)
     |refine bZ rfl (a6 ⟨agm _,b⟩ ?_)
     |refine cf ?_
    refine a8 0 ⟨Z,by rw[E];try rfl⟩
   ·have hb:eB s x=false:=by rw[<-Mh b];exact K
    exact Nz
  ·have hb:eB s x=false:=P6 (Iv e);repeat first
    |refine a7 e ?_
    |refine bZ rfl (cc _ f ?_)
    |refine cf ?_
   exact Nz
 ·have h:25<=i:=dq P;rw[agr h]at n;rw[n]at a;refine a8 0 ⟨Z,by rw[a];try rfl⟩
def KW(s:cq)(c:UInt8)(i:cq)(d:s=c::i)(f:s.length<4294967296):b4 C ca iX [cn s] [] fun l k=>k=[]/\l=.ret (Ib (oa s)):=by
 cases a:decide (agj c.toNat=agj (34:UInt8).toNat)with
 |true=>exact Xz s c i d f a
 |false=>
  have a:=bF a;cases b:isDigit c with
  |true=>exact RL s c i d f a b
  |false=>
   cases e:k9 c with
   |true=>exact RQ s c i d f a b e
   |false=>
    cases h:iT c with
    |true=>exact KV s c i d f a b e h
    |false=>exact abU s c i d f a b e h
def eb{R R':Rd}(h:R.ts=R'.ts)(p:Nat):R.tok p=R'.tok p:=by unfold Rd.tok;rw[h]
def jc{R R':Rd}(h:R.ts=R'.ts):∀(a:List cq) (p:Nat),cu R a p=cu R' a p:=by
 intro a;induction a with
 |nil=>intro p;rfl
 |cons c a b=>intro p;rw[cu,cu,eb h,b]
def Ks{R R':Rd}(h:R.ts=R'.ts)(ty:Nat->PR Ty):∀(b:Nat) (a:List Ty) (p:Nat),ey ty R b a p=ey ty R' b a p:=by
 intro b;induction b with
 |zero=>intro a p;rfl
 |succ b c=>
  intro a p;rw[ey,ey];cases ty p with
  |bad e f=>rfl
  |ok d q=>dsimp only;rw[eb h,c,jc h]
def Kt{R R':Rd}(h:R.ts=R'.ts)(ty:Nat->PR Ty)(p:Nat):jV ty R p=jV ty R' p:=by
 rw[jV,jV,eb h,Ks h,h]
def Bh{R R':Rd}(h:R.ts=R'.ts)(ty:Nat->PR Ty)(p:Nat):dO ty R p=dO ty R' p:=by
 rw[dO,dO,jc h];cases cu R' [[91]] p with
 |bad b a=>rfl
 |ok c q=>
  dsimp only;cases ty q with
  |bad b a=>rfl
  |ok d q1=>dsimp only;rw[jc h]
def EX{R R':Rd}(h:R.ts=R'.ts)(ty:Nat->PR Ty)(b d:cq)(c:Bool):∀(e:Nat) (a:List oG) (q:Nat),db ty R b d c e a q=db ty R' b d c e a q:=by
 intro e;induction e with
 |zero=>intro a q;rfl
 |succ e f=>
  intro a q;rw[db,db,eb h,eb h (q+1),jc h];split
  ·rfl
  ·split
   ·rfl
   ·cases cu R' [[58]] (if(c&&c5 (R'.tok (q+1)) [63])=true then q+1+1 else q+1)with
    |bad i k=>rfl
    |ok l q2=>
     dsimp only;cases ty q2 with
     |bad i k=>rfl
     |ok n q1=>
      dsimp only;rw[eb h,jc h];split
      ·rfl
      ·cases cu R' [b] q1 with
       |bad i k=>rfl
       |ok l q3=>exact f _ _
def MZ{R R':Rd}(h:R.ts=R'.ts)(ty:Nat->PR Ty)(c b:cq)(a:Bool)(p:Nat):eY ty R c b a p=eY ty R' c b a p:=by
 rw[eY,eY,eb h,EX h,h]
def WS{R R':Rd}(h:R.ts=R'.ts)(ty:Nat->PR Ty)(b:Nat)(a:cq)(c q:Nat):ja ty R b a c q=ja ty R' b a c q:=by
 have d:∀p,dO ty R p=dO ty R' p:=Bh h ty;have k:∀s p,cu R s p=cu R' s p:=jc h;have e:∀n l o p,eY ty R n l o p=eY ty R' n l o p:=MZ h ty;have i:∀p,jV ty R p=jV ty R' p:=Kt h ty;have f:∀p,R.tok p=R'.tok p:=eb h;unfold ja;simp only[d,k,e,i,f]
def HM{R R':Rd}(h:R.ts=R'.ts):∀(a:Nat),b8 R a=b8 R' a:=by
 intro a;induction a with
 |zero=>rfl
 |succ a b=>
  funext p;rw[b8,b8,b,eb h,WS h]
def PR.E{α:Type}(c:PR α):Prop:=∀a b,c=.bad a b->b≠0
def PR.E.ok{α:Type}{b:α}{q:Nat}:(PR.ok b q).E:=fun a c h=>by cases h
def PR.E.bad{α:Type}{a c:Nat}(h:c≠0):(PR.bad a c:PR α).E:=fun _ _ b=>by cases b;exact h
variable{J v:Nat}
def PR.E.get{α:Type}(h:(PR.bad v J:PR α).E):J≠0:=h v J rfl
def PR.E.map{α β:Type}{b:α->β}{a:PR α}(h:a.E):(a.map b).E:=by
 cases a with
 |ok c q=>exact .ok
 |bad d e=>exact .bad h.get
def iv(R:Rd):∀(a:List cq) (p:Nat),(cu R a p).E:=by
 intro a;induction a with
 |nil=>intro p;exact .ok
 |cons c a b=>
  intro p;rw[cu];split
  ·exact b _
  ·exact .bad dc
def M0{ty:Nat->PR Ty}(ht:∀p,(ty p).E)(R:Rd):∀(d:Nat) (a:List Ty) (p:Nat),(ey ty R d a p).E:=by
 intro d;induction d with
 |zero=>intro a p;exact .bad dc
 |succ d e=>
  intro a p;rw[ey];have c:=ht p;cases h:ty p with
  |bad i k=>rw[h]at c;exact .bad c.get
  |ok o q=>
   dsimp only;split
   ·exact e _ _
   ·have b:=iv R [[93]] q;cases f:cu R [[93]] q with
    |ok n l=>exact .ok
    |bad i k=>rw[f]at b;exact .bad b.get
def HN{ty:Nat->PR Ty}(ht:∀p,(ty p).E)(R:Rd)(p:Nat):(jV ty R p).E:=by
 rw[jV];split
 ·exact M0 ht R _ _ _
 ·exact .ok
def s3{ty:Nat->PR Ty}(ht:∀p,(ty p).E)(R:Rd)(p:Nat):(dO ty R p).E:=by
 rw[dO];have b:=iv R [[91]] p;cases e:cu R [[91]] p with
 |bad h i=>rw[e]at b;exact .bad b.get
 |ok k q=>
  dsimp only;have a:=ht q;cases d:ty q with
  |bad h i=>rw[d]at a;exact .bad a.get
  |ok l q1=>
   dsimp only;have c:=iv R [[93]] q1;cases f:cu R [[93]] q1 with
   |bad h i=>rw[f]at c;exact .bad c.get
   |ok k q2=>exact .ok
def HO{ty:Nat->PR Ty}(ht:∀p,(ty p).E)(R:Rd)(a f:cq)(c:Bool):∀(k:Nat) (b:List oG) (q:Nat),(db ty R a f c k b q).E:=by
 intro k;induction k with
 |zero=>intro b q;exact .bad dc
 |succ k o=>
  intro b q;rw[db];split
  ·exact .bad dc
  ·split
   ·exact .bad dc
   ·generalize (if(c&&c5 (R.tok (q+1)) [63])=true then q+1+1 else q+1)=d;have i:=iv R [[58]] d;cases n:cu R [[58]] d with
    |bad t w=>rw[n]at i;exact .bad i.get
    |ok x q2=>
     dsimp only;have e:=ht q2;cases l:ty q2 with
     |bad t w=>rw[l]at e;exact .bad e.get
     |ok C q1=>
      dsimp only;split
      ·exact .ok
      ·have h:=iv R [a] q1;cases s:cu R [a] q1 with
       |bad t w=>rw[s]at h;exact .bad h.get
       |ok x q3=>exact o _ _
def AA{ty:Nat->PR Ty}(ht:∀p,(ty p).E)(R:Rd)(c b:cq)(a:Bool)(p:Nat):(eY ty R c b a p).E:=by
 rw[eY];split
 ·exact .ok
 ·exact(HO ht R c b a _ _ _).map
def abi{ty:Nat->PR Ty}(ht:∀p,(ty p).E)(R:Rd)(e:Nat)(c:cq)(b q:Nat):(ja ty R e c b q).E:=by
 have d:(PR.bad b 3:PR Ty).E:=.bad dc;unfold ja;split
 ·split
  ·exact .ok
  ·split
   ·exact(s3 ht R q).map
   ·split
    ·have a:=iv R [[40]] q;cases f:cu R [[40]] q with
     |bad k l=>rw[f]at a;exact .bad a.get
     |ok n q1=>
      dsimp only;have h:=AA ht R [44] [41] true q1;cases i:eY ty R [44] [41] true q1 with
      |bad k l=>rw[i]at h;exact .bad h.get
      |ok o q2=>exact(ht q2).map
    ·exact d
 ·split
  ·split
   ·exact(AA ht R _ _ _ _).map
   ·split
    ·exact(AA ht R _ _ _ _).map
    ·exact d
  ·split
   ·exact(HN ht R q).map
   ·split
    ·have a:=iv R [[58,58]] q;cases f:cu R [[58,58]] q with
     |bad k l=>rw[f]at a;exact .bad a.get
     |ok n q1=>
      dsimp only;split
      ·exact .bad dc
      ·exact(HN ht R _).map
    ·exact d
def HP(R:Rd):∀(a p:Nat),(b8 R a p).E:=by
 intro a;induction a with
 |zero=>intro p;exact .bad dc
 |succ a b=>intro p;rw[b8];exact abi b R _ _ _ _
def DL(b:Ex)(f:cH)(a:je b f)(d:ej b)(e:cP b<4294967295)(c:g (.ret (b5 (cP b))) j):b4 C ca qO [.agg (f.map V.d)] j g:=by
 obtain⟨o,p,i,l,h,ty,n,k,rfl⟩:=a.eight;exact cC (Kx b _ a d e) Z Z c
def jd(_:Unit)(a:Ex):Unit ⊕ Nat:=if oX a=0 then .inl ()else .inr (oX a)
def ZX:Unit ⊕ Nat->Nat
 |.inl _=>0
 |.inr a=>a
def r9(a:Ex):Nat:=if 4096<cP a∨32<mG a then 7 else ZX (jj jd a ())
def ckL(a:ki):Unit ⊕ Nat->ki
 |.inl _=>a
 |.inr _=>Oy a
def aeh(c:List V)(b:ki)(a:Unit ⊕ Nat):Ob5:=⟨.box c,.box [b5 (ZX a)],HL,.box [.map 2],.box c,ckL b a⟩
theorem abu{b:Ob5}{a:List V}(h:fu 0 a=true)(c:(fW 10 b.o0&&(fW 10 b.o1&&(fW 10 b.o2&&(fW 10 b.o3&&(fW 10 b.o4&&fW 10 (.loop b.L))))))=true):mJ 10 (W5 b++.box a::j) 10=true:=by
 simp only[agx]at c;obtain⟨i,f,d,k,e,l⟩:=c;simp only[W5,agJ,List.nil_append,mJ,i,f,d,k,e,l,Bool.true_and,Bool.and_true];rw[show fW 10 (.box a)=fu 10 a from rfl,gx 10 a h];try rfl
theorem HR(c:Ex)(j:cH)(d:je c j)(l:ej c)(P:cP c<4294967295):b4 C ca pT [.agg (j.map V.d)] [] fun T t=>t=[]/\T=.ret (b5 (r9 c)):=by
 obtain⟨G,I,U,r,M,ty,u,X,rfl⟩:=d.eight;refine cm ?_;refine DL c _ d l P ?_;apply aZ<;>intro O
 ·repeat refine de ?_
  exact a8 0 ⟨Z,by rw[r9,if_pos (.inl (ee (a:=4096) O))];try rfl⟩
 repeat refine de ?_
 refine Kl _ c _ P (ago _) d ?_;repeat refine de ?_
 apply aZ<;>intro E
 ·repeat refine de ?_
  exact a8 0 ⟨Z,by rw[r9,if_pos (.inr (ee (a:=32) E))];try rfl⟩
 repeat refine de ?_
 have Q:r9 c=ZX (jj jd c ()):=by
  have:=dq (a:=4096) O;have:=dq (a:=32) E;rw[r9,if_neg om]
 rw[Q];refine cj ?_;refine cc none Z (cc none Z (cc none Z (cc none Z (cc none Z (cc none Z (cc none Z (cc none Z ?_)))))));refine cc none Z (cc none Z (cc none Z (cc none Z (cc none Z (cc none Z (cc none Z (cc none Z (cc none Z ?_))))))));refine cj ?_;refine cj ?_;refine(abk (step:=jd) (B:=fun _=>0) (Good:=ej) (S:=aeh (ky G I U r M ty u X) ?N) (fun c h=>h.kids) ?_ ?_ ?_ ?_ _ c _ () (ago _) d l om).mono (fun T t h=>?_)
 ·intro K;cases K<;>exact rfl
 ·intro K g B h;exact abu h (by cases K<;>exact rfl)
 ·intro F c H h;exact agm _
 ·intro F c j g L d l z R S y;refine iA.intro ?_;cases d with
  |mk ht m Y=>
   rename_i k e i f b types a kids q o p;have A:=fJ (.mk k e i f b types a kids);have R:0+cP (.mk k e i f b types a kids)<4294967296:=R;have D:=M1 l.node ht m Y (wb l rfl om) om;refine MO D 2 Z Z Z Z (fun T h=>?_);subst h;apply aZ<;>intro w
   ·have n:oX (.mk k e i f b types a kids)≠0:=fun c=>by rw[c]at w;cases w
    have x:=y _ (by rw[jd,if_neg n]) [.box (ky k e i f b q o p)];exact x
   ·have n:oX (.mk k e i f b types a kids)=0:=l3 w;have x:=S () (by rw[jd,if_pos n]) [.box (ky k e i f b q o p)];exact x
 ·obtain⟨K,v,rfl,rfl⟩:=h;rw[v];cases K with
  |inl ab=>exact a8 0 ⟨rfl,rfl⟩
  |inr s=>exact a8 0 ⟨rfl,rfl⟩
def Bi(b:Ex)(f:cH)(a:je b f)(d:ej b)(e:cP b<4294967295)(c:g (.ret (b5 (r9 b))) j):b4 C ca pT [.agg (f.map V.d)] j g:=by
 obtain⟨o,p,i,l,h,ty,n,k,rfl⟩:=a.eight;exact cC (HR b _ a d e) Z Z c
def aei(c:UInt8):Nat:=c.toNat-48
def WZ(a:Nat)(l:cq):Nat:=l.foldl (fun b c=>b*10+aei c) a
def Ky{c:UInt8}(h:isDigit c=true):48<=c.toNat/\c.toNat<=57:=by
 simp only[isDigit,agx,decide_eq_true_eq,agk]at h;omega
def M2:∀(d:cq) (a b:Nat),d.all isDigit=true->b+d.length<=19->a<10^b->Lib.parseUintM (2^64-1) a d=.ok (WZ a d)/\WZ a d<10^(b+d.length):=by
 intro d;induction d with
 |nil=>intro a b _ _ h;exact⟨rfl,h⟩
 |cons c q k=>
  intro a b e i w;rw[List.all_cons,agx]at e;obtain⟨n,l⟩:=Ky e.1;rw[agn]at i;have t:10^b<=10^18:=agG dc om;have p:a*10+(c.toNat-48)<10^(b+1):=by rw[Nat.pow_succ];omega
  have s:10^(b+1)<=10^19:=agG dc om;obtain⟨f,o⟩:=k (a*10+(c.toNat-48)) (b+1) e.2 om p;refine⟨?_,?_⟩
  ·rw[Lib.parseUintM,if_pos ⟨n,l⟩,if_neg om,if_neg om];exact f
  ·rw[agn,show b+(q.length+1)=b+1+q.length from by omega];exact o
def M3{l:cq}(b:l.all isDigit=true)(c:l.length<=19)(a:l≠[]):Lib.parseUintB 64 l=.ok (WZ 0 l)/\WZ 0 l<10^19:=by
 obtain⟨e,d⟩:=M2 l 0 0 b om dc;rw[Lib.parseUintB,if_neg a];refine⟨e,Nat.lt_of_lt_of_le d (agG dc om)⟩
def adg(t:Tok):Prop:=t.kind=3->t.text.all isDigit=true/\t.text.length<=19/\t.text≠[]
def Ur{l t:cq}{d n:Nat}(h:oa l=.ok d t n):d=3->t.all isDigit=true/\t.length<=19/\t≠[]:=by
 cases l with
 |nil=>cases h
 |cons c f=>
  rw[oa]at h;split at h
  ·unfold nM at h;split at h
   ·cases h;omega
   ·split at h
    ·cases h;omega
    ·split at h
     ·cases h;omega
     ·cases h
  ·split at h
   ·rename_i b;have a:=QO isDigit (c::f);unfold mZ at h;split at h
    ·cases h
    ·rename_i i;cases h;refine fun _=>⟨a,om,fun e=>?_⟩;rw[p5,if_pos b]at e;simp at e
   ·split at h
    ·split at h
     ·cases h;omega
     ·cases h
    ·split at h
     ·cases h
     ·cases h;omega
def QV(s:cq):∀(d a:Nat) (e:List Tok),jF s d a=.ok e->∀i∈e,adg i:=by
 intro d;induction d with
 |zero=>intro a e h;cases h;simp
 |succ d f=>
  intro a e h;rw[jF]at h;split at h
  ·cases h;intro i ht;simp at ht;subst ht;exact fun h=>by simp at h
  ·cases ht:oa (s.drop a)with
   |err t=>rw[ht]at h;cases h
   |ok o i l=>
    rw[ht]at h;dsimp only at h;cases c:jF s d (a+l+dZ false (s.drop (a+l)))with
    |err q p=>rw[c]at h;cases h
    |ok n=>
     rw[c]at h;cases h;intro k b;rcases agC.1 b with rfl|b
     ·exact Ur ht
     ·exact f _ _ c k b
def QW{s:cq}{R:Rd}(h:jl s=.ok R.ts):∀p,adg (R.tok p):=by
 intro p;by_cases a:p<R.ts.length
 ·unfold jl at h;split at h
  ·cases h
  ·exact QV s _ _ _ h _ (List.mem_of_getElem? (b0 a))
 ·rw[Rd.tok,List.getElem?_eq_none om];exact fun h=>by simp at h
def Kz{R:Rd}(h:jl r=.ok R.ts):R.Ng:=by
 intro p a;obtain⟨b,d,c⟩:=QW h p a;exact⟨⟨_,(M3 b d c).1⟩,om⟩
section
variable{R R':Rd} (h:R.ts=R'.ts)
include h
theorem kw(p:Nat):dh R p=dh R' p:=by rw[dh,dh,eb h]
theorem AC(a:List eo)(p:Nat):eJ R a p=eJ R' a p:=by rw[eJ,eJ,eb h]
theorem Cb(ex:Nat->PR Ex)(a:cq)(p:Nat):fj ex R a p=fj ex R' a p:=by rw[fj,fj,jc h]
theorem Us{α:Type}{step a:α->Nat->PR α}(f:∀c p,step c p=a c p)(b:cq):∀(d:Nat) (c:α) (p:Nat),ji step R b d c p=ji a R' b d c p:=by
 intro d;induction d with
 |zero=>intro c p;rfl
 |succ d e=>intro c p;simp only[ji,f,eb h,jc h,e]
theorem zz{α:Type}{step a:α->Nat->PR α}(d:∀c p,step c p=a c p)(b:cq)(c:α)(p:Nat):gA step R b c p=gA a R' b c p:=by
 rw[gA,gA,eb h,Us h d,h]
theorem Ut(ex:Nat->PR Ex)(a:List eo)(p:Nat):lP ex R a p=lP ex R' a p:=by simp only[lP,AC h,Cb h]
theorem Uu(ex:Nat->PR Ex)(a:List eo)(p:Nat):kJ ex R a p=kJ ex R' a p:=by simp only[kJ,AC h,Cb h,kw h]
theorem Uv(ty:Nat->PR Ty)(ex:Nat->PR Ex)(a:List eo)(p:Nat):jW ty ex R a p=jW ty ex R' a p:=by simp only[jW,AC h,jc h,eb h]
theorem FW(ex:Nat->PR Ex)(a:cq)(b:Nat)(kids:List Ex)(p:Nat):jP ex R a b kids p=jP ex R' a b kids p:=by rw[jP,jP,zz h (Ut h ex)]
theorem OH(a p:Nat):sT a R p=sT a R' p:=by simp only[sT,eb h]
theorem W0{fn b:Nat->PR Ex}(e:∀p,fn p=b p)(a:List cq):∀(c:Nat) (d:Ex) (p:Nat),zf fn a R c d p=zf b a R' c d p:=by
 intro c;induction c with
 |zero=>intro d p;rfl
 |succ c f=>intro d p;simp only[zf,eb h,e,f]
theorem Cc{fn a:Nat->PR Ex}(c:∀p,fn p=a p)(b:List cq)(p:Nat):oH fn b R p=oH a b R' p:=by
 simp only[oH,c,W0 h c,h]
theorem QX(ty:Nat->PR Ty)(a:cq)(p:Nat):iH ty R a p=iH ty R' a p:=by simp only[iH,eb h,kw h,Kt h]
theorem Uw(ty:Nat->PR Ty)(ex:Nat->PR Ex)(p:Nat):gd ty ex R p=gd ty ex R' p:=by
 have b:∀a c p,gA (oc ex) R a c p=gA (oc ex) R' a c p:=zz h fun _ _=>rfl;simp only[gd,eb h,OH h,QX h,FW h,kw h,Cb h,jc h,b]
theorem Ux(ex:Nat->PR Ex):∀(a:Nat) (b:Ex) (p:Nat),p8 ex R a b p=p8 ex R' a b p:=by
 intro a;induction a with
 |zero=>intro b p;rfl
 |succ a c=>intro b p;simp only[p8,eb h,kw h,FW h,c]
theorem Uy(ty:Nat->PR Ty)(ex:Nat->PR Ex)(p:Nat):od ty ex R p=od ty ex R' p:=by simp only[od,Uw h,Ux h,h]
theorem W1(ty:Nat->PR Ty)(ex:Nat->PR Ex):∀(a p:Nat),tP ty ex R a p=tP ty ex R' a p:=by
 intro a;induction a with
 |zero=>intro p;rfl
 |succ a b=>intro p;simp only[tP,eb h,OH h,Uy h,b]
theorem W2(ty:Nat->PR Ty)(ex:Nat->PR Ex)(p:Nat):wX ty ex R p=wX ty ex R' p:=by
 have a:R.ts.length=R'.ts.length:=by rw[h]
 refine Cc h (fun p=>?_) _ p;refine Cc h (fun p=>?_) _ p;rw[a];exact W1 h ty ex _ p
theorem W4(ty:Nat->PR Ty)(ex:Nat->PR Ex):∀(a p:Nat),qj ty ex R a p=qj ty ex R' a p:=by
 intro a;induction a with
 |zero=>intro p;rfl
 |succ a b=>intro p;simp only[qj,eb h,W2 h,b]
theorem abv(ty:Nat->PR Ty)(ex:Nat->PR Ex)(p:Nat):Wo ty ex R p=Wo ty ex R' p:=by
 have a:R.ts.length=R'.ts.length:=by rw[h]
 refine Cc h (fun p=>?_) _ p;refine Cc h (fun p=>?_) _ p;rw[a];exact W4 h ty ex _ p
theorem Uz:∀(a:Nat),Ih R a=Ih R' a:=by
 intro a;induction a with
 |zero=>rfl
 |succ a b=>
  funext p;have ht:b8 R R.ts.length=b8 R' R'.ts.length:=by rw[h];exact HM h _
  rw[Ih,Ih,b,ht];simp only[ET,eb h,xI,oT,mz,lQ,funcF,kw h,Cb h,Bh h,jc h,zz h (Uu h _),zz h (Uv h _ _),abv h]
end
def w7:Ex:=.mk 0 [] [] [] 0 [] [] []
def W6:je w7 [.int .i64 (agj 0),.str [],.str [],.str [],.int .i64 0,.ci,.ci,.ci]:=.mk .nil .nil .nil
def oY(d:cq):Ex×Nat×Nat:=match jl d with
 |.err a c=>(w7,a,c)
 |.ok ts=>match Ih ⟨0,0,ts⟩ ts.length 0 with
  |.bad a c=>(w7,a,c)
  |.ok b q=>if(Rd.tok ⟨0,0,ts⟩ q).kind≠0 then(w7,(Rd.tok ⟨0,0,ts⟩ q).off,3)else if r9 b≠0 then(w7,0,r9 b)else(b,0,0)
def PR.E.of{α β:Type}{c:PR α}{o d:Nat}(h:c=.bad o d)(b:c.E):(PR.bad o d:PR β).E:=fun _ _ a=>by
 cases a;exact b _ _ h
def wc(R:Rd)(p:Nat):(dh R p).E:=by
 unfold dh;split
 ·exact .bad dc
 ·exact .ok
def DM(R:Rd)(a:List eo)(p:Nat):(eJ R a p).E:=by
 unfold eJ;split
 ·exact .bad dc
 ·split
  ·exact .bad dc
  ·exact .ok
def rz{ex:Nat->PR Ex}(he:∀p,(ex p).E)(R:Rd)(a:cq)(p:Nat):(fj ex R a p).E:=by
 unfold fj;split
 ·exact .of ‹_› (iv R _ _)
 ·exact he _
def W7{α:Type}{step:α->Nat->PR α}(e:∀a p,(step a p).E)(R:Rd)(b:cq):∀(c:Nat) (a:α) (p:Nat),(ji step R b c a p).E:=by
 intro c;induction c with
 |zero=>intro a p;exact .bad dc
 |succ c d=>
  intro a p;rw[ji];split
  ·exact .of ‹_› (e _ _)
  ·split
   ·exact .ok
   ·split
    ·exact .of ‹_› (iv R _ _)
    ·exact d _ _
def Cd{α:Type}{step:α->Nat->PR α}(b:∀c p,(step c p).E)(R:Rd)(a:cq)(c:α)(p:Nat):(gA step R a c p).E:=by
 unfold gA;split
 ·exact .ok
 ·exact W7 b R a _ _ _
section
variable{ty:Nat->PR Ty} {ex:Nat->PR Ex} (ht:∀p,(ty p).E) (he:∀p,(ex p).E) (R:Rd)
include he
theorem W8(a:List eo)(p:Nat):(lP ex R a p).E:=by
 unfold lP;split
 ·exact .of ‹_› (DM R _ _)
 ·exact .map (rz he R _ _)
theorem W9(a:List eo)(p:Nat):(kJ ex R a p).E:=by
 unfold kJ;split
 ·exact .of ‹_› (DM R _ _)
 ·split
  ·exact .of ‹_› (wc R _)
  ·exact .map (rz he R _ _)
theorem KA(a:cq)(b:Nat)(kids:List Ex)(p:Nat):(jP ex R a b kids p).E:=.map (Cd (W8 he R) R _ _ _)
theorem abw(p:Nat):(xI ex R p).E:=by
 unfold xI;split
 ·exact .of ‹_› (wc R _)
 ·split
  ·exact .of ‹_› (rz he R _ _)
  ·exact .map (rz he R _ _)
theorem abx(a:List cq):∀(b:Nat) (c:Ex) (p:Nat),(zf ex a R b c p).E:=by
 intro b;induction b with
 |zero=>intro c p;exact .bad dc
 |succ b d=>
  intro c p;rw[zf];split
  ·exact .ok
  ·split
   ·exact .of ‹_› (he _)
   ·exact d _ _
theorem HS(a:List cq)(p:Nat):(oH ex a R p).E:=by
 unfold oH;split
 ·exact .of ‹_› (he _)
 ·exact abx he R _ _ _ _
theorem Xa:∀(b:Nat) (c:Ex) (p:Nat),(p8 ex R b c p).E:=by
 intro b;induction b with
 |zero=>intro c p;exact .bad dc
 |succ b a=>
  intro c p;rw[p8];split
  ·split
   ·exact .of ‹_› (wc R _)
   ·exact a _ _
  ·split
   ·split
    ·exact .of ‹_› (KA he R _ _ _ _)
    ·exact a _ _
   ·exact .ok
omit he in
theorem UA(a p:Nat):(sT a R p).E:=by
 unfold sT;split
 ·exact .bad dc
 ·split
  ·split
   ·exact .bad dc
   ·exact .ok
  ·exact .bad dc
include ht
theorem Xb(a:List eo)(p:Nat):(jW ty ex R a p).E:=by
 unfold jW;split
 ·exact .of ‹_› (DM R _ _)
 ·split
  ·exact .of ‹_› (iv R _ _)
  ·split
   ·exact .of ‹_› (ht _)
   ·split
    ·exact .map (he _)
    ·exact .ok
omit he in
theorem UB(b:cq)(p:Nat):(iH ty R b p).E:=by
 have a:∀p,(if c5 (R.tok p) [58,58]=true then(dh R (p+1)).map fun c=>(4,b,c)else .ok (3,[],b) p:PR (Nat×cq×cq)).E:=fun p=>by
  split
  ·exact .map (wc R _)
  ·exact .ok
 unfold iH;split
 ·exact .of ‹_› (a _)
 ·split
  ·exact .map (HN ht R _)
  ·exact .ok
theorem Xc(p:Nat):(gd ty ex R p).E:=by
 have c:∀a q,(if c5 (R.tok q) [58]=true then(ty (q+1)).map fun e=>Ex.mk 11 [] [] [] 0 [e] [] [a]else .ok a q).E:=fun a q=>by
  split
  ·exact .map (ht _)
  ·exact .ok
 have b:∀d p,(oc ex d p).E:=fun d p=>.map (he p);unfold gd;repeat' split
 all_goals first
  |exact UA R _ _
  |exact .ok
  |exact .bad dc
  |exact UB ht R _ _
  |exact KA he R _ _ _ _
  |exact .of ‹_› (wc R _)
  |exact .of ‹_› (rz he R _ _)
  |exact .of ‹_› (ht _)
  |exact .of ‹_› (he _)
  |exact .of ‹_› (iv R _ _)
  |exact .of ‹_› (c _ _)
  |exact .map (iv R _ _)
  |exact .map (Cd b R _ _ _)
theorem Xd(p:Nat):(od ty ex R p).E:=by
 unfold od;split
 ·exact .of ‹_› (Xc ht he R _)
 ·exact Xa he R _ _ _
theorem aby:∀(a p:Nat),(tP ty ex R a p).E:=by
 intro a;induction a with
 |zero=>intro p;exact .bad dc
 |succ a b=>
  intro p;rw[tP];split
  ·exact .map (b _)
  ·split
   ·exact UA R _ _
   ·exact Xd ht he R _
theorem UC(p:Nat):(wX ty ex R p).E:=HS (HS (aby ht he R _) R _) R _ p
theorem abz:∀(a p:Nat),(qj ty ex R a p).E:=by
 intro a;induction a with
 |zero=>intro p;exact .bad dc
 |succ a b=>
  intro p;rw[qj];split
  ·exact .map (b _)
  ·split
   ·exact .of ‹_› (UC ht he R _)
   ·split
    ·exact .ok
    ·exact .map (UC ht he R _)
theorem adh(p:Nat):(Wo ty ex R p).E:=HS (HS (abz ht he R _) R _) R _ p
theorem Xe(p:Nat):(oT ty ex R p).E:=by
 unfold oT;split
 ·exact .of ‹_› (s3 ht R _)
 ·split
  ·exact .of ‹_› (he _)
  ·split
   ·exact .of ‹_› (rz he R _ _)
   ·exact .map (rz he R _ _)
theorem UD(p:Nat):(mz ty ex R p).E:=by
 unfold mz;split
 ·exact .of ‹_› (s3 ht R _)
 ·split
  ·exact .of ‹_› (he _)
  ·split
   ·exact .of ‹_› (iv R _ _)
   ·exact .map (Cd (W9 he R) R _ _ _)
theorem Xf(p:Nat):(lQ ty ex R p).E:=by
 unfold lQ;repeat' split
 all_goals first
  |exact .of ‹_› (s3 ht R _)
  |exact .of ‹_› (wc R _)
  |exact .of ‹_› (iv R _ _)
  |exact .of ‹_› (rz he R _ _)
  |exact .map (rz he R _ _)
theorem Xg(p:Nat):(funcF ty ex R p).E:=by
 unfold funcF;split
 ·exact .of ‹_› (iv R _ _)
 ·split
  ·exact .of ‹_› (Cd (Xb ht he R) R _ _ _)
  ·exact .map (rz he R _ _)
end
def UE(R:Rd):∀(b p:Nat),(Ih R b p).E:=by
 intro b;induction b with
 |zero=>intro p;exact .bad dc
 |succ b a=>
  intro p;have ht:=HP R R.ts.length;rw[Ih,ET];repeat' split
  ·exact abw a R _
  ·exact Xe ht a R _
  ·exact UD ht a R _
  ·exact Xf ht a R _
  ·exact Xg ht a R _
  ·exact adh ht a R _
def we:V:=.agg [.d (.int .i64 0),.d (.str []),.d (.str []),.d (.str []),.d (.int .i64 0),.d .ci,.d .ci,.d .ci]
def DN(h:cq)(c:cO):Prop:=match jl h with
 |.err a e=>c=.ret (.dS [we,b5 a,b5 e])
 |.ok ts=>∃d b,match Ih ⟨d,b,ts⟩ ts.length 0 with
  |.bad a e=>c=.ret (.dS [we,b5 a,b5 e])
  |.ok i q=>if(Rd.tok ⟨d,b,ts⟩ q).kind≠0 then c=.ret (.dS [we,b5 (Rd.tok ⟨d,b,ts⟩ q).off,b5 3])else ∃f,je i f/\c=.ret (.dS [.agg (f.map V.d),b5 0,b5 0])
theorem M4(s:cq)(t:∀p,DN s p->g p j):b4 C ca sD [cn s,.fn cR [] []] j g:=by
 refine b4.closed (P:=DN s) ?_ Z t;refine cm ?_;refine Au s (fun p f=>?_);cases b:jl s with
 |err o D=>
  rw[b]at f;obtain rfl:p=_:=f;have he:=mD b;refine aZ (fun h=>?_) (fun h=>absurd (l3 h) he);repeat refine ch ?_
  refine a8 0 ⟨Z,Z,?_⟩;unfold DN;rw[b];try rfl
 |ok ts=>
  rw[b]at f;obtain⟨e,a,rfl⟩:=f;obtain⟨w,c⟩:=mC (R:=⟨e,a,ts⟩) b;have l:=Kz (R:=⟨e,a,ts⟩) b;have i:=ZS w l ts.length 0 (by show ts.length-0<=ts.length;omega);refine i.call 0 (ago _) c 4 _ _ ?_ (fun V S q d k=>?_) (fun o D q d=>?_)
  ·exact Z
  ·obtain⟨Q,U,T,M,E,ty,O,K,rfl⟩:=k.eight;obtain⟨_,x⟩:=i.lt _ _ _ (agm _) c d;refine eF ⟨e,a,ts⟩ q _ (b0 x) 4 ?_ ?_
   ·exact Z
   apply aZ<;>intro h
   ·have n:(Rd.tok ⟨e,a,ts⟩ q).kind≠0:=fun D=>by rw[D]at h;cases h
    refine fK _ (Rd.tok ⟨e,a,ts⟩ q).off 3 ?_;refine oA.body Aj ?_;repeat refine ch ?_
    refine a8 0 ⟨Z,Z,?_⟩;unfold DN;rw[b];refine⟨e,a,?_⟩;rw[d];dsimp only;rw[if_pos n];try rfl
   ·have n:(Rd.tok ⟨e,a,ts⟩ q).kind=0:=l3 h;refine oA.body Aj ?_;refine a8 0 ⟨Z,Z,?_⟩;unfold DN;rw[b];refine⟨e,a,?_⟩;rw[d];dsimp only;rw[if_neg om];exact⟨_,k,Z⟩
  ·refine oA.body Aj ?_;repeat refine ch ?_
   refine a8 0 ⟨Z,Z,?_⟩;unfold DN;rw[b];refine⟨e,a,?_⟩;rw[d];try rfl
def FX(a:cq)(c:cO):Prop:=∃b,je (oY a).1 b/\c=.ret (.dS [.agg (b.map V.d),b5 (oY a).2.1,b5 (oY a).2.2])
def Le(h:oY r=(w7,v,J)):FX r (.ret (.dS [we,b5 v,b5 J])):=by
 rw[FX,h];exact⟨_,W6,Z⟩
def OI(h:v≠0):decide (agj v=0)=false:=decide_eq_false fun a=>h (by simp only[agk]at a;omega)
def KB(s:cq):b4 C ca wP [cn s] [] fun x M=>M=[]/\cM x=true/\FX s x:=by
 refine cm ?_;refine M4 s (fun x a=>?_);unfold DN at a;cases d:jl s with
 |err c k=>
  rw[d]at a;have a:x=.ret (.dS [we,b5 c,b5 k]):=a;subst a;have h:=mD d;have hp:oY s=(w7,c,k):=by rw[oY,d]
  refine a7 (OI h) ?_;exact R8
 |ok ts=>
  rw[d]at a;dsimp only at a;obtain⟨t,b,a⟩:=a;obtain⟨w,o⟩:=mC (R:=⟨t,b,ts⟩) d;have mS:=vw (R:=⟨t,b,ts⟩) d;have O:Ih ⟨t,b,ts⟩ ts.length=Ih ⟨0,0,ts⟩ ts.length:=Uz (R:=⟨t,b,ts⟩) (R':=⟨0,0,ts⟩) rfl _;have e:=zx w mS ts.length 0;rw[O]at a e;cases f:Ih ⟨0,0,ts⟩ ts.length 0 with
  |bad c k=>
   rw[f]at a;have a:x=.ret (.dS [we,b5 c,b5 k]):=a;subst a;have h:=UE _ _ _ c k f;have hp:oY s=(w7,c,k):=by rw[oY,d];dsimp only;rw[f]
   refine a7 (OI h) ?_;exact R8
  |ok p q=>
   rw[f]at a;dsimp only at a;have hp:oY s=if(Rd.tok ⟨0,0,ts⟩ q).kind≠0 then(w7,(Rd.tok ⟨0,0,ts⟩ q).off,3)else if r9 p≠0 then(w7,0,r9 p)else(p,0,0):=by rw[oY,d];dsimp only;rw[f]
   have P:Rd.tok ⟨t,b,ts⟩ q=Rd.tok ⟨0,0,ts⟩ q:=eb (R:=⟨t,b,ts⟩) (R':=⟨0,0,ts⟩) rfl q;rw[P]at a;by_cases D:(Rd.tok ⟨0,0,ts⟩ q).kind≠0
   ·rw[if_pos D]at a hp;subst a;exact R8
   ·rw[if_neg D]at a hp;obtain⟨Y,l,rfl⟩:=a;obtain⟨Q,V,_,E⟩:=e 0 p q (ago _) o f;have K:=w.len;have E:q<ts.length:=E;have K:ts.length<4294967296:=K;obtain⟨X,j,g,U,S,ty,W,T,rfl⟩:=l.eight;refine Bi p _ l Q om ?_;apply aZ<;>intro n
    ·have i:r9 p≠0:=fun k=>by rw[k]at n;cases n
     rw[if_pos i]at hp;exact R8
    ·have i:r9 p=0:=l3 n;rw[if_neg om]at hp;rw[i];refine a8 0 ⟨Z,Z,by rw[FX,hp];exact⟨_,l,rfl⟩⟩
def M5(b:cq)(a:∀c,FX b c->g c j):b4 C ca wP [cn b] j g:=
 b4.closed (KB b) rfl a
def wg:V:=.agg [cn [],.d .ci,.d .ci]
abbrev AD(R:Rd)(p:Nat):PR (FO×List Nat):=tQ (b8 R R.ts.length) (Ih R R.ts.length) R p
def Bj(k:cq)(c:cO)(d:D):Prop:=match jl k with
 |.err a f=>c=.ret (.dS [wg,b5 a,b5 f])
 |.ok ts=>∃e b,match AD ⟨e,b,ts⟩ 0 with
  |.bad a f=>c=.ret (.dS [wg,b5 a,b5 f])
  |.ok i q=>if(Rd.tok ⟨e,b,ts⟩ q).kind≠0 then c=.ret (.dS [wg,b5 (Rd.tok ⟨e,b,ts⟩ q).off,b5 3])else ∃h,At i.1 h/\FP i.2 d/\c=.ret (.dS [.agg (h.map V.d),b5 0,b5 0])
def KC{R:Rd}(w:R.Wf)(mS:R.Nm)(e:R.ts.length<=65537):∀(i:Nat) (x:List vY) (p:Nat) (d:List vY) (q:Nat),p<R.ts.length->fT R i x p=.ok d q->p<=q/\q<R.ts.length:=by
 intro i;induction i with
 |zero=>intro x p d q _ h;cases h
 |succ i t=>
  intro x p d q hp h;rw[fT]at h;split at h
  ·rename_i k;split at h
   ·cases h
   ·rename_i P q1 a;rw[iu]at a;split at a
    ·cases a
    ·rename_i s q2 n;obtain⟨K,E⟩:=(xO w mS e).lt _ _ _ (w.step hp k) n;obtain⟨M,b,_⟩:=dv a;rw[dI]at b;split at b
     ·cases b
     ·rename_i O q3 f;have o:=cL _ _ _ f;have l:=da w _ _ _ E f;simp only[agn,agp]at o;obtain⟨c,D⟩:=fS w l b;obtain⟨Q,C⟩:=t _ _ _ _ D h;exact⟨om,C⟩
  ·exact NC
def QY{R:Rd}(w:R.Wf){ty:Nat->PR Ty}{ex:Nat->PR Ex}{lo:Nat}(ht:∀p e q,lo<=p->p<R.ts.length->ty p=.ok e q->p<q/\q<R.ts.length)(l:∀p e q,lo<=p->p<R.ts.length->ex p=.ok e q->p<q/\q<R.ts.length):∀(c:Nat) (k:List jX) (a:List Nat) (p:Nat) (b:List jX×List Nat) (q:Nat),lo<=p->p<R.ts.length->ib ty ex R c k a p=.ok b q->p<=q/\q<R.ts.length:=by
 intro c;induction c with
 |zero=>intro k a p b q _ _ h;cases h
 |succ c f=>
  intro k a p b q i hp h;rw[ib]at h;split at h
  ·split at h
   ·cases h
   ·rename_i s q1 d;obtain⟨t,o⟩:=Cg w ht l i hp d;obtain⟨x,n⟩:=f _ _ _ _ _ om o h;exact⟨om,n⟩
  ·exact NC
variable{y:FO×List Nat}
def Xh{R:Rd}(w:R.Wf)(mS:R.Nm)(b:R.ts.length<=65537){ty:Nat->PR Ty}{ex:Nat->PR Ex}{lo:Nat}(ht:∀p e q,lo<=p->p<R.ts.length->ty p=.ok e q->p<q/\q<R.ts.length)(n:∀p e q,lo<=p->p<R.ts.length->ex p=.ok e q->p<q/\q<R.ts.length){q:Nat}(k:lo<R.ts.length)(h:tQ ty ex R lo=.ok y q):lo<=q/\q<R.ts.length:=by
 rw[tQ]at h;split at h
 ·cases h
 ·rename_i s q1 a;rw[dI]at a;split at a
  ·cases a
  ·rename_i M t d;have o:=cL _ _ _ d;have i:=da w _ _ _ k d;simp only[agn,agp]at o;obtain⟨K,D⟩:=(xO w mS b).lt _ _ _ i a;split at h
   ·cases h
   ·rename_i E q2 f;obtain⟨c,C⟩:=KC w mS b _ _ _ _ _ D f;obtain⟨e,l,_⟩:=dv h;obtain⟨O,x⟩:=QY w ht n _ _ _ _ _ _ om C l;exact⟨om,x⟩
def UF{R:Rd}(w:R.Wf)(mS:R.Nm)(k:R.ts.length<=65537){ty:Nat->PR Ty}{ex:Nat->PR Ex}{p:Nat}(ht:ef ty R p)(s:Good ty R p)(i:mA cR ex R p)(n:p<R.ts.length)(d:Nat)(b:nth j d=some (dp R p)) 
  (l:∀f c a q,tQ ty ex R p=.ok f q->At f.1 c->FP f.2 a->g (.ret (.dS [.agg (c.map V.d),.d a])) (j.set d (dp R q))) (k2:∀off e q,tQ ty ex R p=.bad off e->g (.eH (dt off e)) (j.set d (dp R q))):b4 C ca vu [.bp d 0] j g:=by
 refine b4.one (dM:=[.bp 0 0]) (P:=mdK R (tQ ty ex R p)) (Qy w mS k ht s i n) d b Z Z Z (fun D x h=>?_);unfold mdK at h;split at h
 ·rename_i f q e;obtain⟨rfl,c,a,t,o,rfl⟩:=h;exact l f c a q e t o
 ·exact Vp
theorem KD(s:cq):b4 C ca kW [cn s,.fn mm [] [.bp 0 0]] [.box [.d .ci]] fun P O=>∃i,O=[.box i]/\cM P=true/\fu 0 i=true/\∃e,i=[.d e]/\Bj s P e:=by
 refine cm ?_;refine Au s (fun P l=>?_);cases b:jl s with
 |err M V=>
  rw[b]at l;obtain rfl:P=_:=l;have he:=mD b;refine aZ (fun h=>?_) (fun h=>absurd (l3 h) he);repeat refine ch ?_
  refine a8 1 ⟨_,Z,Z,Z,_,Z,?_⟩;unfold Bj;rw[b];try rfl
 |ok ts=>
  rw[b]at l;obtain⟨d,a,rfl⟩:=l;obtain⟨w,f⟩:=mC (R:=⟨d,a,ts⟩) b;have x:=Kz (R:=⟨d,a,ts⟩) b;have mS:=vw (R:=⟨d,a,ts⟩) b;have n:ts.length<=65537:=(B8 b).2.2.2.1;have p:=ZS w x ts.length 0 (by show ts.length-0<=ts.length;omega);have o:=Ds w ts.length 0 (by show ts.length-0<=ts.length;omega);have t:=pt w mS ts.length;refine cj ?_;refine UF w mS n o t p f 5 ?_ (fun X c e q k W U=>?_) (fun M V q k=>?_)
  ·exact Z
  ·obtain⟨D,K,T,Q,rfl⟩:=W;obtain⟨_,S⟩:=Xh w mS n o.lt p.lt f k;refine eF ⟨d,a,ts⟩ q _ (b0 S) 5 ?_ ?_
   ·exact Z
   apply aZ<;>intro h
   ·have E:(Rd.tok ⟨d,a,ts⟩ q).kind≠0:=fun V=>by rw[V]at h;cases h
    refine fK _ (Rd.tok ⟨d,a,ts⟩ q).off 3 ?_;refine oA.body Aj ?_;repeat refine ch ?_
    refine a8 1 ⟨_,Z,Z,Z,e,Z,?_⟩;unfold Bj;rw[b];refine⟨d,a,?_⟩;rw[show AD ⟨d,a,ts⟩ 0=_ from k];dsimp only;rw[if_pos E];try rfl
   ·have E:(Rd.tok ⟨d,a,ts⟩ q).kind=0:=l3 h;refine oA.body Aj ?_;refine a8 1 ⟨_,Z,Z,Z,e,Z,?_⟩;unfold Bj;rw[b];refine⟨d,a,?_⟩;rw[show AD ⟨d,a,ts⟩ 0=_ from k];dsimp only;rw[if_neg om];exact⟨_,⟨D,K,T,Q,Z⟩,U,Z⟩
  ·refine oA.body Aj ?_;repeat refine ch ?_
   refine a8 1 ⟨_,Z,Z,Z,.ci,Z,?_⟩;unfold Bj;rw[b];refine⟨d,a,?_⟩;rw[show AD ⟨d,a,ts⟩ 0=_ from k];try rfl
def M6(c:cq)(e:Nat)(d:nth j e=some (.box [.d .ci]))(f:∀b a,Bj c b a->g b (j.set e (.box [.d a]))):b4 C ca kW [cn c,.fn mm [] [.bp e 0]] j g:=
 b4.one (dM:=[cn c,.fn mm [] [.bp 0 0]]) (P:=fun b i=>∃a,i=[.d a]/\Bj c b a) (KD c) e d rfl rfl rfl (fun b k ⟨a,l,h⟩=>by rw[l];exact f b a h)
def Ij(P:Prop)(b:cO):Prop:=∃a:Bool,(P->a=true)/\b=.ret (b6 a)
def gR{P:Prop}(h:¬P):Ij P (.ret (b6 false)):=⟨false,fun p=>absurd p h,rfl⟩
def NB{P:Prop}:Ij P (.ret (b6 true)):=⟨true,fun _=>rfl,rfl⟩
abbrev EqI(n:Nat):Prop:=∀(c e:Ty) (d a:cH),ct c<=n->eZ c d->eZ e a->∀{b:VS} {f:cO->VS->Prop},(∀h:Bool,(c=e->h=true)->f (.ret (b6 h)) b)->b4 C ca gz [.agg (d.map V.d),.agg (a.map V.d)] b f
variable{B L:D}
def QZ(n:Nat)(y:EqI n)(ad:n<4294967295){l i:List Ty}(aa:cy l<=n)(z:fA l B)(s:fA i L):b4 C ca pf [.d B,.d L,.fn gz [] []] [] fun N T=>T=[]/\Ij (l=i) N:=by
 have F:=dA l;refine cm ?_;cases z with
 |nil=>
  cases s with
  |nil=>
   refine cd.loop ?_;exact Iw
  |ps h b=>
   rename_i els;have e1:=h.len;rcases els with _|⟨X,v⟩
   ·exact absurd Z b
   ·exact a8 0 ⟨Z,gR fun e=>by rw[<-e]at e1;simp at e1⟩
 |ps h b=>
  rename_i I G p els;have e1:=h.len;cases s with
  |nil=>
   rcases els with _|⟨X,v⟩
   ·exact absurd Z b
   ·exact a8 0 ⟨Z,gR fun e=>by rw[e]at e1;simp at e1⟩
  |ps M A=>
   rename_i K U c wl;have e2:=M.len;apply aZ<;>intro hc
   ·exact Vw
   ·have r:els.length=wl.length:=by
     exact XL
    refine cD (dB:=[(1,.d (.ps K U 5 c wl)),(2,.fn gz [] []),(15,.d (.ps I G 5 p els)),(16,b5 els.length),(17,b5 0)]) ?_;refine cd.iter (fun a:Nat=>[(1,.d (.ps K U 5 c wl)),(2,.fn gz [] []),(15,.d (.ps I G 5 p els)),(16,b5 els.length),(17,b5 a)]) (fun _=>[]) (fun a=>l.length-a) (fun a=>a<=l.length) ?_ 0 (agm _);intro a ac;apply aZ<;>intro m
    ·have d:a<l.length:=e1▸ee m;have P:a<i.length:=om;obtain⟨ae,u,q⟩:=h.get d;obtain⟨ab,w,f⟩:=M.get P;have J:=dJ (ags d);obtain⟨V,x,o,W,f2,rfl⟩:=q.cZ;obtain⟨O,E,k,Q,f3,rfl⟩:=f.cZ;have R:nth els a=some [.int .i64 (agj V),.str x,.str o,W,f2]:=by rw[ck];exact u
     have t:nth wl a=some [.int .i64 (agj O),.str E,.str k,Q,f3]:=by rw[ck];exact w
     refine bZ Z ?_;refine cc _ R ?_;refine bZ Z ?_;refine cc _ t ?_;refine y l[a] i[a] [.int .i64 (agj V),.str x,.str o,W,f2] [.int .i64 (agj O),.str E,.str k,Q,f3] om q f (fun g j=>?_);apply aZ<;>intro Y
     ·have S:g=false:=sh Y;refine a8 0 ⟨Z,gR fun e=>?_⟩;have:=j (by subst e;rfl);rw[S]at this;cases this
     ·exact⟨a+1,d,iK,.eP 0 [],Z,Z⟩
    ·exact Iw
def M7(n:Nat)(f:EqI n){b a:FE}{t e:Ty}(i:ct t<=n)(q:eZ t b.ty)(k:eZ e a.ty):b4 C ca hJ [fw b,fw a] [] fun s c=>c=[]/\Ij (b.n=a.n/\b.o=a.o/\t=e) s:=by
 refine cm ?_;apply aZ<;>intro o
 ·repeat refine de ?_
  apply aZ<;>intro l
  ·repeat refine de ?_
   refine f t e b.ty a.ty i q k (fun w p=>?_);repeat refine de ?_
   exact a8 0 ⟨Z,w,fun h=>p h.2.2,Z⟩
  ·repeat refine de ?_
   exact a8 0 ⟨Z,gR fun d=>of_decide_eq_false l d.2.1⟩
 ·repeat refine de ?_
  exact a8 0 ⟨Z,gR fun d=>of_decide_eq_false o d.1⟩
theorem M8(n:Nat)(z:EqI n)(ac:n<4294967295){l d:List oG}(aa:cy (ea l)<=n)(A:ll l B)(k:ll d L):b4 C ca oD [.d B,.d L,.fn hJ [] []] [] fun p i=>i=[]/\Ij (l=d) p:=by
 have F:=dA (ea l);have I:(ea l).length=l.length:=by simp[ea]
 refine cm ?_;cases A with
 |nil=>
  cases k with
  |nil=>
   refine cd.loop ?_;exact Iw
  |ps h=>
   rename_i els;have e1:=h.len;rcases els with _|⟨W,y⟩
   ·refine cd.loop ?_;exact Iw
   ·exact a8 0 ⟨Z,gR fun e=>by rw[<-e]at e1;simp at e1⟩
 |ps h=>
  rename_i J G f els;have e1:=h.len;cases k with
  |nil=>
   rcases els with _|⟨W,y⟩
   ·refine cd.loop ?_;exact Iw
   ·exact a8 0 ⟨Z,gR fun e=>by rw[e]at e1;simp at e1⟩
  |ps t=>
   rename_i q Q b wl;have e2:=t.len;apply aZ<;>intro hc
   ·exact Vw
   ·have m:els.length=wl.length:=by
     exact XL
    refine cD (dB:=[(1,.d (.ps q Q 7 b wl)),(2,.fn hJ [] []),(15,.d (.ps J G 7 f els)),(16,b5 els.length),(17,b5 0)]) ?_;refine cd.iter (fun a:Nat=>[(1,.d (.ps q Q 7 b wl)),(2,.fn hJ [] []),(15,.d (.ps J G 7 f els)),(16,b5 els.length),(17,b5 a)]) (fun _=>[]) (fun a=>l.length-a) (fun a=>a<=l.length) ?_ 0 (agm _);intro a ab;apply aZ<;>intro j
    ·have c:a<l.length:=e1▸ee j;have w:a<d.length:=om;obtain⟨U,v,M,R,S⟩:=h.get c;obtain⟨V,r,E,T,O⟩:=t.get w;have N:ct l[a].2.1<=cy (ea l):=dJ (List.mem_map_of_mem (ags c));have x:nth els a=some (fe U):=by rw[ck];exact v
     have o:nth wl a=some (fe V):=by rw[ck];exact r
     refine bZ Z ?_;refine cc _ x ?_;refine bZ Z ?_;refine cc _ o ?_;refine b4.closed (P:=fun p=>Ij (U.n=V.n/\U.o=V.o/\l[a].2.1=d[a].2.1) p) (args:=[fw U,fw V]) ((M7 n z om S O).mono fun p i h=>⟨h.1,by obtain⟨s,_,e⟩:=h.2;rw[e];try rfl,h.2⟩) Z (fun p u=>?_);obtain⟨s,g,rfl⟩:=u;apply aZ<;>intro Y
     ·have K:s=false:=sh Y;refine a8 0 ⟨Z,gR fun e=>?_⟩;have:=g (by subst e;exact⟨M.symm.trans E,R.symm.trans T,rfl⟩);rw[K]at this;cases this
     ·exact⟨a+1,c,iK,.eP 0 [],Z,Z⟩
    ·exact Iw
theorem Q0(n:Nat)(E:EqI n)(D:n<4294967295)(t r:Ty)(j w:cH)(ht:ct t<=n+1)(Q:eZ t j)(K:eZ r w):b4 C ca gz [.agg (j.map V.d),.agg (w.map V.d)] [] fun i f=>f=[]/\Ij (t=r) i:=by
 cases Q with
 |mk X T=>
  rename_i H I v e a F G;cases K with
  |mk O q=>
   rename_i z B u k b y A;have g:cy e+qa a<=n:=by simp only[ct]at ht;omega
   have Y:=nE a;refine cm ?_;apply aZ<;>intro s
   ·have m:=AJ s;repeat refine de ?_
    apply aZ<;>intro R
    ·repeat refine de ?_
     apply aZ<;>intro W
     ·repeat refine de ?_
      refine b4.closed (P:=fun i=>Ij (e=k) i) ((QZ n E D om X O).mono fun i f h=>⟨h.1,by obtain⟨S,_,c⟩:=h.2;rw[c];try rfl,h.2⟩) Z (fun i l=>?_);obtain⟨o,M,rfl⟩:=l;repeat refine de ?_
      apply aZ<;>intro p
      ·have d:o=true:=p;subst d;repeat refine de ?_
       refine b4.closed (P:=fun i=>Ij (a=b) i) ((M8 n E D om T q).mono fun i f h=>⟨h.1,by obtain⟨S,_,c⟩:=h.2;rw[c];try rfl,h.2⟩) Z (fun i l=>?_);obtain⟨U,x,rfl⟩:=l;repeat refine de ?_
       exact a8 0 ⟨Z,U,fun c=>x (by cases c;rfl),Z⟩
      ·have d:o=false:=p;subst d;repeat refine de ?_
       exact a8 0 ⟨Z,gR fun c=>absurd (M (by cases c;rfl)) dc⟩
     ·repeat refine de ?_
      exact a8 0 ⟨Z,gR fun c=>of_decide_eq_false W (by cases c;rfl)⟩
    ·repeat refine de ?_
     exact a8 0 ⟨Z,gR fun c=>of_decide_eq_false R (by cases c;rfl)⟩
   ·repeat refine de ?_
    exact a8 0 ⟨Z,gR fun c=>of_decide_eq_false s (by cases c;rfl)⟩
theorem OJ:∀b,b<4294967296->EqI b:=by
 intro b;induction b with
 |zero=>intro _ e n q d h;have:=gO e;omega
 |succ b o=>
  intro O e n q d ht c a M R l;have i:=Q0 b (o om) om e n q d ht c a;obtain⟨U,V,w,S,T,rfl⟩:=c.cZ;obtain⟨D,Q,t,C,K,rfl⟩:=a.cZ;exact b4.closed (P:=fun f=>Ij (e=n) f) (i.mono fun f s h=>⟨h.1,by obtain⟨x,_,p⟩:=h.2;rw[p];try rfl,h.2⟩) Z (fun f ⟨E,k,p⟩=>by rw[p];exact l E k)
variable{m:jX} {N u:cH}
def eK(h:rs m u):∃i a q x t f1 s b l w f2 k c e n f3 D C f d o t4 p d4,tG m.ps i/\eZ m.lo (eQ a q x t f1)/\eZ m.up (eQ s b l w f2)/\eZ m.ty (eQ k c e n f3)/\je m.ex [.int .i64 (agj D),.str C,.str f,.str d,.int .i64 o,t4,p,d4]/\u=mR m.k m.n m.exp m.wj m.note i (eQ a q x t f1) (eQ s b l w f2) (eQ k c e n f3) [.int .i64 (agj D),.str C,.str f,.str d,.int .i64 o,t4,p,d4] m.m m.tg:=by
 obtain⟨i,lo,Q,ty,ex,P,E,O,K,M,rfl⟩:=h;obtain⟨a,q,x,t,f1,rfl⟩:=E.cZ;obtain⟨s,b,l,w,f2,rfl⟩:=O.cZ;obtain⟨k,c,e,n,f3,rfl⟩:=K.cZ;obtain⟨D,C,f,d,o,t4,p,d4,rfl⟩:=M.eight;exact⟨i,a,q,x,t,f1,s,b,l,w,f2,k,c,e,n,f3,D,C,f,d,o,t4,p,d4,P,E,O,K,M,Z⟩
def zA(a:jX)(O:cH)(k:rs a O)(j:ct a.lo<4294967295/\ct a.up<4294967295):b4 C ca uT [.agg (O.map V.d)] [] fun P d=>d=[]/\Ij (a.lo=a.up/\a.up=a.ty) P:=by
 obtain⟨S,l,D,K,E,f1,f,b,i,h,f2,s,o,q,w,f3,T,m,R,Q,X,t4,Y,d4,U,n,c,t,W,rfl⟩:=eK k;refine cm ?_;refine OJ (ct a.lo) om a.lo a.up (eQ l D K E f1) (eQ f b i h f2) (ago _) n c (fun g p=>?_);cases g with
 |true=>
  refine OJ (ct a.up) om a.up a.ty (eQ f b i h f2) (eQ s o q w f3) (ago _) c t (fun x e=>?_);exact a8 0 ⟨Z,x,fun M=>e M.2,Z⟩
 |false=>
  exact a8 0 ⟨Z,gR fun M=>absurd (p M.1) dc⟩
def lX:List mM->Nat
 |[]=>0
 |p::a=>ct p.b+lX a
def zB(a b:List mM):lX (a++b)=lX a+lX b:=by
 induction a with
 |nil=>simp[lX]
 |cons d a c=>simp only[agJ,lX,c];omega
open Classical in
noncomputable def iw(a:jX):Nat:=1+a.ps.length+(if a.k=0 then ct a.ty+(if a.lo=a.up/\a.up=a.ty then 0 else ct a.lo+ct a.up)else if a.k=1 then ct a.ty+cP a.ex+lX a.ps else 0)
noncomputable def gL(l:List jX):Nat:=(l.map iw).sum
noncomputable def Bk(a:FO):Nat:=1+a.is.length+gL a.ds
def DO(a b:List jX):gL (a++b)=gL a+gL b:=by simp[gL]
def vp(l:List jX):l.length<=gL l:=by
 induction l with
 |nil=>simp[gL]
 |cons a l c=>
  have:gL (a::l)=iw a+gL l:=by simp[gL]
  have b:1+a.ps.length<=iw a:=by rw[iw];omega
  simp only[agn];omega
def FY{l:List mM}(h:v<l.length):lX (l.take (v+1))=lX (l.take v)+ct l[v].b:=by
 rw[agv,agl h,zB];simp[lX]
def Ce(l:List mM)(a:Nat):lX (l.take a)<=lX l:=by
 have h:=zB (l.take a) (l.drop a);rw[agE]at h;omega
def FZ{l:List jX}(h:v<l.length):gL (l.take (v+1))=gL (l.take v)+iw l[v]:=by
 rw[agv,agl h,DO];simp[gL]
def Cf(l:List jX)(a:Nat):gL (l.take a)<=gL l:=by
 have h:=DO (l.take a) (l.drop a);rw[agE]at h;omega
def oh.get{l:List jX}{els:List cH}(h:oh l els){i:Nat}(hi:i<l.length):∃d,els[i]?=some d/\rs l[i] d:=by
 exact NH
def vb.get{l:List mM}{els:List cH}(h:vb l els){i:Nat}(hi:i<l.length):∃d,els[i]?=some d/\HF l[i] d:=by
 exact NH
def wr0{a b:Nat}(h:a<4611686018427387904)(c:a=b):IntKind.i64.wrap (1+agj a)=agj (1+b):=by
 subst c;exact c4 (a:=1) om
def wr1{a b:Nat}(h:a+b<4611686018427387904):IntKind.i64.wrap (agj a+IntKind.i64.wrap (1+agj b))=agj (a+(1+b)):=by
 rw[wr0 om rfl,c4 om]
def zC(a:jX):1+a.ps.length<=iw a:=by rw[iw];omega
def KE(a:m.k=0)(h:m.lo=m.up/\m.up=m.ty):iw m=1+m.ps.length+ct m.ty:=by rw[iw,if_pos a,if_pos h];omega
def DP(a:m.k=0)(h:¬(m.lo=m.up/\m.up=m.ty)):iw m=1+m.ps.length+(ct m.ty+(ct m.lo+ct m.up)):=by rw[iw,if_pos a,if_neg h]
def wh(a:m.k=1):iw m=1+m.ps.length+(ct m.ty+cP m.ex+lX m.ps):=by rw[iw,if_neg om,if_pos a]
def AE(a:m.k=0):1+m.ps.length+ct m.ty<=iw m/\ct m.lo<=iw m/\ct m.up<=iw m:=by
 by_cases h:m.lo=m.up/\m.up=m.ty
 ·rw[KE a h,h.1,h.2];omega
 ·rw[DP a h];omega
def adi(b o c:Nat)(a:List cH)(d:Nat×Nat):Tm:=[(3,b5 d.2),(13,.d (.ps b o 31 c a)),(14,b5 a.length),(15,b5 d.1)]
def inT(b o c:Nat)(a:List cH)(i e f d:Nat)(es:List cH)(h:Nat×Nat):Tm:=[(3,b5 h.2),(13,.d (.ps b o 31 c a)),(14,b5 a.length),(15,b5 i),(58,.d (.ps e f 7 d es)),(59,b5 es.length),(60,b5 h.1)]
theorem KF(H:FO)(aJ:cH)(aS:At H aJ)(aY:Bk H<1073741824)(z:∀x∈H.ds,x.k=1->ej x.ex):b4 C ca oN [.agg (aJ.map V.d)] [] fun ae y=>y=[]/\∃f,f<=Bk H/\ae=.ret (b5 f):=by
 obtain⟨Q,am,o,O,rfl⟩:=aS;have ay:∃aA,aA=H.is.length:=⟨_,rfl⟩;obtain⟨bs,e,a⟩:=H;have bc:1+e.length+gL a<1073741824:=aY;have z:∀x∈a,x.k=1->ej x.ex:=z;have be:=vp a;have o:wY e Q:=o;have O:zn a am:=O;have i:∃l:Nat,l=e.length/\((Q=.ci/\l=0)∨∃U X c,Q=.ps U X 2 c (e.map fF)):=by
  cases o with
  |nil=>exact⟨0,rfl,.inl ⟨rfl,rfl⟩⟩
  |ps=>exact⟨_,rfl,.inr ⟨_,_,_,rfl⟩⟩
 clear o;obtain⟨l,aj,o⟩:=i;have s:∀aw,aw=l->IntKind.i64.wrap (1+agj aw)=agj (1+l):=fun aw W=>wr0 om W;rcases o with⟨rfl,g⟩|⟨bw,bl,bn,rfl⟩;all_goals
  refine cm ?_;cases O with
  |nil=>
   refine cd.loop ?_;refine a8 0 ⟨Z,1+l,by show 1+l<=1+e.length+_;omega,?_⟩;refine congrArg (fun x=>cO.ret (V.d (D.int .i64 x))) ?_;first
    |exact s 0 g.symm
    |exact s _ (by rw[agw];exact aj.symm)
  |ps h ax=>
   rename_i U X c k;have v:=h.len;refine cd.less (dB:=adi U X c k (0,1+l)) ⟨by first|exact int_eq (s 0 g.symm)|exact int_eq (s _ (by rw[agw];exact aj.symm)),Z,Z,Z,tv⟩ ?_;refine cd.iter (adi U X c k) (fun _=>_) (fun x=>a.length-x.1) (fun x=>x.1<=a.length/\x.2<=1+l+gL (a.take x.1)) ?_ (0,1+l) ⟨agm _,Nat.le_add_right _ _⟩;rintro⟨d,f⟩ ⟨G,F⟩;have bo:d<=a.length:=G;have au:f<=1+l+gL (a.take d):=F;have bg:=Cf a d;apply aZ<;>intro aa
   ·have b:d<a.length:=v▸ee aa;have ab:=FZ b;have az:=Cf a (d+1);obtain⟨aJ,aE,E⟩:=h.get b;obtain⟨x,j⟩:∃x,x=a[d]:=⟨_,rfl⟩;have an:x.k=1->ej x.ex:=by rw[j];exact z _ (ags b)
    rw[<-j]at E ab;obtain⟨ps,aT,aQ,aM,aL,f1,aF,aU,aN,aR,f2,ah,af,ag,ap,f3,bx,bp,bz,bq,br,t4,bm,d4,h1,aO,aD,ai,aI,rfl⟩:=eK E;have aq:=(ck k d).trans aE;have K:∃P:Nat,P=x.ps.length/\((ps=.ci/\P=0)∨∃U X c n,ps=.ps U X 7 c n/\vb x.ps n/\n.length=P):=by
     exact Vv
    obtain⟨P,A,K⟩:=K;have bj:P<1073741824:=by
     have:=zC x;omega
    have q:∀p,p=P->IntKind.i64.wrap (agj f+IntKind.i64.wrap (1+agj p))=agj (f+(1+P)):=fun p W=>by
     subst W;exact wr1 om
    refine bZ Z ?_;refine cc _ aq ?_;rcases K with⟨rfl,t⟩|⟨ar,ac,N,n,rfl,r,w⟩;all_goals
     apply aZ<;>intro aH
     ·have m:x.k=0:=AJ (b:=0) aH;obtain⟨al,bh,ba⟩:=AE m;rw[<-A]at al;refine nF x.ty (eQ ah af ag ap f3) ai om ?_;refine b4.closed (P:=fun ae=>Ij (x.lo=x.up/\x.up=x.ty) ae) ((zA x _ E ⟨om,om⟩).mono fun ae y h=>⟨h.1,by obtain⟨aV,_,W⟩:=h.2;rw[W];try rfl,h.2⟩) Z (fun ae aX=>?_);obtain⟨bu,J,rfl⟩:=aX;apply aZ<;>intro ht
      ·have L:¬(x.lo=x.up/\x.up=x.ty):=fun W=>by rw[J W]at ht;cases ht
       have S:=DP m L;rw[<-A]at S;repeat refine ch ?_
       refine nF x.lo (eQ aT aQ aM aL f1) aO om ?_;repeat refine ch ?_
       refine nF x.up (eQ aF aU aN aR f2) aD om ?_;repeat refine ch ?_
       exact⟨(d+1,f+(1+P)+ct x.ty+(ct x.lo+ct x.up)),⟨b,by show _<=1+l+gL (a.take (d+1));omega⟩,iK,.pick 0 [0] ⟨int_eq (by rw[q _ (by first|exact t.symm|exact w),c4 om,c4 om,c4 om]),Z,Z,int_eq (cp om),tv⟩ Z Z Z Z Z dc ⟨Z,Z,tv⟩,Z,Z⟩
      ·exact⟨(d+1,f+(1+P)+ct x.ty),⟨b,by show _<=1+l+gL (a.take (d+1));omega⟩,iK,.pick 0 [0] ⟨int_eq (by rw[q _ (by first|exact t.symm|exact w),c4 om]),Z,Z,int_eq (cp om),tv⟩ Z Z Z Z Z dc ⟨Z,Z,tv⟩,Z,Z⟩
     ·apply aZ<;>intro ao
      ·have T:x.k=1:=AJ (b:=1) ao;have S:=wh T;rw[<-A]at S;repeat refine ch ?_
       refine nF x.ty (eQ ah af ag ap f3) ai om ?_;repeat refine ch ?_
       refine DL x.ex _ aI (an T) om ?_;repeat refine ch ?_
       have u:∀p,p=P->IntKind.i64.wrap (IntKind.i64.wrap (agj f+IntKind.i64.wrap (1+agj p))+IntKind.i64.wrap (agj (ct x.ty)+agj (cP x.ex)))=agj (f+(1+P)+(ct x.ty+cP x.ex)):=fun p W=>by
        rw[q p W,c4 om,c4 om]
       first
        |refine cd.loop ?_
         exact⟨(d+1,f+(1+P)+(ct x.ty+cP x.ex)),⟨b,by show _<=1+l+gL (a.take (d+1));omega⟩,iK,.pick 0 [0] ⟨int_eq (u _ t.symm),Z,Z,int_eq (cp om),tv⟩ Z Z Z Z Z dc ⟨Z,Z,tv⟩,Z,Z⟩
        |refine cd.less (dB:=inT U X c k d ar ac N n (0,f+(1+P)+(ct x.ty+cP x.ex))) ⟨int_eq (u _ w),rfl,rfl,rfl,rfl,rfl,rfl,tv⟩ ?_
         refine cd.iter (inT U X c k d ar ac N n) (fun _=>_) (fun ak=>x.ps.length-ak.1) (fun ak=>ak.1<=x.ps.length/\ak.2=f+(1+P)+(ct x.ty+cP x.ex)+lX (x.ps.take ak.1)) ?_ (0,f+(1+P)+(ct x.ty+cP x.ex)) ⟨agm _,Z⟩;rintro⟨M,R⟩ ⟨G,F⟩;have o:M<=x.ps.length:=G;have bk:R=f+(1+P)+(ct x.ty+cP x.ex)+lX (x.ps.take M):=F;have aW:=Ce x.ps M;have B:=r.len;apply aZ<;>intro ad
         ·have i:M<x.ps.length:=B▸ee ad;have bf:=FY i;have aP:=Ce x.ps (M+1);obtain⟨bv,aK,aV,Y,rfl⟩:=r.get i;obtain⟨aG,aB,aC,av,f7,rfl⟩:=Y.cZ;have I:=(ck n M).trans aK;refine bZ Z ?_;refine cc _ I ?_;refine nF x.ps[M].b (eQ aG aB aC av f7) Y om ?_;exact⟨(M+1,R+ct x.ps[M].b),⟨i,by show R+ct x.ps[M].b=_+lX (x.ps.take (M+1));omega⟩,iK,.pick 0 [0,1] ⟨int_eq (c4 om),Z,Z,Z,Z,Z,int_eq (cp om),tv⟩ Z Z Z Z Z dc ⟨Z,Z,Z,Z,tv⟩,Z,Z⟩
         ·exact⟨(d+1,R),⟨b,by show R<=1+l+gL (a.take (d+1));omega⟩,iK,.eP 0 [0],Z,Z⟩
      ·exact⟨(d+1,f+(1+P)),⟨b,by show _<=1+l+gL (a.take (d+1));have:=zC x;omega⟩,iK,.pick 0 [0] ⟨int_eq (by rw[q _ (by first|exact t.symm|exact w)]),Z,Z,int_eq (cp om),tv⟩ Z Z Z Z Z dc ⟨Z,Z,tv⟩,Z,Z⟩
   ·refine a8 0 ⟨Z,f,?_,Z⟩;have b:a.length<=d:=v▸dq aa;rw[agr b]at au;show f<=1+e.length+gL a;omega
def pv(b a:vY):Bool:=decide (a.p=b.p)||decide (a.a=b.a)
def mT(a:cq):List vY->List vY->Nat
 |_,[]=>0
 |done,b::c=>if b.p=a then 14 else if done.any (pv b)then 5 else mT a (done++[b]) c
def mN(a:FO):Nat:=if 16<a.is.length∨64<a.ds.length then 7 else mT a.p [] a.is
theorem KG(f:vY)(a:List vY)(D:a.length<4294967296)(b o c:Nat):b4 C ca ir [.d (.ps b o 2 c (a.map fF)),.fn jB [] [.bp 0 0]] [.box [cn f.p,cn f.a]] fun x s=>∃i,s=[.box i]/\cM x=true/\fu 0 i=true/\(x=.ret (b6 (a.any (pv f)))/\i=[cn f.p,cn f.a]):=by
 have l:(a.map fF).length=a.length:=agw _;refine cm ?_;refine cj ?_;refine cD (dB:=[(0,.d (.ps b o 2 c (a.map fF))),(1,.fn jB [] [.bp 0 0]),(7,b5 (a.map fF).length),(8,b5 0)]) ?_;refine cd.iter (fun e:Nat=>[(0,.d (.ps b o 2 c (a.map fF))),(1,.fn jB [] [.bp 0 0]),(7,b5 (a.map fF).length),(8,b5 e)]) (fun _=>[.box [cn f.p,cn f.a]]) (fun e=>a.length-e) (fun e=>e<=a.length/\(a.take e).any (pv f)=false) ?_ 0 ⟨agm _,Z⟩;rintro e ⟨E,n⟩;apply aZ<;>intro h
 ·have d:e<a.length:=l▸ee h;have t:nth (a.map fF) e=some (fF a[e]):=by rw[ck,agB,agl d];try rfl
  refine bZ Z ?_;refine cc _ t ?_;refine cj ?_;have k:pv f a[e]=true->a.any (pv f)=true:=fun h=>List.any_eq_true.2 ⟨_,ags d,h⟩;apply aZ<;>intro q
  ·repeat refine de ?_
   refine a8 1 ⟨_,Z,Z,Z,?_,Z⟩;rw[k (by simp only[pv,show decide (a[e].p=f.p)=true from q,Bool.true_or])];rfl
  ·repeat refine de ?_
   apply aZ<;>intro p
   ·refine a8 1 ⟨_,Z,Z,Z,?_,Z⟩;rw[k (by simp only[pv,show decide (a[e].a=f.a)=true from p,Bool.or_true])];rfl
   ·refine⟨e+1,⟨d,?_⟩,iK,.eP 1 [0],Z,Z⟩;rw[agv,agl d,List.any_append,n];simp only[Option.toList,List.any_cons,List.any_nil,Bool.or_false,Bool.false_or,pv,show decide (a[e].p=f.p)=false from q,show decide (a[e].a=f.a)=false from p]
 ·have d:a.length<=e:=l▸dq h;rw[agr d]at n;refine a8 1 ⟨_,Z,Z,Z,?_,Z⟩;rw[n];try rfl
variable{z:List cH}
def K4(d:vY)(e:List vY)(he:z=e.map fF)(k:e.length<4294967296)(b o c h:Nat)(a:nth j h=some (.box [cn d.p,cn d.a]))(f:g (.ret (b6 (e.any (pv d)))) j):b4 C ca ir [.d (.ps b o 2 c z),.fn jB [] [.bp h 0]] j g:=by
 subst he;exact b4.one (dM:=[.d (.ps b o 2 c (e.map fF)),.fn jB [] [.bp 0 0]]) (P:=fun n i=>n=.ret (b6 (e.any (pv d)))/\i=[cn d.p,cn d.a]) (KG d e k b o c) h a Z Z Z (fun n p ⟨q,l⟩=>by rw[q,l,u3 a];exact f)
theorem M9(t:FO)(m:cH)(K:At t m)(u:Bk t<=4096)(r:∀p∈t.ds,p.k=1->ej p.ex)(T:fV t.p=true)(Q:∀p∈t.is,fV p.p=true/\cK p.a=true):b4 C ca EJ [.agg (m.map V.d)] [] fun M w=>w=[]/\M=.ret (b5 (mN t)):=by
 have O:=KF t m K om r;have XD:∀s,fV s=true->s.length<=64:=fun s h=>by
  simp only[fV,agx,decide_eq_true_eq]at h;exact h.2.1
 obtain⟨e,f,hi,d,rfl⟩:=K;obtain⟨mp,lY,nL⟩:=t;have hi':(e=.ci/\lY=[])∨∃b o c,lY.length<=c/\e=.ps b o 2 c (lY.map fF):=by
  revert hi;intro hi;have hi:wY lY e:=hi;cases hi with
  |nil=>exact .inl ⟨rfl,rfl⟩
  |ps v=>exact .inr ⟨_,_,_,v,rfl⟩
 have a:(f=.ci/\nL=[])∨∃b o c els,f=.ps b o 31 c els/\els.length=nL.length:=by
  have d:zn nL f:=d;cases d with
  |nil=>exact .inl ⟨rfl,rfl⟩
  |ps h _=>exact .inr ⟨_,_,_,_,rfl,h.len⟩
 have hH:mN ⟨mp,lY,nL⟩=if 16<lY.length∨64<nL.length then 7 else mT mp [] lY:=rfl
 have B:lY.length<4096:=by have:1+lY.length+gL nL<=4096:=u;omega
 clear hi d;have z:mp.length<=64:=XD mp T;have hp':fV mp=true:=T;have adw:∀p∈lY,fV p.p=true/\cK p.a=true:=Q;have abI:∀{x:VS} {X:cO->VS->Prop},(∀n,n<=4096->X (.ret (b5 n)) x)->b4 C ca oN [.agg ([D.str mp,e,f].map V.d)] x X:=fun{x} {X} g=>
  b4.closed (P:=fun M=>∃n,n<=4096/\M=.ret (b5 n)) (O.mono fun M w h=>⟨h.1,by obtain⟨n,_,E⟩:=h.2;rw[E];try rfl,by obtain⟨n,A,E⟩:=h.2;exact⟨n,om,E⟩⟩) rfl (fun M ⟨n,A,E⟩=>by rw[E];exact g n A)
 have q:∀y:List cH,y.length=nL.length->¬64<nL.length->decide (64<agj y.length)=false:=fun y E h=>by rw[E];exact decide_eq_false (by simp only[agk];omega)
 have S:¬16<lY.length->decide (16<agj (lY.map fF).length)=false:=fun h=>by rw[agw];exact decide_eq_false (by simp only[agk];omega)
 rcases hi' with⟨rfl,hmi⟩|⟨b,o,c,j,rfl⟩
 ·have l:¬16<lY.length:=by rw[hmi];decide
  rcases a with⟨rfl,k⟩|⟨W,R,U,els,rfl,Bm⟩
  ·have h64:¬64<nL.length:=by rw[k];decide
   exact Ys
  ·by_cases h64:64<nL.length
   ·exact Yx
   ·have Io:=q els Bm h64;exact Ys
 ·by_cases l:16<lY.length
  ·have Y:decide (16<agj (lY.map fF).length)=true:=by rw[agw];exact decide_eq_true (by simp only[agk];omega)
   rcases a with⟨rfl,k⟩|⟨W,R,U,els,rfl,Bm⟩;all_goals
    refine cm ?_;refine lH mp om ?_;refine a7 (by rw[hp'];try rfl) ?_;repeat refine de ?_
    exact a8 0 ⟨Z,by rw[hH,if_pos (.inl l)];try rfl⟩
  ·have Y:=S l;rcases a with⟨rfl,k⟩|⟨W,R,U,els,rfl,Bm⟩
   ·have h64:¬64<nL.length:=by rw[k];decide
    exact X7
   ·by_cases h64:64<nL.length
    ·exact Yx
    ·have Io:=q els Bm h64;exact X7
def ZY(b:Prop)(c:cO):Prop:=∃a:Bool,(b->a=false)/\c=.ret (b6 a)
theorem ZY.closed{b:Prop}{a:cO}(h:ZY b a):cM a=true:=by obtain⟨d,_,c⟩:=h;rw[c];try rfl
variable{G:FuncId}
def adj(W:Prop){l:List mM}(x:(C.ff.get G).isSome=true)(M:∀p∈l,∀P,HF p P->∀{w:VS} {X:cO->VS->Prop},(∀o:Bool,(W->o=false)->X (.ret (b6 o)) w)->b4 C ca G [.agg (P.map V.d)] w X)(r:l.length<4294967296){ps:D}(h:tG l ps):b4 C ca iI [.d ps,.fn G [] []] [] fun j s=>s=[]/\ZY W j:=by
 refine cm ?_;refine cj ?_;cases h with
 |nil=>
  refine cd.loop ?_;exact a8 0 ⟨Z,false,fun _=>Z,Z⟩
 |ps h=>
  rename_i o Y c a;have i:=h.len;refine cD (dB:=[(0,.d (.ps o Y 7 c a)),(1,.fn G [] []),(7,b5 a.length),(8,b5 0)]) ?_;refine cd.iter (fun b:Nat=>[(0,.d (.ps o Y 7 c a)),(1,.fn G [] []),(7,b5 a.length),(8,b5 b)]) (fun _=>[]) (fun b=>l.length-b) (fun b=>b<=l.length) ?_ 0 (agm _);intro b u;apply aZ<;>intro U
  ·have d:b<l.length:=i▸ee U;obtain⟨P,T,f⟩:=h.get d;have k:=(ck a b).trans T;obtain⟨m,e,rfl⟩:=f;obtain⟨O,Q,R,K,f7,rfl⟩:=e.cZ;refine bZ Z ?_;refine cc _ k ?_;refine cg x ?_;refine M l[b] (ags d) [.str l[b].n,.int .i64 (agj l[b].vr),.int .i64 (agj O),.str Q,.str R,K,f7] ⟨_,e,Z⟩ (fun S t=>?_);apply aZ<;>intro E
   ·have n:S=true:=E;exact a8 0 ⟨Z,_,fun q=>absurd (t q) (by rw[n];decide),Z⟩
   ·exact⟨b+1,d,iK,.eP 0 [],Z,Z⟩
  ·exact a8 0 ⟨Z,false,fun _=>Z,Z⟩
def sd(c:Prop){l:List mM}(b:(C.ff.get G).isSome=true)(i:∀p∈l,∀k,HF p k->∀{j:VS} {g:cO->VS->Prop},(∀a:Bool,(c->a=false)->g (.ret (b6 a)) j)->b4 C ca G [.agg (k.map V.d)] j g)(e:l.length<4294967296)(h:tG l B)(d:∀a:Bool,(c->a=false)->g (.ret (b6 a)) j):b4 C ca iI [.d B,.fn G [] []] j g:=
 b4.closed (P:=ZY c) ((adj c b i e h).mono fun q n h=>⟨h.1,h.2.closed,h.2⟩) rfl (fun q ⟨a,f,o⟩=>by rw[o];exact d a f)
structure wE (x:jX):Prop where
 lo:ft x.lo
 up:ft x.up
 ty:ft x.ty
 ex:ej x.ex
 ps:∀p∈x.ps,ft p.b/\dX p.n=true
 pl:x.ps.length<4294967296
 flags:(x.wj=true->x.exp=true)/\(x.note≠[]->x.wj=true)
 kind:(x.k=0/\dX x.n=true/\x.ex=oe/\x.m=[]/\x.tg=[]/\∀p∈x.ps,p.b=cV/\p.vr<=2)∨(x.k=1/\cK x.n=true/\x.lo=cV/\x.up=cV/\x.m=[]/\x.tg=[]/\∀p∈x.ps,p.vr=0)∨(x.k=2/\x.ps=[]/\x.lo=cV/\x.up=cV/\x.ty=cV/\x.ex=oe/\cK x.m=true/\(cK x.n=true∨dX x.n=true)/\(cK x.tg=true∨dX x.tg=true))
theorem OR{p:mM}(f:HF p u)(c:∀b:Bool,(p.b=cV->b=false)->g (.ret (b6 b)) j):b4 C ca ww [.agg (u.map V.d)] j g:=by
 obtain⟨i,a,rfl⟩:=f;have k:∀{j:VS} {g:cO->VS->Prop},(∀b:Bool,(p.b=cV->b=true)->g (.ret (b6 b)) j)->b4 C ca jU [.agg (i.map V.d)] j g:=fun{j} {g} c=>by
  by_cases h:p.b=cV
  ·rw[h]at a;exact sX a (c true fun _=>Z)
  ·exact zu a fun b=>c b fun e=>absurd e h
 obtain⟨q,l,n,o,f7,rfl⟩:=a.cZ;refine b4.closed (P:=ZY (p.b=cV)) ?_ Z (fun s ⟨b,d,e⟩=>by rw[e];exact c b d);refine cm ?_;refine k (fun b d=>?_);exact a8 0 ⟨Z,Z,_,fun e=>by rw[d e];try rfl,Z⟩
def OS{p:mM}(c:HF p u)(d:∀b:Bool,(p.vr<=2->b=false)->g (.ret (b6 b)) j):b4 C ca wx [.agg (u.map V.d)] j g:=by
 obtain⟨l,a,rfl⟩:=c;obtain⟨o,f,i,k,f7,rfl⟩:=a.cZ;refine b4.closed (P:=ZY (p.vr<=2)) ?_ Z (fun q ⟨b,e,n⟩=>by rw[n];exact d b e);refine cm ?_;exact a8 0 ⟨Z,Z,_,fun h=>decide_eq_false (by simp only[agk];omega),Z⟩
theorem OT{p:mM}(c:HF p u)(d:∀b:Bool,(p.vr=0->b=false)->g (.ret (b6 b)) j):b4 C ca wy [.agg (u.map V.d)] j g:=by
 obtain⟨l,a,rfl⟩:=c;obtain⟨o,f,i,k,f7,rfl⟩:=a.cZ;refine b4.closed (P:=ZY (p.vr=0)) ?_ Z (fun q ⟨b,e,n⟩=>by rw[n];exact d b e);refine cm ?_;exact a8 0 ⟨Z,Z,_,fun h=>by rw[h];try rfl,Z⟩
theorem Xi{p:mM}(d:HF p u)(a:dX p.n=true)(e:∀c:Bool,(True->c=false)->g (.ret (b6 c)) j):b4 C ca yV [.agg (u.map V.d)] j g:=by
 obtain⟨n,b,rfl⟩:=d;obtain⟨q,h,i,l,f7,rfl⟩:=b.cZ;refine b4.closed (P:=ZY True) ?_ Z (fun s ⟨c,f,o⟩=>by rw[o];exact e c f);have k:p.n.length<=32:=by
  simp only[dX,agx,decide_eq_true_eq]at a;exact a.1.1.2
 refine cm ?_;refine ie p.n om ?_;exact a8 0 ⟨Z,Z,_,fun _=>by rw[a];try rfl,Z⟩
def xU(h:je oe u)(b:g (.ret (b6 true)) j):b4 C ca yU [.agg (u.map V.d)] j g:=by
 cases h with
 |mk ht d a=>
  have e:=ht.cS;subst e;rcases d.cS with rfl|⟨l,n,c,rfl⟩<;>rcases a.cS with rfl|⟨i,k,f,rfl⟩;all_goals
   refine cC ?_ Z Z b;exact Fa
theorem DQ{x:jX}{d:cH}(hd:rs x d)(i:wE x):b4 C ca qP [.agg (d.map V.d)] [] fun D e=>e=[]/\D=.ret (b6 true):=by
 obtain⟨ps,w,r,z,v,f1,u,E,U,y,f2,T,M,Q,X,f3,F,B,R,O,Y,t4,g,d4,h1,h2,h3,h4,h5,rfl⟩:=eK hd;have f:=i.flags;have hkd:=i.kind;have hpl:=i.pl;have hz:∀{σ:VS} {K:cO->VS->Prop} {A:Ty} {W m j P S},A=cV->eZ A (eQ W m j P S)->K (.ret (b6 true)) σ->b4 C ca jU [.agg ((eQ W m j P S).map V.d)] σ K:=fun{σ K A W m j P S} H h hk=>sX (H▸h) hk;have k:b4 C ca qP [.agg ((mR x.k x.n x.exp x.wj x.note ps (eQ w r z v f1) (eQ u E U y f2) (eQ T M Q X f3) [.int .i64 (agj F),.str B,.str R,.str O,.int .i64 Y,t4,g,d4] x.m x.tg).map V.d)] [] fun D e=>e=[]/\D=.ret (b6 true):=by
  refine cm ?_;have s:x.wj=false->x.note=[]:=fun h=>by
   by_cases n:x.note=[]
   ·exact n
   ·exact absurd (f.2 n) (by rw[h];decide)
  apply aZ<;>intro a
  ·have G:(!x.exp)=false:=by rw[f.1 a];try rfl
   have l:(!x.wj)=false:=by rw[show x.wj=true from a];try rfl
   repeat refine de ?_
   apply aZ<;>intro t
   ·exact Sa
   ·exact Sa
  ·have l:(!decide (x.note=[]))=false:=by rw[s a];try rfl
   exact Sa
 exact k
def iL(a:jX):Bool:=if a.k=2 then(cK a.n&&cK a.tg)||(dX a.n&&dX a.tg)else true
def nJ(h:dX r=true):r.length<=32:=by
 simp only[dX,agx,decide_eq_true_eq]at h;exact h.1.1.2
def nK(h:cK r=true):r.length<=32:=by
 simp only[cK,agx,decide_eq_true_eq]at h;exact h.1.1.1.2
theorem HT{x:jX}(f:rs x u)(k:wE x):b4 C ca Bz [.agg (u.map V.d)] [] fun O t=>t=[]/\O=.ret (b6 (iL x)):=by
 obtain⟨U,M,v,F,A,f1,z,P,X,B,f2,W,Q,S,j,f3,H,G,T,R,m,t4,r,d4,b,i,h3,h4,g,rfl⟩:=eK f;have o:=k.kind;have l:=k.pl;have w:=k.ps;refine cm ?_;refine sd True Z (fun p E u f {y J} a=>Xi f (w p E).2 a) l b (fun Y n=>?_);have s:=n trivial;subst s;rcases o with⟨a,mS,_⟩|⟨a,mS,_⟩|⟨a,_,_,_,_,_,hm,mS,q⟩
 ·have e:decide (agj x.k=0)=true:=by rw[a];try rfl
  have hT:iL x=true:=by rw[iL,if_neg om]
  repeat refine de ?_
  refine ie x.n (by have:=nJ mS;omega) ?_;exact a8 0 ⟨Z,by rw[mS,hT];try rfl⟩
 ·have e:decide (agj x.k=0)=false:=by rw[a];try rfl
  have D:decide (agj x.k=1)=true:=by rw[a];try rfl
  have hT:iL x=true:=by rw[iL,if_neg om]
  repeat refine de ?_
  refine ic x.n (by have:=nK mS;omega) ?_;exact a8 0 ⟨Z,by rw[mS,hT];try rfl⟩
 ·have e:decide (agj x.k=0)=false:=by rw[a];try rfl
  have D:decide (agj x.k=1)=false:=by rw[a];try rfl
  have hT:iL x=((cK x.n&&cK x.tg)||(dX x.n&&dX x.tg)):=by rw[iL,if_pos a]
  have hln:x.n.length<4294967296:=mS.elim (fun h=>by have:=nK h;omega) (fun h=>by have:=nJ h;omega);have Vo:x.tg.length<4294967296:=q.elim (fun h=>by have:=nK h;omega) (fun h=>by have:=nJ h;omega);repeat refine de ?_
  refine ic x.n hln ?_;have K:(!decide (x.m=[]))=true:=by
   have:x.m≠[]:=by rintro I;rw[I]at hm;revert hm;decide
   rw[decide_eq_false this];try rfl
  apply aZ<;>intro b
  ·have d:cK x.n=true:=b;repeat refine de ?_
   refine ic x.tg Vo ?_;repeat refine de ?_
   apply aZ<;>intro i
   ·have c:cK x.tg=true:=i;have hT2:iL x=true:=by rw[hT,d,c];try rfl
    repeat refine de ?_
    refine jf x.m (.inr hm) ?_;repeat refine de ?_
    exact a8 0 ⟨Z,by rw[hT2];try rfl⟩
   ·have c:cK x.tg=false:=i;exact Yh
  ·have d:cK x.n=false:=b;exact Yh
def vq(b a:jX):Bool:=decide (a.n=b.n)
variable{F:List jX}
theorem KH{d0:cH}(s:rs m d0)(w:oh F z)(aC:F.length<4294967296)(b o c:Nat):b4 C ca jb [.d (.ps b o 31 c z),.fn jC [] [.bp 0 0]] [.box (d0.map V.d)] fun B x=>∃e,x=[.box e]/\cM B=true/\fu 0 e=true/\(B=.ret (b6 (F.any (vq m)))/\e=d0.map V.d):=by
 have i:=w.len;obtain⟨M,X,Q,y,v,f1,S,Y,A,T,f2,O,E,K,r,f3,W,U,j,g,u,t4,P,d4,l,aA,aD,aB,aF,rfl⟩:=eK s;have k:=qW 0 (mR m.k m.n m.exp m.wj m.note M (eQ X Q y v f1) (eQ S Y A T f2) (eQ O E K r f3) [.int .i64 (agj W),.str U,.str j,.str g,.int .i64 u,t4,P,d4] m.m m.tg);refine cm ?_;refine cj ?_;refine cD (dB:=[(0,.d (.ps b o 31 c z)),(1,.fn jC [] [.bp 0 0]),(7,b5 z.length),(8,b5 0)]) ?_;refine cd.iter (fun d:Nat=>[(0,.d (.ps b o 31 c z)),(1,.fn jC [] [.bp 0 0]),(7,b5 z.length),(8,b5 d)]) (fun _=>_) (fun d=>F.length-d) (fun d=>d<=F.length/\(F.take d).any (vq m)=false) ?_ 0 ⟨agm _,Z⟩;rintro d ⟨aE,n⟩;apply aZ<;>intro h
 ·have a:d<F.length:=i▸ee h;obtain⟨aG,R,f⟩:=w.get a;obtain⟨D,p⟩:∃D,D=F[d]:=⟨_,rfl⟩;have q:D∈F:=p▸ags a;rw[<-p]at f;obtain⟨aa,an,ai,ad,ak,au,aj,aq,ag,N,av,G,am,al,H,aw,ap,az,af,ax,J,ae,ac,ay,ar,L,ab,ah,I,rfl⟩:=eK f;have t:=(ck z d).trans R;refine bZ Z ?_;refine cc _ t ?_;refine cj ?_;apply aZ<;>intro l
  ·refine a8 1 ⟨_,Z,Z,k,?_,Z⟩;rw[List.any_eq_true.2 ⟨D,q,l⟩];try rfl
  ·refine⟨d+1,⟨a,?_⟩,iK,.eP 1 [0],Z,Z⟩;rw[agv,agl a,List.any_append,n,<-p];simp only[Option.toList,List.any_cons,List.any_nil,Bool.or_false,Bool.false_or,vq];exact l
 ·have a:F.length<=d:=i▸dq h;rw[agr a]at n;refine a8 1 ⟨_,Z,Z,k,?_,Z⟩;rw[n];try rfl
def Na{k:jX}{d0:cH}(f:rs k d0){h:List jX}{a:List cH}(i:oh h a)(q:h.length<4294967296)(b o c n:Nat){e:VS}{t:cO->VS->Prop}(d:nth e n=some (.box (d0.map V.d)))(l:t (.ret (b6 (h.any (vq k)))) e):b4 C ca jb [.d (.ps b o 31 c a),.fn jC [] [.bp n 0]] e t:=
 b4.one (dM:=[.d (.ps b o 31 c a),.fn jC [] [.bp 0 0]]) (P:=fun w p=>w=.ret (b6 (h.any (vq k)))/\p=d0.map V.d) (KH f i q b o c) n d (qW 0 d0) rfl rfl (fun w x ⟨D,s⟩=>by rw[D,s,u3 d];exact l)
def zD(a:List cq)(b:cq):List cq:=if b∈a then a else a++[b]
def KI(l:List mM):List cq:=(l.map mM.n).foldl zD []
def tH:List Ty->Nat
 |[]=>0
 |t::a=>if k6 t then 7 else tH a
def ow(a:jX):List Ty:=[a.lo,a.up,a.ty]++a.ps.map mM.b
def wF(a:List jX)(b:jX):Nat:=
 if 8<b.ps.length∨65536<b.note.length then 7 else if iL b=false then 4 else if a.any (vq b)then 5 else if(KI b.ps).length<b.ps.length then 5 else if tH (ow b)≠0 then tH (ow b)else r9 b.ex
theorem UG:∀{a:List cq} {k i:Nat},r∈a->∃b,eN .string (cn r) (eC k a) i=some (some (i+b,b6 true))/\nR (eC k a) b (cn r) (b6 true)=eC k a:=by
 intro a;induction a with
 |nil=>intro k i h;simp at h
 |cons n l c=>
  intro k i h;by_cases f:r=n
  ·subst f;refine⟨0,?_,Z⟩;show(match decide (r=r)with
    |true=>some (some (i,b6 true))
    |false=>eN .string (cn r) (eC (k+1) l) (i+1))=_
   rw[decide_eq_true rfl];try rfl
  ·obtain⟨b,d,e⟩:=c (k:=k+1) (i:=i+1) (by simpa [f]using h);refine⟨b+1,?_,by show _::nR (eC (k+1) l) b (cn r) (b6 true)=_;rw[e];try rfl⟩;show(match decide (r=n)with
    |true=>some (some (i,b6 true))
    |false=>eN .string (cn r) (eC (k+1) l) (i+1))=_
   rw[decide_eq_false f,show i+(b+1)=i+1+b by omega];exact d
def UH(l:List cq):∀b,(eC b l).length=l.length:=by
 induction l with
 |nil=>intro b;rfl
 |cons c l a=>intro b;simp[eC,a]
def HU(l:List mM)(a:Nat):List cq:=((l.take a).map mM.n).foldl zD []
theorem Q1{l:List mM}(h:v<l.length):HU l (v+1)=zD (HU l v) l[v].n:=by
 rw[HU,agv,agl h,agF,List.foldl_append];try rfl
def AF(n w:Nat)(l:List cH):fW n (.row w (l.map fun a=>a.map V.d))=true:=by
 cases l with
 |nil=>rfl
 |cons b c=>exact gH n w (b::c)
def HV(f:Nat->Nat)(w:Nat)(l:List cH):hV f (.row w (l.map fun a=>a.map V.d))=.row w (l.map fun a=>a.map V.d):=fh _ _ (AF 0 w l)
theorem AG(f:Nat->Nat)(w:Nat)(l:List cH)(a:cH):some (cN.row w (List.take l.length (List.drop 0 (l.map fun a=>a.map V.d))++[a.map V.d]))=some (hV f (.row w ((l++[a]).map fun a=>a.map V.d))):=by
 rw[HV,agK,agr sm,agF];try rfl
def fz5{a b:Nat}{l:List cH}:some (o5 a b l (.ms a 5 0 l.length l.length))=some (V.d (.ps b 0 5 l.length l)):=by
 rw[o5,kz];show some (V.d (.ps b (0*5) 5 l.length ((l.drop 0).take l.length)))=_;rw[agK,agr (ago _),Nat.zero_mul]
def UI:Nat->Bool:=fun a=>agM a 72||agM a 1000023
theorem KJ{x:jX}(aj:rs x u)(y:wE x)(aP:oh F z)(aS:F.length<4294967296)(b o c:Nat)(au:ct x.lo<1073741824/\ct x.up<1073741824/\ct x.ty<1073741824/\(∀p∈x.ps,ct p.b<1073741824)/\cP x.ex<1073741824):b4 C ca wT [.agg (u.map V.d),.d (.ps b o 31 c z)] [] fun be aK=>aK=[]/\be=.ret (b5 (wF F x)):=by
 have ad:=DQ aj y;have aB:=HT aj y;have aG:=@Na x u aj F z aP aS b o c;obtain⟨ps,M,E,q,n,f1,k,O,s,K,f2,D,t,w,Q,f3,A,j,B,m,r,t4,g,d4,h1,aE,ax,aF,aO,rfl⟩:=eK aj;have H:∃P:Nat,P=x.ps.length/\((ps=.ci/\P=0)∨∃b o c d,ps=.ps b o 7 c d/\vb x.ps d/\d.length=P):=by
  exact Vv
 obtain⟨P,bg,H⟩:=H;by_cases ai:8<x.ps.length∨65536<x.note.length
 ·have hR:wF F x=7:=by rw[wF,if_pos ai]
  rcases H with⟨rfl,aC⟩|⟨T,S,R,d,rfl,ag,aL⟩
  ·have ao:decide (65536<agj x.note.length)=true:=decide_eq_true (by simp only[agk];omega);refine cv UI (fun _=>Z) ?_;refine cC ad Z Z ?_;repeat refine de ?_
   exact D3
  ·by_cases ac:8<x.ps.length
   ·have ak:decide (8<agj d.length)=true:=decide_eq_true (by simp only[agk];omega);refine cv UI (fun _=>Z) ?_;refine cC ad Z Z ?_;repeat refine de ?_
    exact D3
   ·have ak:decide (8<agj d.length)=false:=decide_eq_false (by simp only[agk];omega);have ao:decide (65536<agj x.note.length)=true:=decide_eq_true (by simp only[agk];omega);refine cv UI (fun _=>Z) ?_;refine cC ad Z Z ?_;repeat refine de ?_
    exact D3
 ·have ao:decide (65536<agj x.note.length)=false:=decide_eq_false (by simp only[agk];omega);have hR:wF F x=if iL x=false then 4 else if F.any (vq x)then 5 else if(KI x.ps).length<x.ps.length then 5 else if tH (ow x)≠0 then tH (ow x)else r9 x.ex:=by rw[wF,if_neg ai]
  apply dH (T:=fun a:List cH=>[(2,.bp 0 0),(8,.ms 1 5 0 a.length a.length)]) (S:=fun a:List cH=>[.box ((mR x.k x.n x.exp x.wj x.note ps (eQ M E q n f1) (eQ k O s K f2) (eQ D t w Q f3) [.int .i64 (agj A),.str j,.str B,.str m,.int .i64 r,t4,g,d4] x.m x.tg).map V.d),.row 5 (a.map fun u=>u.map V.d)]) (I:=fun a:List cH=>dz (ow x) a/\wF F x=if tH (ow x)≠0 then tH (ow x)else r9 x.ex)
  ·intro aw;rcases H with⟨rfl,aC⟩|⟨T,S,R,d,rfl,ag,aL⟩
   ·refine cv UI (fun _=>Z) ?_;refine cC ad Z Z ?_;repeat refine de ?_
    refine cC aB Z Z ?_;cases Y:iL x with
    |false=>
     rw[Y,if_pos rfl]at hR;exact D3
    |true=>
    rw[Y,if_neg dc]at hR;refine aG 0 Z ?_;apply aZ<;>intro ac
    ·have l:F.any (vq x)=true:=ac;rw[if_pos l]at hR;exact D3
    have l:F.any (vq x)=false:=ac;rw[if_neg (by rw[l];decide)]at hR;refine cd.loop ?_;refine cd.loop ?_;have al:x.ps=[]:=List.eq_nil_of_length_eq_zero om;refine cw (fU:=[.box ((mR x.k x.n x.exp x.wj x.note .ci (eQ M E q n f1) (eQ k O s K f2) (eQ D t w Q f3) [.int .i64 (agj A),.str j,.str B,.str m,.int .i64 r,t4,g,d4] x.m x.tg).map V.d),.row 5 ([eQ M E q n f1,eQ k O s K f2,eQ D t w Q f3].map fun u=>u.map V.d)]) (dB:=[(2,.bp 0 0),(8,.ms 1 5 0 3 3)]) (.eP 0 [0,2]) (aw [eQ M E q n f1,eQ k O s K f2,eQ D t w Q f3] ⟨by rw[ow,al];exact .cons aE (.cons ax (.cons aF .nil)),by rw[hR,al];try rfl⟩)
   ·have ak:decide (8<agj d.length)=false:=decide_eq_false (by simp only[agk];omega);refine cv UI (fun _=>Z) ?_;refine cC ad Z Z ?_;repeat refine de ?_
    refine cC aB Z Z ?_;cases Y:iL x with
    |false=>
     rw[Y,if_pos rfl]at hR;exact D3
    |true=>
    rw[Y,if_neg dc]at hR;refine aG 0 Z ?_;apply aZ<;>intro ac
    ·have l:F.any (vq x)=true:=ac;rw[if_pos l]at hR;exact D3
    have l:F.any (vq x)=false:=ac;rw[if_neg (by rw[l];decide)]at hR;refine cD (dB:=[(2,.bp 0 0),(5,.map 1),(39,.d (.ps T S 7 R d)),(40,b5 d.length),(41,b5 0)]) ?_;refine cd.iter (fun f:Nat=>[(2,.bp 0 0),(5,.map 1),(39,.d (.ps T S 7 R d)),(40,b5 d.length),(41,b5 f)]) (fun f=>[.box ((mR x.k x.n x.exp x.wj x.note (.ps T S 7 R d) (eQ M E q n f1) (eQ k O s K f2) (eQ D t w Q f3) [.int .i64 (agj A),.str j,.str B,.str m,.int .i64 r,t4,g,d4] x.m x.tg).map V.d),pg (HU x.ps f)]) (fun f=>x.ps.length-f) (fun f=>f<=x.ps.length) ?_ 0 (agm _);intro f aT;apply aZ<;>intro W
    ·have e:f<x.ps.length:=by have:=ee W;omega
     obtain⟨aR,ae,aU,G,rfl⟩:=ag.get e;obtain⟨ab,N,aa,L,f7,rfl⟩:=G.cZ;have U:=(ck d f).trans ae;have I:=Q1 e;refine bZ Z ?_;refine cc _ U ?_;by_cases J:x.ps[f].n∈HU x.ps f
     ·rw[zD,if_pos J]at I;obtain⟨aq,ay,aQ⟩:=UG (k:=0) (i:=0) J;refine cc (some (0+aq,b6 true)) ay ?_;exact⟨f+1,e,iK,.pick 0 [0,1] ⟨Z,Z,Z,Z,int_eq (cp om),tv⟩ Z Z Z Z Z dc ⟨Z,Z,by rw[I,fh _ _ (iM _)];exact congrArg (fun aN=>some (cN.map aN (HU x.ps f).length)) (by rw[agL];exact aQ),lp _ _ (iM _),tv⟩,Z,Z⟩
     ·rw[zD,if_neg J]at I;refine cc none (Ap J) ?_;exact⟨f+1,e,iK,.pick 0 [0,1] ⟨Z,Z,Z,Z,int_eq (cp om),tv⟩ Z Z Z Z Z dc ⟨Z,Z,by rw[I,fh _ _ (iM _),JM];try rfl,lp _ _ (iM _),tv⟩,Z,Z⟩
    ·have e:x.ps.length<=f:=by have:=dq W;omega
     have aD:HU x.ps f=KI x.ps:=by rw[HU,agr e];try rfl
     have ba:(eC 0 (HU x.ps f)).length=(KI x.ps).length:=by rw[UH,aD]
     apply aZ<;>intro aM
     ·have aA:=ee aM;rw[if_pos om]at hR;exact D3
     ·have aA:=dq aM;rw[if_neg om]at hR;refine cw (fU:=[.box ((mR x.k x.n x.exp x.wj x.note (.ps T S 7 R d) (eQ M E q n f1) (eQ k O s K f2) (eQ D t w Q f3) [.int .i64 (agj A),.str j,.str B,.str m,.int .i64 r,t4,g,d4] x.m x.tg).map V.d),.row 5 ([eQ M E q n f1,eQ k O s K f2,eQ D t w Q f3].map fun u=>u.map V.d)]) (dB:=[(2,.bp 0 0),(8,.ms 1 5 0 3 3),(63,.d (.ps T S 7 R d)),(64,b5 d.length),(65,b5 0)]) (.eP 0 [0,2]) ?_;refine cd.iter (fun ah:Nat×List cH=>[(2,.bp 0 0),(8,.ms 1 5 0 ah.2.length ah.2.length),(63,.d (.ps T S 7 R d)),(64,b5 d.length),(65,b5 ah.1)]) (fun ah=>[.box ((mR x.k x.n x.exp x.wj x.note (.ps T S 7 R d) (eQ M E q n f1) (eQ k O s K f2) (eQ D t w Q f3) [.int .i64 (agj A),.str j,.str B,.str m,.int .i64 r,t4,g,d4] x.m x.tg).map V.d),.row 5 (ah.2.map fun u=>u.map V.d)]) (fun ah=>x.ps.length-ah.1) (fun ah=>ah.1<=x.ps.length/\dz ([x.lo,x.up,x.ty]++(x.ps.take ah.1).map mM.b) ah.2) ?_ (0,[eQ M E q n f1,eQ k O s K f2,eQ D t w Q f3]) ⟨agm _,.cons aE (.cons ax (.cons aF .nil))⟩;rintro⟨aq,a⟩ ⟨ay,v⟩;apply aZ<;>intro W
      ·have X:aq<x.ps.length:=by have:=ee W;omega
       obtain⟨aR,ae,aU,G,rfl⟩:=ag.get X;obtain⟨ab,N,aa,L,f7,rfl⟩:=G.cZ;have U:=(ck d aq).trans ae;refine bZ Z ?_;refine cc _ U ?_;have ap:=v.len;simp only[agu,agn,agp,agw,agA]at ap;have av:dz ([x.lo,x.up,x.ty]++(x.ps.take (aq+1)).map mM.b) (a++[eQ ab N aa L f7]):=by
        rw[agv,agl X,agF,<-List.append_assoc];exact v.snoc G
       have aH:V.ms 3 5 0 (a.length+1) (a.length+1)=V.ms 3 5 0 (a++[eQ ab N aa L f7]).length (a++[eQ ab N aa L f7]).length:=by rw[agu];try rfl
       intro bc;refine a6 Z (a6 ⟨Z,Z,by simp,ago _,rB (by show a.length<=_;omega) (ago _) (Nat.le_of_ble_eq_true Z)⟩ (a7 Z (a7 (fG _) ?_)));exact⟨(aq+1,a++[eQ ab N aa L f7]),⟨X,av⟩,iK,.pick 0 [0,3] ⟨Z,congrArg some aH,Z,Z,int_eq (cp om),tv⟩ Z Z Z Z Z dc ⟨Z,Z,AG _ 5 a _,AF _ _ _,tv⟩,Z,Z⟩
      ·have X:x.ps.length<=aq:=by have:=dq W;omega
       rw[agr X]at v;have aJ:dz (ow x) a:=v;exact cw (fU:=[.box ((mR x.k x.n x.exp x.wj x.note (.ps T S 7 R d) (eQ M E q n f1) (eQ k O s K f2) (eQ D t w Q f3) [.int .i64 (agj A),.str j,.str B,.str m,.int .i64 r,t4,g,d4] x.m x.tg).map V.d),.row 5 (a.map fun u=>u.map V.d)]) (dB:=[(2,.bp 0 0),(8,.ms 1 5 0 a.length a.length)]) (.pick 0 [0,1] ⟨Z,Z,tv⟩ Z Z Z Z Z dc ⟨Z,Z,congrArg some (HV _ _ _).symm,AF _ _ _,tv⟩) (aw a ⟨aJ,hR⟩)
  ·rintro a ⟨v,hR⟩;have aX:=v.len;have aY:(ow x).length=3+x.ps.length:=by rw[ow,agu,agw];try rfl
   have aW:x.ps.length<=8:=om;have af:∀aV∈ow x,ft aV/\ct aV<4294967295:=by
    intro aV ht;simp only[ow,agz,agC,List.mem_map,List.not_mem_nil,or_false]at ht;rcases ht with(rfl|rfl|rfl)|⟨p,aI,rfl⟩
    ·exact⟨y.lo,om⟩
    ·exact⟨y.up,om⟩
    ·exact⟨y.ty,om⟩
    ·exact⟨(y.ps p aI).1,by have:=au.2.2.2.1 p aI;omega⟩
   refine cd.freeze 1 [(2,.bp 0 0),(75,.ms 1 5 0 a.length a.length),(76,b5 a.length),(77,b5 0)] (es:=5) (els:=a.map fun aN=>aN.map V.d) (l:=a) Z (gk _) ⟨Z,Z,Z,Z,tv⟩ ⟨tv,(fun _=>⟨Z,Nat.le_of_eq (agL _)⟩),tv,tv,tv⟩ (fun az=>?_);refine cd.less (dB:=[(2,.bp 0 0),(75,.d (.ps az 0 5 a.length a)),(76,b5 a.length),(77,b5 0)]) ⟨Z,fz5,Z,Z,tv⟩ ?_;refine cd.iter (fun f:Nat=>[(2,.bp 0 0),(75,.d (.ps az 0 5 a.length a)),(76,b5 a.length),(77,b5 f)]) (fun f=>[.box ((mR x.k x.n x.exp x.wj x.note ps (eQ M E q n f1) (eQ k O s K f2) (eQ D t w Q f3) [.int .i64 (agj A),.str j,.str B,.str m,.int .i64 r,t4,g,d4] x.m x.tg).map V.d),.gone]) (fun f=>a.length-f) (fun f=>f<=a.length/\tH (ow x)=tH ((ow x).drop f)) ?_ 0 ⟨agm _,Z⟩;rintro f ⟨aT,i⟩;apply aZ<;>intro W
   ·have e:f<(ow x).length:=by have:=ee W;omega
    obtain⟨bf,ae,an⟩:=v.get e;obtain⟨ab,N,aa,L,f7,rfl⟩:=an.cZ;have U:=(ck a f).trans ae;rw[agq e,tH]at i;refine bZ Z ?_;refine cc _ U ?_;refine qb _ _ an (af _ (ags e)).1 (af _ (ags e)).2 ?_;cases ar:k6 (ow x)[f]with
    |true=>
     rw[ar,if_pos rfl]at i;rw[if_pos (by rw[i];decide),i]at hR;exact D3
    |false=>
     rw[ar,if_neg dc]at i;exact⟨f+1,⟨by show f+1<=a.length;omega,i⟩,iK,.eP 0 [0,1],Z,Z⟩
   ·have e:(ow x).length<=f:=by have:=dq W;omega
    rw[agt e]at i;rw[if_neg (by rw[i];decide)]at hR;refine Bi _ _ aO y.ex om ?_;exact D3
def lG(a:List jX):List jX->Nat×Nat
 |[]=>(0,0)
 |x::b=>if wF a x≠0 then(a.length,wF a x)else lG (a++[x]) b
def Q2(a:FO):Int×Nat:=if mN a≠0 then(-1,mN a)else(agj (lG [] a.ds).1,(lG [] a.ds).2)
structure Nb (m:FO):Prop where
 size:Bk m<=4096
 path:fV m.p=true
 is:∀x∈m.is,fV x.p=true/\cK x.a=true
 ds:∀x∈m.ds,wE x
def DR{l:List jX}(h:m∈l):iw m<=gL l:=by
 induction l with
 |nil=>cases h
 |cons b c a=>
  have:gL (b::c)=iw b+gL c:=rfl;rcases agC.1 h with rfl|h
  ·omega
  ·have:=a h;omega
def UJ{l:List mM}{p:mM}(h:p∈l):ct p.b<=lX l:=by
 induction l with
 |nil=>cases h
 |cons b c a=>
  have:lX (b::c)=ct b.b+lX c:=rfl;rcases agC.1 h with rfl|h
  ·omega
  ·have:=a h;omega
def Nc(k:wE m)(l:iw m<=4096):ct m.lo<1073741824/\ct m.up<1073741824/\ct m.ty<1073741824/\(∀p∈m.ps,ct p.b<1073741824)/\cP m.ex<1073741824:=by
 have a:ct cV<1073741824:=dc;have i:cP oe<1073741824:=dc;rcases k.kind with⟨b,_,f,_,_,c⟩|⟨b,_,d,e,_,_,_⟩|⟨b,c,d,e,ht,f,_⟩
 ·have:=AE b;exact⟨om,om,om,(fun p h=>by rw[(c p h).1];exact a),by rw[f];exact i⟩
 ·rw[wh b]at l;exact⟨by rw[d];exact a,by rw[e];exact a,om,(fun p h=>by have:=UJ h;omega),om⟩
 ·exact⟨by rw[d];exact a,by rw[e];exact a,by rw[ht];exact a,(fun p h=>by rw[c]at h;cases h),by rw[f];exact i⟩
def oh.take{l:List jX}{a:List cH}(h:oh l a)(b:Nat):oh (l.take b) (a.take b):=by
 induction h generalizing b with
 |nil=>simp;exact .nil
 |cons h d c=>cases b with
  |zero=>exact .nil
  |succ b=>exact .cons h (c b)
def Nd{i:jX}{t:cH}(d:rs i t)(f:wE i){k:List jX}{a:List cH}(q:oh k a)(p:k.length<4294967296)(b o c:Nat)(e:iw i<=4096){h:VS}{s:cO->VS->Prop}(n:s (.ret (b5 (wF k i))) h):b4 C ca wT [.agg (t.map V.d),.d (.ps b o 31 c a)] h s:=by
 have l:=KJ d f q p b o c (Nc f e);obtain⟨P,w,g,v,r,f1,m,x,z,u,f2,Q,E,M,W,f3,S,y,O,K,X,t4,Y,d4,T,D,j,R,U,rfl⟩:=eK d;exact cC l Z Z n
theorem Nf(K:FO)(u:cH)(M:At K u)(k:Nb K):b4 C ca uI [.agg (u.map V.d)] [] fun L U=>U=[]/\L=.ret (.dS [.d (.int .i64 (Q2 K).1),b5 (Q2 K).2]):=by
 have y:=M9 K u M k.size (fun ae z _=>(k.ds ae z).ex) k.path k.is;have S:=k.size;have t:=k.ds;obtain⟨Q,T,W,l,rfl⟩:=M;obtain⟨q,i,a⟩:=K;have F:gL a<=4096:=by have:1+i.length+gL a<=4096:=S;omega
 have I:=vp a;refine cm ?_;refine cC y Z Z ?_;apply aZ<;>intro x
 ·have n:mN ⟨q,i,a⟩≠0:=fun m=>by rw[m]at x;cases x
  exact a8 0 ⟨Z,by rw[Q2,if_pos n];try rfl⟩
 ·have n:mN ⟨q,i,a⟩=0:=l3 x;have w:Q2 ⟨q,i,a⟩=(agj (lG [] a).1,(lG [] a).2):=by rw[Q2,if_neg (by rw[n];decide)]
  have l:zn a T:=l;cases l with
  |nil=>
   refine cd.loop ?_;exact a8 0 ⟨Z,by rw[w];try rfl⟩
  |ps D A=>
   rename_i j g h c;have G:=D.len;refine cD (dB:=[(1,.bp 0 0),(14,.d (.ps j g 31 h c)),(15,b5 c.length),(16,b5 0)]) ?_;refine cd.iter (fun d:Nat=>[(1,.bp 0 0),(14,.d (.ps j g 31 h c)),(15,b5 c.length),(16,b5 d)]) (fun _=>[.box [cn q,.d Q,.d (.ps j g 31 h c)]]) (fun d=>a.length-d) (fun d=>d<=a.length/\lG [] a=lG (a.take d) (a.drop d)) ?_ 0 ⟨agm _,Z⟩;rintro d ⟨W,e⟩;apply aZ<;>intro O
   ·have b:d<a.length:=by have:=ee O;omega
    obtain⟨aw,v,s⟩:=D.get b;have P:=t _ (ags b);have Y:iw a[d]<=4096:=by have:=DR (ags b);omega
    have p:=fun X B (r:B (.ret (b5 (wF (a.take d) a[d]))) X)=>@Nd _ _ s P _ _ (D.take d) (by rw[agA];omega) j (g+0*31) (h-0) Y X B r;obtain⟨ps,J,an,ar,aq,f1,ao,N,ax,au,f2,ag,aa,ac,ai,f3,ah,av,ad,ab,aj,t4,ak,d4,am,af,ay,al,ap,rfl⟩:=eK s;have R:=(ck c d).trans v;refine bZ Z ?_;refine cc _ R ?_;have f:=A;refine bZ Z ?_;refine a6 ⟨agm _,om,f,om,Z⟩ ?_;refine a6 (by repeat' (first|exact tv|exact rfl|refine bZ rfl ?_|exact agm _|(show _<_;omega)|(show _<=_;omega)|exact f|refine agH ?_ ?_)) ?_;refine p _ _ ?_;refine a6 (by repeat' (first|exact tv|exact rfl|refine bZ rfl ?_|exact agm _|(show _<_;omega)|(show _<=_;omega)|exact f|refine agH ?_ ?_)) ?_;refine a6 (by repeat' (first|exact tv|exact rfl|refine bZ rfl ?_|exact agm _|(show _<_;omega)|(show _<=_;omega)|exact f|refine agH ?_ ?_)) ?_;rw[agq b,lG]at e;apply aZ<;>intro E
    ·have o:wF (a.take d) a[d]≠0:=fun m=>by rw[m]at E;cases E
     rw[if_pos o,agA,Nat.min_eq_left W]at e;exact a8 0 ⟨Z,by rw[w,e];try rfl⟩
    ·have o:wF (a.take d) a[d]=0:=l3 E;rw[if_neg (by rw[o];decide)]at e;refine⟨d+1,⟨b,?_⟩,iK,.eP 0 [0],Z,Z⟩;rw[e,agv,agl b];try rfl
   ·have b:a.length<=d:=by have:=dq O;omega
    rw[agt b,lG]at e;refine a8 0 ⟨Z,by rw[w,e];try rfl⟩
section
variable{R R':Rd} (h:R.ts=R'.ts)
include h
theorem vt(a p:Nat):jY a R p=jY a R' p:=by rw[jY,jY,eb h]
theorem UK:∀(a:Nat) (b:cq) (p:Nat),oU R a b p=oU R' a b p:=by
 intro a;induction a with
 |zero=>intro b p;rfl
 |succ a c=>intro b p;simp only[oU,eb h,kw h,c]
theorem KK(p:Nat):hP R p=hP R' p:=by simp only[hP,UK h,kw h,eb h,h]
theorem UL{α:Type}{step a:α->Nat->PR α}(e:∀b p,step b p=a b p):∀(c:Nat) (b:α) (p:Nat),qY step R c b p=qY a R' c b p:=by
 intro c;induction c with
 |zero=>intro b p;rfl
 |succ c d=>intro b p;simp only[qY,eb h,jc h,e,d]
theorem KL{α:Type}{step a:α->Nat->PR α}(c:∀b p,step b p=a b p)(b:α)(p:Nat):jZ step R b p=jZ a R' b p:=by simp only[jZ,eb h,UL h c,h]
theorem Q3(a:List mM)(p:Nat):gG R a p=gG R' a p:=by simp only[gG,eb h,vt h]
theorem Q4(ty:Nat->PR Ty)(a:List mM)(p:Nat):ia ty R a p=ia ty R' a p:=by simp only[ia,eb h,vt h]
theorem Xj(ty:Nat->PR Ty)(a:cq)(t0:Ty)(p:Nat):oI ty R a t0 p=oI ty R' a t0 p:=by simp only[oI,eb h]
theorem sa{α:Type}{b a:Nat->PR α}(c:∀p,b p=a p)(d:cq)(p:Nat):dI b R d p=dI a R' d p:=by simp only[dI,jc h,c]
theorem Nh(p:Nat):iS R p=iS R' p:=by simp only[iS,eb h,vt h,kw h]
theorem Q5(ty:Nat->PR Ty)(a b:Bool)(n:cq)(p:Nat):kt ty R a b n p=kt ty R' a b n p:=by simp only[kt,vt h,KL h (Q3 h),Xj h,sa h (fun _=>rfl)]
theorem Q6(ty:Nat->PR Ty)(ex:Nat->PR Ex)(a b:Bool)(n:cq)(p:Nat):mB ty ex R a b n p=mB ty ex R' a b n p:=by simp only[mB,kw h,KL h (Q4 h ty),sa h (fun _=>rfl)]
theorem Q7(a b:Bool)(n:cq)(p:Nat):kQ R a b n p=kQ R' a b n p:=by simp only[kQ,kw h,sa h (Nh h)]
theorem UM(p:Nat):og R p=og R' p:=by simp only[og,eb h,vt h]
theorem UN(ty:Nat->PR Ty)(ex:Nat->PR Ex)(p:Nat):j6 ty ex R p=j6 ty ex R' p:=by simp only[j6,eb h,UM h,Q5 h,Q6 h,Q7 h]
theorem Ni(p:Nat):iu R p=iu R' p:=by simp only[iu,KK h,sa h (kw h)]
theorem KM:∀(a:Nat) (b:List vY) (p:Nat),fT R a b p=fT R' a b p:=by
 intro a;induction a with
 |zero=>intro b p;rfl
 |succ a c=>intro b p;simp only[fT,eb h,Ni h,c]
theorem Q8(ty:Nat->PR Ty)(ex:Nat->PR Ex):∀(b:Nat) (c:List jX) (a:List Nat) (p:Nat),ib ty ex R b c a p=ib ty ex R' b c a p:=by
 intro b;induction b with
 |zero=>intro c a p;rfl
 |succ b d=>intro c a p;simp only[ib,eb h,UN h,d]
theorem Xk(ty:Nat->PR Ty)(ex:Nat->PR Ex)(p:Nat):tQ ty ex R p=tQ ty ex R' p:=by simp only[tQ,KM h,Q8 h,sa h (KK h),h]
end
def Xl(b a:Nat)(ts:List Tok)(p:Nat):AD ⟨b,a,ts⟩ p=AD ⟨0,0,ts⟩ p:=by
 unfold AD;rw[Uz (R:=⟨b,a,ts⟩) (R':=⟨0,0,ts⟩) rfl,HM (R:=⟨b,a,ts⟩) (R':=⟨0,0,ts⟩) rfl,Xk (R:=⟨b,a,ts⟩) (R':=⟨0,0,ts⟩) rfl]
def sb(R:Rd)(p:Nat):(dh R p).E:=by
 rw[dh];split
 ·exact .bad dc
 ·exact .ok
def zE(R:Rd)(a p:Nat):(jY a R p).E:=by
 rw[jY];split
 ·exact .bad dc
 ·exact .ok
def Xm(R:Rd):∀(b:Nat) (s:cq) (p:Nat),(oU R b s p).E:=by
 intro b;induction b with
 |zero=>intro s p;exact .bad dc
 |succ b c=>
  intro s p;rw[oU];split
  ·have a:=sb R (p+1);revert a;cases dh R (p+1)with
   |bad e f=>exact fun a=>.bad a.get
   |ok d q=>exact fun _=>c _ _
  ·exact .ok
def OK(R:Rd)(p:Nat):(hP R p).E:=by
 rw[hP];have a:=sb R p;revert a;cases dh R p with
 |bad c b=>exact fun a=>.bad a.get
 |ok s q=>
  intro _;dsimp only;have a:=Xm R R.ts.length s q;revert a;cases oU R R.ts.length s q with
  |bad c b=>exact fun a=>.bad a.get
  |ok s q=>
   intro _;dsimp only;split
   ·exact .ok
   ·exact .bad dc
def Xn{α:Type}{step:α->Nat->PR α}(e:∀b p,(step b p).E)(R:Rd):∀(c:Nat) (b:α) (p:Nat),(qY step R c b p).E:=by
 intro c;induction c with
 |zero=>intro b p;exact .bad dc
 |succ c d=>
  intro b p;rw[qY];have a:=e b p;revert a;cases step b p with
  |bad h i=>exact fun a=>.bad a.get
  |ok f q=>
   intro _;dsimp only;split
   ·exact d _ _
   ·exact(iv R _ _).map
def OL{α:Type}{step:α->Nat->PR α}(a:∀b p,(step b p).E)(R:Rd)(b:α)(p:Nat):(jZ step R b p).E:=by
 rw[jZ];split
 ·exact Xn a R _ _ _
 ·exact .ok
def UO(R:Rd)(a:List mM)(p:Nat):(gG R a p).E:=by
 rw[gG];split
 ·exact .bad dc
 ·exact(zE R _ _).map
def UP{ty:Nat->PR Ty}(ht:∀p,(ty p).E)(R:Rd)(b:List mM)(p:Nat):(ia ty R b p).E:=by
 rw[ia];have a:=zE R 2 p;revert a;cases jY 2 R p with
 |bad c d=>exact fun a=>.bad a.get
 |ok s q=>
  intro _;dsimp only;split
  ·exact(ht _).map
  ·exact .ok
def UQ{ty:Nat->PR Ty}(ht:∀p,(ty p).E)(R:Rd)(a:cq)(t0:Ty)(p:Nat):(oI ty R a t0 p).E:=by
 rw[oI];split
 ·exact(ht _).map
 ·exact .ok
def qf{α:Type}{b:Nat->PR α}(c:∀p,(b p).E)(R:Rd)(s:cq)(p:Nat):(dI b R s p).E:=by
 rw[dI];have a:=iv R [s] p;revert a;cases cu R [s] p with
 |bad d e=>exact fun a=>.bad a.get
 |ok s q=>exact fun _=>c _
def F0(R:Rd)(p:Nat):(iS R p).E:=by
 rw[iS];split
 ·exact zE R _ _
 ·exact sb R _
def UR{ty:Nat->PR Ty}(ht:∀p,(ty p).E)(R:Rd)(f b:Bool)(n:cq)(p:Nat):(kt ty R f b n p).E:=by
 rw[kt];have a:=zE R 2 p;revert a;cases jY 2 R p with
 |bad c d=>exact fun a=>.bad a.get
 |ok s q=>
  intro _;dsimp only;have a:=OL (UO R) R [] q;revert a;cases jZ (gG R) R [] q with
  |bad c d=>exact fun a=>.bad a.get
  |ok e q1=>
   intro _;dsimp only;have a:=UQ ht R [62,58] zm q1;revert a;cases oI ty R [62,58] zm q1 with
   |bad c d=>exact fun a=>.bad a.get
   |ok lo q2=>
    intro _;dsimp only;have a:=UQ ht R [60,58] cV q2;revert a;cases oI ty R [60,58] cV q2 with
    |bad c d=>exact fun a=>.bad a.get
    |ok h q3=>exact fun _=>(qf ht R _ _).map
def US{ty:Nat->PR Ty}(ht:∀p,(ty p).E){ex:Nat->PR Ex}(c:∀p,(ex p).E)(R:Rd)(h b:Bool)(n:cq)(p:Nat):(mB ty ex R h b n p).E:=by
 rw[mB];have a:=sb R p;revert a;cases dh R p with
 |bad d e=>exact fun a=>.bad a.get
 |ok s q=>
  intro _;dsimp only;have a:=OL (UP ht R) R [] q;revert a;cases jZ (ia ty R) R [] q with
  |bad d e=>exact fun a=>.bad a.get
  |ok f q1=>
   intro _;dsimp only;have a:=qf ht R [58] q1;revert a;cases dI ty R [58] q1 with
   |bad d e=>exact fun a=>.bad a.get
   |ok lo q2=>exact fun _=>(qf c R _ _).map
def UT(R:Rd)(d b:Bool)(n:cq)(p:Nat):(kQ R d b n p).E:=by
 rw[kQ];have a:=sb R p;revert a;cases dh R p with
 |bad e f=>exact fun a=>.bad a.get
 |ok s q=>
  intro _;dsimp only;have a:=qf (F0 R) R [58,58] q;revert a;cases dI (iS R) R [58,58] q with
  |bad e f=>exact fun a=>.bad a.get
  |ok c q1=>exact fun _=>(qf (F0 R) R _ _).map
def Xo(R:Rd)(p:Nat):(og R p).E:=by
 rw[og];split
 ·split
  ·exact(zE R _ _).map
  ·exact .ok
 ·exact .ok
def Xp{ty:Nat->PR Ty}(ht:∀p,(ty p).E){ex:Nat->PR Ex}(b:∀p,(ex p).E)(R:Rd)(p:Nat):(j6 ty ex R p).E:=by
 rw[j6];have a:=Xo R p;revert a;cases og R p with
 |bad c d=>exact fun a=>.bad a.get
 |ok h q=>
  intro _;dsimp only;split
  ·exact UR ht R _ _ _ _
  ·split
   ·exact US ht b R _ _ _ _
   ·split
    ·exact UT R _ _ _ _
    ·exact .bad dc
def Q9(R:Rd)(p:Nat):(iu R p).E:=by
 rw[iu];have a:=OK R p;revert a;cases hP R p with
 |bad c b=>exact fun a=>.bad a.get
 |ok s q=>exact fun _=>(qf (sb R) R _ _).map
def Nj(R:Rd):∀(b:Nat) (d:List vY) (p:Nat),(fT R b d p).E:=by
 intro b;induction b with
 |zero=>intro d p;exact .bad dc
 |succ b c=>
  intro d p;rw[fT];split
  ·have a:=Q9 R (p+1);revert a;cases iu R (p+1)with
   |bad e f=>exact fun a=>.bad a.get
   |ok s q=>exact fun _=>c _ _
  ·exact .ok
def UU{ty:Nat->PR Ty}(ht:∀p,(ty p).E){ex:Nat->PR Ex}(f:∀p,(ex p).E)(R:Rd):∀(c:Nat) (e:List jX) (b:List Nat) (p:Nat),(ib ty ex R c e b p).E:=by
 intro c;induction c with
 |zero=>intro e b p;exact .bad dc
 |succ c d=>
  intro e b p;rw[ib];split
  ·have a:=Xp ht f R p;revert a;cases j6 ty ex R p with
   |bad h i=>exact fun a=>.bad a.get
   |ok s q=>exact fun _=>d _ _ _
  ·exact .ok
def abA{ty:Nat->PR Ty}(ht:∀p,(ty p).E){ex:Nat->PR Ex}(b:∀p,(ex p).E)(R:Rd)(p:Nat):(tQ ty ex R p).E:=by
 rw[tQ];have a:=qf (OK R) R [109,111,100,117,108,101] p;revert a;cases dI (hP R) R [109,111,100,117,108,101] p with
 |bad c d=>exact fun a=>.bad a.get
 |ok s q=>
  intro _;dsimp only;have a:=Nj R R.ts.length [] q;revert a;cases fT R R.ts.length [] q with
  |bad c d=>exact fun a=>.bad a.get
  |ok s q=>exact fun _=>(UU ht b R _ _ _ _).map
def UW(R:Rd)(p:Nat):(AD R p).E:=abA (HP R _) (UE R _) R p
def q7:FO:=⟨[],[],[]⟩
def s6(d:cq):FO×Nat×Nat:=match jl d with
 |.err a c=>(q7,a,c)
 |.ok ts=>match AD ⟨0,0,ts⟩ 0 with
  |.bad a c=>(q7,a,c)
  |.ok b q=>if(Rd.tok ⟨0,0,ts⟩ q).kind≠0 then(q7,(Rd.tok ⟨0,0,ts⟩ q).off,3)
   else if mN b.1≠0 then(q7,0,mN b.1)
   else if(lG [] b.1.ds).2≠0 then(q7,b.2.getD (lG [] b.1.ds).1 0,(lG [] b.1.ds).2)else(b.1,0,0)
def Ra(a:cq)(c:cO):Prop:=∃b,At (s6 a).1 b/\c=.ret (.dS [.agg (b.map V.d),b5 (s6 a).2.1,b5 (s6 a).2.2])
def Xq:At q7 [.str [],.ci,.ci]:=⟨_,_,.nil,.nil,rfl⟩
def O4(h:s6 r=(q7,v,J)):Ra r (.ret (.dS [wg,b5 v,b5 J])):=by
 rw[Ra,h];exact⟨_,Xq,Z⟩
def Xr:∀(c a:List jX),(lG a c).2≠0->(lG a c).1<a.length+c.length:=by
 intro c;induction c with
 |nil=>intro a h;exact absurd rfl h
 |cons e f d=>
  intro a h;rw[lG]at h⊢;by_cases b:wF a e≠0
  ·rw[if_pos b];simp
  ·rw[if_neg b]at h⊢;have:=d _ h;simp only[agu,agn,agp]at this⊢;omega
theorem Nk(s:cq)(V:∀ts b q,jl s=.ok ts->AD ⟨0,0,ts⟩ 0=.ok b q->Nb b.1/\b.2.length=b.1.ds.length):b4 C ca tj [cn s] [] fun E P=>P=[]/\cM E=true/\Ra s E:=by
 refine cm ?_;refine M6 s 1 ?_ (fun E W a=>?_)
 ·exact Z
 unfold Bj at a;cases d:jl s with
 |err c D=>
  rw[d]at a;have a:E=.ret (.dS [wg,b5 c,b5 D]):=a;subst a;have k:=mD d;have hp:s6 s=(q7,c,D):=by rw[s6,d]
  refine aZ (fun h=>?_) (fun h=>absurd (l3 h) k);exact RN
 |ok ts=>
  rw[d]at a;dsimp only at a;obtain⟨u,p,a⟩:=a;rw[Xl]at a;cases f:AD ⟨0,0,ts⟩ 0 with
  |bad c D=>
   rw[f]at a;have a:E=.ret (.dS [wg,b5 c,b5 D]):=a;subst a;have k:=UW _ _ c D f;have hp:s6 s=(q7,c,D):=by rw[s6,d];dsimp only;rw[f]
   refine aZ (fun h=>?_) (fun h=>absurd (l3 h) k);exact RN
  |ok T q=>
   obtain⟨b,e⟩:=T;rw[f]at a;dsimp only at a;have Y:Rd.tok ⟨u,p,ts⟩ q=Rd.tok ⟨0,0,ts⟩ q:=eb (R:=⟨u,p,ts⟩) (R':=⟨0,0,ts⟩) rfl q;rw[Y]at a;have hp:s6 s=if(Rd.tok ⟨0,0,ts⟩ q).kind≠0 then(q7,(Rd.tok ⟨0,0,ts⟩ q).off,3)
    else if mN b≠0 then(q7,0,mN b)
    else if(lG [] b.ds).2≠0 then(q7,e.getD (lG [] b.ds).1 0,(lG [] b.ds).2)else(b,0,0):=by rw[s6,d];dsimp only;rw[f]
   by_cases M:(Rd.tok ⟨0,0,ts⟩ q).kind≠0
   ·rw[if_pos M]at a hp;subst a;exact RN
   ·rw[if_neg M]at a hp;obtain⟨m,i,w,rfl⟩:=a;have i:At b m:=i;have w:FP e W:=w;obtain⟨X,K⟩:Nb b/\e.length=b.ds.length:=V _ _ _ d f;have U:=Nf b m i X;have S:=i;obtain⟨j,r,B,g,rfl⟩:=i;refine cC U Z Z ?_;rw[Q2];by_cases l:mN b≠0
    ·rw[if_pos l];rw[if_pos l]at hp;have Q:(!decide (agj (mN b)=0))=true:=by rw[OI l];try rfl
     repeat refine de ?_
     exact RN
    ·rw[if_neg l];rw[if_neg l]at hp;by_cases n:(lG [] b.ds).2≠0
     ·rw[if_pos n]at hp;have Q:(!decide (agj (lG [] b.ds).2=0))=true:=by rw[OI n];try rfl
      have v:decide (agj (lG [] b.ds).1<0)=false:=decide_eq_false (by simp only[agk];omega);have o:=Xr b.ds [] n;simp only[agp,agL]at o;cases w with
      |nil=>exact absurd o (by rw[<-K];exact Nat.not_lt_zero _)
      |ps=>
       rename_i z F y;have t:(lG [] b.ds).1<e.length:=om;have x:nth (e.map fun A=>([.int .i64 (agj A)]:cH)) (lG [] b.ds).1=some [.int .i64 (agj (e.getD (lG [] b.ds).1 0))]:=by
        rw[ck,agB,agl t,List.getD_eq_getElem?_getD,agl t];try rfl
       repeat refine de ?_
       refine bZ Z ?_;refine cc _ x ?_;repeat (refine cf ?_)
       exact RN
     ·rw[if_neg n]at hp;have O:(lG [] b.ds).2=0:=om;rw[O];repeat refine de ?_
      refine a8 0 ⟨Z,Z,?_⟩;rw[Ra,hp];exact⟨_,S,Z⟩
section
variable{R:Rd} (w:R.Wf) (mS:R.Nm)
include w mS
theorem HW{p q:Nat}{s:cq}(h:jY 2 R p=.ok s q):dX s=true/\q=p+1/\q<R.ts.length:=by
 rw[jY]at h;split at h
 ·cases h
 ·rename_i hk;cases h;have hk:(R.tok p).kind=2:=om;have hp:p<R.ts.length:=by
   exact acj
  exact⟨(mS p hp).2 hk,Z,w.go p _ (b0 hp) om⟩
theorem HX{p q:Nat}{s:cq}(h:dh R p=.ok s q):cK s=true/\q=p+1/\q<R.ts.length:=by
 rw[dh]at h;split at h
 ·cases h
 ·rename_i hk;cases h;have hk:(R.tok p).kind=1:=om;have hp:p<R.ts.length:=by
   exact acj
  exact⟨(mS p hp).1 hk,Z,w.go p _ (b0 hp) om⟩
omit mS in
theorem qg{α:Type}{c:Nat->PR α}{s:cq}{p q:Nat}{f:α}(d:p<R.ts.length)(h:dI c R s p=.ok f q):p+1<R.ts.length/\c (p+1)=.ok f q:=by
 rw[dI]at h;split at h
 ·cases h
 ·rename_i i q1 b;have a:=cL _ _ _ b;have e:=da w _ _ _ d b;simp only[agn,agp]at a;subst a;exact⟨e,h⟩
omit mS in
theorem UX{ty:Nat->PR Ty}(i:Good ty R 0){s:cq}{t0:Ty}(e:ft t0){p q:Nat}{a:Bool×Ty}(b:p<R.ts.length)(h:oI ty R s t0 p=.ok a q):ft a.2/\((a.1=false/\a.2=t0/\q=p)∨(a.1=true/\ct a.2+p+1<=q))/\p<=q/\q<R.ts.length:=by
 rw[oI]at h;split at h
 ·rename_i f;obtain⟨l,d,rfl⟩:=dv h;obtain⟨n,o,c,k⟩:=i _ _ _ (agm _) (w.step b f) d;exact⟨n,.inr ⟨Z,by show ct l+p+1<=q;omega⟩,om,k⟩
 ·cases h;exact⟨e,.inl ⟨Z,Z,Z⟩,ago _,b⟩
omit mS in
theorem Rb{α:Type}{step:α->Nat->PR α}{P:α->Prop}{i:α->Nat}(x:∀b p a q,p<R.ts.length->P b->step b p=.ok a q->P a/\i a+p<=i b+q+1/\p<q/\q<R.ts.length):∀(k:Nat) (b:α) (p:Nat) (a:α) (q:Nat),p<R.ts.length->P b->qY step R k b p=.ok a q->P a/\i a+p<=i b+q/\p<q/\q<R.ts.length:=by
 intro k;induction k with
 |zero=>intro b p a q _ _ h;cases h
 |succ k C=>
  intro b p a q o D h;rw[qY]at h;split at h
  ·cases h
  ·rename_i M q1 c;obtain⟨e,K,O,d⟩:=x _ _ _ _ o D c;split at h
   ·rename_i l;obtain⟨s,E,Q,t⟩:=C _ _ _ _ (w.step d l) e h;exact⟨s,om,om,t⟩
   ·obtain⟨S,f,rfl⟩:=dv h;have c:=cL _ _ _ f;have n:=da w _ _ _ d f;simp only[agn,agp]at c;exact⟨e,om,om,n⟩
omit mS in
theorem F1{α:Type}{step:α->Nat->PR α}{P:α->Prop}{M:α->Nat}(k:∀b p a q,p<R.ts.length->P b->step b p=.ok a q->P a/\M a+p<=M b+q+1/\p<q/\q<R.ts.length){b a:α}{p q:Nat}(c:p<R.ts.length)(d:P b)(h:jZ step R b p=.ok a q):P a/\M a+p<=M b+q/\p<=q/\q<R.ts.length:=by
 rw[jZ]at h;split at h
 ·rename_i i;obtain⟨e,l,n,f⟩:=Rb w k _ _ _ _ _ (w.step c i) d h;exact⟨e,om,om,f⟩
 ·cases h;exact⟨d,ago _,ago _,c⟩
theorem abB(i:List mM)(p:Nat)(c:List mM)(q:Nat)(n:p<R.ts.length)(e:∀b∈i,b.b=cV/\b.vr<=2/\dX b.n=true)(h:gG R i p=.ok c q):(∀b∈c,b.b=cV/\b.vr<=2/\dX b.n=true)/\c.length+p<=i.length+q+1/\p<q/\q<R.ts.length:=by
 rw[gG]at h;split at h
 ·cases h
 ·rename_i o a;obtain⟨s,l,rfl⟩:=dv h;obtain⟨f,rfl,k⟩:=HW w mS l;have d:o<=2:=by
   rw[xJ]at a;split at a
   ·cases a;omega
   ·split at a
    ·cases a;omega
    ·split at a
     ·cases a;omega
     ·cases a
  refine⟨fun b hx=>?_,by simp only[agu,agn,agp];omega,om,k⟩;rcases agz.1 hx with hx|hx
  ·exact e b hx
  ·rw[agy]at hx;subst hx;exact⟨Z,d,f⟩
theorem q9:ft cV:=.mk (.base om) (fun p a=>by cases a)
theorem Rc:ft zm:=.mk (.base om) (fun p a=>by cases a)
theorem UY:ej oe:=.mk .int (fun p a=>by cases a)
theorem abC{ty:Nat->PR Ty}(t:Good ty R 0)(i:List mM)(p:Nat)(b:List mM)(q:Nat)(x:p<R.ts.length)(c:∀a∈i,ft a.b/\a.vr=0/\dX a.n=true)(h:ia ty R i p=.ok b q):(∀a∈b,ft a.b/\a.vr=0/\dX a.n=true)/\(b.length+lX b)+p<=(i.length+lX i)+q+1/\p<q/\q<R.ts.length:=by
 rw[ia]at h;split at h
 ·cases h
 ·rename_i s q1 o;obtain⟨e,rfl,f⟩:=HW w mS o;split at h
  ·rename_i n;obtain⟨E,d,rfl⟩:=dv h;obtain⟨l,C,D,k⟩:=t _ _ _ (agm _) (w.step f n) d;refine⟨fun a hx=>?_,by rw[zB];simp only[agu,agn,agp,lX];omega,om,k⟩;rcases agz.1 hx with hx|hx
   ·exact c a hx
   ·rw[agy]at hx;subst hx;exact⟨l,Z,e⟩
  ·cases h;refine⟨fun a hx=>?_,by rw[zB];simp only[agu,agn,agp,lX,show ct cV=1 from rfl];omega,om,f⟩;rcases agz.1 hx with hx|hx
   ·exact c a hx
   ·rw[agy]at hx;subst hx;exact⟨q9 w mS,Z,e⟩
end
section
variable{R:Rd} (w:R.Wf) (mS:R.Nm)
include w mS
theorem UZ{ty:Nat->PR Ty}(k:Good ty R 0)(X:(I=true->A=true)/\(r≠[]->I=true)){p q:Nat}(J:p<R.ts.length)(h:kt ty R A I r p=.ok m q):wE m/\iw m+p<=q/\q<R.ts.length:=by
 rw[kt]at h;split at h
 ·cases h
 ·rename_i N q1 j;obtain⟨T,rfl,C⟩:=HW w mS j;split at h
  ·cases h
  ·rename_i e q2 V;obtain⟨d,E,ab,Y⟩:=F1 w (P:=fun z=>∀c∈z,c.b=cV/\c.vr<=2/\dX c.n=true) (M:=List.length) (abB w mS) C (fun c a=>by cases a) V;simp only[agp]at E;split at h
   ·cases h
   ·rename_i lo q3 u;obtain⟨O,y,H,K⟩:=UX w k (Rc w mS) Y u;split at h
    ·cases h
    ·rename_i up q4 v;obtain⟨Q,U,L,g⟩:=UX w k (q9 w mS) K v;obtain⟨x,i,rfl⟩:=dv h;obtain⟨D,i⟩:=qg w g i;obtain⟨o,F,B,W⟩:=k _ _ _ (agm _) D i;have S:ct zm=1:=rfl;have M:ct cV=1:=rfl;refine⟨⟨?_,?_,o,UY w mS,fun c a=>⟨by rw[(d c a).1];exact q9 w mS,(d c a).2.2⟩,?_,X,.inl ⟨Z,T,Z,Z,Z,fun c a=>⟨(d c a).1,(d c a).2.1⟩⟩⟩,?_,W⟩
     ·show ft (if lo.1||up.1 then lo.2 else x);split
      ·exact O
      ·exact o
     ·show ft (if lo.1||up.1 then up.2 else x);split
      ·exact Q
      ·exact o
     ·have:=w.len;show e.length<4294967296;omega
     ·by_cases b:(lo.1||up.1)=true
      ·rw[if_pos b,if_pos b];have f:iw ⟨0,N,A,I,r,e,lo.2,up.2,x,oe,[],[]⟩<=1+e.length+(ct x+(ct lo.2+ct up.2)):=by
        rw[iw,if_pos rfl];split
        ·simp only[];omega
        ·exact ago _
       rcases y with⟨t,n,aa⟩|⟨t,n⟩<;>rcases U with⟨s,l,G⟩|⟨s,l⟩
       ·rw[t,s]at b;cases b
       ·rw[n,S]at f;rw[n];omega
       ·rw[l,M]at f;rw[l];omega
       ·omega
      ·rw[if_neg b,if_neg b];rw[KE rfl ⟨rfl,rfl⟩];show 1+e.length+ct x+p<=q;omega
theorem U0{ty:Nat->PR Ty}(i:Good ty R 0){ex:Nat->PR Ex}(a:eX ex R 0)(E:(I=true->A=true)/\(r≠[]->I=true)){p q:Nat}(U:p<R.ts.length)(h:mB ty ex R A I r p=.ok m q):wE m/\iw m+p<=q/\q<R.ts.length:=by
 rw[mB]at h;split at h
 ·cases h
 ·rename_i j q1 O;obtain⟨x,rfl,l⟩:=HX w mS O;split at h
  ·cases h
  ·rename_i e q2 C;obtain⟨d,o,W,M⟩:=F1 w (P:=fun k=>∀b∈k,ft b.b/\b.vr=0/\dX b.n=true) (M:=fun k=>k.length+lX k) (abC w mS i) l (fun b a=>by cases a) C;simp only[agp,lX]at o;split at h
   ·cases h
   ·rename_i X q3 f;obtain⟨t,f⟩:=qg w M f;obtain⟨K,T,Y,D⟩:=i _ _ _ (agm _) t f;obtain⟨b,c,rfl⟩:=dv h;obtain⟨n,c⟩:=qg w D c;obtain⟨Q,V,S,s⟩:=a _ _ _ (agm _) n c;refine⟨⟨q9 w mS,q9 w mS,K,Q,fun b a=>⟨(d b a).1,(d b a).2.2⟩,?_,E,.inr (.inl ⟨Z,x,Z,Z,Z,Z,fun b a=>(d b a).2.1⟩)⟩,?_,s⟩
    ·have:=w.len;show e.length<4294967296;omega
    ·rw[wh rfl];show 1+e.length+(ct X+cP b+lX e)+p<=q;omega
theorem F2{p q:Nat}(h:iS R p=.ok r q):(cK r=true∨dX r=true)/\q=p+1/\q<R.ts.length:=by
 rw[iS]at h;split at h
 ·obtain⟨a,b,c⟩:=HW w mS h;exact⟨.inr a,b,c⟩
 ·obtain⟨a,b,c⟩:=HX w mS h;exact⟨.inl a,b,c⟩
theorem U1(k:(I=true->A=true)/\(r≠[]->I=true)){p q:Nat}(t:p<R.ts.length)(h:kQ R A I r p=.ok m q):wE m/\iw m+p<=q/\q<R.ts.length:=by
 rw[kQ]at h;split at h
 ·cases h
 ·rename_i E q1 o;obtain⟨i,rfl,e⟩:=HX w mS o;split at h
  ·cases h
  ·rename_i x q2 a;obtain⟨d,a⟩:=qg w e a;obtain⟨f,rfl,d⟩:=F2 w mS a;obtain⟨D,b,rfl⟩:=dv h;obtain⟨c,b⟩:=qg w d b;obtain⟨l,rfl,c⟩:=F2 w mS b;refine⟨⟨q9 w mS,q9 w mS,q9 w mS,UY w mS,(fun C n=>by cases n),(by show 0<4294967296;decide),k,.inr (.inr ⟨Z,Z,Z,Z,Z,Z,i,l,f⟩)⟩,?_,c⟩;rw[iw,if_neg (fun s=>by cases s),if_neg (fun s=>by cases s)];show 1+0+0+p<=_;omega
theorem Xs{p q:Nat}{h:Bool×Bool×cq}(c:p<R.ts.length)(b:og R p=.ok h q):((h.2.1=true->h.1=true)/\(h.2.2≠[]->h.2.1=true))/\p<=q/\q<R.ts.length:=by
 rw[og]at b;split at b
 ·rename_i e;have a:=w.step c e;split at b
  ·rename_i d;have f:=w.step a d;obtain⟨s,i,rfl⟩:=dv b;obtain⟨l,k⟩:=jG w dc f i;exact⟨⟨fun _=>Z,fun _=>Z⟩,om,k⟩
  ·cases b;exact⟨⟨fun _=>rfl,fun h=>absurd rfl h⟩,om,a⟩
 ·cases b;exact⟨⟨fun h=>h,fun h=>absurd rfl h⟩,ago _,c⟩
theorem Xt{ty:Nat->PR Ty}(f:Good ty R 0){ex:Nat->PR Ex}(l:eX ex R 0){p q:Nat}(i:p<R.ts.length)(h:j6 ty ex R p=.ok m q):wE m/\iw m+p<=q/\q<R.ts.length:=by
 rw[j6]at h;split at h
 ·cases h
 ·rename_i o s k;obtain⟨d,t,b⟩:=Xs w mS i k;split at h
  ·rename_i a;obtain⟨e,n,c⟩:=UZ w mS f d (w.step b a) h;exact⟨e,om,c⟩
  ·split at h
   ·rename_i a;obtain⟨e,n,c⟩:=U0 w mS f l d (w.step b a) h;exact⟨e,om,c⟩
   ·split at h
    ·rename_i a;obtain⟨e,n,c⟩:=U1 w mS d (w.step b a) h;exact⟨e,om,c⟩
    ·cases h
theorem OM{p q:Nat}{s:cq}(a:R.ts.length<=65537)(b:p<R.ts.length)(h:hP R p=.ok s q):fV s=true/\p<q/\q<R.ts.length:=by
 obtain⟨e,d⟩:=(xO w mS a).lt _ _ _ b h;refine⟨?_,e,d⟩;rw[hP]at h;split at h
 ·cases h
 ·split at h
  ·cases h
  ·split at h
   ·rename_i c;cases h;exact c
   ·cases h
theorem Nl(f:R.ts.length<=65537):∀(n:Nat) (l:List vY) (p:Nat) (a:List vY) (q:Nat),p<R.ts.length->(∀d∈l,fV d.p=true/\cK d.a=true)->fT R n l p=.ok a q->(∀d∈a,fV d.p=true/\cK d.a=true)/\a.length+p<=l.length+q/\q<R.ts.length:=by
 intro n;induction n with
 |zero=>intro l p a q _ _ h;cases h
 |succ n M=>
  intro l p a q i k h;rw[fT]at h;split at h
  ·rename_i C;split at h
   ·cases h
   ·rename_i T q1 b;rw[iu]at b;split at b
    ·cases b
    ·rename_i s q2 E;obtain⟨P,S,c⟩:=OM w mS f (w.step i C) E;obtain⟨Q,e,rfl⟩:=dv b;obtain⟨O,e⟩:=qg w c e;obtain⟨D,rfl,o⟩:=HX w mS e;obtain⟨x,K,t⟩:=M _ _ _ _ o (fun d hx=>by
      rcases agz.1 hx with hx|hx
      ·exact k d hx
      ·rw[agy]at hx;subst hx;exact⟨P,D⟩) h
     simp only[agu,agn,agp]at K;exact⟨x,om,t⟩
  ·cases h;exact⟨k,ago _,i⟩
theorem U2{ty:Nat->PR Ty}(s:Good ty R 0){ex:Nat->PR Ex}(hx:eX ex R 0):∀(l:Nat) (d:List jX) (a:List Nat) (p:Nat) (b:List jX×List Nat) (q:Nat),p<R.ts.length->(∀k∈d,wE k)->a.length=d.length->ib ty ex R l d a p=.ok b q->(∀k∈b.1,wE k)/\b.2.length=b.1.length/\gL b.1+p<=gL d+q/\q<R.ts.length:=by
 intro l;induction l with
 |zero=>intro d a p b q _ _ _ h;cases h
 |succ l D=>
  intro d a p b q e i f h;rw[ib]at h;split at h
  ·split at h
   ·cases h
   ·rename_i E q1 C;obtain⟨K,M,c⟩:=Xt w mS s hx e C;obtain⟨o,t,n,x⟩:=D _ _ _ _ _ c (fun k hx=>by
      rcases agz.1 hx with hx|hx
      ·exact i k hx
      ·rw[agy]at hx;subst hx;exact K) (by simp[f]) h
    rw[DO,show gL [E]=iw E by simp[gL]]at n;exact⟨o,t,om,x⟩
  ·cases h;exact⟨i,f,ago _,e⟩
theorem U3{ty:Nat->PR Ty}(e:Good ty R 0){ex:Nat->PR Ex}(a:eX ex R 0)(K:R.ts.length<=4097){p q:Nat}(k:p<R.ts.length)(h:tQ ty ex R p=.ok y q):Nb y.1/\y.2.length=y.1.ds.length/\q<R.ts.length:=by
 rw[tQ]at h;split at h
 ·cases h
 ·rename_i s q1 b;obtain⟨c,b⟩:=qg w k b;obtain⟨C,P,l⟩:=OM w mS om c b;split at h
  ·cases h
  ·rename_i t q3 x;obtain⟨f,d,n⟩:=Nl w mS om _ _ _ _ _ l (fun M a=>by cases a) x;obtain⟨O,D,rfl⟩:=dv h;obtain⟨i,o,d4,E⟩:=U2 w mS e a _ _ _ _ _ _ n (fun M a=>by cases a) rfl D;simp only[agp]at d;have Q:gL []=0:=rfl;refine⟨⟨?_,C,f,i⟩,o,E⟩;show 1+t.length+gL O.1<=4096;omega
end
def Re(c:cq)(f:∀ts,jl c=.ok ts->ts.length<=4097)(d:∀h,Ra c h->g h j):b4 C ca tj [cn c] j g:=by
 refine b4.closed (Nk c fun ts l q b e=>?_) Z d;obtain⟨w,a⟩:=mC (R:=⟨0,0,ts⟩) b;have mS:=vw (R:=⟨0,0,ts⟩) b;obtain⟨k,i,_⟩:=U3 w mS (pt w mS _) (zx w mS _ 0) (f _ b) a e;exact⟨k,i⟩
def tG.inv2{l:List mM}(h:tG l B):∃a,vb l a/\((a=[]/\B=.ci)∨∃d b c,B=.ps d b 7 c a):=by
 exact ab7
def sE(a:Nat):decide (agj a=agj a)=true:=by simp
def sS(a:cq):decide (a=a)=true:=by simp
def sB(a:Bool):decide (a=a)=true:=by simp
def RU{l:List mM}(N:l.length<4294967296)(u:∀p∈l,ct p.b<1073741824)(h:tG l B)(j:tG l L):b4 C ca lN [.d B,.d L] [] fun G Q=>Q=[]/\G=.ret (b6 true):=by
 obtain⟨b,t,Y⟩:=h.inv2;obtain⟨a,s,U⟩:=j.inv2;have y:=t.len;have d:b.length=a.length:=by rw[t.len,s.len]
 refine cv Aj (fun _=>Z) ?_;rcases Y with⟨rfl,rfl⟩|⟨F,A,c,rfl⟩<;>rcases U with⟨rfl,rfl⟩|⟨E,R,x,rfl⟩
 ·exact oy
 ·refine a7 (ry d) ?_;exact oy
 ·refine a7 (ry d) ?_;refine cd.loop ?_;refine a7 (decide_eq_false fun w=>absurd (d▸(show agj 0<agj b.length from w)) sm) ?_;exact a8 0 ⟨Z,Z⟩
 ·refine a7 (ry d) ?_;refine cd.less (dB:=[(0,.d (.ps F A 7 c b)),(1,.d (.ps E R 7 x a)),(5,b5 0)]) ⟨Z,Z,Z,tv⟩ ?_;refine Bl (fun f:Nat=>[(0,.d (.ps F A 7 c b)),(1,.d (.ps E R 7 x a)),(5,b5 f)]) (fun f=>l.length-f) (fun f=>f<=l.length) ?_ 0 (agm _);intro f J;apply aZ<;>intro w
  ·have e:f<l.length:=y▸ee w;obtain⟨aa,S,p,o,rfl⟩:=t.get e;obtain⟨I,P,q,n,rfl⟩:=s.get e;have O:=u _ (ags e);generalize l[f]=H at S P o n O;obtain⟨v,W,M,z,f2,rfl⟩:=o.cZ;obtain⟨m,X,K,r,f3,rfl⟩:=n.cZ;obtain⟨V,T,g⟩:=H;have k:nth b f=some [.str V,.int .i64 (agj T),.int .i64 (agj v),.str W,.str M,z,f2]:=by rw[ck];exact S
   have i:nth a f=some [.str V,.int .i64 (agj T),.int .i64 (agj m),.str X,.str K,r,f3]:=by rw[ck];exact P
   repeat first|refine bZ rfl ?_|refine cc _ k ?_|refine cc _ i ?_|refine a7 (kx _) ?_|refine a7 (oJ _) ?_
   repeat refine a6 (by repeat' (first|exact tv|exact rfl|refine bZ rfl ?_|refine cc _ k ?_|refine cc _ i ?_|refine a7 (kx _) ?_|refine a7 (oJ _) ?_|refine agH ?_ ?_)) ?_
   repeat first|refine a7 (kx _) ?_|refine a7 (oJ _) ?_
   refine ya 1073741824 g _ _ om (agD O) o n ?_;repeat first|refine a6 (by repeat' (first|exact tv|exact rfl|refine bZ rfl ?_|refine cc _ k ?_|refine cc _ i ?_|refine a7 (kx _) ?_|refine a7 (oJ _) ?_|refine agH ?_ ?_)) ?_|refine a7 (kx _) ?_|refine a7 (oJ _) ?_
   exact⟨f+1,e,by show l.length-(f+1)<l.length-f;omega,.same ⟨Z,Z,int_eq (cp om),tv⟩ Z,Z,Z⟩
  ·exact a8 0 ⟨Z,Z⟩
def XA{l:List mM}(d:l.length<4294967296)(c:∀p∈l,ct p.b<1073741824)(h:tG l B)(b:tG l L)(a:g (.ret (b6 true)) j):b4 C ca lN [.d B,.d L] j g:=
 cC (RU d c h b) rfl rfl a
def RY(a:wE m)(E:iw m<=4096)(h:rs m u)(O:rs m N):b4 C ca mI [.agg (u.map V.d),.agg (N.map V.d)] [] fun aw p=>p=[]/\aw=.ret (b6 true):=by
 obtain⟨Q,R,K,t,x⟩:=Nc a E;have d:=a.pl;have o:=a.ex;obtain⟨aI,ah,ap,ay,s,A,b,i,c,q,aj,aa⟩:=m;obtain⟨ai,aE,aB,au,ar,f1,al,aF,av,aC,f2,aA,ax,az,aH,f3,aD,am,aG,an,ao,t4,ak,d4,S,M,w,P,D,rfl⟩:=eK h;obtain⟨y,ab,G,U,I,ad,H,X,W,T,Y,j,L,J,r,ae,ac,g,F,af,v,B,z,ag,n,f,k,l,e,rfl⟩:=eK O;refine cv Aj (fun _=>Z) ?_;repeat first|refine cg (sE _) ?_|refine cg (sS _) ?_|refine cg (sB _) ?_
 refine XA d t S n ?_;repeat first|refine cg (sE _) ?_|refine cg (sS _) ?_|refine cg (sB _) ?_
 refine ya 1073741824 b _ _ om (agD Q) M f ?_;repeat first|refine cg (sE _) ?_|refine cg (sS _) ?_|refine cg (sB _) ?_
 refine ya 1073741824 i _ _ om (agD R) w k ?_;repeat first|refine cg (sE _) ?_|refine cg (sS _) ?_|refine cg (sB _) ?_
 refine ya 1073741824 c _ _ om (agD K) P l ?_;repeat first|refine cg (sE _) ?_|refine cg (sS _) ?_|refine cg (sB _) ?_
 refine U6 1073741824 q _ _ om (agD x) o D e ?_;repeat first|refine cg (sE _) ?_|refine cg (sS _) ?_|refine cg (sB _) ?_
 exact a8 0 ⟨Z,congrArg (fun aq=>cO.ret (b6 aq)) (decide_eq_true Z)⟩
def XB{d:jX}{O b:cH}(i:wE d)(k:iw d<=4096)(h:rs d O)(a:rs d b){c:VS}{l:cO->VS->Prop}(f:l (.ret (b6 true)) c):b4 C ca mI [.agg (O.map V.d),.agg (b.map V.d)] c l:=by
 have e:=RY i k h a;obtain⟨L,A,ah,am,ak,f1,aj,B,ao,al,f2,N,G,I,ae,f3,ab,an,J,H,af,t4,ag,d4,ac,F,ai,aa,ad,rfl⟩:=eK h;obtain⟨S,M,p,u,t,X,q,T,n,Q,Y,s,E,x,w,j,R,z,y,m,K,v,g,r,U,P,W,o,D,rfl⟩:=eK a;exact cC e Z Z f
def zn.inv2{l:List jX}(h:zn l B):∃a,oh l a/\((a=[]/\B=.ci)∨∃d b c,B=.ps d b 31 c a):=by
 exact ab7
def wY.inv2{l:List vY}(h:wY l B):(l=[]/\B=.ci)∨∃a b c,B=.ps a b 2 c (l.map fF):=by
 cases h with
 |nil=>exact .inl ⟨rfl,rfl⟩
 |ps h=>exact .inr ⟨_,_,_,rfl⟩
structure XG (m:FO):Prop where
 il:m.is.length<4294967296
 dl:m.ds.length<4294967296
 ds:∀x∈m.ds,wE x/\iw x<=4096
variable{H:FO}
def XG.of(h:Nb H):XG H:=by
 have b:=h.size;have d:1+H.is.length+gL H.ds<=4096:=b;have e:=vp H.ds;exact⟨om,om,fun c a=>⟨h.ds c a,by have:=DR a;omega⟩⟩
def XG.zero:XG q7:=⟨dc,dc,fun _ h=>by cases h⟩
def afE(c:cq):jm .string (cz (.str c)) (cz (.str c))=some true:=by
 show some (pz _ _)=_;have:∀a:cq,l8 a a=true:=by
  intro a;induction a with
  |nil=>rfl
  |cons d a b=>simp[l8,b]
 simp[pz,this]
def aeu(c b:Operand)(p a:cq):O9 C 81 c b (.agg ⟨agN cz [D.str p,D.str a]⟩) (.agg ⟨agN cz [D.str p,D.str a]⟩)=some true:=by
 have d:O9 C 81 c b (.agg ⟨agN cz [D.str p,D.str a]⟩) (.agg ⟨agN cz [D.str p,D.str a]⟩)=
  match jm .string (cz (.str p)) (cz (.str p))with
   |some true=>match jm .string (cz (.str a)) (cz (.str a))with
    |some true=>some true
    |some false=>some false
    |none=>none
   |some false=>some false
   |none=>none:=by kernel_rfl
 rw[d,afE,afE]
def afU {P:Prop} (h:P:=by
 first
  |(refine cd.loop ?_
    exact a8 0 ⟨Z,Z⟩)
  |(refine cd.less (dB:=[(2,.bp 0 0),(3,.bp 1 0),(6,b5 0)]) ⟨rfl,rfl,rfl,tv⟩ ?_
    refine Bl (fun i:Nat=>[(2,.bp 0 0),(3,.bp 1 0),(6,b5 i)]) (fun i=>nL.length-i) (fun i=>i<=nL.length) ?_ 0 (Nat.zero_le _);intro i hi;apply aZ<;>intro hc
    ·try exact absurd (hDD▸ee hc) (Nat.not_lt_zero _)
     all_goals
      have hi':i<nL.length:=e1▸ee hc;obtain⟨hw1,hw2⟩:=hdw _ (List.getElem_mem hi');obtain⟨d,hx,vy⟩:=hl.get hi';obtain⟨d',hy,Y5⟩:=hl'.get hi';have hQ:=@XB _ _ _ hw1 hw2 vy Y5;obtain⟨ps,k1,m1,n1,a1,f1,k2,m2,n2,a2,f2,k3,m3,n3,a3,f3,k4,m4,n4,x4,u4,t4,l4,d4,h1,h2,h3,h4,h5,rfl⟩:=eK vy;obtain⟨ps',k1',m1',n1',a1',f1',k2',m2',n2',a2',f2',k3',m3',n3',a3',f3',k4',m4',n4',x4',u4',t4',l4',d4',D2,Ie,F8,Ru,h5',rfl⟩:=eK Y5;have RB:=(ck els i).trans hx;have RC:=(ck wl i).trans hy;repeat first|refine bZ rfl ?_|refine cc _ RB ?_|refine cc _ RC ?_
      repeat refine cf ?_
      refine hQ ?_;repeat refine cf ?_
      exact⟨i+1,hi',by show nL.length-(i+1)<nL.length-i;omega,.same ⟨Z,Z,int_eq (cp om),tv⟩ Z,Z,Z⟩
    ·exact a8 0 ⟨Z,Z⟩)):P:=h
theorem R4{d d':cH}(x:XG H)(h:At H d)(t:At H d'):b4 C ca lL [.agg (d.map V.d),.agg (d'.map V.d)] [] fun M p=>p=[]/\M=.ret (b6 true):=by
 obtain⟨D,K,hi,n,rfl⟩:=h;obtain⟨s,w,hi',f,rfl⟩:=t;obtain⟨b,e,hdw⟩:=x;obtain⟨R,a,nL⟩:=H;have b:a.length<4294967296:=b;have e:nL.length<4294967296:=e;obtain⟨els,hl,hb⟩:=n.inv2;obtain⟨wl,hl',hb'⟩:=f.inv2;have e1:=hl.len;have hDD:els.length=wl.length:=by rw[hl.len,hl'.len]
 have o:=hi.inv2;have k:=hi'.inv2;have E:(a.map fF).length=(a.map fF).length:=rfl;refine cv Aj (fun _=>Z) ?_;rcases o with⟨q,rfl⟩|⟨T,S,c,rfl⟩<;>rcases k with⟨l,rfl⟩|⟨P,Q,O,rfl⟩
 ·subst q;exact E0
 ·subst q;exact E0
 ·subst l;exact E0
 ·rcases hb with⟨rfl,rfl⟩|⟨b2,o2,c2,rfl⟩<;>rcases hb' with⟨rfl,rfl⟩|⟨b2',o2',c2',rfl⟩;all_goals
   repeat first|refine a7 (kx _) ?_|refine a7 (oJ _) ?_|refine a7 (ry hDD) ?_
   refine cd.less (dB:=[(2,.bp 0 0),(3,.bp 1 0),(5,b5 0)]) ⟨Z,Z,Z,tv⟩ ?_;refine Bl (fun i:Nat=>[(2,.bp 0 0),(3,.bp 1 0),(5,b5 i)]) (fun i=>a.length-i) (fun i=>i<=a.length) ?_ 0 (agm _);intro i hi;apply aZ<;>intro hc
   ·have hi':i<a.length:=(by have:=ee hc;rwa[agw]at this);have RB:nth (a.map fF) i=some [.str a[i].p,.str a[i].a]:=by rw[ck,agB,agl hi'];try rfl
    repeat first|refine bZ rfl ?_|refine cc _ RB ?_
    refine cc true (aeu _ _ _ _) ?_;repeat refine a6 (by repeat' (first|exact tv|exact rfl|refine bZ rfl ?_|refine cc _ RB ?_|refine cc true (aeu _ _ _ _) ?_|refine agH ?_ ?_)) ?_
    exact⟨i+1,hi',by show a.length-(i+1)<a.length-i;omega,.same ⟨Z,Z,int_eq (cp om),tv⟩ Z,Z,Z⟩
   ·exact afU
def XH(b:XG H)(h:At H u)(a:At H N)(f:g (.ret (b6 true)) j):b4 C ca lL [.agg (u.map V.d),.agg (N.map V.d)] j g:=by
 have d:=R4 b h a;obtain⟨n,k,p,l,rfl⟩:=h;obtain⟨e,i,o,c,rfl⟩:=a;exact cC d Z Z f
structure Cut (R R':Rd) (P:Nat):Prop where
 eq:∀p,p<P->R.tok p=R'.tok p
 len:R'.ts.length=P+1
 le:P<R.ts.length
 fin:(R'.tok P).kind=0
 w:R'.Wf
def Plc{α:Type}(R:Rd)(p:Nat):PR α->Prop
 |.ok _ q=>p<=q/\q<R.ts.length
 |.bad c b=>b≠3∨∃a,p<=a/\a<R.ts.length/\c=(R.tok a).off
def aev{α:Type}(b P:Nat):PR α->Prop
 |.ok _ q=>q<P
 |.bad c a=>a=3/\c<b
def KQ{α:Type}(R R':Rd)(P p:Nat)(b a:PR α):Prop:=Plc R' p a/\(p<P->aev (R'.tok P).off P a->b=a)
def Plc.up{α:Type}{R:Rd}{p b:Nat}{d:PR α}(h:Plc R b d)(a:p<=b):Plc R p d:=by
 cases d with
 |ok e q=>exact⟨Nat.le_trans a h.1,h.2⟩
 |bad k l=>exact h.imp id fun⟨f,e,i,c⟩=>⟨f,Nat.le_trans a e,i,c⟩
def Plc.tok{α:Type}{R:Rd}{p a:Nat}(h:p<R.ts.length):Plc R p (.bad (R.tok p).off a:PR α):=.inr ⟨p,ago _,h,rfl⟩
section
variable{R R':Rd} {P:Nat} (c:Cut R R' P) {α β:Type}
include c
theorem Cut.late{p:Nat}{b:PR α}(f:P<=p)(h:Plc R' p b):¬aev (R'.tok P).off P b:=by
 have i:=c.len;cases b with
 |ok l q=>intro(n:q<P);have:=h.1;omega
 |bad s n=>
  intro⟨d,a⟩;rcases h with h|⟨k,l,o,e⟩
  ·exact h d
  ·have:k=P:=om;rw[e,this]at a;exact Nat.lt_irrefl _ a
theorem KQ.up{p a:Nat}{i e:PR α}(h:KQ R R' P a i e)(f:p<=a):KQ R R' P p i e:=by
 refine⟨h.1.up f,fun k d=>?_⟩;rcases Nat.lt_or_ge a P with b|b
 ·exact h.2 b d
 ·exact absurd d (c.late b h.1)
theorem KQ.late{p:Nat}{d a:PR α}(c:P<=p)(h:Plc R' p a):KQ R R' P p d a:=⟨h,fun b _=>om⟩
theorem KQ.map{p:Nat}{e a:PR α}(h:KQ R R' P p e a){f:α->β}:KQ R R' P p (e.map f) (a.map f):=by
 refine⟨?_,fun c b=>?_⟩
 ·have:=h.1;cases a with
  |ok i q=>exact this
  |bad k l=>exact this
 ·have d:aev (R'.tok P).off P a:=by cases a with
   |ok i q=>exact b
   |bad k l=>exact b
  rw[h.2 c d]
theorem af8{p:Nat}{x d:PR α}{w k:PR β}{f t:α->Nat->PR β}(h:KQ R R' P p x d)(C:∀a q,d=.ok a q->p<=q->q<R'.ts.length->KQ R R' P q (f a q) (t a q)) 
  (M:∀o e,x=.bad o e->w=.bad o e:=by intro o e hx;rw[hx]) (n:∀o e,d=.bad o e->k=.bad o e:=by intro o e hx;rw[hx])
  (D:∀a q,x=.ok a q->w=f a q:=by intro a q hx;rw[hx]) (l:∀a q,d=.ok a q->k=t a q:=by intro a q hx;rw[hx]):KQ R R' P p w k:=by
 rcases h with⟨b,s⟩;cases hx:d with
 |bad o e=>
  rw[n _ _ hx];rw[hx]at b;refine⟨b,fun a K=>?_⟩;have:=s a (by rw[hx];exact K);rw[hx]at this;rw[M _ _ this]
 |ok a q=>
  rw[hx]at b;have E:=C a q hx b.1 b.2;rw[l _ _ hx];refine⟨E.1.up b.1,fun K O=>?_⟩;rcases Nat.lt_or_ge q P with i|i
  ·have:=s K (by rw[hx];exact i);rw[hx]at this;rw[D _ _ this];exact E.2 i O
  ·exact absurd O (c.late i E.1)
theorem afZ{p:Nat}{d c a:PR α}(b:p<P->d=c)(h:KQ R R' P p c a):KQ R R' P p d a:=⟨h.1,fun e f=>by rw[b e];exact h.2 e f⟩
omit c in
theorem KQ.ok{p q:Nat}{b:α}(h:p<=q)(a:q<R'.ts.length):KQ R R' P p (.ok b q) (.ok b q):=⟨⟨h,a⟩,fun _ _=>rfl⟩
theorem KQ.tok{p a:Nat}(h:p<R'.ts.length):KQ R R' P p (.bad (R'.tok p).off a:PR α) (.bad (R'.tok p).off a):=⟨Plc.tok h,fun _ _=>rfl⟩
theorem af9{p o c b a:Nat}(h:c≠3)(d:a≠3):KQ R R' P p (.bad b a:PR α) (.bad o c):=⟨.inl h,fun _ e=>absurd e.1 h⟩
omit c in
theorem Cut.step(c:Cut R R' P){p:Nat}{a:cq}(h:p<R'.ts.length)(ht:c5 (R'.tok p) a=true):p+1<R'.ts.length:=c.w.step h ht
omit c in
theorem Cut.go(c:Cut R R' P){p:Nat}(h:p<R'.ts.length)(ht:(R'.tok p).kind≠0):p+1<R'.ts.length:=c.w.go p _ (b0 h) ht
end
section
variable{R R':Rd} {P:Nat} (c:Cut R R' P) {lo:Nat} {ty vv:Nat->PR Ty} (ht:∀q,lo<=q->q<R'.ts.length->KQ R R' P q (ty q) (vv q))
include c ht
end
section
variable{R R':Rd} {P:Nat} (c:Cut R R' P)
include c
end
section
variable{R R':Rd} {P:Nat} (c:Cut R R' P) {lo:Nat} {ex zo:Nat->PR Ex} (he:∀q,lo<=q->q<R'.ts.length->KQ R R' P q (ex q) (zo q))
include c he
end
section
variable{R R':Rd} {P:Nat} (c:Cut R R' P) {lo:Nat}
include c
end
section
variable{R R':Rd} {P:Nat} (c:Cut R R' P) {lo:Nat} {ex zo:Nat->PR Ex} (he:∀q,lo<=q->q<R'.ts.length->KQ R R' P q (ex q) (zo q))
include c he
variable{ty vv:Nat->PR Ty} (ht:∀q,lo<=q->q<R'.ts.length->KQ R R' P q (ty q) (vv q))
include ht
end
section
variable{R R':Rd} {P:Nat} (c:Cut R R' P)
include c
end
end Go.Proofs.YtpejealjkmhkgaaGreatDoor
