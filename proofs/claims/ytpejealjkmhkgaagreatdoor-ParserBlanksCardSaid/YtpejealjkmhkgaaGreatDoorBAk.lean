/- Part of the proof. -/
import Derived.Test.YtpejealjkmhkgaaGreatDoorBAj
set_option linter.all false
set_option maxHeartbeats 16000000
set_option maxRecDepth 100000
open List renaming length_cons->agj,length_append->agk,length_nil->agm,getElem?_eq_getElem->agn,eq_nil_of_length_eq_zero->ago,take_of_length_le->agp,append_nil->agr,getElem_mem->agt,append_assoc->agv,map->agw,take_add_one->agy,cons_append->agz,map_append->agB,length_map->agC,flatten_cons->agE,length_take->agG,take->agJ,drop->agK,map_cons->agM,drop_zero->agQ,mem_cons->agR,take_append_drop->agW,length_pos_iff->agY,flatten_append->agZ
open Int renaming ofNat->agl,ofNat_eq_natCast->agx,ofNat_lt->agX
open Nat renaming le_refl->agq,le_of_ble_eq_true->ags,zero_le->agu,reduceEqDiff->agA,mul_succ->agD,beq->agF,not_lt_zero->agI,zero_add->agN,mul_zero->agO,mul_comm->agU,le_trans->agV
open Bool renaming and_eq_true->agH,true_or->agP,true_and->agS,and_true->agT
open And renaming intro->agL
namespace Go.Proofs.YtpejealjkmhkgaaGreatDoor
open Go.AM Go.VM
def TB(A:Bool):∀j,Hz A j:=by
 intro j;induction j with
 |zero=>intro q i l r o m _ _ _ t s x w _ _ _ _ _ p;omega
 |succ j R=>
  intro q i l r o m n h a t s x w d f e b c p;by_cases k:i.length=1
  ·obtain⟨C,P,rfl⟩:=FJ i o;have:P=[]:=ago (by simpa using k);subst this;exact JW A q C l r h a t s x w d f e b c
  ·by_cases B:l.length=1
   ·obtain⟨C,D,rfl⟩:=FJ l m;have:D=[]:=ago (by simpa using B);subst this;exact JX A q i C r k n a t s x w d f e b c
   ·exact JZ A j R q i l r om om n h a t s x w d f e b c p
variable{U X:V} {g:cO->VS->Prop}
def yL(a:Bool)(k c d o:List FE)(B:0<c.length)(x:0<d.length)(A:mw FE.n c)(q:mw FE.n d)(h:((c++d).map FE.n).Nodup)(n l m b:Nat)(t:List FE)(r:t=k++(c++(d++o)))(D:n=t.length)(R:l=k.length)(P:m=l+c.length)(p:b=m+d.length)(w:n<4294967296) 
  {f:V} (j:U=b5 l) (e:X=b5 m) (i:f=b5 b) (s:g (.ret (.dS [])) [.row (ew a) (dg a (k++(cG FE.n (c++d)++o)))]):b4 C ca (Qe a) [.ms 0 (ew a) 0 n n,U,X,f,(pU a)] [.row (ew a) (dg a t)] g:=by
 subst j e i r;refine(TB a _ k c d o B x A q h n l m b D R P p w (agq _)).mono (fun v Y u=>?_);rw[u.1,u.2];exact s
def TC(a:Bool)(c d i:List FE)(e:(d.map FE.n).Nodup)(n j b:Nat)(o:List FE)(l:o=c++(d++i))(q:n=o.length)(r:j=c.length)(k:b=c.length+d.length)(p:n<4294967296)(h:U=b5 j)(f:X=b5 b)(m:g (.ret (.dS [])) [.row (ew a) (dg a (c++(cG FE.n d++i)))]):
  b4 C ca (acF a) [.ms 0 (ew a) 0 n n,U,X,(pU a)] [.row (ew a) (dg a o)] g:=by
 subst h f l;refine(BG a c d i e n j b q r k p).mono (fun w s t=>?_);rw[t.1,t.2];exact m
def nA(c:Nat)(b:List (List FE)):Prop:=∀a∈b,a.length=c/\mw FE.n a
variable{N u:Nat} {I:List (List FE)}
def nA.len(f:nA u I):I.flatten.length=u*I.length:=by
 induction I with
 |nil=>simp
 |cons e I a=>
  have d:=f e sm;have b:=a (fun e c=>f e (by simp[c]));simp only[agE,agk,agj,d.1,b,agD];omega
def nA.snoc{l:List FE}(e:nA u I)(c:l.length=u)(b:mw FE.n l):nA u (I++[l]):=by
 intro d a;rcases List.mem_append.1 a with a|a
 ·exact e d a
 ·simp at a;subst a;exact⟨c,b⟩
def stT(a:Bool)(n d c b:Nat):Tm:=[(0,.ms 0 (ew a) 0 n n),(1,b5 n),(2,(pU a)),(6,b5 d),(7,b5 c),(8,b5 b)]
def vQ{A b B:List FE}(a:((A++(b++B)).map FE.n).Nodup):(b.map FE.n).Nodup:=by
 rw[agB,agB,List.nodup_append]at a;exact(List.nodup_append.1 a.2.1).1
def HA(h:Bool)(xs:List FE)(E:(xs.map FE.n).Nodup)(n:Nat)(F:n=xs.length)(R:n<4294967296):
  b4 C ca (adM h) [.ms 0 (ew h) 0 n n,b5 n,(pU h)] [.row (ew h) (dg h xs)] fun am ab=>ab=[.row (ew h) (dg h (cG FE.n xs))]/\am=.ret (.dS []):=by
 have aj:h=h:=rfl;cases h;all_goals
  let h:Bool:=Ba aj
  refine cj ?_;refine cw (dB:=stT h n 20 (20*([]:List (List FE)).length) (20*([]:List (List FE)).length+20)) (fU:=[.row (ew h) (dg h (([]:List (List FE)).flatten++xs))]) .eS ?_;refine cd.iter (fun f:List (List FE)×List FE=>stT h n 20 (20*f.1.length) (20*f.1.length+20)) (fun f=>[.row (ew h) (dg h (f.1.flatten++f.2))]) (fun f=>f.2.length)
   (fun f=>nA 20 f.1/\(f.1.flatten++f.2).Perm xs) ?_ ([],xs) ⟨by intro ag R;simp at R,by simp⟩
  rintro⟨k,d⟩ ⟨o,b⟩;have o:nA 20 k:=o;have b:(k.flatten++d).Perm xs:=b;have P:=o.len;have m:n=20*k.length+d.length:=by rw[F,<-b.length_eq,agk,P]
  have s:=xH (key:=FE.n) b E;apply aZ<;>intro g
  ·have B:20*k.length+20<=n:=JA g;obtain⟨i,Y,rfl,V⟩:=Mt d 20 om;have j:=vQ s;refine TC h k.flatten i Y j n (20*k.length) (20*k.length+20) _ Z (by rw[F,<-b.length_eq]) P.symm om om Z Z ?_;refine⟨(k++[cG FE.n i],Y),⟨o.snoc (by rw[nx,V]) (iG j),?_⟩,by show Y.length<(i++Y).length;rw[agk];omega,.same ⟨Z,Z,Z,Z,int_eq ?_,int_eq ?_,tv⟩ ?_,Z,Z⟩
   ·show((k++[cG FE.n i]).flatten++Y).Perm xs;refine List.Perm.trans ?_ b;simp only[agZ,agE,List.flatten_nil,agr,agv];exact List.Perm.append_left _ ((dE i).append_right _)
   ·show agl (20*k.length+20)=agl (20*(k++[cG FE.n i]).length);rw[agk];rfl
   ·show IntKind.i64.wrap (agl (20*k.length+20)+20)=agl (20*(k++[cG FE.n i]).length+20);rw[agk];exact c4 (b:=20) om
   ·show _=[cN.row (ew h) (dg h ((k++[cG FE.n i]).flatten++Y))];exact acp
  ·have B:n<20*k.length+20:=Iv g;have A:(d.map FE.n).Nodup:=by
    have:((k.flatten++(d++[])).map FE.n).Nodup:=by rw[agr];exact s
    exact vQ this
   refine TC h k.flatten d [] A n (20*k.length) n _ (by rw[agr]) (by rw[F,<-b.length_eq]) P.symm om om Z Z ?_;have J:(cG FE.n d).length=d.length:=nx d;have u:(k.flatten++cG FE.n d).Perm xs:=(List.Perm.append_left _ (dE d)).trans b;have l:=iG (key:=FE.n) A;generalize cG FE.n d=U at J u l;refine cw (dB:=[(0,.ms 0 (ew h) 0 n n),(1,b5 n),(2,(pU h)),(6,b5 20)]) (fU:=[.row (ew h) (dg h (k.flatten++U))]) (.same ⟨Z,Z,Z,Z,tv⟩ (by rw[agr])) ?_;refine cd.iter (fun f:Nat×List (List FE)×List FE=>[(0,.ms 0 (ew h) 0 n n),(1,b5 n),(2,(pU h)),(6,b5 f.1)]) (fun f=>[.row (ew h) (dg h (f.2.1.flatten++f.2.2))]) (fun f=>n-f.1)
    (fun f=>0<f.1/\f.1<8589934592/\nA f.1 f.2.1/\mw FE.n f.2.2/\f.2.2.length<f.1/\(f.2.1.flatten++f.2.2).Perm xs) ?_ (20,k,U) ⟨by show 0<20;omega,by show 20<8589934592;omega,o,l,by show U.length<20;omega,u⟩
   clear b s A m B g J u l P o;rintro⟨a,k,d⟩ ⟨X,I,o,l,M,b⟩;have X:0<a:=X;have I:a<8589934592:=I;have o:nA a k:=o;have l:mw FE.n d:=l;have M:d.length<a:=M;have b:(k.flatten++d).Perm xs:=b;have P:=o.len;have m:n=a*k.length+d.length:=by rw[F,<-b.length_eq,agk,P]
   apply aZ<;>intro g
   ·have B:a<n:=ee g;have K:IntKind.i64.wrap (2*agl a)=agl (2*a):=by
     rw[show(2:Int)*agl a=agl (2*a)from rfl,wrap64 (by simp only[agx];omega) (by simp only[agx];omega)]
    have aa:IntKind.i64.wrap (2*agl a)=agl (2*a*([]:List (List FE)).length+2*a):=by
     rw[K];simp
    refine cw (dB:=stT h n a (2*a*([]:List (List FE)).length) (2*a*([]:List (List FE)).length+2*a)) (fU:=[.row (ew h) (dg h (([]:List (List FE)).flatten++(k.flatten++d)))]) (.same ⟨Z,Z,Z,Z,Z,int_eq aa,tv⟩ Z) ?_;refine cd.iter (fun f:List (List FE)×List (List FE)=>stT h n a (2*a*f.1.length) (2*a*f.1.length+2*a)) (fun f=>[.row (ew h) (dg h (f.1.flatten++(f.2.flatten++d)))]) (fun f=>f.2.length)
     (fun f=>nA (2*a) f.1/\nA a f.2/\(f.1.flatten++(f.2.flatten++d)).Perm xs) ?_ ([],k) ⟨by intro ag R;simp at R,o,by simpa using b⟩
    rintro⟨c,e⟩ ⟨p,q,b⟩;have p:nA (2*a) c:=p;have q:nA a e:=q;have b:(c.flatten++(e.flatten++d)).Perm xs:=b;have L:=p.len;have ae:=q.len;obtain⟨r,H⟩:∃r,2*a*c.length=r:=⟨_,rfl⟩;have s:=xH (key:=FE.n) b E;have z:n=(c.flatten++(e.flatten++d)).length:=by rw[F,<-b.length_eq]
    have m:n=r+(a*e.length+d.length):=by rw[z,agk,agk,L,ae,H]
    have Q:r=c.flatten.length:=by rw[L,H]
    dsimp only;rw[H];apply aZ<;>intro W
    ·have ad:r+2*a<=n:=JA W;cases e with
     |nil=>simp only[agm,agO]at m;omega
     |cons i e=>
      cases e with
      |nil=>simp only[agj,agm,agD,agO]at m;omega
      |cons D e=>
       have V:=q i sm;have ak:=q D sm;have w:c.flatten++((i::D::e).flatten++d)=c.flatten++(i++(D++(e.flatten++d))):=by simp only[agE,agv]
       have j:((i++D).map FE.n).Nodup:=by
        refine vQ (A:=c.flatten) (B:=e.flatten++d) ?_;rw[agv,<-w];exact s
       have t:IntKind.i64.wrap (agl r+agl a)=agl (r+a):=c4 om;refine yL h c.flatten i D (e.flatten++d) om om V.2 ak.2 j n r (r+a) (r+2*a) _ w z Q om om om Z (vi t) Z ?_;have S:(cG FE.n (i++D)).length=2*a:=by rw[nx,agk];omega
       have ac:2*a*(c++[cG FE.n (i++D)]).length=r+2*a:=by
        rw[agk,List.length_singleton,Nat.mul_add,H,Nat.mul_one]
       refine⟨(c++[cG FE.n (i++D)],e),⟨p.snoc S (iG j),fun ag R=>q ag (by simp[R]),?_⟩,by show e.length<e.length+1+1;omega,.same ⟨Z,Z,Z,Z,int_eq ?_,int_eq ?_,tv⟩ ?_,Z,Z⟩
       ·show((c++[cG FE.n (i++D)]).flatten++(e.flatten++d)).Perm xs;refine List.Perm.trans ?_ b;rw[w];simp only[agZ,agE,List.flatten_nil,agr,agv];rw[<-agv i];exact List.Perm.append_left _ ((dE (i++D)).append_right _)
       ·show agl (r+2*a)=agl (2*a*(c++[cG FE.n (i++D)]).length);rw[ac]
       ·show IntKind.i64.wrap (agl (r+2*a)+IntKind.i64.wrap (2*agl a))=agl (2*a*(c++[cG FE.n (i++D)]).length+2*a);rw[ac,K];exact c4 om
       ·show _=[cN.row (ew h) (dg h ((c++[cG FE.n (i++D)]).flatten++(e.flatten++d)))];exact acp
    ·have ad:n<r+2*a:=Iv W;have y:IntKind.i64.wrap (agl a*2)=agl (a*2):=by
      rw[show agl a*(2:Int)=agl (a*2)from rfl,wrap64 (by simp only[agx];omega) (by simp only[agx];omega)]
     have t:IntKind.i64.wrap (agl r+agl a)=agl (r+a):=c4 om;cases e with
     |nil=>
      simp only[agm,agO,agN]at m;have x:¬(r+a<n):=om;refine a7 (by rw[t];exact decide_eq_false (fun al=>x (agX.1 al))) ?_;refine⟨(a*2,c,d),⟨by show 0<a*2;omega,by show a*2<8589934592;omega,by rw[agU];exact p,l,by show d.length<a*2;omega,b⟩,by show n-a*2<n-a;omega,.same ⟨Z,Z,Z,int_eq y,tv⟩ Z,Z,Z⟩
     |cons i e=>
      cases e with
      |cons D e=>simp only[agj,agD]at m;omega
      |nil=>
       have V:=q i sm;simp only[agj,agm,agD,agO,agN]at m;have w:c.flatten++([i].flatten++d)=c.flatten++(i++(d++[])):=by simp
       by_cases G:0<d.length
       ·have x:r+a<n:=om;refine cg (by rw[t];exact decide_eq_true (agX.2 x)) ?_;have j:((i++d).map FE.n).Nodup:=by
         refine vQ (A:=c.flatten) (B:=[]) ?_;rw[agv,<-w];exact s
        refine yL h c.flatten i d [] om G V.2 l j n r (r+a) n _ w z Q om om om Z (vi t) Z ?_;have S:(cG FE.n (i++d)).length=a+d.length:=by rw[nx,agk];omega
        refine⟨(a*2,c,cG FE.n (i++d)),⟨by show 0<a*2;omega,by show a*2<8589934592;omega,by rw[agU];exact p,iG j,by show(cG FE.n (i++d)).length<a*2;omega,?_⟩,by show n-a*2<n-a;omega,.same ⟨Z,Z,Z,int_eq y,tv⟩ (by rw[agr]),Z,Z⟩;show(c.flatten++cG FE.n (i++d)).Perm xs;refine List.Perm.trans ?_ b;rw[w,agr];exact List.Perm.append_left _ (dE (i++d))
       ·have v:d=[]:=ago om;have x:¬(r+a<n):=by rw[v]at m;simp only[agm]at m;omega
        refine a7 (by rw[t];exact decide_eq_false (fun al=>x (agX.1 al))) ?_;refine⟨(a*2,c,i),⟨by show 0<a*2;omega,by show a*2<8589934592;omega,by rw[agU];exact p,V.2,by show i.length<a*2;omega,?_⟩,by show n-a*2<n-a;omega,.same ⟨Z,Z,Z,int_eq y,tv⟩ (by rw[w,v,agr,agr]),Z,Z⟩;show(c.flatten++i).Perm xs;rw[w,v,agr,agr]at b;exact b
   ·have B:n<=a:=dq g;refine⟨?_,Z⟩;have ai:mw FE.n (k.flatten++d):=by
     cases k with
     |nil=>simpa using l
     |cons ag k=>
      have ah:=o ag sm;simp only[agj,agD]at m;have G:d=[]:=ago om;have af:k=[]:=by
       cases k with
       |nil=>rfl
       |cons ap k=>simp only[agj,agD]at m;omega
      subst G af;simpa using ah.2
    rw[A8 E b ai]
def Bd(a:Bool)(xs:List FE)(c:(xs.map FE.n).Nodup)(n:Nat)(f:n=xs.length)(e:n<4294967296):
  b4 C ca (adN a) [.ms 0 (ew a) 0 n n,(pU a)] [.row (ew a) (dg a xs)] fun h b=>b=[.row (ew a) (dg a (cG FE.n xs))]/\h=.ret (.dS []):=by
 have d:a=a:=rfl;cases a;all_goals
  let a:Bool:=Ba d
  refine cj ?_;refine(HA a xs c n f e).mono (fun h b i=>?_);rw[i.1,i.2];exact⟨Z,Z⟩
variable{v:VS}
def lO(xs:List FE)(i:(xs.map FE.n).Nodup)(l:xs.length<4294967296)(n:Nat)(j:n=xs.length)(c:Nat)(b:nth v c=some (.row 7 (rows xs))) 
  (e:g (.ret (.ms c 7 0 n n)) (v.set c (.row 7 (rows (cG FE.n xs))))):b4 C ca tq [.ms c 7 0 n n] v g:=by
 refine cj ?_;refine Di (dM:=[.ms 0 7 0 n n,pU false]) (P:=fun f a=>a=rows (cG FE.n xs)/\f=.ret (.dS [])) ((Bd false xs i n j om).mono fun f k h=>?_) c b (A9 xs) Z Z (fun f a h=>?_)
 ·obtain⟨rfl,rfl⟩:=h;exact⟨_,Z,Z,A9 _,Z,Z⟩
 ·obtain⟨rfl,rfl⟩:=h;exact e
def Mw(a:g (.ret (.d .ci)) v):b4 C ca tq [.d .ci] v g:=by
 refine cj ?_;refine cj ?_;refine cj ?_;refine cd.loop ?_;refine cj ?_;refine cd.loop ?_;refine cd.loop ?_;exact a
def db(j:Nat->PR Ty)(b:Rd)(e h:cq)(a:Bool):Nat->List oG->Nat->PR (List oG)
 |0,_,_=>.bad 0 3
 |f+1,d,c=>
  if(b.tok c).kind≠1 then .bad (b.tok c).off 3
  else if(b.tok c).text∈d.map (·.1)then .bad (b.tok c).off 5
  else match cu b [[58]] (if a&&c5 (b.tok (c+1)) [63]then c+1+1 else c+1)with
   |.bad k i=>.bad k i
   |.ok _ q2=>match j q2 with
    |.bad k i=>.bad k i
    |.ok l q1=>if c5 (b.tok q1) h then .ok (d++[((b.tok c).text,l,a&&c5 (b.tok (c+1)) [63])]) (q1+1)else match cu b [e] q1 with
     |.bad k i=>.bad k i
     |.ok _ q3=>db j b e h a f (d++[((b.tok c).text,l,a&&c5 (b.tok (c+1)) [63])]) q3
def PR.map{b a:Type}(c:b->a):PR b->PR a
 |.ok d f=>.ok (c d) f
 |.bad e h=>.bad e h
def eY(e:Nat->PR Ty)(d:Rd)(b a:cq)(c:Bool)(p:Nat):PR (List oG):=
 if c5 (d.tok p) a then .ok [] (p+1)else(db e d b a c d.ts.length [] p).map (cG (·.1))
def adQ(e:Rd)(d:Nat)(a:List cq)(b:Bool):List FE->VS
 |[]=>[dp e d,.box [.bp 0 0],.box [b6 b],.box [.d .ci],pg a,.box [.map 4]]
 |x::c=>[dp e d,.box [.bp 0 0],.box [b6 b],.box [.ms 6 7 0 (c.length+1) (c.length+1)],pg a,.box [.map 4],.row 7 (rows (x::c))]
def tT:List V:=[.d (.str []),.d (.int .i64 0),.d (.str []),.d (.str []),.d .ci,.d .ci,.d (.bool false)]
def aaS:Nat->Bool:=fun a=>agF a 18
def ZO:Nat->Bool:=fun a=>agF a 16||agF a 24
def x8{a n c:Nat}(e:c<=a)(b:a<4294967296)(d:n=1):(c+n)*112<=fy/\c+n<=fy:=by
 unfold fy;omega
def F6(a:List FE):a.length+1<a.length+1+1:=Nat.lt_succ_self _
def xW(a:FE)(b:List FE):nth (agJ (b.length+1) (agK 0 (rows (a::b)))++[tT]) (0+(b.length+1))=some tT:=by
 rw[ck,List.getElem?_append_right (by simp[rows])];simp[rows]
def Cm(a:FE)(b:List FE)(c:FE):(agJ (b.length+1) (agK 0 (rows (a::b)))++[tT]).set (0+(b.length+1)) ((fe c).map V.d)=rows (a::(b++[c])):=by
 rw[agQ,agp (by simp[rows]),List.set_append_right _ _ (by simp[rows])];simp[rows]
variable{F:Nat->Nat}
def E8(a:FE)(b:List FE)(c:FE):some (cN.row 7 ((agJ (b.length+1) (agK 0 (rows (a::b)))++[tT]).set (0+(b.length+1)) ((fe c).map V.d)))=some (hV F (.row 7 (rows (a::(b++[c]))))):=by
 rw[Cm];exact congrArg some (sM F 7 ((a::(b++[c])).map fe)).symm
def NA(c:Nat)(a:List FE)(b:FE):some (cN.box [.ms c 7 0 (a.length+1+1) (a.length+1+1)])=some (cN.box [.ms c 7 0 ((a++[b]).length+1) ((a++[b]).length+1)]):=by simp
def pq(xs:List FE):xs.length=(cG FE.n xs).length:=(dE xs).length_eq.symm
variable{S:FE}
def pr{xs:List FE}{l:List oG}(h:(xs.map FE.n).Nodup)(hX:xs.map FE.n=l.map (·.1))(zH:S.n ∉ l.map (·.1)):((xs++[S]).map FE.n).Nodup:=by
 exact YZ
def Gb{π:Nat->Nat}(l:List oG)(n:cq)(t:Ty)(o:Bool):some (pg (l.map (·.1)++[n]))=some (hV π (pg ((l++[(n,t,o)]).map (·.1)))):=by
 exact X5
def TE(f:Rd)(i:PR (List oG))(e:cO)(a:VS):Prop:=match i with
 |.ok j c=>a=[dp f c]/\∃d,ll j d/\e=.ret (.d d)
 |.bad b h=>∃c,a=[dp f c]/\e=.eH (dt b h)
variable{z:Rd}
def vR{l:List oG}{xs:List FE}{i:PR (List oG)}(a n:Nat)(c:n=xs.length)(e:nth v a=some (.row 7 (rows xs)))(f:lW l xs)(h:i=.ok l u):
  cU 1 (.ret (.ms (a+1) 7 0 n n)) (dp z u::v) (TE z i):=by
 subst h;have b:n=(xs.map fe).length:=by simpa using c
 refine cU.freeze (a+1) (es:=7) (l:=xs.map fe) e (gk _) (fun _=>⟨Z,by simp[c]⟩) (fun d=>?_);have k:wq (a+1) d (xs.map fe) (.ret (.ms (a+1) 7 0 n n))=.ret (.d (.ps d (0*7) 7 n (xs.map fe))):=by
  show cO.ret (o5 (a+1) d (xs.map fe) (.ms (a+1) 7 0 n n))=_;rw[o5,kz];show cO.ret (.d (.ps d (0*7) 7 n (((xs.map fe).drop 0).take n)))=_;rw[eT _ _ b]
 rw[k];refine cU.drop 1 Z (by show(fW 1 (dp z u)&&mJ 1 (v.set a .gone) 0)=true;rw[mJ];rfl) Z (cU.now Z ?_);exact⟨Z,_,.ps f.fls,Z⟩
def HE(R:Rd)(A:R.Wf)(ty:Nat->PR Ty)(sep fin:cq)(w:Bool)(p:Nat)(K:p<R.ts.length)(P:ef ty R p):
  b4 C ca tp [.bp 0 0,cn sep,cn fin,b6 w] [dp R p] (TE R (eY ty R sep fin w p)):=by
 have N:=A.len;refine cm ?_;refine b4.body aaS (fun _=>Z) ?_;refine cI R p (R.tok p) fin (b0 K) om 0 Z (fun O=>?_) (fun O=>?_)
 ·refine Mw ?_;refine a8 1 ?_;rw[eY,if_pos O];exact⟨Z,.ci,.nil,Z⟩
 ·refine cD (dB:=[(0,.bp 0 0),(1,cn sep),(2,cn fin),(3,.fn qQ [] [.bp 1 0,.bp 5 0,.bp 2 0,.bp 3 0])]) ?_;refine cd.iter (fun _:Nat×List oG×List FE=>[(0,.bp 0 0),(1,cn sep),(2,cn fin),(3,.fn qQ [] [.bp 1 0,.bp 5 0,.bp 2 0,.bp 3 0])]) (fun x=>adQ R x.1 (x.2.1.map (·.1)) w x.2.2) (fun x=>R.ts.length-x.1)
   (fun x=>p<=x.1/\x.1<R.ts.length/\x.2.2.length<=x.1/\lW x.2.1 x.2.2/\(x.2.2.map FE.n).Nodup/\∃f,R.ts.length-x.1<=f/\db ty R sep fin w R.ts.length [] p=db ty R sep fin w f x.2.1 x.1) ?_ (p,[],[]) ⟨agq _,K,agu _,.nil,List.nodup_nil,_,by show R.ts.length-p<=R.ts.length;omega,rfl⟩
  rintro⟨q,l,V⟩ ⟨J,z,y,Y,D,f,M,he⟩;have J:p<=q:=J;have z:q<R.ts.length:=z;have y:V.length<=q:=y;have Y:lW l V:=Y;have D:(V.map FE.n).Nodup:=D;have E:=Y.names;have M:R.ts.length-q<=f:=M;have he:db ty R sep fin w R.ts.length [] p=db ty R sep fin w f l q:=he;obtain⟨f,rfl⟩:∃k,f=k+1:=⟨f-1,om⟩;have hF:eY ty R sep fin w p=(db ty R sep fin w (f+1) l q).map (cG (·.1)):=by rw[eY,if_neg (by rw[O];decide),he]
  rw[db]at hF;cases V with
  |nil=>
   refine b4.body ZO (fun _=>Z) ?_;refine p7 R A q z (l.map (·.1)) 0 4 dc ?_ ?_ (fun hk zH=>?_) (fun hk zH=>?_) (fun hk=>?_)
   ·exact Z
   ·exact Z
   ·have B:q+1<R.ts.length:=A.go q _ (b0 z) om;cases w
    ·have d:q+1<R.ts.length:=B;intro I;refine ep R A [[58]] dc (q+1) d _ _ 0 ?_ ?_
     ·exact Z
     cases hn:cu R [[58]] (q+1)with
     |bad h g=>
      exact Zw
     |ok _ q2=>
      have i:=da A _ _ _ d hn;have b:=cL _ _ _ hn;have b:p<=q2:=by rw[b];omega
      have u:q<q2:=by have:=cL _ _ _ hn;simp only[agj,agm]at this;omega
      refine P.call q2 b i 0 _ _ ?_ (fun t L q1 e1 o=>?_) (fun h g q1 e1=>?_)
      ·exact Z
      ·obtain⟨k,m,n,a,fl,rfl⟩:=o.cZ;obtain⟨H,j⟩:=P.lt q2 t q1 b i e1;have e:lW (l++[((R.tok q).text,t,false)]) ([]++[(⟨(R.tok q).text,k,m,n,a,fl,false,[],.ci⟩:FE)]):=Y.snoc (x:=(⟨(R.tok q).text,k,m,n,a,fl,false,[],.ci⟩:FE)) o;have c:((([]++[(⟨(R.tok q).text,k,m,n,a,fl,false,[],.ci⟩:FE)]:List FE)).map FE.n).Nodup:=pr D E zH;intro F;repeat first
        |refine bZ rfl ?_
        |refine cf ?_
       refine cc tT Z ?_;refine cI R q1 (R.tok q1) fin (b0 j) om 0 ?_ (fun h3=>?_) (fun h3=>?_)
       ·exact Z
       ·refine lO [(⟨(R.tok q).text,k,m,n,a,fl,false,[],.ci⟩:FE)] c (by simp only[agj,agk,agm]<;>omega) 1 sm 7 ?_ ?_
        ·exact Z
        ·refine vR (l:=cG (·.1) (l++[((R.tok q).text,t,false)])) (xs:=cG FE.n [(⟨(R.tok q).text,k,m,n,a,fl,false,[],.ci⟩:FE)]) 6 _ ((by simp:1=_).trans (pq [(⟨(R.tok q).text,k,m,n,a,fl,false,[],.ci⟩:FE)])) ?_ e.JR ?_
         ·exact Z
         ·exact ab4
       ·intro G;refine ep R A [sep] (by show 1<4294967296;decide) q1 j _ _ 0 ?_ ?_
        ·exact Z
        ·cases Bn:cu R [sep] q1 with
         |bad h g=>
          exact Zj
         |ok _ q3=>
          have s:=da A _ _ _ j Bn;have v:q1<q3:=by have:=cL _ _ _ Bn;simp only[agj,agm]at this;omega
          refine⟨(q3,l++[((R.tok q).text,t,false)],[(⟨(R.tok q).text,k,m,n,a,fl,false,[],.ci⟩:FE)]),⟨by show p<=q3;omega,s,by show 1<=q3;omega,e,c,f,by show R.ts.length-q3<=f;omega,?_⟩,?_,?_,Z,Z⟩
          ·exact YF
          ·exact La
          ·exact Vt
      ·exact aah
    ·refine cI R (q+1) (R.tok (q+1)) [63] (b0 B) om 0 ?_ (fun h2=>?_) (fun h2=>?_)
     ·exact Z
     ·have d:q+1+1<R.ts.length:=A.step B h2;intro I;refine ep R A [[58]] dc (q+1+1) d _ _ 0 ?_ ?_
      ·exact Z
      cases hn:cu R [[58]] (q+1+1)with
      |bad h g=>
       exact Zl
      |ok _ q2=>
       have i:=da A _ _ _ d hn;have b:=cL _ _ _ hn;have b:p<=q2:=by rw[b];omega
       have u:q<q2:=by have:=cL _ _ _ hn;simp only[agj,agm]at this;omega
       refine P.call q2 b i 0 _ _ ?_ (fun t L q1 e1 o=>?_) (fun h g q1 e1=>?_)
       ·exact Z
       ·obtain⟨k,m,n,a,fl,rfl⟩:=o.cZ;obtain⟨H,j⟩:=P.lt q2 t q1 b i e1;have e:lW (l++[((R.tok q).text,t,true)]) ([]++[(⟨(R.tok q).text,k,m,n,a,fl,true,[],.ci⟩:FE)]):=Y.snoc (x:=(⟨(R.tok q).text,k,m,n,a,fl,true,[],.ci⟩:FE)) o;have c:((([]++[(⟨(R.tok q).text,k,m,n,a,fl,true,[],.ci⟩:FE)]:List FE)).map FE.n).Nodup:=pr D E zH;intro F;repeat first
         |refine bZ rfl ?_
         |refine cf ?_
        refine cc tT Z ?_;refine cI R q1 (R.tok q1) fin (b0 j) om 0 ?_ (fun h3=>?_) (fun h3=>?_)
        ·exact Z
        ·refine lO [(⟨(R.tok q).text,k,m,n,a,fl,true,[],.ci⟩:FE)] c (by simp only[agj,agk,agm]<;>omega) 1 sm 7 ?_ ?_
         ·exact Z
         ·refine vR (l:=cG (·.1) (l++[((R.tok q).text,t,true)])) (xs:=cG FE.n [(⟨(R.tok q).text,k,m,n,a,fl,true,[],.ci⟩:FE)]) 6 _ ((by simp:1=_).trans (pq [(⟨(R.tok q).text,k,m,n,a,fl,true,[],.ci⟩:FE)])) ?_ e.JR ?_
          ·exact Z
          ·exact abX
        ·intro G;refine ep R A [sep] (by show 1<4294967296;decide) q1 j _ _ 0 ?_ ?_
         ·exact Z
         ·cases Bn:cu R [sep] q1 with
          |bad h g=>
           exact Y9
          |ok _ q3=>
           have s:=da A _ _ _ j Bn;have v:q1<q3:=by have:=cL _ _ _ Bn;simp only[agj,agm]at this;omega
           refine⟨(q3,l++[((R.tok q).text,t,true)],[(⟨(R.tok q).text,k,m,n,a,fl,true,[],.ci⟩:FE)]),⟨by show p<=q3;omega,s,by show 1<=q3;omega,e,c,f,by show R.ts.length-q3<=f;omega,?_⟩,?_,?_,Z,Z⟩
           ·exact YE
           ·exact La
           ·exact Vt
       ·exact Zs
     ·have d:q+1<R.ts.length:=B;intro I;refine ep R A [[58]] dc (q+1) d _ _ 0 ?_ ?_
      ·exact Z
      cases hn:cu R [[58]] (q+1)with
      |bad h g=>
       exact Zb
      |ok _ q2=>
       have i:=da A _ _ _ d hn;have b:=cL _ _ _ hn;have b:p<=q2:=by rw[b];omega
       have u:q<q2:=by have:=cL _ _ _ hn;simp only[agj,agm]at this;omega
       refine P.call q2 b i 0 _ _ ?_ (fun t L q1 e1 o=>?_) (fun h g q1 e1=>?_)
       ·exact Z
       ·obtain⟨k,m,n,a,fl,rfl⟩:=o.cZ;obtain⟨H,j⟩:=P.lt q2 t q1 b i e1;have e:lW (l++[((R.tok q).text,t,false)]) ([]++[(⟨(R.tok q).text,k,m,n,a,fl,false,[],.ci⟩:FE)]):=Y.snoc (x:=(⟨(R.tok q).text,k,m,n,a,fl,false,[],.ci⟩:FE)) o;have c:((([]++[(⟨(R.tok q).text,k,m,n,a,fl,false,[],.ci⟩:FE)]:List FE)).map FE.n).Nodup:=pr D E zH;intro F;repeat first
         |refine bZ rfl ?_
         |refine cf ?_
        refine cc tT Z ?_;refine cI R q1 (R.tok q1) fin (b0 j) om 0 ?_ (fun h3=>?_) (fun h3=>?_)
        ·exact Z
        ·refine lO [(⟨(R.tok q).text,k,m,n,a,fl,false,[],.ci⟩:FE)] c (by simp only[agj,agk,agm]<;>omega) 1 sm 7 ?_ ?_
         ·exact Z
         ·refine vR (l:=cG (·.1) (l++[((R.tok q).text,t,false)])) (xs:=cG FE.n [(⟨(R.tok q).text,k,m,n,a,fl,false,[],.ci⟩:FE)]) 6 _ ((by simp:1=_).trans (pq [(⟨(R.tok q).text,k,m,n,a,fl,false,[],.ci⟩:FE)])) ?_ e.JR ?_
          ·exact Z
          ·exact aar
        ·intro G;refine ep R A [sep] (by show 1<4294967296;decide) q1 j _ _ 0 ?_ ?_
         ·exact Z
         ·cases Bn:cu R [sep] q1 with
          |bad h g=>
           exact Y6
          |ok _ q3=>
           have s:=da A _ _ _ j Bn;have v:q1<q3:=by have:=cL _ _ _ Bn;simp only[agj,agm]at this;omega
           refine⟨(q3,l++[((R.tok q).text,t,false)],[(⟨(R.tok q).text,k,m,n,a,fl,false,[],.ci⟩:FE)]),⟨by show p<=q3;omega,s,by show 1<=q3;omega,e,c,f,by show R.ts.length-q3<=f;omega,?_⟩,?_,?_,Z,Z⟩
           ·exact YA
           ·exact La
           ·exact Vt
       ·exact Zh
   ·exact ace
   ·exact aca
  |cons x0 r=>
   refine b4.body ZO (fun _=>Z) ?_;refine p7 R A q z (l.map (·.1)) 0 4 dc ?_ ?_ (fun hk zH=>?_) (fun hk zH=>?_) (fun hk=>?_)
   ·exact Z
   ·exact Z
   ·have B:q+1<R.ts.length:=A.go q _ (b0 z) om;cases w
    ·have d:q+1<R.ts.length:=B;intro I;refine ep R A [[58]] dc (q+1) d _ _ 0 ?_ ?_
     ·exact Z
     cases hn:cu R [[58]] (q+1)with
     |bad h g=>
      exact Zw
     |ok _ q2=>
      have i:=da A _ _ _ d hn;have b:=cL _ _ _ hn;have b:p<=q2:=by rw[b];omega
      have u:q<q2:=by have:=cL _ _ _ hn;simp only[agj,agm]at this;omega
      refine P.call q2 b i 0 _ _ ?_ (fun t L q1 e1 o=>?_) (fun h g q1 e1=>?_)
      ·exact Z
      ·obtain⟨k,m,n,a,fl,rfl⟩:=o.cZ;obtain⟨H,j⟩:=P.lt q2 t q1 b i e1;have e:lW (l++[((R.tok q).text,t,false)]) ((x0::r)++[(⟨(R.tok q).text,k,m,n,a,fl,false,[],.ci⟩:FE)]):=Y.snoc (x:=(⟨(R.tok q).text,k,m,n,a,fl,false,[],.ci⟩:FE)) o;have c:(((x0::r++[(⟨(R.tok q).text,k,m,n,a,fl,false,[],.ci⟩:FE)]:List FE)).map FE.n).Nodup:=pr D E zH;have If:r.length+1<=q:=y;intro F;refine a6 ?_ ?_
       ·exact Sk
       refine a6 Z (a6 ⟨Z,Z,by simp[rows],agq _,x8 If om Z⟩ ?_);refine a7 Z (a7 (fG (r.length+1)) ?_);refine a6 ?_ ?_
       ·exact Iu
       refine bZ Z ?_;refine a6 (F6 r) ?_;refine a6 ?_ ?_
       ·exact Iu
       refine cc tT (xW x0 r) ?_;refine cI R q1 (R.tok q1) fin (b0 j) om 0 ?_ (fun h3=>?_) (fun h3=>?_)
       ·exact Z
       ·refine lO (x0::(r++[(⟨(R.tok q).text,k,m,n,a,fl,false,[],.ci⟩:FE)])) c (by simp only[agj,agk,agm]<;>omega) (r.length+1+1) sm 8 ?_ ?_
        ·exact ab2
        ·refine vR (l:=cG (·.1) (l++[((R.tok q).text,t,false)])) (xs:=cG FE.n (x0::(r++[(⟨(R.tok q).text,k,m,n,a,fl,false,[],.ci⟩:FE)]))) 7 _ ((by simp:r.length+1+1=_).trans (pq (x0::(r++[(⟨(R.tok q).text,k,m,n,a,fl,false,[],.ci⟩:FE)])))) ?_ e.JR ?_
         ·exact Z
         ·exact ab4
       ·intro G;refine ep R A [sep] (by show 1<4294967296;decide) q1 j _ _ 0 ?_ ?_
        ·exact Z
        ·cases Bn:cu R [sep] q1 with
         |bad h g=>
          exact Zj
         |ok _ q3=>
          have s:=da A _ _ _ j Bn;have v:q1<q3:=by have:=cL _ _ _ Bn;simp only[agj,agm]at this;omega
          refine⟨(q3,l++[((R.tok q).text,t,false)],(x0::(r++[(⟨(R.tok q).text,k,m,n,a,fl,false,[],.ci⟩:FE)]))),⟨by show p<=q3;omega,s,by show(r++[_]).length+1<=q3;simp;omega,e,c,f,by show R.ts.length-q3<=f;omega,?_⟩,?_,?_,Z,Z⟩
          ·exact YF
          ·exact La
          ·exact Yu
      ·exact aah
    ·refine cI R (q+1) (R.tok (q+1)) [63] (b0 B) om 0 ?_ (fun h2=>?_) (fun h2=>?_)
     ·exact Z
     ·have d:q+1+1<R.ts.length:=A.step B h2;intro I;refine ep R A [[58]] dc (q+1+1) d _ _ 0 ?_ ?_
      ·exact Z
      cases hn:cu R [[58]] (q+1+1)with
      |bad h g=>
       exact Zl
      |ok _ q2=>
       have i:=da A _ _ _ d hn;have b:=cL _ _ _ hn;have b:p<=q2:=by rw[b];omega
       have u:q<q2:=by have:=cL _ _ _ hn;simp only[agj,agm]at this;omega
       refine P.call q2 b i 0 _ _ ?_ (fun t L q1 e1 o=>?_) (fun h g q1 e1=>?_)
       ·exact Z
       ·obtain⟨k,m,n,a,fl,rfl⟩:=o.cZ;obtain⟨H,j⟩:=P.lt q2 t q1 b i e1;have e:lW (l++[((R.tok q).text,t,true)]) ((x0::r)++[(⟨(R.tok q).text,k,m,n,a,fl,true,[],.ci⟩:FE)]):=Y.snoc (x:=(⟨(R.tok q).text,k,m,n,a,fl,true,[],.ci⟩:FE)) o;have c:(((x0::r++[(⟨(R.tok q).text,k,m,n,a,fl,true,[],.ci⟩:FE)]:List FE)).map FE.n).Nodup:=pr D E zH;have If:r.length+1<=q:=y;intro F;refine a6 ?_ ?_
        ·exact Sk
        refine a6 Z (a6 ⟨Z,Z,by simp[rows],agq _,x8 If om Z⟩ ?_);refine a7 Z (a7 (fG (r.length+1)) ?_);refine a6 ?_ ?_
        ·exact Iu
        refine bZ Z ?_;refine a6 (F6 r) ?_;refine a6 ?_ ?_
        ·exact Iu
        refine cc tT (xW x0 r) ?_;refine cI R q1 (R.tok q1) fin (b0 j) om 0 ?_ (fun h3=>?_) (fun h3=>?_)
        ·exact Z
        ·refine lO (x0::(r++[(⟨(R.tok q).text,k,m,n,a,fl,true,[],.ci⟩:FE)])) c (by simp only[agj,agk,agm]<;>omega) (r.length+1+1) sm 8 ?_ ?_
         ·exact congrArg (fun x=>some (cN.row 7 x)) (Cm x0 r (⟨(R.tok q).text,k,m,n,a,fl,true,[],.ci⟩:FE))
         ·refine vR (l:=cG (·.1) (l++[((R.tok q).text,t,true)])) (xs:=cG FE.n (x0::(r++[(⟨(R.tok q).text,k,m,n,a,fl,true,[],.ci⟩:FE)]))) 7 _ ((by simp:r.length+1+1=_).trans (pq (x0::(r++[(⟨(R.tok q).text,k,m,n,a,fl,true,[],.ci⟩:FE)])))) ?_ e.JR ?_
          ·exact Z
          ·exact abX
        ·intro G;refine ep R A [sep] (by show 1<4294967296;decide) q1 j _ _ 0 ?_ ?_
         ·exact Z
         ·cases Bn:cu R [sep] q1 with
          |bad h g=>
           exact Y9
          |ok _ q3=>
           have s:=da A _ _ _ j Bn;have v:q1<q3:=by have:=cL _ _ _ Bn;simp only[agj,agm]at this;omega
           refine⟨(q3,l++[((R.tok q).text,t,true)],(x0::(r++[(⟨(R.tok q).text,k,m,n,a,fl,true,[],.ci⟩:FE)]))),⟨by show p<=q3;omega,s,by show(r++[_]).length+1<=q3;simp;omega,e,c,f,by show R.ts.length-q3<=f;omega,?_⟩,?_,?_,Z,Z⟩
           ·exact YE
           ·exact La
           ·exact .pick 6 [0,1,2,3,4,5,8] ⟨Z,Z,Z,Z,tv⟩ Z Z Z Z Z dc ⟨Z,Z,Z,Z,Z,Z,NA 8 r (⟨(R.tok q).text,k,m,n,a,fl,true,[],.ci⟩:FE),Z,Gb l _ t _,lp _ _ (iM _),Z,Z,E8 x0 r (⟨(R.tok q).text,k,m,n,a,fl,true,[],.ci⟩:FE),jv _ _ _,tv⟩
       ·exact Zs
     ·have d:q+1<R.ts.length:=B;intro I;refine ep R A [[58]] dc (q+1) d _ _ 0 ?_ ?_
      ·exact Z
      cases hn:cu R [[58]] (q+1)with
      |bad h g=>
       exact Zb
      |ok _ q2=>
       have i:=da A _ _ _ d hn;have b:=cL _ _ _ hn;have b:p<=q2:=by rw[b];omega
       have u:q<q2:=by have:=cL _ _ _ hn;simp only[agj,agm]at this;omega
       refine P.call q2 b i 0 _ _ ?_ (fun t L q1 e1 o=>?_) (fun h g q1 e1=>?_)
       ·exact Z
       ·obtain⟨k,m,n,a,fl,rfl⟩:=o.cZ;obtain⟨H,j⟩:=P.lt q2 t q1 b i e1;have e:lW (l++[((R.tok q).text,t,false)]) ((x0::r)++[(⟨(R.tok q).text,k,m,n,a,fl,false,[],.ci⟩:FE)]):=Y.snoc (x:=(⟨(R.tok q).text,k,m,n,a,fl,false,[],.ci⟩:FE)) o;have c:(((x0::r++[(⟨(R.tok q).text,k,m,n,a,fl,false,[],.ci⟩:FE)]:List FE)).map FE.n).Nodup:=pr D E zH;have If:r.length+1<=q:=y;intro F;refine a6 ?_ ?_
        ·exact Sk
        refine a6 Z (a6 ⟨Z,Z,by simp[rows],agq _,x8 If om Z⟩ ?_);refine a7 Z (a7 (fG (r.length+1)) ?_);refine a6 ?_ ?_
        ·exact Iu
        refine bZ Z ?_;refine a6 (F6 r) ?_;refine a6 ?_ ?_
        ·exact Iu
        refine cc tT (xW x0 r) ?_;refine cI R q1 (R.tok q1) fin (b0 j) om 0 ?_ (fun h3=>?_) (fun h3=>?_)
        ·exact Z
        ·refine lO (x0::(r++[(⟨(R.tok q).text,k,m,n,a,fl,false,[],.ci⟩:FE)])) c (by simp only[agj,agk,agm]<;>omega) (r.length+1+1) sm 8 ?_ ?_
         ·exact ab2
         ·refine vR (l:=cG (·.1) (l++[((R.tok q).text,t,false)])) (xs:=cG FE.n (x0::(r++[(⟨(R.tok q).text,k,m,n,a,fl,false,[],.ci⟩:FE)]))) 7 _ ((by simp:r.length+1+1=_).trans (pq (x0::(r++[(⟨(R.tok q).text,k,m,n,a,fl,false,[],.ci⟩:FE)])))) ?_ e.JR ?_
          ·exact Z
          ·exact aar
        ·intro G;refine ep R A [sep] (by show 1<4294967296;decide) q1 j _ _ 0 ?_ ?_
         ·exact Z
         ·cases Bn:cu R [sep] q1 with
          |bad h g=>
           exact Y6
          |ok _ q3=>
           have s:=da A _ _ _ j Bn;have v:q1<q3:=by have:=cL _ _ _ Bn;simp only[agj,agm]at this;omega
           refine⟨(q3,l++[((R.tok q).text,t,false)],(x0::(r++[(⟨(R.tok q).text,k,m,n,a,fl,false,[],.ci⟩:FE)]))),⟨by show p<=q3;omega,s,by show(r++[_]).length+1<=q3;simp;omega,e,c,f,by show R.ts.length-q3<=f;omega,?_⟩,?_,?_,Z,Z⟩
           ·exact YA
           ·exact La
           ·exact Yu
       ·exact Zh
   ·exact ace
   ·exact aca
variable{y:Nat->PR Ty}
def ef.up{lo a:Nat}(f:ef y z lo)(i:lo<=a):ef y z a:=
 ⟨fun e j h c b d=>f.lt e j h om b d,fun e c b=>f.call e om b⟩
def J1(q:z.Wf){lo:Nat}(k:∀a o e,lo<=a->a<z.ts.length->y a=.ok o e->a<e/\e<z.ts.length):
  ∀(i:Nat) (c:List Ty) (a:Nat) (p:List Ty) (e:Nat),lo<=a->a<z.ts.length->ey y z i c a=.ok p e->a<=e/\e<z.ts.length:=by
 intro i;induction i with
 |zero=>intro c a p e _ _ b;cases b
 |succ i n=>
  intro c a p e m l b;rw[ey]at b;cases f:y a with
  |bad r w=>rw[f]at b;cases b
  |ok o q1=>
   rw[f]at b;obtain⟨s,h⟩:=k a o q1 m l f;dsimp only at b;split at b
   ·rename_i j;obtain⟨x,t⟩:=n _ _ _ _ om (q.step h j) b;exact⟨om,t⟩
   ·cases d:cu z [[93]] q1 with
    |bad r w=>rw[d]at b;cases b
    |ok A q2=>
     rw[d]at b;cases b;have:=cL _ _ _ d;exact⟨om,da q _ _ _ h d⟩
def Dn(d:z.Wf){p:Nat}(c:∀a e u,p<=a->a<z.ts.length->y a=.ok e u->a<u/\u<z.ts.length)(hp:p<z.ts.length){l:List Ty}(h:jV y z p=.ok l u):p<=u/\u<z.ts.length:=by
 rw[jV]at h;split at h
 ·rename_i b;obtain⟨i,f⟩:=J1 d c _ _ _ _ _ om (d.step hp b) h;exact⟨om,f⟩
 ·exact NC
def ES(r:z.Wf){lo:Nat}(t:∀a B h,lo<=a->a<z.ts.length->y a=.ok B h->a<h/\h<z.ts.length)(j l:cq)(d:Bool):
  ∀(s:Nat) (e:List oG) (a:Nat) (C:List oG) (h:Nat),lo<=a->a<z.ts.length->db y z j l d s e a=.ok C h->a<=h/\h<z.ts.length:=by
 intro s;induction s with
 |zero=>intro e a C h _ _ b;cases b
 |succ s A=>
  intro e a C h u w b;rw[db]at b;split at b
  ·cases b
  ·rename_i m;have m:(z.tok a).kind=1:=by simpa using m
   have i:a+1<z.ts.length:=r.go a _ (b0 w) om;split at b
   ·cases b
   ·have p:(if d&&c5 (z.tok (a+1)) [63]then a+1+1 else a+1)<z.ts.length:=by
     split
     ·rename_i o;rw[agH]at o;exact r.step i o.2
     ·exact i
    have R:a+1<=(if d&&c5 (z.tok (a+1)) [63]then a+1+1 else a+1):=by split<;>omega
    cases f:cu z [[58]] (if d&&c5 (z.tok (a+1)) [63]then a+1+1 else a+1)with
    |bad D Y=>rw[f]at b;cases b
    |ok E q2=>
     rw[f]at b;dsimp only at b;have q:=da r _ _ _ p f;have P:=cL _ _ _ f;cases k:y q2 with
     |bad D Y=>rw[k]at b;cases b
     |ok B q1=>
      rw[k]at b;dsimp only at b;obtain⟨g,n⟩:=t q2 B q1 om q k;split at b
      ·rename_i x;cases b;exact⟨om,r.step n x⟩
      ·cases c:cu z [j] q1 with
       |bad D Y=>rw[c]at b;cases b
       |ok E q3=>
        rw[c]at b;have V:=cL _ _ _ c;obtain⟨F,v⟩:=A _ _ _ _ om (da r _ _ _ n c) b;exact⟨om,v⟩
variable{H W:cq}
def sR(i:z.Wf){p:Nat}(h:∀b j u,p<=b->b<z.ts.length->y b=.ok j u->b<u/\u<z.ts.length){a:Bool}(e:p<z.ts.length){l:List oG}(d:eY y z H W a p=.ok l u):p<=u/\u<z.ts.length:=by
 rw[eY]at d;split at d
 ·rename_i f;cases d;exact⟨om,i.step e f⟩
 ·cases c:db y z H W a z.ts.length [] p with
  |bad n o=>rw[c]at d;cases d
  |ok k m=>
   rw[c]at d;cases d;exact ES i h H W a _ _ _ _ _ (agq _) e c
def kr(q:z.Wf){p:Nat}(f:∀d k u,p<=d->d<z.ts.length->y d=.ok k u->d<u/\u<z.ts.length)(j:p<z.ts.length){l:Ty}(b:dO y z p=.ok l u):p<=u/\u<z.ts.length:=by
 rw[dO]at b;cases c:cu z [[91]] p with
 |bad m o=>rw[c]at b;cases b
 |ok s q1=>
  rw[c]at b;dsimp only at b;have t:=cL _ _ _ c;have i:=da q _ _ _ j c;cases e:y q1 with
  |bad m o=>rw[e]at b;cases b
  |ok k q2=>
   rw[e]at b;dsimp only at b;obtain⟨r,h⟩:=f q1 k q2 om i e;cases a:cu z [[93]] q2 with
   |bad m o=>rw[a]at b;cases b
   |ok s q3=>
    rw[a]at b;cases b;have n:=cL _ _ _ a;exact⟨om,da q _ _ _ h a⟩
def u7(R:Rd)(s:R.Wf)(f:Nat->PR Ty)(a c:cq)(b:Bool)(p:Nat)(k:p<R.ts.length)(o:ef f R p)(j:Nat)(i:nth v j=some (dp R p)) 
  (h1:∀l d q,eY f R a c b p=.ok l q->ll l d->g (.ret (.d d)) (v.set j (dp R q))) (h2:∀off e q,eY f R a c b p=.bad off e->g (.eH (dt off e)) (v.set j (dp R q))):b4 C ca tp [.bp j 0,cn a,cn c,b6 b] v g:=by
 refine b4.one (dM:=[.bp 0 0,cn a,cn c,b6 b]) (P:=fun m n=>TE R (eY f R a c b p) m [.box n]) ((HE R s f a c b p k o).mono fun m r h=>?_) j i Z Z Z (fun m cs' h=>?_)
 ·have h':=h;unfold TE at h;exact Zt
 ·unfold TE at h;exact Yw
def ph(b:Rd)(t:b.Wf)(c:Nat->PR Ty)(p:Nat)(r:p<b.ts.length)(o:ef c b p)(h:Nat)(f:nth v h=some (dp b p)) 
  (q:∀k i d,dO c b p=.ok k d->eZ k i->g (.ret (.agg (i.map V.d))) (v.set h (dp b d))) (m:∀a e d,dO c b p=.bad a e->g (.eH (dt a e)) (v.set h (dp b d))):b4 C ca rX [.bp h 0] v g:=by
 refine b4.one (dM:=[.bp 0 0]) (P:=B2 b (dO c b p)) (ER b t c p r o) h f Z Z Z (fun w s j=>?_);unfold B2 at j;split at j
 ·rename_i k d e;obtain⟨rfl,i,l,rfl⟩:=j;exact q k i d e l
 ·rename_i a n e;obtain⟨d,rfl,rfl⟩:=j;exact m a n d e
def u9(a:cq):Option Nat:=
 if a=[105,110,116]then some 2 else if a=[98,111,111,108]then some 3 else if a=[116,101,120,116]then some 4 else if a=[97,110,121]then some 0 else if a=[110,111,110,101]then some 1 else none
def k0:List rL:=[⟨cn [105,110,116],b5 2,0⟩,⟨cn [98,111,111,108],b5 3,1⟩,⟨cn [116,101,120,116],b5 4,2⟩,⟨cn [97,110,121],b5 0,3⟩,⟨cn [110,111,110,101],b5 1,4⟩]
def iB{b a:Nat}{c:List rL}:eN .string (cn H) (⟨cn W,U,b⟩::c) a=match decide (H=W)with
   |true=>some (some (a,U))
   |false=>eN .string (cn H) c (a+1):=rfl
def uK(s:cq):eN .string (cn s) k0 0=some none∨∃a b,eN .string (cn s) k0 0=some (some (a,b5 b)):=by
 unfold k0;rw[iB];cases decide (s=[105,110,116])with
 |true=>exact .inr ⟨_,_,rfl⟩
 |false=>
  dsimp only;rw[iB];cases decide (s=[98,111,111,108])with
  |true=>exact .inr ⟨_,_,rfl⟩
  |false=>
   dsimp only;rw[iB];cases decide (s=[116,101,120,116])with
   |true=>exact .inr ⟨_,_,rfl⟩
   |false=>
    dsimp only;rw[iB];cases decide (s=[97,110,121])with
    |true=>exact .inr ⟨_,_,rfl⟩
    |false=>
     dsimp only;rw[iB];cases decide (s=[110,111,110,101])with
     |true=>exact .inr ⟨_,_,rfl⟩
     |false=>exact .inl rfl
def Dp{s:cq}(a:u9 s=none):eN .string (cn s) k0 0=some none:=by
 unfold u9 at a;have h1:s≠[105,110,116]:=fun b=>by rw[if_pos b]at a;cases a
 rw[if_neg h1]at a;have h2:s≠[98,111,111,108]:=fun b=>by rw[if_pos b]at a;cases a
 rw[if_neg h2]at a;have h3:s≠[116,101,120,116]:=fun b=>by rw[if_pos b]at a;cases a
 rw[if_neg h3]at a;have h4:s≠[97,110,121]:=fun b=>by rw[if_pos b]at a;cases a
 rw[if_neg h4]at a;have h5:s≠[110,111,110,101]:=fun b=>by rw[if_pos b]at a;cases a
 unfold k0;exact Ze
def ja(c:Nat->PR Ty)(e:Rd)(b:Nat)(a:cq)(d h:Nat):PR Ty:=
 if b=5 then match u9 a with
  |some l=>.ok (.mk l [] [] [] []) h
  |none=>if a=[108,105,115,116]then(dO c e h).map fun k=>.mk 5 [] [] [k] []
   else if a=[102,110]then match cu e [[40]] h with
    |.bad j i=>.bad j i
    |.ok _ q1=>match eY c e [44] [41] true q1 with
     |.bad j i=>.bad j i
     |.ok f q2=>(c q2).map fun k=>.mk 8 [] [] [k] f
   else .bad d 3
 else if b=6 then
  if a=[123]then(eY c e [44] [125] false h).map fun f=>.mk 6 [] [] [] f
  else if a=[60]then(eY c e [124] [62] false h).map fun f=>.mk 7 [] [] [] f
  else .bad d 3
 else if b=2 then(jV c e h).map fun f=>.mk 10 [] a f []
 else if b=1 then match cu e [[58,58]] h with
  |.bad j i=>.bad j i
  |.ok _ q1=>if(e.tok q1).kind≠2 then .bad (e.tok q1).off 3 else(jV c e (q1+1)).map fun f=>.mk 10 a (e.tok q1).text f []
 else .bad d 3
def b8(a:Rd):Nat->Nat->PR Ty
 |0,_=>.bad 0 3
 |f+1,b=>ja (b8 a f) a (a.tok b).kind (a.tok b).text (a.tok b).off (b+1)
def qm:Nat->Bool:=fun a=>agF a 37||agF a 49||agF a 56||agF a 96
def zK{a b:Nat}(c:a≠b):decide (agl a=agl b)=false:=decide_eq_false (by simp only[agx];omega)
def aaT(c:Rd)(s:c.Wf)(f p:Nat)(t:p<c.ts.length)(w:ef (b8 c f) c (p+1))(a:Nat)(b:cq)(d:Nat)(h:c.ts[p]?=some ⟨a,b,d⟩)(hF:b8 c (f+1) p=ja (b8 c f) c a b d (p+1))(n:a=5)(l:b=[105,110,116]):
  b4 C ca dj [.bp 0 0] [dp c p] fun q j=>∃e,j=[.box e]/\cM q=true/\fu 0 e=true/\B2 c (b8 c (f+1) p) q e:=by
 have o:=s.len;have i:a≠0->p+1<c.ts.length:=fun m=>s.go p _ h m;have k:a≠0->eu ⟨a,b,d⟩ p=p+1:=fun m=>if_neg m;refine cv qm (fun _=>Z) ?_;refine dK c p _ h om 0 Z ?_;first|have r:p+1<c.ts.length:=i om|skip
 first|rw[k om]|skip
 subst n;subst l;have Ik:eN .string (cn [105,110,116]) k0 0=some (some (0,b5 2)):=rfl;exact NG
def aaU(c:Rd)(s:c.Wf)(f p:Nat)(t:p<c.ts.length)(w:ef (b8 c f) c (p+1))(a:Nat)(b:cq)(d:Nat)(h:c.ts[p]?=some ⟨a,b,d⟩)(hF:b8 c (f+1) p=ja (b8 c f) c a b d (p+1))(n:a=5)(l:b=[98,111,111,108]):
  b4 C ca dj [.bp 0 0] [dp c p] fun q j=>∃e,j=[.box e]/\cM q=true/\fu 0 e=true/\B2 c (b8 c (f+1) p) q e:=by
 have o:=s.len;have i:a≠0->p+1<c.ts.length:=fun m=>s.go p _ h m;have k:a≠0->eu ⟨a,b,d⟩ p=p+1:=fun m=>if_neg m;refine cv qm (fun _=>Z) ?_;refine dK c p _ h om 0 Z ?_;first|have r:p+1<c.ts.length:=i om|skip
 first|rw[k om]|skip
 subst n;subst l;have Ik:eN .string (cn [98,111,111,108]) k0 0=some (some (1,b5 3)):=rfl;exact NG
def aaV(c:Rd)(s:c.Wf)(f p:Nat)(t:p<c.ts.length)(w:ef (b8 c f) c (p+1))(a:Nat)(b:cq)(d:Nat)(h:c.ts[p]?=some ⟨a,b,d⟩)(hF:b8 c (f+1) p=ja (b8 c f) c a b d (p+1))(n:a=5)(l:b=[116,101,120,116]):
  b4 C ca dj [.bp 0 0] [dp c p] fun q j=>∃e,j=[.box e]/\cM q=true/\fu 0 e=true/\B2 c (b8 c (f+1) p) q e:=by
 have o:=s.len;have i:a≠0->p+1<c.ts.length:=fun m=>s.go p _ h m;have k:a≠0->eu ⟨a,b,d⟩ p=p+1:=fun m=>if_neg m;refine cv qm (fun _=>Z) ?_;refine dK c p _ h om 0 Z ?_;first|have r:p+1<c.ts.length:=i om|skip
 first|rw[k om]|skip
 subst n;subst l;have Ik:eN .string (cn [116,101,120,116]) k0 0=some (some (2,b5 4)):=rfl;exact NG
def aaW(c:Rd)(s:c.Wf)(f p:Nat)(t:p<c.ts.length)(w:ef (b8 c f) c (p+1))(a:Nat)(b:cq)(d:Nat)(h:c.ts[p]?=some ⟨a,b,d⟩)(hF:b8 c (f+1) p=ja (b8 c f) c a b d (p+1))(n:a=5)(l:b=[97,110,121]):
  b4 C ca dj [.bp 0 0] [dp c p] fun q j=>∃e,j=[.box e]/\cM q=true/\fu 0 e=true/\B2 c (b8 c (f+1) p) q e:=by
 have o:=s.len;have i:a≠0->p+1<c.ts.length:=fun m=>s.go p _ h m;have k:a≠0->eu ⟨a,b,d⟩ p=p+1:=fun m=>if_neg m;refine cv qm (fun _=>Z) ?_;refine dK c p _ h om 0 Z ?_;first|have r:p+1<c.ts.length:=i om|skip
 first|rw[k om]|skip
 subst n;subst l;have Ik:eN .string (cn [97,110,121]) k0 0=some (some (3,b5 0)):=rfl;exact NG
def aaX(c:Rd)(s:c.Wf)(f p:Nat)(t:p<c.ts.length)(w:ef (b8 c f) c (p+1))(a:Nat)(b:cq)(d:Nat)(h:c.ts[p]?=some ⟨a,b,d⟩)(hF:b8 c (f+1) p=ja (b8 c f) c a b d (p+1))(n:a=5)(l:b=[110,111,110,101]):
  b4 C ca dj [.bp 0 0] [dp c p] fun q j=>∃e,j=[.box e]/\cM q=true/\fu 0 e=true/\B2 c (b8 c (f+1) p) q e:=by
 have o:=s.len;have i:a≠0->p+1<c.ts.length:=fun m=>s.go p _ h m;have k:a≠0->eu ⟨a,b,d⟩ p=p+1:=fun m=>if_neg m;refine cv qm (fun _=>Z) ?_;refine dK c p _ h om 0 Z ?_;first|have r:p+1<c.ts.length:=i om|skip
 first|rw[k om]|skip
 subst n;subst l;have Ik:eN .string (cn [110,111,110,101]) k0 0=some (some (4,b5 1)):=rfl;exact NG
def aaY(c:Rd)(x:c.Wf)(f p:Nat)(B:p<c.ts.length)(r:ef (b8 c f) c (p+1))(a:Nat)(b:cq)(d:Nat)(h:c.ts[p]?=some ⟨a,b,d⟩)(hF:b8 c (f+1) p=ja (b8 c f) c a b d (p+1))(s:a=5)(l:b=[108,105,115,116]):
  b4 C ca dj [.bp 0 0] [dp c p] fun A n=>∃e,n=[.box e]/\cM A=true/\fu 0 e=true/\B2 c (b8 c (f+1) p) A e:=by
 have t:=x.len;have m:a≠0->p+1<c.ts.length:=fun w=>x.go p _ h w;have j:a≠0->eu ⟨a,b,d⟩ p=p+1:=fun w=>if_neg w;refine cv qm (fun _=>Z) ?_;refine dK c p _ h om 0 Z ?_;first|have k:p+1<c.ts.length:=m om|skip
 first|rw[j om]|skip
 subst s;subst l;have o:eN .string (cn [108,105,115,116]) k0 0=some none:=rfl;repeat refine cf ?_
 refine cj ?_;refine cc none Z ?_;refine cc none Z ?_;refine cc none Z ?_;refine cc none Z ?_;refine cc none Z ?_;refine cc _ o ?_;repeat refine cf ?_
 refine ph c x (b8 c f) (p+1) k r 0 ?_ (fun v V q e1 i=>?_) (fun d y q e1=>?_)
 ·exact Z
 ·obtain⟨R,u,Y,P,D,rfl⟩:=i.cZ;intro g;refine a8 1 ⟨_,Z,Z,Z,?_⟩;rw[hF];simp only[ja,if_true,if_false,reduceIte,agA,PR.map,e1];exact⟨Z,_,.mk (.ps (.cons i .nil) sm) .nil,Z⟩
 ·exact Si
def aaZ(e:Rd)(x:e.Wf)(f p:Nat)(F:p<e.ts.length)(t:ef (b8 e f) e (p+1))(b:Nat)(a:cq)(d:Nat)(q:e.ts[p]?=some ⟨b,a,d⟩)(m:b8 e (f+1) p=ja (b8 e f) e b a d (p+1))(Y:b=5)(c:a=[102,110]):
  b4 C ca dj [.bp 0 0] [dp e p] fun y D=>∃k,D=[.box k]/\cM y=true/\fu 0 k=true/\B2 e (b8 e (f+1) p) y k:=by
 have g:=x.len;have B:b≠0->p+1<e.ts.length:=fun v=>x.go p _ q v;have A:b≠0->eu ⟨b,a,d⟩ p=p+1:=fun v=>if_neg v;refine cv qm (fun _=>Z) ?_;refine dK e p _ q om 0 Z ?_;first|have r:p+1<e.ts.length:=B om|skip
 first|rw[A om]|skip
 subst Y;have j:u9 a=none:=by rw[c];rfl
 have h:a≠[108,105,115,116]:=by rw[c];decide
 have R:=Dp j;repeat refine cf ?_
 refine cj ?_;refine cc none Z ?_;refine cc none Z ?_;refine cc none Z ?_;refine cc none Z ?_;refine cc none Z ?_;refine cc _ R ?_;repeat refine cf ?_
 refine a7 (decide_eq_false h) ?_;repeat refine a7 (decide_eq_false h) ?_
 refine cg (decide_eq_true c) ?_;repeat refine cg (decide_eq_true c) ?_
 intro M;refine ep e x [[40]] dc (p+1) r _ _ 0 ?_ ?_
 ·exact Z
 cases i:cu e [[40]] (p+1)with
 |bad d E=>
  intro u;refine a8 1 ⟨_,Z,Z,Z,?_⟩;rw[m];simp only[ja,if_true,if_false,reduceIte,agA,PR.map,j,h,c,i];exact⟨u,Z,Z⟩
 |ok _ q1=>
  have o:=da x _ _ _ r i;have s:p+1<=q1:=by rw[cL _ _ _ i];omega
  refine u7 e x (b8 e f) [44] [41] true q1 o (t.up s) 0 ?_ (fun Q K q2 l V=>?_) (fun d E u l=>?_)
  ·exact Z
  ·obtain⟨z,P⟩:=sR x (t.up s).lt o l;refine t.call q2 om P 0 _ _ ?_ (fun O d2 q3 w n=>?_) (fun d E q3 w=>?_)
   ·exact Z
   ·obtain⟨J,N,L,I,G,rfl⟩:=n.cZ;intro H;refine a8 1 ⟨_,Z,Z,Z,?_⟩;rw[m];simp only[ja,if_true,if_false,reduceIte,agA,PR.map,j,h,c,i,l,w];exact⟨Z,_,.mk (.ps (.cons n .nil) sm) V,Z⟩
   ·refine a8 1 ⟨_,Z,Z,Z,?_⟩;rw[m];simp only[ja,if_true,if_false,reduceIte,agA,PR.map,j,h,c,i,l,w];exact⟨q3,Z,Z⟩
  ·refine a8 1 ⟨_,Z,Z,Z,?_⟩;rw[m];simp only[ja,if_true,if_false,reduceIte,agA,PR.map,j,h,c,i,l];exact⟨u,Z,Z⟩
def aa0(c:Rd)(A:c.Wf)(f p:Nat)(D:p<c.ts.length)(B:ef (b8 c f) c (p+1))(b:Nat)(a:cq)(d:Nat)(i:c.ts[p]?=some ⟨b,a,d⟩)(s:b8 c (f+1) p=ja (b8 c f) c b a d (p+1))(q:b=5)(k:u9 a=none)(j:a≠[108,105,115,116])(h:a≠[102,110]):
  b4 C ca dj [.bp 0 0] [dp c p] fun w n=>∃e,n=[.box e]/\cM w=true/\fu 0 e=true/\B2 c (b8 c (f+1) p) w e:=by
 have r:=A.len;have m:b≠0->p+1<c.ts.length:=fun t=>A.go p _ i t;have l:b≠0->eu ⟨b,a,d⟩ p=p+1:=fun t=>if_neg t;refine cv qm (fun _=>Z) ?_;refine dK c p _ i om 0 Z ?_;first|have x:p+1<c.ts.length:=m om|skip
 first|rw[l om]|skip
 subst q;have o:=Dp k;repeat refine cf ?_
 refine cj ?_;refine cc none Z ?_;refine cc none Z ?_;refine cc none Z ?_;refine cc none Z ?_;refine cc none Z ?_;refine cc _ o ?_;repeat refine cf ?_
 refine a7 (decide_eq_false j) ?_;repeat refine a7 (decide_eq_false j) ?_
 refine a7 (decide_eq_false h) ?_;repeat refine a7 (decide_eq_false h) ?_
 refine fK _ d 3 ?_;refine a8 1 ⟨_,Z,Z,Z,?_⟩;rw[s];simp only[ja,if_true,if_false,reduceIte,agA,PR.map,k,j,h];exact⟨_,Z,Z⟩
def aa1(c:Rd)(w:c.Wf)(f p:Nat)(A:p<c.ts.length)(o:ef (b8 c f) c (p+1))(a:Nat)(b:cq)(d:Nat)(h:c.ts[p]?=some ⟨a,b,d⟩)(hF:b8 c (f+1) p=ja (b8 c f) c a b d (p+1))(s:a=6)(k:b=[123]):
  b4 C ca dj [.bp 0 0] [dp c p] fun x m=>∃e,m=[.box e]/\cM x=true/\fu 0 e=true/\B2 c (b8 c (f+1) p) x e:=by
 have r:=w.len;have l:a≠0->p+1<c.ts.length:=fun t=>w.go p _ h t;have i:a≠0->eu ⟨a,b,d⟩ p=p+1:=fun t=>if_neg t;refine cv qm (fun _=>Z) ?_;refine dK c p _ h om 0 Z ?_;first|have j:p+1<c.ts.length:=l om|skip
 first|rw[i om]|skip
 subst s;subst k;have n:eN .string (cn [123]) k0 0=some none:=rfl;repeat refine cf ?_
 refine cj ?_;refine cc none Z ?_;refine cc none Z ?_;refine cc none Z ?_;refine cc none Z ?_;refine cc none Z ?_;refine cc _ n ?_;repeat refine cf ?_
 refine u7 c w (b8 c f) [44] [125] false (p+1) j o 0 ?_ (fun P B q e1 hd=>?_) (fun d D q e1=>?_)
 ·exact Z
 ·exact Zf
 ·exact Si
def aa2(c:Rd)(w:c.Wf)(f p:Nat)(A:p<c.ts.length)(o:ef (b8 c f) c (p+1))(a:Nat)(b:cq)(d:Nat)(h:c.ts[p]?=some ⟨a,b,d⟩)(hF:b8 c (f+1) p=ja (b8 c f) c a b d (p+1))(s:a=6)(k:b=[60]):
  b4 C ca dj [.bp 0 0] [dp c p] fun x m=>∃e,m=[.box e]/\cM x=true/\fu 0 e=true/\B2 c (b8 c (f+1) p) x e:=by
 have r:=w.len;have l:a≠0->p+1<c.ts.length:=fun t=>w.go p _ h t;have i:a≠0->eu ⟨a,b,d⟩ p=p+1:=fun t=>if_neg t;refine cv qm (fun _=>Z) ?_;refine dK c p _ h om 0 Z ?_;first|have j:p+1<c.ts.length:=l om|skip
 first|rw[i om]|skip
 subst s;subst k;have n:eN .string (cn [60]) k0 0=some none:=rfl;repeat refine cf ?_
 refine cj ?_;refine cc none Z ?_;refine cc none Z ?_;refine cc none Z ?_;refine cc none Z ?_;refine cc none Z ?_;refine cc _ n ?_;repeat refine cf ?_
 refine u7 c w (b8 c f) [124] [62] false (p+1) j o 0 ?_ (fun P B q e1 hd=>?_) (fun d D q e1=>?_)
 ·exact Z
 ·exact Zf
 ·exact Si
def Wr(R:Rd)(w:R.Wf)(f p:Nat)(e:p<R.ts.length)(i:ef (b8 R f) R (p+1))(kind:Nat)(text:cq)(off:Nat)(K5:R.ts[p]?=some ⟨kind,text,off⟩)(hF:b8 R (f+1) p=ja (b8 R f) R kind text off (p+1))(h6:kind=6)(hc:text≠[123])(hv:text≠[60])(Ik:eN .string (cn text) k0 0=some none):
  b4 C ca dj [.bp 0 0] [dp R p] fun d b=>∃a,b=[.box a]/\cM d=true/\fu 0 a=true/\B2 R (b8 R (f+1) p) d a:=by
 have c:=w.len;exact Ye
def Ws(R:Rd)(w:R.Wf)(f p:Nat)(j:p<R.ts.length)(k:ef (b8 R f) R (p+1))(kind:Nat)(text:cq)(off:Nat)(K5:R.ts[p]?=some ⟨kind,text,off⟩)(hF:b8 R (f+1) p=ja (b8 R f) R kind text off (p+1))(h6:kind=6)(hc:text≠[123])(hv:text≠[60])(d c:Nat)(Ik:eN .string (cn text) k0 0=some (some (d,b5 c))):
  b4 C ca dj [.bp 0 0] [dp R p] fun i b=>∃a,b=[.box a]/\cM i=true/\fu 0 a=true/\B2 R (b8 R (f+1) p) i a:=by
 have e:=w.len;exact Ye
def Wt(R:Rd)(w:R.Wf)(f p:Nat)(j:p<R.ts.length)(ht:ef (b8 R f) R (p+1))(kind:Nat)(text:cq)(off:Nat)(K5:R.ts[p]?=some ⟨kind,text,off⟩)(hF:b8 R (f+1) p=ja (b8 R f) R kind text off (p+1))(h2:kind=2)(Ik:eN .string (cn text) k0 0=some none):
  b4 C ca dj [.bp 0 0] [dp R p] fun i b=>∃a,b=[.box a]/\cM i=true/\fu 0 a=true/\B2 R (b8 R (f+1) p) i a:=by
 have c:=w.len;exact Yb
def Wu(R:Rd)(w:R.Wf)(f p:Nat)(m:p<R.ts.length)(ht:ef (b8 R f) R (p+1))(kind:Nat)(text:cq)(off:Nat)(K5:R.ts[p]?=some ⟨kind,text,off⟩)(hF:b8 R (f+1) p=ja (b8 R f) R kind text off (p+1))(h2:kind=2)(i c:Nat)(Ik:eN .string (cn text) k0 0=some (some (i,b5 c))):
  b4 C ca dj [.bp 0 0] [dp R p] fun k b=>∃a,b=[.box a]/\cM k=true/\fu 0 a=true/\B2 R (b8 R (f+1) p) k a:=by
 have j:=w.len;exact Yb
def Wv(R:Rd)(w:R.Wf)(f p:Nat)(k:p<R.ts.length)(ht:ef (b8 R f) R (p+1))(kind:Nat)(text:cq)(off:Nat)(K5:R.ts[p]?=some ⟨kind,text,off⟩)(hF:b8 R (f+1) p=ja (b8 R f) R kind text off (p+1))(h1:kind=1)(Ik:eN .string (cn text) k0 0=some none):
  b4 C ca dj [.bp 0 0] [dp R p] fun j c=>∃a,c=[.box a]/\cM j=true/\fu 0 a=true/\B2 R (b8 R (f+1) p) j a:=by
 have i:=w.len;exact X8
def Ww(R:Rd)(w:R.Wf)(f p:Nat)(n:p<R.ts.length)(ht:ef (b8 R f) R (p+1))(kind:Nat)(text:cq)(off:Nat)(K5:R.ts[p]?=some ⟨kind,text,off⟩)(hF:b8 R (f+1) p=ja (b8 R f) R kind text off (p+1))(h1:kind=1)(j i:Nat)(Ik:eN .string (cn text) k0 0=some (some (j,b5 i))):
  b4 C ca dj [.bp 0 0] [dp R p] fun m c=>∃a,c=[.box a]/\cM m=true/\fu 0 a=true/\B2 R (b8 R (f+1) p) m a:=by
 have k:=w.len;exact X8
def Wx(R:Rd)(w:R.Wf)(f p:Nat)(e:p<R.ts.length)(i:ef (b8 R f) R (p+1))(kind:Nat)(text:cq)(off:Nat)(K5:R.ts[p]?=some ⟨kind,text,off⟩)(hF:b8 R (f+1) p=ja (b8 R f) R kind text off (p+1))(n5:kind≠5)(n6:kind≠6)(n2:kind≠2)(n1:kind≠1)(Ik:eN .string (cn text) k0 0=some none):
  b4 C ca dj [.bp 0 0] [dp R p] fun d b=>∃a,b=[.box a]/\cM d=true/\fu 0 a=true/\B2 R (b8 R (f+1) p) d a:=by
 have c:=w.len;exact Yc
def Wy(R:Rd)(w:R.Wf)(f p:Nat)(j:p<R.ts.length)(k:ef (b8 R f) R (p+1))(kind:Nat)(text:cq)(off:Nat)(K5:R.ts[p]?=some ⟨kind,text,off⟩)(hF:b8 R (f+1) p=ja (b8 R f) R kind text off (p+1))(n5:kind≠5)(n6:kind≠6)(n2:kind≠2)(n1:kind≠1)(d c:Nat)(Ik:eN .string (cn text) k0 0=some (some (d,b5 c))):
  b4 C ca dj [.bp 0 0] [dp R p] fun i b=>∃a,b=[.box a]/\cM i=true/\fu 0 a=true/\B2 R (b8 R (f+1) p) i a:=by
 have e:=w.len;exact Yc
def Ql(m:Rd)(o:m.Wf)(f p:Nat)(k:p<m.ts.length)(l:ef (b8 m f) m (p+1)):
  b4 C ca dj [.bp 0 0] [dp m p] fun F R=>∃x,R=[.box x]/\cM F=true/\fu 0 x=true/\B2 m (b8 m (f+1) p) F x:=by
 have j:b8 m (f+1) p=ja (b8 m f) m (m.tok p).kind (m.tok p).text (m.tok p).off (p+1):=by rw[b8]
 have c:=b0 k;generalize m.tok p=z at j c;obtain⟨b,a,d⟩:=z;dsimp only at j;have cases:(b=5/\(a=[105,110,116]))∨(b=5/\a=[98,111,111,108])∨(b=5/\a=[116,101,120,116])∨(b=5/\a=[97,110,121])∨(b=5/\a=[110,111,110,101])∨(b=5/\a=[108,105,115,116])∨(b=5/\a=[102,110])∨
   (b=5/\u9 a=none/\a≠[108,105,115,116]/\a≠[102,110])∨(b=6/\a=[123])∨(b=6/\a=[60])∨(b=6/\a≠[123]/\a≠[60])∨b=2∨b=1∨(b≠5/\b≠6/\b≠2/\b≠1):=by
  by_cases e:b=5
  ·by_cases h1:a=[105,110,116]
   ·exact .inl ⟨e,h1⟩
   refine .inr ?_;by_cases h2:a=[98,111,111,108]
   ·exact .inl ⟨e,h2⟩
   refine .inr ?_;by_cases P:a=[116,101,120,116]
   ·exact .inl ⟨e,P⟩
   refine .inr ?_;by_cases B:a=[97,110,121]
   ·exact .inl ⟨e,B⟩
   refine .inr ?_;by_cases n:a=[110,111,110,101]
   ·exact .inl ⟨e,n⟩
   refine .inr ?_;by_cases s:a=[108,105,115,116]
   ·exact .inl ⟨e,s⟩
   refine .inr ?_;by_cases w:a=[102,110]
   ·exact .inl ⟨e,w⟩
   refine .inr (.inl ⟨e,?_,s,w⟩);unfold u9;rw[if_neg h1,if_neg h2,if_neg P,if_neg B,if_neg n]
  ·refine .inr (.inr (.inr (.inr (.inr (.inr (.inr (.inr ?_)))))));by_cases n:b=6
   ·by_cases s:a=[123]
    ·exact .inl ⟨n,s⟩
    ·by_cases w:a=[60]
     ·exact .inr (.inl ⟨n,w⟩)
     ·exact .inr (.inr (.inl ⟨n,s,w⟩))
   ·by_cases h2:b=2
    ·exact .inr (.inr (.inr (.inl h2)))
    ·by_cases h1:b=1
     ·exact .inr (.inr (.inr (.inr (.inl h1))))
     ·exact .inr (.inr (.inr (.inr (.inr ⟨e,n,h2,h1⟩))))
 rcases cases with⟨e,i⟩|⟨e,i⟩|⟨e,i⟩|⟨e,i⟩|⟨e,i⟩|⟨e,i⟩|⟨e,i⟩|⟨e,y,E,Y⟩|⟨n,t⟩|⟨n,t⟩|⟨n,v,V⟩|h2|h1|⟨A,D,u,g⟩
 ·exact aaT m o f p k l b a d c j e i
 ·exact aaU m o f p k l b a d c j e i
 ·exact aaV m o f p k l b a d c j e i
 ·exact aaW m o f p k l b a d c j e i
 ·exact aaX m o f p k l b a d c j e i
 ·exact aaY m o f p k l b a d c j e i
 ·exact aaZ m o f p k l b a d c j e i
 ·exact aa0 m o f p k l b a d c j e y E Y
 ·exact aa1 m o f p k l b a d c j n t
 ·exact aa2 m o f p k l b a d c j n t
 ·rcases uK a with h|⟨r,q,h⟩
  ·exact Wr m o f p k l b a d c j n v V h
  ·exact Ws m o f p k l b a d c j n v V r q h
 ·rcases uK a with h|⟨r,q,h⟩
  ·exact Wt m o f p k l b a d c j h2 h
  ·exact Wu m o f p k l b a d c j h2 r q h
 ·rcases uK a with h|⟨r,q,h⟩
  ·exact Wv m o f p k l b a d c j h1 h
  ·exact Ww m o f p k l b a d c j h1 r q h
 ·rcases uK a with h|⟨r,q,h⟩
  ·exact Wx m o f p k l b a d c j A D u g h
  ·exact Wy m o f p k l b a d c j A D u g r q h
def fH{c a:Type}{f:c->a}{e:PR c}{b:a}(h:e.map f=.ok b u):∃d,e=.ok d u/\f d=b:=by
 cases e with
 |ok d j=>cases h;exact⟨d,rfl,rfl⟩
 |bad i k=>cases h
def Ok(f:z.Wf){n p e:Nat}{t:Ty}(d:∀c t e,p<=c->c<z.ts.length->y c=.ok t e->c<e/\e<z.ts.length) 
  (hp:u≠0->p<z.ts.length) (h:ja y z u H n p=.ok t e):p<=e/\e<z.ts.length:=by
 unfold ja at h;split at h
 ·have hp:=hp om;split at h
  ·exact NC
  ·split at h
   ·obtain⟨l,a,_⟩:=fH h;exact kr f d hp a
   ·split at h
    ·cases b:cu z [[40]] p with
     |bad w x=>rw[b]at h;cases h
     |ok A q1=>
      rw[b]at h;dsimp only at h;have s:=cL _ _ _ b;have j:=da f _ _ _ hp b;cases k:eY y z [44] [41] true q1 with
      |bad w x=>rw[k]at h;cases h
      |ok C q2=>
       rw[k]at h;dsimp only at h;obtain⟨r,i⟩:=sR f (fun c t e o=>d c t e om) j k;obtain⟨l,a,_⟩:=fH h;obtain⟨B,q⟩:=d q2 l e om i a;exact⟨om,q⟩
    ·cases h
 ·split at h
  ·have hp:=hp om;split at h
   ·obtain⟨l,a,_⟩:=fH h;exact sR f d hp a
   ·split at h
    ·obtain⟨l,a,_⟩:=fH h;exact sR f d hp a
    ·cases h
  ·split at h
   ·obtain⟨l,a,_⟩:=fH h;exact Dn f d (hp om) a
   ·split at h
    ·have hp:=hp om;cases b:cu z [[58,58]] p with
     |bad w x=>rw[b]at h;cases h
     |ok A q1=>
      rw[b]at h;dsimp only at h;have s:=cL _ _ _ b;have j:=da f _ _ _ hp b;split at h
      ·cases h
      ·rename_i m;have m:(z.tok q1).kind=2:=by simpa using m
       obtain⟨l,a,_⟩:=fH h;obtain⟨r,i⟩:=Dn f (fun c t e o=>d c t e om) (f.go q1 _ (b0 j) om) a;exact⟨om,i⟩
    ·cases h
def Ol(m:z.Wf):∀(d a:Nat) (c:Ty) (b:Nat),a<z.ts.length->b8 z d a=.ok c b->a<b/\b<z.ts.length:=by
 intro d;induction d with
 |zero=>intro a c b _ e;cases e
 |succ d i=>
  intro a c b f e;rw[b8]at e;obtain⟨o,n⟩:=Ok m (p:=a+1) (fun k c b _ l j=>i k c b l j) (fun h=>m.go a _ (b0 f) h) e;exact⟨om,n⟩
def Ds(n:z.Wf):∀(c b:Nat),z.ts.length-b<=c->ef (b8 z c) z b:=by
 intro c;induction c with
 |zero=>intro b h;exact⟨fun f t q j a=>om,fun f j a=>om⟩
 |succ c k=>
  intro b h;refine⟨fun f t q _ a l=>Ol n _ f t q a l,fun f j a o p r i k1 k2=>?_⟩;refine b4.one (dM:=[.bp 0 0]) (P:=B2 z (b8 z (c+1) f)) (Ql z n c f a (k (f+1) om)) o i Z Z Z (fun s m h=>?_);unfold B2 at h;exact OV
def acT(a:cq)(t:Tok):Prop:=(t.kind=1->cK t.text=true)/\(t.kind=2->dX t.text=true)/\t.off<=a.length
def Qp{l t:cq}{b n:Nat}(h:oa l=.ok b t n):b≠0/\(b=1->cK t=true)/\(b=2->dX t=true):=by
 cases l with
 |nil=>cases h
 |cons c d=>
  rw[oa]at h;split at h
  ·unfold nM at h;split at h
   ·exact R6
   ·split at h
    ·rename_i a;cases h;exact⟨om,fun _=>a,fun h=>om⟩
    ·split at h
     ·rename_i a;cases h;exact⟨om,fun h=>om,fun _=>a⟩
     ·cases h
  ·split at h
   ·unfold mZ at h;split at h
    ·cases h
    ·exact R6
   ·split at h
    ·split at h
     ·exact R6
     ·cases h
    ·split at h
     ·cases h
     ·exact R6
def Ka(s:cq):∀(m a:Nat) (h:List Tok),s.length-a<m->jF s m a=.ok h->
  h≠[]/\(∀f l,h[f]?=some l->l.kind≠0->f+1<h.length)/\h.length<=s.length-a+1/\∀l∈h,acT s l:=by
 intro m;induction m with
 |zero=>intro a h b;omega
 |succ m w=>
  intro a h P b;rw[jF]at b;split at b
  ·cases b;refine⟨by simp,fun f l e j=>?_,by simp,fun l c=>?_⟩
   ·cases f with
    |zero=>simp at e;subst e;exact absurd rfl j
    |succ f=>simp at e
   ·simp at c;subst c;exact⟨fun b=>by simp at b,fun b=>by simp at b,agq _⟩
  ·rename_i x;cases c:oa (s.drop a)with
   |err Y=>rw[c]at b;cases b
   |ok V l B=>
    rw[c]at b;dsimp only at b;obtain⟨D,r⟩:=y7 c;rw[List.length_drop]at r;cases k:jF s m (a+B+dZ false (s.drop (a+B)))with
    |err A C=>rw[k]at b;cases b
    |ok n=>
     rw[k]at b;cases b;obtain⟨t,o,R,q⟩:=w _ n om k;have p:0<n.length:=agY.2 t;refine⟨by simp,fun f i e j=>?_,?_,fun i d=>?_⟩
     ·cases f with
      |zero=>simp only[agj];omega
      |succ f=>
       have:=o f i (by simpa using e) j;simp only[agj];omega
     ·simp only[agj];omega
     ·rcases agR.1 d with rfl|d
      ·obtain⟨_,A,C⟩:=Qp c;exact⟨A,C,by show a<=s.length;omega⟩
      ·exact q i d
def B8{s:cq}{l:List Tok}(a:jl s=.ok l):s.length<=65536/\l≠[]/\(∀c b,l[c]?=some b->b.kind≠0->c+1<l.length)/\l.length<=65537/\∀b∈l,acT s b:=by
 unfold jl at a;split at a
 ·cases a
 ·obtain⟨f,e,h,d⟩:=Ka s _ _ l om a;exact⟨om,f,e,om,d⟩
def mC{R:Rd}(a:jl H=.ok R.ts):R.Wf/\0<R.ts.length:=by
 obtain⟨_,c,b,d,_⟩:=B8 a;exact⟨⟨om,b⟩,agY.2 c⟩
def Qq(s:cq):∀(f a c h:Nat),jF s f a=.err c h->h≠0:=by
 intro f;induction f with
 |zero=>intro a c h b;cases b
 |succ f i=>
  intro a c h b;rw[jF]at b;split at b
  ·cases b
  ·cases e:oa (s.drop a)with
   |err l=>rw[e]at b;cases b;exact Iq e
   |ok n m j=>
    rw[e]at b;dsimp only at b;cases d:jF s f (a+j+dZ false (s.drop (a+j)))with
    |err p o=>rw[d]at b;cases b;exact i _ _ _ d
    |ok k=>rw[d]at b;cases b
def mD{s:cq}(a:jl s=.err u N):N≠0:=by
 unfold jl at a;split at a
 ·cases a;decide
 ·exact Qq s _ _ _ _ a
def Au(c:cq)(b:∀e,Tn (jl c) e->g e v):b4 C ca A6 [cn c] v g:=by
 by_cases d:c.length<4294967296
 ·exact Tq c d b
 ·refine b4.closed (P:=Tn (jl c)) ?_ Z b;refine cv xfz (fun _=>Z) ?_;refine aZ (fun h=>?_) (fun h=>absurd (dq (a:=65536) h) om);exact aeJ
mutual
def ct:Ty->Nat
 |.mk _ _ _ args fields=>cy args+qa fields+1
def cy:List Ty->Nat
 |[]=>0
 |t::l=>ct t+cy l
def qa:List (cq×Ty×Bool)->Nat
 |[]=>0
 |(_,t,_)::l=>ct t+qa l
end
mutual
def nD:Ty->Nat
 |.mk _ _ _ args fields=>max (gl args) (B9 fields)+1
def gl:List Ty->Nat
 |[]=>0
 |t::l=>max (nD t) (gl l)
def B9:List (cq×Ty×Bool)->Nat
 |[]=>0
 |(_,t,_)::l=>max (nD t) (B9 l)
end
mutual
def ru:Ty->Bool
 |.mk _ _ _ args fields=>decide (32<fields.length)||decide (8<args.length)||oW args||Ov fields
def oW:List Ty->Bool
 |[]=>false
 |t::l=>ru t||oW l
def Ov:List (cq×Ty×Bool)->Bool
 |[]=>false
 |(_,t,_)::l=>ru t||Ov l
end
def ea(l:List oG):List Ty:=l.map fun a=>a.2.1
def dD:Ty->List Ty
 |.mk _ _ _ b a=>b++ea a
def ga(a b:List Ty):cy (a++b)=cy a+cy b:=by
 induction a with
 |nil=>simp[cy]
 |cons d a c=>simp only[agz,cy,c];omega
def nE(l:List oG):qa l=cy (ea l):=by
 induction l with
 |nil=>rfl
 |cons b l a=>obtain⟨c,d,e⟩:=b;simp only[qa,ea,agM,cy]at a⊢;rw[a]
def eO(t:Ty):ct t=cy (dD t)+1:=by
 obtain⟨d,e,c,b,a⟩:=t;rw[ct,dD,ga,nE]
def Bf(a b:List Ty):gl (a++b)=max (gl a) (gl b):=by
 induction a with
 |nil=>simp[gl]
 |cons d a c=>simp only[agz,gl,c];omega
def MJ(l:List oG):B9 l=gl (ea l):=by
 induction l with
 |nil=>rfl
 |cons b l a=>obtain⟨c,d,e⟩:=b;simp only[B9,ea,agM,gl]at a⊢;rw[a]
def sU(t:Ty):nD t=gl (dD t)+1:=by
 obtain⟨d,e,c,b,a⟩:=t;rw[nD,dD,Bf,MJ]
def Qs(a b:List Ty):oW (a++b)=(oW a||oW b):=by
 induction a with
 |nil=>simp[oW]
 |cons d a c=>simp only[agz,oW,c,Bool.or_assoc]
def TR(l:List oG):Ov l=oW (ea l):=by
 induction l with
 |nil=>rfl
 |cons b l a=>obtain⟨c,d,e⟩:=b;simp only[Ov,ea,agM,oW]at a⊢;rw[a]
def lm:Ty->Bool
 |.mk _ _ _ b a=>decide (32<a.length)||decide (8<b.length)
def xK(t:Ty):ru t=(lm t||oW (dD t)):=by
 obtain⟨d,e,c,b,a⟩:=t;rw[ru,dD,Qs,TR,lm,Bool.or_assoc]
def gO(t:Ty):0<ct t:=by rw[eO];omega
def dA(l:List Ty):l.length<=cy l:=by
 induction l with
 |nil=>simp
 |cons b l a=>have:=gO b;simp only[agj,cy];omega
def dJ{l:List Ty}{t:Ty}(h:t∈l):ct t<=cy l:=by
 induction l with
 |nil=>simp at h
 |cons b l a=>
  rcases agR.1 h with rfl|h
  ·simp only[cy];omega
  ·have:=a h;simp only[cy];omega
def Qt(n:Nat):∀a:Ty,ct a<=n->nD a<=ct a:=by
 induction n with
 |zero=>intro a f;have:=gO a;omega
 |succ n d=>
  intro a f;rw[eO]at f⊢;rw[sU];have:∀b:List Ty,cy b<=n->gl b<=cy b:=by
   intro b;induction b with
   |nil=>intro _;simp[gl]
   |cons h b c=>
    intro e;simp only[cy,gl]at e⊢;have:=d h om;have:=c om;omega
  have:=this _ (by omega:cy (dD a)<=n);omega
def dz.len{l:List Ty}{els:List cH}(h:dz l els):els.length=l.length:=by
 exact abM
def dz.get{l:List Ty}{els:List cH}(h:dz l els){i:Nat}(hi:i<l.length):∃d,els[i]?=some d/\eZ l[i] d:=by
 exact NH
def dz.P9{l c:List Ty}{els b:List cH}(h:dz l els)(h':dz c b):dz (l++c) (els++b):=by
 exact abR
def u5.len{l:List oG}{els:List cH}(h:u5 l els):els.length=l.length:=by
 exact abM
variable{E T:List cH}
def u5.get{l:List oG}(n:u5 l E){i:Nat}(b:i<l.length):∃c:FE,E[i]?=some (fe c)/\l[i].1=c.n/\l[i].2.2=c.o/\eZ l[i].2.1 c.ty:=by
 induction l generalizing E i with
 |nil=>simp at b
 |cons k l e=>
  cases n with
  |cons a f=>
   cases i with
   |zero=>
    obtain⟨o,q,d,h,j,rfl⟩:=a.cZ;exact⟨⟨_,o,q,d,h,j,_,[],.ci⟩,Z,Z,Z,a⟩
   |succ i=>obtain⟨m,k,p⟩:=e f (i:=i) (by simpa using b);exact⟨m,by simpa using k,p⟩
inductive Ii:List Ty->D->Prop
 |nil:Ii [] .ci
 |ps {b o cap:Nat} {l:List Ty} {els:List cH} (h:dz l els):Ii l (.ps b o 5 cap els)
def aa8:Nat->Bool:=fun a=>agF a 19
def qk(c:Nat)(b n:cq)(a f:D):List V:=[.d (.int .i64 (agl c)),.d (.str b),.d (.str n),.d a,.d f]
def Ow(c:List V):List cH->VS
 |[]=>[.box c]
 |e::b=>[.box c,.row 5 ((e::b).map fun a=>a.map V.d)]
def Ox:List cH->V
 |[]=>.d .ci
 |_::a=>.ms 1 5 0 (a.length+1) (a.length+1)
def OW(b:cH)(c:List cH)(a:cH):some (cN.row 5 (agJ (c.length+1) (agK 0 (agw (fun a=>agw V.d a) (b::c)))++[a.map V.d]))=some (hV F (.row 5 (agw (fun a=>agw V.d a) (b::(c++[a]))))):=by
 rw[sM,agQ,agp sm];simp
def RF(c:Nat)(a:List cH)(b:cH):some (V.ms c 5 0 (a.length+1+1) (a.length+1+1))=some (V.ms c 5 0 ((a++[b]).length+1) ((a++[b]).length+1)):=by simp
def jw{c:List V}{l:List Ty}{els:List cH}(i n:Nat)(hn:n=els.length)(e:nth v i=some (.row 5 (els.map fun d=>d.map V.d)))(f:dz l els):
  cU 0 (.ret (.ms (i+1) 5 0 n n)) (.box c::v) fun h a=>a=[]/\cM h=true/\∃d,Ii l d/\h=.ret (.d d):=by
 refine cU.freeze (i+1) (es:=5) (l:=els) e (gk els) (fun _=>⟨Z,by simp[hn]⟩) (fun b=>?_);have j:wq (i+1) b els (.ret (.ms (i+1) 5 0 n n))=.ret (.d (.ps b (0*5) 5 n els)):=by
  exact Zg
 rw[j];refine cU.drop 0 Z (by rw[mJ]) Z (cU.now Z ?_);exact⟨Z,Z,_,.ps f,Z⟩
def xY{c n:Nat}(b:c<=4294967296)(a:n=1:=by rfl):(c+n)*88<=fy/\c+n<=fy:=by
 unfold fy;omega
def vZ(a:cH)(b:List cH)(d:b.length+1<4294967296):(0+(agw (fun c=>agw V.d c) (a::b)).length)*88<=fy/\0+(agw (fun c=>agw V.d c) (a::b)).length<=fy:=by
 unfold fy;simp only[agC,agj];omega
def xL(a:cH)(c:List cH):some (cN.row 5 (agJ 0 (agK 0 [])++agw (fun b=>agw V.d b) (a::c)))=some (hV F (.row 5 (agw (fun b=>agw V.d b) (a::c)))):=by
 rw[sM];rfl
def Qu(d:Nat)(a:cH)(b:List cH):some (V.ms d 5 0 (0+(agw (fun c=>agw V.d c) (a::b)).length) (0+(agw (fun c=>agw V.d c) (a::b)).length))=some (V.ms d 5 0 (b.length+1) (b.length+1)):=by simp
def v7{l:List oG}(a:u<l.length):ea (l.take (u+1))=ea (l.take u)++[l[u].2.1]:=by
 unfold ea;rw[agy,agn a,agB];rfl
def Kb(V:Nat)(g n:cq)(h:List Ty)(a:List oG)(F f:D)(z:fA h F)(o:ll a f)(J:h.length+a.length<4294967296):
  b4 C ca uP [.agg (qk V g n F f)] [] fun r v=>v=[]/\cM r=true/\∃H,Ii (h++ea a) H/\r=.ret (.d H):=by
 refine cv aa8 (fun _=>Z) ?_;refine cj ?_;cases z with
 |nil=>
  cases o with
  |nil=>
   refine cd.loop ?_;refine a8 0 ⟨Z,Z,.ci,.nil,Z⟩
  |ps o=>
   rename_i m l c d;have q:=o.len;refine cw (dB:=[(3,Ox []),(10,.d (.ps m l 7 c d)),(11,b5 a.length),(12,b5 0)]) (fU:=Ow (qk V g n .ci (.ps m l 7 c d)) []) (.same ⟨Z,Z,int_eq (by rw[q]),Z,tv⟩ Z) ?_;refine cd.iter (fun x:Nat×List cH=>[(3,Ox x.2),(10,.d (.ps m l 7 c d)),(11,b5 a.length),(12,b5 x.1)]) (fun x=>Ow (qk V g n .ci (.ps m l 7 c d)) x.2) (fun x=>a.length-x.1)
    (fun x=>x.1<=a.length/\dz ([]++ea (a.take x.1)) x.2) ?_ (0,[]) ⟨agu _,by exact .nil⟩
   rintro⟨j,acc⟩ ⟨s,b⟩;have s:j<=a.length:=s;have b:dz ([]++ea (a.take j)) acc:=b;have hcl:=b.len;rw[agk,ea,agC,agG]at hcl;try simp only[agm]at hcl
   apply aZ<;>intro w
   ·have lU:j<a.length:=ee w;obtain⟨x,hx,_,_,t⟩:=o.get lU;have xX:dz ([]++ea (a.take (j+1))) (acc++[x.ty]):=by rw[v7 lU,<-agv];exact b.snoc t
    exact Yd
   ·have lU:a.length<=j:=dq w;rw[agp lU]at b;cases acc with
    |nil=>
     have p: []++ea a=[]:=ago b.len.symm;refine a8 0 ⟨Z,Z,.ci,?_,Z⟩;rw[p];exact .nil
    |cons e r=>exact jw 0 (r.length+1) rfl rfl b
 |ps E R=>
  rename_i I G A B;cases B with
  |nil=>exact absurd rfl R
  |cons k i=>
   have y:=E.len;have P:i.length+1<4294967296:=by simp only[agj]at y;omega
   refine a6 Z (a6 ⟨Z,Z,agq _,agq _,vZ k i P⟩ ?_);refine a7 Z (a7 Z ?_);cases o with
   |nil=>
    refine cd.loop ?_;refine jw (els:=k::i) 1 _ sm ?_ ?_
    ·exact Z
    ·simpa [ea]using E
   |ps o=>
    rename_i m l c d;have q:=o.len;refine cw (dB:=[(3,Ox (k::i)),(10,.d (.ps m l 7 c d)),(11,b5 a.length),(12,b5 0)]) (fU:=Ow (qk V g n (.ps I G 5 A (k::i)) (.ps m l 7 c d)) (k::i)) (.pick 1 [0,2] ⟨Qu 2 k i,Z,int_eq (by rw[q]),Z,tv⟩ Z Z Z Z Z dc ⟨Z,Z,xL k i,jv _ _ _,tv⟩) ?_;refine cd.iter (fun x:Nat×List cH=>[(3,Ox x.2),(10,.d (.ps m l 7 c d)),(11,b5 a.length),(12,b5 x.1)]) (fun x=>Ow (qk V g n (.ps I G 5 A (k::i)) (.ps m l 7 c d)) x.2) (fun x=>a.length-x.1)
     (fun x=>x.1<=a.length/\dz (h++ea (a.take x.1)) x.2) ?_ (0,(k::i)) ⟨agu _,by simpa [ea]using E⟩
    rintro⟨j,acc⟩ ⟨s,b⟩;have s:j<=a.length:=s;have b:dz (h++ea (a.take j)) acc:=b;have hcl:=b.len;rw[agk,ea,agC,agG]at hcl;try simp only[agm]at hcl
    apply aZ<;>intro w
    ·have lU:j<a.length:=ee w;obtain⟨x,hx,_,_,t⟩:=o.get lU;have xX:dz (h++ea (a.take (j+1))) (acc++[x.ty]):=by rw[v7 lU,<-agv];exact b.snoc t
     exact Yd
    ·have lU:a.length<=j:=dq w;rw[agp lU]at b;cases acc with
     |nil=>
      have p:h++ea a=[]:=ago b.len.symm;refine a8 0 ⟨Z,Z,.ci,?_,Z⟩;rw[p];exact .nil
     |cons e r=>exact jw 0 (r.length+1) rfl rfl b
def xM(t:Ty)(c:cH)(d:eZ t c)(j:ct t<4294967296)(e:∀c,Ii (dD t) c->g (.ret (.d c)) v):b4 C ca uP [.agg (c.map V.d)] v g:=by
 cases d with
 |mk l h=>
  rename_i f k i b a o p;have q:=dA (dD (.mk f k i b a));rw[eO]at j;have n:(dD (.mk f k i b a)).length=b.length+a.length:=by simp[dD,ea]
  exact b4.closed (P:=fun m=>∃c,Ii (b++ea a) c/\m=.ret (.d c)) (Kb f k i b a o p l h om) Z (fun m ⟨c,r,s⟩=>by rw[s];exact e c r)
def zp{l:List Ty}(a:u<l.length):gl (l.take (u+1))=max (gl (l.take u)) (nD l[u]):=by
 rw[agy,agn a,Bf];simp[gl]
def qZ{l:List Ty}(a:u<l.length):cy (l.take (u+1))=cy (l.take u)+ct l[u]:=by
 rw[agy,agn a,ga];simp[cy]
def mE(l:List Ty)(a:Nat):cy (l.take a)<=cy l:=by
 have b:=ga (l.take a) (l.drop a);rw[agW]at b;omega
def Dw(l:List Ty):gl l<=cy l:=by
 induction l with
 |nil=>simp[gl]
 |cons b l a=>have:=Qt _ b (agq _);simp only[gl,cy];omega
def Kc(n:Nat)(s:∀(t:Ty) (h:cH),ct t<=n->eZ t h->∀{o:VS} {w:cO->VS->Prop},w (.ret (b5 (nD t))) o->b4 C ca lB [.agg (h.map V.d)] o w) 
  (t:Ty) (h:cH) (E:ct t<=n+1) (J:n<4294967295) (i:eZ t h):b4 C ca lB [.agg (h.map V.d)] [] fun v m=>m=[]/\v=.ret (b5 (nD t)):=by
 obtain⟨G,H,q,z,F,rfl⟩:=i.cZ;have P:=eO t;refine cm ?_;refine xM t _ i om (fun h l=>?_);rw[sU];have j:cy (dD t)<=n:=om;generalize dD t=a at l j;have x:=dA a;cases l with
 |nil=>
  exact oy
 |ps g=>
  rename_i R A d e;have k:=g.len;refine cd.less (dB:=[(3,b5 0),(7,.d (.ps R A 5 d e)),(8,b5 a.length),(9,b5 0)]) ⟨Z,Z,int_eq (by rw[k]),Z,tv⟩ ?_;refine cd.iter (fun c:Nat=>[(3,b5 (gl (a.take c))),(7,.d (.ps R A 5 d e)),(8,b5 a.length),(9,b5 c)]) (fun _=>[.box (qk G H q z F)]) (fun c=>a.length-c) (fun c=>c<=a.length) ?_ 0 (agu _);intro c I;apply aZ<;>intro p
  ·have b:c<a.length:=ee p;obtain⟨h,r,f⟩:=g.get b;refine bZ Z ?_;obtain⟨K,y,B,L,f2,rfl⟩:=f.cZ;refine cc _ (by rw[ck];exact r) ?_;have u:=dJ (agt b);refine s a[c] _ om f ?_;refine⟨c+1,b,iK,.drop 1 ⟨int_eq ?_,Z,Z,int_eq (cp om),tv⟩ Z Z Z Z Z Z Z,Z,Z⟩;rw[zp b];exact Fe
  ·have b:a.length<=c:=dq p;rw[agp b];have Y:=Dw a;refine a8 0 ⟨Z,?_⟩;exact congrArg cO.ret (congrArg V.d (congrArg (D.int .i64) (cp om)))
def MK:∀(d:Nat) (a:Ty) (c:cH),d<4294967295->ct a<=d->eZ a c->∀{b:VS} {h:cO->VS->Prop},h (.ret (b5 (nD a))) b->b4 C ca lB [.agg (c.map V.d)] b h:=by
 intro d;induction d with
 |zero=>intro a c _ l;have:=gO a;omega
 |succ d i=>
  intro a c n l e b h f;obtain⟨p,q,m,r,o,rfl⟩:=e.cZ;exact cC (Kc d (fun a c k j=>i a c om k j) a _ l om e) Z Z f
def j0(o:List V)(b a:List V)(c:ki):VS:=[.box b,.box o,.box a,.eI false,.loop c,.box [.tR 4],.box [.fn ez [] [.bp 5 0,.bp 6 0]]]
variable{O:ki}
def nP{o b a:List V}(d:fu 0 o=true)(f:fu 0 b=true)(e:fu 0 a=true)(c:fW 7 (.loop O)=true):mJ 7 (j0 o b a O) 7=true:=by
 simp only[j0,mJ,fW,gx 7 o d,gx 7 b f,gx 7 a e,agS,agT]at c⊢;rw[c];rfl
def TS{o c a b:List V}(e:fu 0 o=true)(h:fu 0 c=true)(f:fu 0 a=true)(i:fu 0 b=true)(d:fW 8 (.loop O)=true):mJ 8 (j0 o c a O++.box b::v) 8=true:=by
 simp only[j0,agz,List.nil_append,mJ,fW,gx 8 o e,gx 8 c h,gx 8 a f,gx 8 b i,agS,agT]at d⊢;rw[d];rfl
def BH(n:Nat)(b a:List V)(c:ki):VS:=j0 [b5 n] b a c
def Qv(e d:List V)(i:ki)(Rx:fu 0 e=true)(Io:fu 0 d=true)(hL:fW 7 (.loop i)=true)(q:fW 8 (.loop i)=true) 
  (E:∀(n:Nat) (B j:List V) (K:cO->VS->Prop),n<4294967296->K (.ret (b6 true)) (BH (n+1) e d i++[.box B])->iA C ca 4 [.agg j] (BH n e d i++[.box B]) K) (n:Nat)
  (I:∀(t:Ty) (j:cH),ct t<=n->eZ t j->∀c,c+ct t<4294967296->b4 C ca ez [.agg (j.map V.d),.bp 5 0,.bp 6 0] (BH c e d i) fun Y f=>f=BH (c+ct t) e d i/\Y=.ret (b6 true))
  (t:Ty) (j:cH) (S:ct t<=n+1) (r:eZ t j) (c:Nat) (p:c+ct t<4294967296):
  b4 C ca ez [.agg (j.map V.d),.bp 5 0,.bp 6 0] (BH c e d i) fun Y f=>f=BH (c+ct t) e d i/\Y=.ret (b6 true):=by
 obtain⟨z,F,o,v,y,rfl⟩:=r.cZ;have D:=eO t;refine cm ?_;refine E c (qk z F o v y) _ _ om ?_;refine xM t _ r om (fun j P=>?_);rw[D];have s:cy (dD t)<=n:=om;have R:c+(cy (dD t)+1)<4294967296:=om;generalize dD t=a at P s R;have L:=dA a;cases P with
 |nil=>
  exact aag
 |ps g=>
  rename_i O M k l;have A:=g.len;refine cd.less (dB:=[(12,.d (.ps O M 5 k l)),(13,b5 a.length),(14,b5 0),(2,.bp 6 0)]) ⟨Z,int_eq (by rw[A]),Z,Z,tv⟩ ?_;refine cd.iter (fun h:Nat=>[(12,.d (.ps O M 5 k l)),(13,b5 a.length),(14,b5 h),(2,.bp 6 0)]) (fun h=>BH (c+1+cy (a.take h)) e d i++[.box (qk z F o v y)]) (fun h=>a.length-h) (fun h=>h<=a.length) ?_ 0 (agu _);intro h T;apply aZ<;>intro p
  ·have b:h<a.length:=ee p;obtain⟨j,G,m⟩:=g.get b;refine bZ Z ?_;obtain⟨H,u,x,J,f2,rfl⟩:=m.cZ;refine cc _ (by rw[ck];exact G) ?_;have Q:=dJ (agt b);have w:=qZ b;have N:=mE a (h+1);refine(I a[h] _ om m (c+1+cy (a.take h)) om).pre [.box (qk z F o v y),.box (qk H u x J f2)] (nP Z Rx Io hL) Z (fun Y f g=>?_);obtain⟨rfl,rfl⟩:=g;refine⟨Z,nP Z Rx Io hL,Z,?_⟩;refine⟨h+1,b,iK,.drop 8 ⟨Z,Z,int_eq (cp om),Z,tv⟩ Z Z ?_ Z Z Z ?_,Z,Z⟩
   ·exact TS Z Rx Io Z q
   ·rw[w,<-Nat.add_assoc];rfl
  ·have b:a.length<=h:=dq p;rw[agp b];refine cU.drop 7 ?_ ?_ ?_ ?_
   ·exact Z
   ·exact nP Z Rx Io hL
   ·exact Z
   refine cU.now Z ⟨?_,Z⟩;rw[show c+(cy a+1)=c+1+cy a from by omega];rfl
def TT(b a:List V)(e:ki)(j:fu 0 b=true)(k:fu 0 a=true)(o:fW 7 (.loop e)=true)(h:fW 8 (.loop e)=true) 
  (p:∀(c:Nat) (i f:List V) (s:cO->VS->Prop),c<4294967296->s (.ret (b6 true)) (BH (c+1) b a e++[.box i])->iA C ca 4 [.agg f] (BH c b a e++[.box i]) s):∀(c:Nat)
  (d:Ty) (f:cH),ct d<=c->eZ d f->∀m,m+ct d<4294967296->b4 C ca ez [.agg (f.map V.d),.bp 5 0,.bp 6 0] (BH m b a e) fun w l=>l=BH (m+ct d) b a e/\w=.ret (b6 true):=by
 intro c;induction c with
 |zero=>intro d f t;have:=gO d;omega
 |succ c q=>intro d f t n m r;exact Qv b a e j k o h p c q d f t n m r
def ML(t:Ty)(e:cH)(b:eZ t e)(h:ct t<4294967296):b4 C ca qL [.agg (e.map V.d)] [] fun j a=>a=[]/\j=.ret (b5 (ct t)):=by
 obtain⟨k,l,d,f,i,rfl⟩:=b.cZ;refine cm ?_;refine cj ?_;refine cj ?_;refine(TT (qk k l d f i) (qk k l d f i) _ Z Z ?_ ?_ (fun m o e p h c=>?_) _ t _ (agq _) b 0 om).mono (fun j a n=>?_)
 ·exact Z
 ·exact Z
 ·refine iA.intro ?_;rw[BH,b5,<-cp (a:=m) om]at c;exact c
 ·obtain⟨rfl,rfl⟩:=n;refine a8 0 ⟨Z,?_⟩;show cO.ret (b5 (0+ct t))=_;rw[agN]
def nF(t:Ty)(d:cH)(a:eZ t d)(c:ct t<4294967296)(b:g (.ret (b5 (ct t))) v):b4 C ca qL [.agg (d.map V.d)] v g:=by
 obtain⟨h,i,e,j,f,rfl⟩:=a.cZ;exact cC (ML t _ a c) Z Z b
def oJ(a:Nat):(!decide (agl a=agl a))=false:=by simp
def mV(a:Bool):(!decide (a=a))=false:=by simp
def kx(a:cq):(!decide (a=a))=false:=by simp
def zM(n:Nat)(I:∀(K:Ty) (F m:cH),ct K<=n->eZ K F->eZ K m->∀{v:VS} {g:cO->VS->Prop},g (.ret (b6 true)) v->b4 C ca dT [.agg (F.map V.d),.agg (m.map V.d)] v g) 
  (l:List Ty) (Q x:D) (X:cy l<=n) (aa:n<4294967295) (J:fA l Q) (j:fA l x) (s:g (.ret (b6 true)) v):b4 C ca gn [.d Q,.d x] v g:=by
 refine cj ?_;have O:=dA l;cases J with
 |nil=>
  cases j with
  |ps R c=>cases R;exact absurd rfl c
  |nil=>
   refine cd.loop ?_;exact s
 |ps R c=>
  cases j with
  |nil=>cases R;exact absurd rfl c
  |ps t N=>
   rename_i U S f b q P d a;have o:=R.len;have E:=t.len;have L:(!decide (agl b.length=agl a.length))=false:=by rw[o,E];exact oJ _
   refine a7 L ?_;refine cD (dB:=[(0,.d (.ps U S 5 f b)),(1,.d (.ps q P 5 d a)),(5,b5 0)]) ?_;refine cd.iter (fun i:Nat=>[(0,.d (.ps U S 5 f b)),(1,.d (.ps q P 5 d a)),(5,b5 i)]) (fun _=>v) (fun i=>l.length-i) (fun i=>i<=l.length) ?_ 0 (agu _);intro i ab;apply aZ<;>intro A
   ·have hi':i<l.length:=o▸ee A;obtain⟨F,G,h⟩:=R.get hi';obtain⟨m,p,e⟩:=t.get hi';have W:=dJ (agt hi');obtain⟨H,Y,w,M,f2,rfl⟩:=h.cZ;obtain⟨y,u,r,z,f3,rfl⟩:=e.cZ;have B:nth b i=some [.int .i64 (agl H),.str Y,.str w,M,f2]:=by rw[ck];exact G
    have k:nth a i=some [.int .i64 (agl y),.str u,.str r,z,f3]:=by rw[ck];exact p
    repeat first|refine bZ rfl ?_|refine cc _ B ?_|refine cc _ k ?_
    repeat refine cf ?_
    refine I l[i] _ _ om h e ?_;repeat refine cf ?_
    exact Gc
   ·have hi':l.length<=i:=o▸dq A;exact s
def Rg(n:Nat)(ih:∀(t:Ty) (R l:cH),ct t<=n->eZ t R->eZ t l->∀{g:VS} {T:cO->VS->Prop},T (.ret (b6 true)) g->b4 C ca dT [.agg (R.map V.d),.agg (l.map V.d)] g T) 
  (t:Ty) (R l:cH) (F:ct t<=n+1) (aq:n+1<4294967295) (z:eZ t R) (u:eZ t l):b4 C ca dT [.agg (R.map V.d),.agg (l.map V.d)] [] fun ai Y=>Y=[]/\ai=.ret (b6 true):=by
 cases z with
 |mk ha K=>
  rename_i W ae B args b a ay;cases u with
  |mk Vs q=>
   rename_i a' ap;have aa:cy args+qa b<=n:=by simp only[ct]at F;omega
   have X:=nE b;have af:b.length<=cy (ea b):=by have:=dA (ea b);rwa[show(ea b).length=b.length from by simp[ea]]at this
   refine cm ?_;repeat first|refine a7 (oJ _) ?_|refine a7 (kx _) ?_|refine a7 (mV _) ?_
   cases K with
   |nil=>
    cases q with
    |nil=>
     exact Vq
    |ps p=>
     cases p;exact Vq
   |ps O=>
    cases q with
    |nil=>
     cases O;exact Vq
    |ps p=>
     rename_i ao am P m G M w c;have x:=O.len;have J:=p.len;have Q:(!decide (agl m.length=agl c.length))=false:=by rw[x,J];exact oJ _
     repeat first|refine a7 (oJ _) ?_|refine a7 (kx _) ?_|refine a7 Q ?_
     refine cD (dB:=[(2,.bp 0 0),(3,.bp 1 0),(5,b5 0)]) ?_;refine cd.iter (fun i:Nat=>[(2,.bp 0 0),(3,.bp 1 0),(5,b5 i)]) (fun _=>[.box (qk W ae B a (.ps ao am 7 P m)),.box (qk W ae B a' (.ps G M 7 w c))]) (fun i=>b.length-i) (fun i=>i<=b.length) ?_ 0 (agu _);intro i ar;apply aZ<;>intro y
     ·have hi':i<b.length:=x▸ee y;obtain⟨U,N,h,j,s⟩:=O.get hi';obtain⟨ac,L,f,k,r⟩:=p.get hi';have e:nth m i=some (fe U):=by rw[ck];exact N
      have d:nth c i=some (fe ac):=by rw[ck];exact L
      have o:ct b[i].2.1<=cy (ea b):=dJ (List.mem_map_of_mem (agt hi'));generalize b[i]=aj at h j s f k r o;obtain⟨E,au,an,ad,ah,al,S⟩:=U;obtain⟨H,av,aw,ag,ax,ak,I⟩:=ac;obtain⟨v,D,A⟩:=aj;have h:v=E:=h;have f:v=H:=f;have j:A=S:=j;have k:A=I:=k;have o:ct D<=cy (ea b):=o;subst h f j k;repeat first|refine bZ rfl ?_|refine cc _ e ?_|refine cc _ d ?_|refine a7 (kx _) ?_|refine a7 (mV _) ?_
      repeat refine a6 (by repeat' (first|exact tv|exact rfl|refine bZ rfl ?_|refine bZ rfl ?_|refine cc _ e ?_|refine cc _ d ?_|refine a7 (kx _) ?_|refine a7 (mV _) ?_|refine agL ?_ ?_)) ?_
      repeat first|refine a7 (oJ _) ?_|refine a7 (kx _) ?_|refine a7 (mV _) ?_
      refine ih D _ _ om s r ?_;repeat refine a6 (by repeat' (first|exact tv|exact rfl|refine bZ rfl ?_|refine bZ rfl ?_|refine cc _ e ?_|refine cc _ d ?_|refine a7 (kx _) ?_|refine a7 (mV _) ?_|refine agL ?_ ?_)) ?_
      repeat first|refine a7 (oJ _) ?_|refine a7 (kx _) ?_|refine a7 (mV _) ?_
      repeat refine a6 (by repeat' (first|exact tv|exact rfl|refine bZ rfl ?_|refine bZ rfl ?_|refine cc _ e ?_|refine cc _ d ?_|refine a7 (kx _) ?_|refine a7 (mV _) ?_|refine agL ?_ ?_)) ?_
      repeat first|refine a7 (oJ _) ?_|refine a7 (kx _) ?_|refine a7 (mV _) ?_
      exact Gc
     ·have hi':b.length<=i:=x▸dq y;refine zM n ih args a a' om om ha Vs ?_;refine a8 0 ⟨Z,Z⟩
def ya:∀(f:Nat) (b:Ty) (d a:cH),f<4294967295->ct b<=f->eZ b d->eZ b a->∀{e:VS} {i:cO->VS->Prop},i (.ret (b6 true)) e->b4 C ca dT [.agg (d.map V.d),.agg (a.map V.d)] e i:=by
 intro f;induction f with
 |zero=>intro b d a _ q;have:=gO b;omega
 |succ f p=>
  intro b d a o q h c e i l;have k:=Rg f (fun b d a m j n=>p b d a om m j n) b d a q o h c;obtain⟨P,R,s,B,D,rfl⟩:=h.cZ;obtain⟨w,A,r,t,x,rfl⟩:=c.cZ;exact cC k Z Z l
structure lK where
 n:cq
 v:cq
 ty:Ty
 tV:Bool
inductive Ex where
 |mk (k:Nat) (m n x:cq) (num:Int) (types:List Ty) (labels:List lK) (kids:List Ex)
def Ms(l:lK)(a:cH):cH:=.str l.n:: .str l.v::(a++[.bool l.tV])
inductive qi:List lK->List cH->Prop
 |nil:qi [] []
 |cons {l:lK} {d:cH} {ls:List lK} {els:List cH} (h:eZ l.ty d) (hl:qi ls els):qi (l::ls) (Ms l d::els)
inductive eR:List lK->D->Prop
 |nil:eR [] .ci
 |ps {b o cap:Nat} {l:List lK} {els:List cH} (h:qi l els):eR l (.ps b o 8 cap els)
mutual
inductive je:Ex->cH->Prop
 |mk {k:Nat} {m n x:cq} {num:Int} {types:List Ty} {labels:List lK} {kids:List Ex} {ty lb kd:D} (ht:fA types ty) (hl:eR labels lb) (hk:fR kids kd):
   je (.mk k m n x num types labels kids) [.int .i64 (agl k),.str m,.str n,.str x,.int .i64 num,ty,lb,kd]
inductive fR:List Ex->D->Prop
 |nil:fR [] .ci
 |ps {b o cap:Nat} {l:List Ex} {els:List cH} (h:jt l els):fR l (.ps b o 8 cap els)
inductive jt:List Ex->List cH->Prop
 |nil:jt [] []
 |cons {e:Ex} {d:cH} {l:List Ex} {els:List cH} (h:je e d) (hl:jt l els):jt (e::l) (d::els)
end
variable{K:Ex} {G:cH}
def jt.snoc{l:List Ex}(e:jt l E)(a:je K G):jt (l++[K]) (E++[G]):=by
 induction l generalizing E with
 |nil=>cases e;exact .cons a .nil
 |cons f l b=>cases e with|cons d c=>exact .cons d (b c)
def jt.P9{l c:List Ex}{els b:List cH}(h:jt l els)(h':jt c b):jt (l++c) (els++b):=by
 exact abR
def jt.len{l:List Ex}{els:List cH}(h:jt l els):els.length=l.length:=by
 exact RZ
def qi.snoc{l:List lK}{e:lK}(f:qi l E)(a:eZ e.ty G):qi (l++[e]) (E++[Ms e G]):=by
 induction l generalizing E with
 |nil=>cases f;exact .cons a .nil
 |cons x l b=>cases f with|cons d c=>exact .cons d (b c)
def qi.len{l:List lK}{els:List cH}(h:qi l els):els.length=l.length:=by
 exact RZ
variable{J:D}
def eR.inv{l:List lK}(h:eR l J):(l=[]/\J=.ci)∨∃b d c a,J=.ps b d 8 c a/\qi l a:=by
 exact XM
def fR.inv{l:List Ex}(h:fR l J):(l=[]/\J=.ci)∨∃b d c a,J=.ps b d 8 c a/\jt l a:=by
 exact XM
def je.eight(h:je K G):∃i j f e a c d b,G=[.int .i64 (agl i),.str j,.str f,.str e,.int .i64 a,c,d,b]:=by
 cases h with|mk _ _ _=>exact⟨_,_,_,_,_,_,_,_,rfl⟩
structure eo where
 n:cq
 v:cq
 ty:Ty
 tV:Bool
 val:List Ex
def eo.FH(p:eo):lK:=⟨p.n,p.v,p.ty,p.tV⟩
inductive kI:List eo->List FE->Prop
 |nil:kI [] []
 |cons {p:eo} {x:FE} {l:List eo} {xs:List FE} (hn:p.n=x.n) (hv:p.v=x.v) (ho:p.tV=x.o) (ht:eZ p.ty x.ty) (hw:fR p.val x.w) (hl:kI l xs):kI (p::l) (x::xs)
def kI.snoc{l:List eo}{xs:List FE}{p:eo}{x:FE}(o:kI l xs)(n:p.n=x.n)(d:p.v=x.v)(c:p.tV=x.o)(k:eZ p.ty x.ty)(a:fR p.val x.w):kI (l++[p]) (xs++[x]):=by
 induction l generalizing xs with
 |nil=>cases o;exact .cons n d c k a .nil
 |cons q l e=>cases o with|cons i f m h j b=>exact .cons i f m h j (e b)
def kI.names{l:List eo}{xs:List FE}(d:kI l xs):xs.map FE.n=l.map eo.n:=by
 induction l generalizing xs with
 |nil=>cases d;rfl
 |cons j l b=>cases d with|cons c e i f h a=>simp[b a,c]
def kI.len{l:List eo}{xs:List FE}(a:kI l xs):xs.length=l.length:=by
 have:=congrArg List.length a.names;simpa using this
def kI.ins{l:List eo}{xs:List FE}{p:eo}(o:kI l xs)(b:p.n=S.n)(f:p.v=S.v)(e:p.tV=S.o)(k:eZ p.ty S.ty)(c:fR p.val S.w):kI (sN eo.n p l) (sN FE.n S xs):=by
 induction l generalizing xs with
 |nil=>cases o;exact .cons b f e k c .nil
 |cons q l n=>
  cases o with
  |cons a h m i j d=>
   simp only[sN];rw[b,a];split
   ·exact .cons a h m i j (n d)
   ·exact .cons b f e k c (.cons a h m i j d)
def kI.JR:∀{d:List eo} {a:List FE},kI d a->kI (cG eo.n d) (cG FE.n a):=by
 have e:∀(d:List eo) (a:List FE) (i:List eo) (h:List FE),kI d a->kI i h->kI (d.foldl (fun c q=>sN eo.n q c) i) (a.foldl (fun c q=>sN FE.n q c) h):=by
  intro d;induction d with
  |nil=>intro a i h f b;cases f;exact b
  |cons r d k=>
   intro a i h f b;cases f with
   |cons n l p m o j=>
    simp only[List.foldl_cons];exact k _ _ _ j (b.ins n l p m o)
 intro d a f;exact e d a [] [] f .nil
def kI.get{l:List eo}{xs:List FE}(o:kI l xs){i:Nat}(b:i<l.length):∃a,xs[i]?=some a/\l[i].n=a.n/\l[i].v=a.v/\l[i].tV=a.o/\eZ l[i].ty a.ty/\fR l[i].val a.w:=by
 induction l generalizing xs i with
 |nil=>simp at b
 |cons p l e=>
  cases o with
  |cons j f n h m c=>
   cases i with
   |zero=>exact⟨_,rfl,j,f,n,h,m⟩
   |succ i=>
    obtain⟨a,d,k⟩:=e c (i:=i) (by simpa using b);exact⟨a,by simpa using d,by simpa using k⟩
def kq(a:Nat)(n:cq)(types:List Ty)(kids:List Ex)(l:List eo):Ex:=.mk a [] n [] 0 types ((cG eo.n l).map eo.FH) (kids++(cG eo.n l).flatMap eo.val)
def kO(es:Nat):List cH->cN
 |[]=>.gone
 |e::b=>.row es ((e::b).map fun a=>a.map V.d)
def kV(b es:Nat):List cH->V
 |[]=>.d .ci
 |_::a=>.ms b es 0 (a.length+1) (a.length+1)
def gr(es:Nat)(l:List cH):fW 0 (kO es l)=true:=by
 cases l with
 |nil=>rfl
 |cons a b=>exact jv 0 es (a::b)
def Dk(a:Nat->Nat)(es:Nat)(l:List cH):hV a (kO es l)=kO es l:=fh a _ (gr es l)
def rB{c n a:Nat}(e:c<=4294967296)(d:n<=1)(b:a<=200):(c+n)*a<=fy/\c+n<=fy:=by
 unfold fy;constructor
 ·calc (c+n)*a<=4294967297*200:=Nat.mul_le_mul om b
   _<=_:=dc
 ·omega
def lk(n:Nat):Nat.ble (n+1+1) (n+1)=false:=by
 rw[<-Bool.not_eq_true,Nat.ble_eq];omega
def jx(d:Nat)(n:cq)(a:D)(b c:V):List V:=[b5 d,cn [],cn n,cn [],b5 0,.d a,b,c]
def jz:List V:=[b5 0,cn [],cn [],cn [],b5 0,.d .ci,.d .ci,.d .ci]
def jfz:Nat->Bool:=fun a=>agF a 23
def aaR{p:eo}(c:p.n=S.n)(b:p.v=S.v)(a:p.tV=S.o):Ms p.FH S.ty=[.str S.n,.str S.v,.int .i64 (agl S.k),.str S.m,.str S.nm,S.a,S.f,.bool S.o]:=by
 rw[Ms,eo.FH,c,b,a];rfl
def kAt:Bool->Nat
 |false=>1
 |true=>5
def kO1(f:Bool)(l:List cH):cN:=match f with
 |false=>kO 8 l
 |true=>.gone
def ZN(f:Bool)(l:List cH):cN:=match f with
 |false=>.gone
 |true=>kO 8 l
def nB(a:Nat->Nat)(b es:Nat)(l:List cH):gW a (kV b es l)=kV (a b) es l:=by cases l<;>rfl
def li(b es:Nat)(d:cH)(a:List cH)(c:cH):V.ms b es 0 (a.length+1+1) (a.length+1+1)=kV b es ((d::a)++[c]):=by simp[kV]
def r7(b:Nat->Nat)(a:List FE):some (cN.row 9 (dg true a))=some (hV b (.row 9 (dg true a))):=congrArg some (sM b 9 (a.map (zb true))).symm
def HB(a:Nat->Nat)(es:Nat)(l:List cH):some (kO es l)=some (hV a (kO es l)):=congrArg some (Dk a es l).symm
def jQ(b:Nat->Nat)(es:Nat)(d:cH)(c:List cH)(a:cH):some (cN.row es (agJ (c.length+1) (agK 0 (agw (fun a=>agw V.d a) (d::c)))++[a.map V.d]))=some (hV b (kO es ((d::c)++[a]))):=by
 rw[Dk,agQ,agp sm];simp[kO]
def lj(a:Nat->Nat)(es:Nat)(b:cH):some (cN.row es [b.map V.d])=some (hV a (kO es ([]++[b]))):=by
 rw[Dk];rfl
def gH(a es:Nat)(l:List cH):fW a (kO es l)=true:=lp a _ (gr es l)
def HC(a:Nat->Nat)(f:Bool)(l:List cH):some (kO1 f l)=some (hV a (kO1 f l)):=by
 cases f
 ·exact HB a 8 l
 ·rfl
def B3(a:Nat->Nat)(f:Bool)(l:List cH):some (ZN f l)=some (hV a (ZN f l)):=by
 cases f
 ·rfl
 ·exact HB a 8 l
def Dl(a:Nat)(f:Bool)(l:List cH):fW a (kO1 f l)=true:=by
 cases f
 ·exact gH a 8 l
 ·rfl
def Mx(a:Nat)(f:Bool)(l:List cH):fW a (ZN f l)=true:=by
 cases f
 ·rfl
 ·exact gH a 8 l
def HD(a:Nat->Nat)(b:cH):some (cN.row 8 [b.map V.d])=some (hV a (ZN true ([]++[b]))):=lj a 8 b
def Dm(b:Nat->Nat)(d:cH)(c:List cH)(a:cH):some (cN.row 8 (agJ (c.length+1) (agK 0 (agw (fun a=>agw V.d a) (d::c)))++[a.map V.d]))=some (hV b (ZN true ((d::c)++[a]))):=jQ b 8 d c a
def zc{a b:cN}(d:fW 2 a=true)(c:fW 2 b=true):mJ 2 (a::b::v) 2=true:=by
 show(fW 2 a&&(fW 2 b&&mJ 2 v 0))=true;rw[d,c,mJ];rfl
def qi.TD{l:List lK}(a:qi l []):eR l .ci:=by cases a;exact .nil
def qi.psD{l:List lK}{b o c:Nat}(d:qi l E)(a:T=E):eR l (.ps b o 8 c T):=a▸ .ps d
def jt.TD{l:List Ex}(a:jt l []):fR l .ci:=by cases a;exact .nil
def jt.psD{l:List Ex}{b o c:Nat}(d:jt l E)(a:T=E):fR l (.ps b o 8 c T):=a▸ .ps d
def zd{n:cq}{f b a c:V}(d:f=gW F a)(e:b=gW F c):some (cN.box (jx u n J f b))=some (hV F (.box (jx u n J a c))):=by
 subst d e;rfl
def ze{n:cq}{d b:V}(a:bd u d=true)(c:bd u b=true):fW u (.box (jx N n J d b))=true:=by
 simp only[fW,jx,fu,bd,b5,cn,a,c];rfl
def kZ(es:Nat)(l:List cH)(a:Nat.blt N u=true):bd u (kV N es l)=true:=by
 cases l with
 |nil=>rfl
 |cons c b=>exact a
def J0(K:Nat)(n:cq)(i:D){kids:List Ex}{l:List eo}{xs:List FE}{my:List cH}(j:jt kids my)(ac:kI l xs)(ao:(xs.map FE.n).Nodup)(aC:∀ad∈l,ad.val.length<=1)(x:kids.length<=1)(d:Nat)(aG:d=xs.length)(aU:d<4294967295) 
  (k:∀(h:Bool) (s:List FE) (b a:List cH),(h=false->a=my)->qi ((cG eo.n l).map eo.FH) b->jt (kids++(cG eo.n l).flatMap eo.val) a->a.length<=d+1->cU 2 (.ret (.agg (jx K n i (kV 4 8 b) (kV (kAt h) 8 a)))) [.row 9 (dg true s),kO1 h a,.box (jx K n i (kV 4 8 b) (kV (kAt h) 8 a)),.box (jx K n i (kV 4 8 b) (kV (kAt h) 8 a)),kO 8 b,ZN h a] g):
  b4 C ca jL [.agg (jx K n i (.d .ci) (.d .ci)),kV 1 8 my,.ms 0 9 0 d d] [.row 9 (dg true xs),kO 8 my] g:=by
 refine cv jfz (fun _=>Z) ?_;refine Di (dM:=[.ms 0 (ew true) 0 d d,pU true]) (P:=fun ap q=>q=dg true (cG FE.n xs)/\ap=.ret (.dS [])) ((Bd true xs ao d aG om).mono fun ap aO r=>?_) 0 Z (Bb xs) Z Z (fun ap q r=>?_)
 ·obtain⟨rfl,rfl⟩:=r;exact⟨_,Z,Z,Bb _,Z,Z⟩
 obtain⟨rfl,rfl⟩:=r;have W:=ac.JR;have ai:(cG eo.n l).length=l.length:=(dE l).length_eq;have aL:=ac.len;have I:∀ad∈cG eo.n l,ad.val.length<=1:=fun ad aF=>aC ad ((dE l).subset aF);generalize cG eo.n l=c at W ai I k;generalize cG FE.n xs=s at W⊢;obtain⟨w,J⟩:∃w,w=my:=⟨_,rfl⟩;have Y:∀(h:Bool) (b a:List cH),(h=false->a=w)->qi (c.map eo.FH) b->jt (kids++c.flatMap eo.val) a->a.length<=d+1->cU 2 (.ret (.agg (jx K n i (kV 4 8 b) (kV (kAt h) 8 a)))) [.row 9 (dg true s),kO1 h a,.box (jx K n i (kV 4 8 b) (kV (kAt h) 8 a)),.box (jx K n i (kV 4 8 b) (kV (kAt h) 8 a)),kO 8 b,ZN h a] g:=fun h b a aE ay ar aA=>k h s b a (fun r=>(aE r).trans J) ay ar aA;clear k;rcases my with _|⟨B,T⟩;all_goals
  refine cD (dB:=[(13,.ms 0 9 0 d d),(14,b5 d),(15,b5 0),(3,.bp 2 0),(6,.bp 3 0)]) ?_;refine cd.gone (cd.gone ?_);refine cd.iter (fun f:Nat×Bool×List cH×List cH=>[(13,.ms 0 9 0 d d),(14,b5 d),(15,b5 f.1),(3,.bp 2 0),(6,.bp 3 0)])
   (fun f=>[.row 9 (dg true s),kO1 f.2.1 f.2.2.2,.box (jx K n i (kV 4 8 f.2.2.1) (kV (kAt f.2.1) 8 f.2.2.2)),.box jz,kO 8 f.2.2.1,ZN f.2.1 f.2.2.2]) (fun f=>d-f.1)
   (fun f=>f.1<=d/\qi ((c.take f.1).map eo.FH) f.2.2.1/\jt (kids++(c.take f.1).flatMap eo.val) f.2.2.2/\(kids++(c.take f.1).flatMap eo.val).length<=f.1+1/\(f.2.1=false->f.2.2.2=w)) ?_ (0,false,[],_) ⟨agu _,.nil,by simpa using j,by simpa using x,fun _=>J.symm⟩
  rintro⟨e,h,b,my⟩ ⟨Q,E,M,G,F⟩;have aK:e<=d:=Q;have y:qi ((c.take e).map eo.FH) b:=E;have j:jt (kids++(c.take e).flatMap eo.val) my:=M;have x:(kids++(c.take e).flatMap eo.val).length<=e+1:=G;have L:h=false->my=w:=F;clear Q E M G F;have aI:=j.len;have H:my.length<=e+1:=om;have ae:b.length<=e:=by rw[y.len,agC,agG];omega
  apply aZ<;>intro ah
  ·have S:e<d:=ee ah;have P:e<c.length:=om;obtain⟨R,au,av,aB,aH,af,an⟩:=W.get P;have al:nth (dg true s) (0+e)=some ((pe R).map V.d):=by rw[agN];exact gY au
   have A:c.take (e+1)=c.take e++[c[e]]:=by rw[agy,agn P];rfl
   have aN:c[e].val.length<=1:=I _ (agt P);have O:=aaR av aB aH;have p:qi ((c.take (e+1)).map eo.FH) (b++[[.str R.n,.str R.v,.int .i64 (agl R.k),.str R.m,.str R.nm,R.a,R.f,.bool R.o]]):=by
    rw[A,agB,<-O];exact y.snoc af
   have o:kids++(c.take (e+1)).flatMap eo.val=(kids++(c.take e).flatMap eo.val)++c[e].val:=by
    rw[A,List.flatMap_append,agv];simp
   have m:(kids++(c.take (e+1)).flatMap eo.val).length<=e+1+1:=by rw[o,agk];omega
   have N:c[e].val=[]->jt (kids++(c.take (e+1)).flatMap eo.val) my:=fun r=>by rw[o,r,agr];exact j
   have ag:∀v,jt c[e].val [v]->jt (kids++(c.take (e+1)).flatMap eo.val) (my++[v]):=fun v r=>by rw[o];exact j.P9 r
   clear o j A;obtain⟨aP,aY,aQ,aJ,aW,aX,aR,aT,U⟩:=R;dsimp only at an p O;refine bZ Z ?_;refine a6 S ?_;refine cc _ al ?_;intro aS;have aj:(U=.ci/\c[e].val=[])∨(∃ab X aa,U=.ps ab X 8 aa []/\c[e].val=[])∨∃ab X aa v,U=.ps ab X 8 aa [v]/\jt c[e].val [v]:=by
    obtain⟨aw,z⟩|⟨ab,X,aa,q,z,ak⟩:=an.inv
    ·exact .inl ⟨z,aw⟩
    ·have:=ak.len;rcases q with _|⟨v,_|⟨aV,ap⟩⟩
     ·exact .inr (.inl ⟨ab,X,aa,z,ago this.symm⟩)
     ·exact .inr (.inr ⟨ab,X,aa,v,z,ak⟩)
     ·simp at this;omega
   rcases b with _|⟨u,am⟩;all_goals
    first
     |refine a6 rfl (a6 ⟨ags rfl,ags rfl⟩ (a7 rfl ?_))
     |refine a6 rfl (a6 ⟨rfl,rfl,by simp,agq _,rB (by simp at ae;omega) (agq _) (ags rfl)⟩ (a7 rfl (a7 (lk am.length) ?_)))
    rcases aj with⟨rfl,t⟩|⟨az,aD,ax,rfl,t⟩|⟨az,aD,ax,v,rfl,t⟩;all_goals
     cases h;all_goals
      rcases my with _|⟨B,T⟩;all_goals
       try refine a6 (rfl:8=_) ?_
       first
        |refine a6 ⟨ags rfl,ags rfl⟩ ?_
        |refine a6 ⟨rfl,rfl,by simp,agq _,rB (by simp only[agj]at H;omega) sm (ags rfl)⟩ ?_
       first
        |refine cg rfl ?_
        |refine a7 rfl ?_
       try refine a7 (lk T.length) ?_
       first
        |refine⟨(e+1,false,_,_),⟨by show e+1<=d;omega,p,N t,m,L⟩,iK,.pick 2 [0,1,2,3,7,5] ⟨rfl,rfl,int_eq (cp om),rfl,rfl,tv⟩ rfl rfl rfl rfl rfl dc ⟨r7 _ _,jv _ _ _,by first|exact HC _ _ _|exact rfl,Dl _ _ _,zd (by first|exact rfl|exact(li _ _ u _ _).trans (nB _ _ _ _).symm) (by first|exact rfl|exact(li _ _ B _ _).trans (nB _ _ _ _).symm),ze (kZ 8 _ rfl) (kZ 8 _ rfl),rfl,rfl,by first|exact lj _ _ _|exact jQ _ _ _ _ _,gH _ _ _,by first|exact B3 _ _ _|exact HD _ _|exact Dm _ _ _ _,Mx _ _ _,tv⟩,rfl,rfl⟩
        |refine⟨(e+1,true,_,_),⟨by show e+1<=d;omega,p,N t,m,fun r=>Bool.noConfusion (show true=false from r)⟩,iK,.pick 2 [0,1,2,3,7,5] ⟨rfl,rfl,int_eq (cp om),rfl,rfl,tv⟩ rfl rfl rfl rfl rfl dc ⟨r7 _ _,jv _ _ _,by first|exact HC _ _ _|exact rfl,Dl _ _ _,zd (by first|exact rfl|exact(li _ _ u _ _).trans (nB _ _ _ _).symm) (by first|exact rfl|exact(li _ _ B _ _).trans (nB _ _ _ _).symm),ze (kZ 8 _ rfl) (kZ 8 _ rfl),rfl,rfl,by first|exact lj _ _ _|exact jQ _ _ _ _ _,gH _ _ _,by first|exact B3 _ _ _|exact HD _ _|exact Dm _ _ _ _,Mx _ _ _,tv⟩,rfl,rfl⟩
        |refine⟨(e+1,true,_,_),⟨by show e+1<=d;omega,p,(ag _ t),m,fun r=>Bool.noConfusion (show true=false from r)⟩,iK,.pick 2 [0,1,2,3,7,8] ⟨rfl,rfl,int_eq (cp om),rfl,rfl,tv⟩ rfl rfl rfl rfl rfl dc ⟨r7 _ _,jv _ _ _,by first|exact HC _ _ _|exact rfl,Dl _ _ _,zd (by first|exact rfl|exact(li _ _ u _ _).trans (nB _ _ _ _).symm) (by first|exact rfl|exact(li _ _ B _ _).trans (nB _ _ _ _).symm),ze (kZ 8 _ rfl) (kZ 8 _ rfl),rfl,rfl,by first|exact lj _ _ _|exact jQ _ _ _ _ _,gH _ _ _,by first|exact B3 _ _ _|exact HD _ _|exact Dm _ _ _ _,Mx _ _ _,tv⟩,rfl,rfl⟩
  ·have S:d<=e:=dq ah;have aw:c.take e=c:=agp om;rw[aw]at y j x;rcases b with _|⟨u,am⟩;all_goals
    cases h;all_goals
     rcases my with _|⟨B,T⟩;all_goals
      exact Y _ _ _ L y j (agV H om)
def sQ(h:Nat)(n:cq)(d:D){types:List Ty}{kids:List Ex}{l:List eo}{xs:List FE}(t:fA types d)(c:jt kids E)(s:kI l xs)(m:(xs.map FE.n).Nodup)(B:∀q∈l,q.val.length<=1)(f:kids.length<=1)(a:Nat)(A:a=xs.length)(x:a<4294967295):
  b4 C ca jL [.agg (jx h n d (.d .ci) (.d .ci)),kV 1 8 E,.ms 0 9 0 a a] [.row 9 (dg true xs),kO 8 E] fun Y o=>∃q g,o=[q,g]/\fW 0 q=true/\fW 0 g=true/\cM Y=true/\∃u,je (kq h n types kids l) u/\Y=.ret (.agg (u.map V.d)):=by
 have P:kq h n types kids l=.mk h [] n [] 0 types ((cG eo.n l).map eo.FH) (kids++(cG eo.n l).flatMap eo.val):=rfl;rw[P];refine J0 h n d c s m B f a A x (fun y z e E v j c _=>?_);rcases e with _|⟨w,R⟩;all_goals
  cases y;all_goals
   rcases E with _|⟨i,p⟩;all_goals
    first
     |refine cU.freeze 4 (es:=8) (l:=w::R) rfl (gk _) (by repeat' (first|exact tv|exact fun b=>absurd (show(1:Nat)=4 from b) dc|exact fun b=>absurd (show(5:Nat)=4 from b) dc|exact fun _=>⟨rfl,by simp⟩|refine agL ?_ ?_)) (fun F=>?_)
     |skip
    first
     |refine cU.freeze 1 (es:=8) (l:=i::p) rfl (gk _) (by repeat' (first|exact tv|exact fun b=>absurd (show(1:Nat)=4 from b) dc|exact fun b=>absurd (show(5:Nat)=4 from b) dc|exact fun _=>⟨rfl,by simp⟩|refine agL ?_ ?_)) (fun r=>?_)
     |refine cU.freeze 5 (es:=8) (l:=i::p) rfl (gk _) (by repeat' (first|exact tv|exact fun b=>absurd (show(1:Nat)=4 from b) dc|exact fun b=>absurd (show(5:Nat)=4 from b) dc|exact fun _=>⟨rfl,by simp⟩|refine agL ?_ ?_)) (fun r=>?_)
     |skip
    refine cU.drop 2 Z (zc (jv _ _ _) (by first|rfl|exact Dl _ _ _)) Z (cU.now Z ⟨_,_,Z,jv _ _ _,by first|rfl|exact Dl _ _ _,Z,_,.mk t ?_ ?_,Z⟩)
    ·first|exact j.TD|exact j.psD sm
    ·first|exact c.TD|exact c.psD sm
def My(j:Nat)(n:cq)(e:D){l:List eo}{xs:List FE}(x:kI l xs)(o:(xs.map FE.n).Nodup)(R:∀w∈l,w.val.length<=1)(d:Nat)(P:d=xs.length)(B:d<4294967295):
  b4 C ca jL [.agg (jx j n e (.d .ci) (.d .ci)),.d .ci,.ms 0 9 0 d d] [.row 9 (dg true xs),.gone] fun g q=>∃w p a,q=[w,.gone,kO 8 a]/\fW 0 w=true/\eR ((cG eo.n l).map eo.FH) p/\jt ((cG eo.n l).flatMap eo.val) a/\a.length<=d+1/\g=.ret (.agg (jx j n e (.d p) (kV 2 8 a))):=by
 refine J0 (kids:=[]) (my:=[]) j n e .nil x o R (agu _) d P B (fun t s i a h m k f=>?_);have r:(t=false/\a=[])∨(t=true/\a=[])∨∃b c,t=true/\a=b::c:=by
  cases t
  ·exact .inl ⟨Z,h Z⟩
  ·rcases a with _|⟨b,c⟩
   ·exact .inr (.inl ⟨Z,Z⟩)
   ·exact .inr (.inr ⟨b,c,Z,Z⟩)
 clear h;rcases i with _|⟨A,Y⟩;all_goals
  rcases r with⟨rfl,rfl⟩|⟨rfl,rfl⟩|⟨b,c,rfl,rfl⟩;all_goals
   first
    |refine cU.freeze 4 (es:=8) (l:=A::Y) rfl (gk _) (by repeat' (first|exact tv|exact fun V=>absurd (show(1:Nat)=4 from V) dc|exact fun V=>absurd (show(5:Nat)=4 from V) dc|exact fun _=>⟨rfl,by simp⟩|refine agL ?_ ?_)) (fun v=>?_)
    |skip
   first
    |refine cU.pick [0,1,5] (fU:=[.row 9 (dg true s),.gone,kO 8 []]) (r0:=.ret (.agg (jx j n e (.d _) (kV 2 8 [])))) rfl rfl rfl dc ⟨r7 _ _,jv _ _ _,rfl,rfl,rfl,rfl,tv⟩ (cU.now rfl ⟨_,_,[],rfl,jv _ _ _,?_,k,f,rfl⟩)
    |refine cU.pick [0,1,5] (fU:=[.row 9 (dg true s),.gone,kO 8 (b::c)]) (r0:=.ret (.agg (jx j n e (.d _) (kV 2 8 (b::c))))) rfl rfl rfl dc ⟨r7 _ _,jv _ _ _,rfl,rfl,B3 _ true _,gH _ _ _,tv⟩ (cU.now rfl ⟨_,_,b::c,rfl,jv _ _ _,?_,k,f,rfl⟩)
   first|exact m.TD|exact m.psD sm
def Qf(c:Nat)(n:cq)(b:D):b4 C ca jL [.agg (jx c n b (.d .ci) (.d .ci)),.d .ci,.d .ci] [] fun d a=>a=[]/\d=.ret (.agg (jx c n b (.d .ci) (.d .ci))):=by
 refine cm ?_;refine cj ?_;refine cj ?_;refine cd.loop ?_;refine cj ?_;refine cd.loop ?_;refine cd.loop ?_;refine cd.loop ?_;refine a8 0 ⟨Z,Z⟩
def Ex.k:Ex->Nat|.mk a _ _ _ _ _ _ _=>a
def Ex.kids:Ex->List Ex|.mk _ _ _ _ _ _ _ kids=>kids
def k7:Ex->List Ty
 |.mk b _ _ _ _ types a _=>types++(if b=8 then a.map lK.ty else [])
mutual
def cP:Ex->Nat
 |.mk k _ _ _ _ types labels kids=>1+cy (types++(if k=8 then labels.map lK.ty else []))+cQ kids
def cQ:List Ex->Nat
 |[]=>0
 |e::l=>cP e+cQ l
end
mutual
def mG:Ex->Nat
 |.mk _ _ _ _ _ _ _ kids=>gu kids+1
def gu:List Ex->Nat
 |[]=>0
 |e::l=>max (mG e) (gu l)
end
def fJ(a:Ex):cP a=1+cy (k7 a)+cQ a.kids:=by cases a;rw[cP,k7,Ex.kids]
def Av(a:Ex):mG a=gu a.kids+1:=by cases a;rw[mG,Ex.kids]
def gP(a:Ex):0<cP a:=by rw[fJ];omega
def nH(a b:List Ex):cQ (a++b)=cQ a+cQ b:=by
 induction a with
 |nil=>simp[cQ]
 |cons d a c=>simp only[agz,cQ,c];omega
def Kk(a b:List Ex):gu (a++b)=max (gu a) (gu b):=by
 induction a with
 |nil=>simp[gu]
 |cons d a c=>simp only[agz,gu,c];omega
def ju(l:List Ex):l.length<=cQ l:=by
 induction l with
 |nil=>simp
 |cons b l a=>have:=gP b;simp only[agj,cQ];omega
def j7{l:List Ex}{t:Ex}(h:t∈l):cP t<=cQ l:=by
 induction l with
 |nil=>simp at h
 |cons b l a=>
  rcases agR.1 h with rfl|h
  ·simp only[cQ];omega
  ·have:=a h;simp only[cQ];omega
def Qz(n:Nat):∀a:Ex,cP a<=n->mG a<=cP a:=by
 induction n with
 |zero=>intro a f;have:=gP a;omega
 |succ n d=>
  intro a f;rw[fJ]at f⊢;rw[Av];have:∀b:List Ex,cQ b<=n->gu b<=cQ b:=by
   intro b;induction b with
   |nil=>intro _;simp[gu]
   |cons h b c=>
    intro e;simp only[cQ,gu]at e⊢;have:=d h om;have:=c om;omega
  have:=this _ (by omega:cQ a.kids<=n);omega
def DB(l:List Ex):gu l<=cQ l:=by
 induction l with
 |nil=>simp[gu]
 |cons b l a=>have:=Qz _ b (agq _);simp only[gu,cQ];omega
def zs{l:List Ex}(a:u<l.length):gu (l.take (u+1))=max (gu (l.take u)) (mG l[u]):=by
 rw[agy,agn a,Kk];simp[gu]
def tU{l:List Ex}(a:u<l.length):cQ (l.take (u+1))=cQ (l.take u)+cP l[u]:=by
 rw[agy,agn a,nH];simp[cQ]
def py(l:List Ex)(a:Nat):cQ (l.take a)<=cQ l:=by
 have b:=nH (l.take a) (l.drop a);rw[agW]at b;omega
def jt.get{l:List Ex}{els:List cH}(h:jt l els){i:Nat}(hi:i<l.length):∃d,els[i]?=some d/\je l[i] d:=by
 exact NH
def je.abh{f n e:cq}{a:Int}{d b:D}(c:je K [.int .i64 (agl u),.str f,.str n,.str e,.int .i64 a,J,d,b]):fR K.kids b/\K.k=u:=by
 cases c with|mk _ _ c=>exact⟨c,rfl⟩
def HK(n:Nat)(Y:∀(t:Ex) (h:cH),cP t<=n->je t h->∀{p:VS} {g:cO->VS->Prop},g (.ret (b5 (mG t))) p->b4 C ca lC [.agg (h.map V.d)] p g) 
  (t:Ex) (h:cH) (M:cP t<=n+1) (T:n<4294967295) (i:je t h):b4 C ca lC [.agg (h.map V.d)] [] fun K o=>o=[]/\K=.ret (b5 (mG t)):=by
 obtain⟨O,Q,r,x,k,B,P,N,rfl⟩:=i.eight;have E:=fJ t;refine cm ?_;rw[Av];have m:=i.abh.1;have j:cQ t.kids<=n:=om;generalize t.kids=a at m j;have u:=ju a;cases m with
 |nil=>
  refine cd.loop ?_;refine a8 0 ⟨Z,Z⟩
 |ps H=>
  rename_i w s c d;have l:=H.len;refine cd.less (dB:=[(3,b5 0),(7,.d (.ps w s 8 c d)),(8,b5 a.length),(9,b5 0)]) ⟨Z,Z,int_eq (by rw[l]),Z,tv⟩ ?_;refine cd.iter (fun e:Nat=>[(3,b5 (gu (a.take e))),(7,.d (.ps w s 8 c d)),(8,b5 a.length),(9,b5 e)]) (fun _=>[.box [b5 O,cn Q,cn r,cn x,.d (.int .i64 k),.d B,.d P,.d (.ps w s 8 c d)]]) (fun e=>a.length-e) (fun e=>e<=a.length) ?_ 0 (agu _);intro e S;apply aZ<;>intro q
  ·have b:e<a.length:=ee q;obtain⟨h,R,f⟩:=H.get b;refine bZ Z ?_;obtain⟨U,L,y,z,A,I,G,v,rfl⟩:=f.eight;refine cc _ (by rw[ck];exact R) ?_;have J:=j7 (agt b);refine Y a[e] _ om f ?_;refine⟨e+1,b,iK,.drop 1 ⟨int_eq ?_,Z,Z,int_eq (cp om),tv⟩ Z Z Z Z Z Z Z,Z,Z⟩;rw[zs b];exact Fe
  ·have b:a.length<=e:=dq q;rw[agp b];have F:=DB a;refine a8 0 ⟨Z,congrArg cO.ret (congrArg V.d (congrArg (D.int .i64) (cp om)))⟩
def Kl:∀(d:Nat) (a:Ex) (c:cH),d<4294967295->cP a<=d->je a c->∀{b:VS} {f:cO->VS->Prop},f (.ret (b5 (mG a))) b->b4 C ca lC [.agg (c.map V.d)] b f:=by
 intro d;induction d with
 |zero=>intro a c _ m;have:=gP a;omega
 |succ d k=>
  intro a c s m e b f i;obtain⟨t,w,n,p,l,q,r,o,rfl⟩:=e.eight;exact cC (HK d (fun a c j h=>k a c om j h) a _ m om e) Z Z i
def qi.get{l:List lK}{els:List cH}(h:qi l els){i:Nat}(hi:i<l.length):∃d,els[i]?=some (Ms l[i] d)/\eZ l[i].ty d:=by
 exact NH
def ky(f:Nat)(h n e:cq)(a:Int)(c d b:D):List V:=[b5 f,cn h,cn n,cn e,.d (.int .i64 a),.d c,.d d,.d b]
def Vl(l:List lK):List Ty:=l.map lK.ty
def T8{l:List lK}(a:u<l.length):Vl (l.take (u+1))=Vl (l.take u)++[l[u].ty]:=by
 unfold Vl;rw[agy,agn a,agB];rfl
def acY:Nat->Bool:=fun a=>agF a 22
def aed(c:List V)(a:List cH):VS:=[.box c,kO 5 a]
def QA(P:Nat)(aa n k:cq)(t:Int)(u J y:D)(types:List Ty)(a:List lK)(z:fA types u)(S:eR a J)(U:P=8->types=[])(ac:types.length+a.length<4294967296):
  b4 C ca sH [.agg (ky P aa n k t u J y)] [] fun m I=>I=[]/\cM m=true/\∃T,Ii (types++(if P=8 then Vl a else [])) T/\m=.ret (.d T):=by
 refine cv acY (fun _=>Z) ?_;refine cj ?_;by_cases l:P=8
 ·have h:decide (agl P=8)=true:=by rw[l];exact decide_eq_true rfl
  have:=U l;subst this;rw[if_pos l];have H:u=.ci:=by
   cases z with
   |nil=>rfl
   |ps O j=>cases O;exact absurd rfl j
  subst H;refine cg h ?_;cases S with
  |nil=>
   refine cd.loop ?_;refine a8 0 ⟨Z,Z,.ci,.nil,Z⟩
  |ps E=>
   rename_i g V d e;have F:=E.len;refine cd.gone ?_;refine cd.less (dB:=[(3,kV 1 5 []),(13,.d (.ps g V 8 d e)),(14,b5 a.length),(15,b5 0)]) ⟨Z,Z,int_eq (by rw[F]),Z,tv⟩ ?_;refine cd.iter (fun k:Nat×List cH=>[(3,kV 1 5 k.2),(13,.d (.ps g V 8 d e)),(14,b5 a.length),(15,b5 k.1)]) (fun ab=>aed (ky P aa n k t .ci (.ps g V 8 d e) y) ab.2) (fun k=>a.length-k.1)
    (fun k=>k.1<=a.length/\dz (Vl (a.take k.1)) k.2) ?_ (0,[]) ⟨agu _,by exact .nil⟩
   rintro⟨s,i⟩ ⟨K,b⟩;have K:s<=a.length:=K;have b:dz (Vl (a.take s)) i:=b;have A:=b.len;rw[Vl,agC,agG]at A;apply aZ<;>intro N
   ·have c:s<a.length:=ee N;obtain⟨T,W,x⟩:=E.get c;obtain⟨o,r,tn,p,q,rfl⟩:=x.cZ;have f:dz (Vl (a.take (s+1))) (i++[[.int .i64 (agl o),.str r,.str tn,p,q]]):=by rw[T8 c];exact b.snoc x
    refine bZ Z ?_;refine cc (Ms a[s] _) (by rw[ck];exact W) ?_;rcases i with _|⟨M,m⟩
    ·intro Q;refine a6 Z (a6 ⟨ags Z,ags Z⟩ ?_);refine⟨(s+1,_),⟨c,f⟩,iK,?_,Z,Z⟩;exact .pick 1 [0,3] ⟨Z,Z,Z,int_eq (cp om),tv⟩ Z Z Z Z Z dc ⟨Z,Z,lj _ 5 [.int .i64 (agl o),.str r,.str tn,p,q],gH _ _ _,tv⟩
    ·intro Q;have G:m.length+1<=4294967296:=by simp only[agj]at A;omega
     refine a6 Z (a6 ⟨Z,Z,by simp,agq _,xY G⟩ ?_);refine a7 Z (a7 (fG (m.length+1)) ?_);refine⟨(s+1,_),⟨c,f⟩,iK,?_,Z,Z⟩;exact .pick 1 [0,3] ⟨congrArg some (li 3 5 M m [.int .i64 (agl o),.str r,.str tn,p,q]),Z,Z,int_eq (cp om),tv⟩ Z Z Z Z Z dc ⟨Z,Z,jQ _ 5 M m [.int .i64 (agl o),.str r,.str tn,p,q],gH _ _ _,tv⟩
   ·have c:a.length<=s:=dq N;rw[agp c]at b;rcases i with _|⟨M,m⟩
    ·have Y:Vl a=[]:=ago b.len.symm;refine a8 0 ⟨Z,Z,.ci,by rw[Y];exact .nil,Z⟩
    ·exact jw 0 (m.length+1) Z Z b
 ·have h:decide (agl P=8)=false:=decide_eq_false fun M=>l (by simp only[agx]at M;omega);rw[if_neg l,agr];cases z with
  |nil=>
   refine a7 h ?_;refine a8 0 ⟨Z,Z,.ci,.nil,Z⟩
  |ps O j=>
   rename_i ae ad X w;cases w with
   |nil=>exact absurd rfl j
   |cons v R=>
    have L:=O.len;have B:R.length+1<4294967296:=by simp only[agj]at L;omega
    refine a6 Z (a6 ⟨Z,Z,agq _,agq _,vZ v R B⟩ ?_);refine a7 Z (a7 Z ?_);refine a7 h ?_;refine jw (els:=v::R) 1 _ sm ?_ (by simpa using O);exact Z
def Km(e:Ex)(c:cH)(k:je e c)(p:∀d j i h b types a kids,e=.mk d j i h b types a kids->d=8->types=[])(w:cy (k7 e)<4294967296)(f:∀d j i h b types a kids,e=.mk d j i h b types a kids->types.length+a.length<4294967296)(n:∀c,Ii (k7 e) c->g (.ret (.d c)) v):b4 C ca sH [.agg (c.map V.d)] v g:=by
 cases k with
 |mk l o t=>
  rename_i d j i h b types a kids q r m;exact b4.closed (P:=fun s=>∃c,Ii (types++(if d=8 then Vl a else [])) c/\s=.ret (.d c)) (QA d j i h b q r m types a l o (p _ _ _ _ _ _ _ _ Z) (f _ _ _ _ _ _ _ _ Z)) Z (fun s ⟨c,x,e⟩=>by rw[e];exact n c x)
def WI(a b:cq):C.ext fg ([D.str a,D.str b].map cz)=some (cz (.int .i64 (yw a b))):=by
 exact aeE
def zq(a b:cq)(c:g (.ret (.d (.int .i64 (yw a b)))) v):b4 C ca qS [cn a,cn b] v g:=by
 refine cj ?_;refine cj ?_;refine xE (.int .i64 (yw a b)) (WI a b) Z ?_;exact c
def R1{a b:cq}(c:cE a b=true):yw a b= -1:=by rw[yw,c]
def TU(d:(C.ff.get u).isSome=true)(f:D)(a:List oG)(n:ll a f)(x:a.length<4294967296) 
  (l:∀(e:FE) (k:Nat) (B:k<a.length),a[k].1=e.n->a[k].2.2=e.o->∀{v:VS} {g:cO->VS->Prop},g (.ret (b6 false)) v->b4 C ca u [fw e] v g) (h:g (.ret (.d (.int .i64 (-1)))) v):b4 C ca oB [.d f,.fn u [] []] v g:=by
 refine cj ?_;cases n with
 |nil=>
  refine cd.loop ?_;exact h
 |ps t=>
  rename_i s r b c;have j:=t.len;refine cd.less (dB:=[(0,.d (.ps s r 7 b c)),(1,.fn u [] []),(7,b5 a.length),(8,b5 0)]) ⟨Z,Z,int_eq (by rw[j]),Z,tv⟩ ?_;refine cd.iter (fun i:Nat=>[(0,.d (.ps s r 7 b c)),(1,.fn u [] []),(7,b5 a.length),(8,b5 i)]) (fun _=>v) (fun i=>a.length-i) (fun i=>i<=a.length) ?_ 0 (agu _);intro i A;apply aZ<;>intro q
  ·have hi':i<a.length:=ee q;obtain⟨e,o,p,m,w⟩:=t.get hi';refine bZ Z ?_;refine cc _ (by rw[ck];exact o) ?_;refine cg d ?_;refine l e i hi' p m ?_;exact Gc
  ·exact h
def gI(b:(C.ff.get u).isSome=true)(f:D)(a:List oG)(c:ll a f)(h:a.length<4294967296) 
  (j:∀(d:FE) (i:Nat) (k:i<a.length),a[i].1=d.n->a[i].2.2=d.o->∀{v:VS} {g:cO->VS->Prop},g (.ret (b6 false)) v->b4 C ca u [fw d] v g) (e:g (.ret (b6 false)) v):b4 C ca mL [.d f,.fn u [] []] v g:=by
 refine cj ?_;refine TU b f a c h j ?_;exact e
def Gf(a:FE)(b:g (.ret (b6 a.o)) v):b4 C ca yW [fw a] v g:=by
 refine cC (v:=b6 a.o) ?_ Z Z b;exact Fa
def K6(b:FE)(c:cK b.n=true)(d:g (.ret (b6 false)) v):b4 C ca wv [fw b] v g:=by
 refine cC (v:=b6 false) ?_ Z Z d;refine cm ?_;have a:b.n.length<4294967296:=by
  simp only[cK,agH,decide_eq_true_eq]at c;omega
 refine ic b.n a ?_;refine a8 0 ⟨Z,?_⟩;show cO.ret (b6 (!(cK b.n)))=_;rw[c];rfl
def Dx(a:FE)(b:g (.ret (cn a.n)) v):b4 C ca iQ [fw a] v g:=by
 refine cC (v:=cn a.n) ?_ Z Z b;exact Fa
def vz{a:Nat}(b:0<a)(c:a<9223372036854775807):IntKind.i64.wrap (agl a-1)=agl (a-1):=by
 exact XU
def iy(f:D)(a:List oG)(o:ll a f)(u:a.length<4294967296)(q:mw (·.1) a)(h:g (.ret (b5 0)) v):b4 C ca pc [.d f,.fn iQ [] []] v g:=by
 refine cj ?_;cases o with
 |nil=>
  refine cd.loop ?_;exact h
 |ps w=>
  rename_i P A d b;have j:=w.len;refine cD (dB:=[(0,.d (.ps P A 7 d b)),(1,.fn iQ [] []),(5,b5 1)]) ?_;refine cd.iter (fun i:Nat=>[(0,.d (.ps P A 7 d b)),(1,.fn iQ [] []),(5,b5 i)]) (fun _=>v) (fun i=>a.length-i) (fun i=>1<=i) ?_ 1 (agq _);intro i r;apply aZ<;>intro x
  ·have c:i<a.length:=j▸ee x;obtain⟨m,s,t,Y,V⟩:=w.get c;obtain⟨n,p,f1,f2,R⟩:=w.get (show i-1<a.length by omega);have Vo:cE n.n m.n=true:=by
    rw[<-t,<-f1];exact q.px (agn om) (agn c) om
   have l:=vz (a:=i) r om;have e:nth b i=some (fe m):=by rw[ck];exact s
   have k:nth b (i-1)=some (fe n):=by rw[ck];exact p
   repeat first
    |refine bZ l ?_
    |refine bZ rfl ?_
    |refine cc _ k ?_
    |refine cc _ e ?_
    |refine cf ?_
    |refine Dx n ?_
    |refine Dx m ?_
    |refine zq n.n m.n ?_
   exact Zk
  ·exact h
structure FlW (tV:Bool) (fields:List oG):Prop where
 name:∀x∈fields,cK x.1=true
 srt:mw (·.1) fields
 tV:tV=false->∀x∈fields,x.2.2=false
inductive ol:Ty->Prop
 |base {k:Nat} (h:k<=4):ol (.mk k [] [] [] [])
 |list {t:Ty}:ol (.mk 5 [] [] [t] [])
 |Rz {fields:List oG} (h:FlW false fields):ol (.mk 6 [] [] [] fields)
 |vrt {fields:List oG} (h:FlW false fields):ol (.mk 7 [] [] [] fields)
 |func {t:Ty} {fields:List oG} (h:FlW true fields):ol (.mk 8 [] [] [t] fields)
 |ref {m n:cq} {args:List Ty} (hm:m=[]∨cK m=true) (hn:dX n=true):ol (.mk 10 m n args [])
def ll.cS{f:D}(h:ll [] f):f=.ci∨∃b c a,f=.ps b c 7 a []:=by
 exact O2
def fA.cS(b:fA [] J):J=.ci:=by
 cases b with
 |nil=>rfl
 |ps b a=>cases b;exact absurd rfl a
def fA.nN{t:Ty}(a:fA [t] J):∃e f b d,J=.ps e f 5 b [d]:=by
 cases a with
 |ps a c=>cases a with|cons _ a=>cases a;exact⟨_,_,_,_,rfl⟩
def sV{f n:cq}{b:List Ty}{a:List oG}(c:ct (.mk u f n b a)<4294967296):a.length<4294967296/\b.length<4294967296:=by
 have e:=dA (dD (.mk u f n b a));rw[eO]at c;have d:(ea a).length=a.length:=by simp[ea]
 rw[dD,agk,d]at e;rw[dD]at c;omega
def HG(t:Ty)(n:cH)(b:eZ t n)(p:ol t)(i:ct t<4294967296):b4 C ca tu [.agg (n.map V.d)] [] fun w m=>m=[]/\w=.ret (b6 true):=by
 refine cm ?_;cases p with
 |base hk=>
  rename_i e;cases b with
  |mk a hf=>
   obtain rfl:=a.cS;rcases hf.cS with rfl|⟨s,r,f,rfl⟩
   ·have c:e=0∨e=1∨e=2∨e=3∨e=4:=om;rcases c with rfl|rfl|rfl|rfl|rfl
    ·exact Cl
    ·exact Cl
    ·exact Cl
    ·exact Cl
    ·exact Cl
   ·have c:e=0∨e=1∨e=2∨e=3∨e=4:=om;rcases c with rfl|rfl|rfl|rfl|rfl
    ·exact Ga
    ·exact Ga
    ·exact Ga
    ·exact Ga
    ·exact Ga
 |list=>
  cases b with
  |mk a hf=>
   obtain⟨s,r,f,n,rfl⟩:=a.nN;rcases hf.cS with rfl|⟨l,h,d,rfl⟩
   ·exact Cl
   ·exact Ga
 |Rz o=>
  cases b with
  |mk a hf=>
   obtain rfl:=a.cS;have ho:=o.tV rfl;have k:=(sV i).1;cases hf with
   |nil=>
    exact Cl
   |ps hf=>
    exact YR
 |vrt o=>
  cases b with
  |mk a hf=>
   obtain rfl:=a.cS;have ho:=o.tV rfl;have k:=(sV i).1;cases hf with
   |nil=>
    exact Cl
   |ps hf=>
    exact YR
 |func o=>
  cases b with
  |mk a hf=>
   obtain⟨s,r,f,n,rfl⟩:=a.nN;cases hf with
   |nil=>
    repeat refine ch ?_
    exact a8 0 ⟨Z,Z⟩
   |ps hf=>
    repeat refine ch ?_
    exact a8 0 ⟨Z,Z⟩
 |ref B A=>
  cases b with
  |mk a hf=>
   cases a with
   |nil=>
    rcases hf.cS with rfl|⟨l,h,d,rfl⟩
    ·exact Cl
    ·exact Ga
   |ps a q=>
    rcases hf.cS with rfl|⟨l,h,d,rfl⟩
    ·exact Cl
    ·exact Ga
def cV:Ty:=.mk 0 [] [] [] []
def ji{a:Type}(step:a->Nat->PR a)(e:Rd)(b:cq):Nat->a->Nat->PR a
 |0,_,_=>.bad 0 3
 |f+1,k,l=>match step k l with
  |.bad h i=>.bad h i
  |.ok c d=>if c5 (e.tok d) b then .ok c (d+1)else match cu e [[44]] d with
   |.bad h i=>.bad h i
   |.ok _ j=>ji step e b f c j
def gA{a:Type}(step:a->Nat->PR a)(c:Rd)(b:cq)(d:a)(p:Nat):PR a:=
 if c5 (c.tok p) b then .ok d (p+1)else ji step c b c.ts.length d p
def eJ(b:Rd)(a:List eo)(p:Nat):PR cq:=
 if(b.tok p).kind≠1 then .bad (b.tok p).off 3 else if(b.tok p).text∈a.map eo.n then .bad (b.tok p).off 5 else .ok (b.tok p).text (p+1)
def fj(a:Nat->PR Ex)(d:Rd)(c:cq)(p:Nat):PR Ex:=match cu d [c] p with
 |.bad e f=>.bad e f
 |.ok _ b=>a b
def lP(b:Nat->PR Ex)(c:Rd)(a:List eo)(p:Nat):PR (List eo):=match eJ c a p with
 |.bad h i=>.bad h i
 |.ok f d=>(fj b c [58] d).map fun e=>a++[⟨f,[],cV,false,[e]⟩]
def dh(a:Rd)(p:Nat):PR cq:=if(a.tok p).kind≠1 then .bad (a.tok p).off 3 else .ok (a.tok p).text (p+1)
def kJ(b:Nat->PR Ex)(c:Rd)(a:List eo)(p:Nat):PR (List eo):=match eJ c a p with
 |.bad d e=>.bad d e
 |.ok i f=>match dh c f with
  |.bad d e=>.bad d e
  |.ok j q1=>(fj b c [61,62] q1).map fun h=>a++[⟨i,j,cV,false,[h]⟩]
def jW(f:Nat->PR Ty)(d:Nat->PR Ex)(e:Rd)(a:List eo)(p:Nat):PR (List eo):=match eJ e a p with
 |.bad b c=>.bad b c
 |.ok h j=>match cu e [[58]] j with
  |.bad b c=>.bad b c
  |.ok _ q1=>match f q1 with
   |.bad b c=>.bad b c
   |.ok i q2=>if c5 (e.tok q2) [61]then(d (q2+1)).map fun k=>a++[⟨h,[],i,true,[k]⟩]else .ok (a++[⟨h,[],i,false,[]⟩]) q2
def oc(b:Nat->PR Ex)(a:List Ex)(p:Nat):PR (List Ex):=(b p).map fun c=>a++[c]
def jP(b:Nat->PR Ex)(c:Rd)(a:cq)(d:Nat)(kids:List Ex)(p:Nat):PR Ex:=(gA (lP b c) c a [] p).map (kq d [] [] kids)
def sT(a:Nat)(b:Rd)(p:Nat):PR Ex:=
 if(b.tok p).kind≠3 then .bad (b.tok p).off 3 else match Lib.parseUintB 64 (b.tok p).text with
  |.ok c=>if a<c then .bad (b.tok p).off 2 else .ok (.mk 0 [] [] [] (if a=9223372036854775808 then IntKind.i64.wrap (IntKind.u64.wrap (0-agl c))else IntKind.i64.wrap (agl c)) [] [] []) (p+1)
  |_=>.bad (b.tok p).off 2
def xj(t:Tok)(a:List cq):Option cq:=a.find? (c5 t)
def zf(next:Nat->PR Ex)(a:List cq)(h:Rd):Nat->Ex->Nat->PR Ex
 |0,_,_=>.bad 0 3
 |f+1,e,b=>match xj (h.tok b) a with
  |none=>.ok e b
  |some c=>match next (b+1)with
   |.bad c j=>.bad c j
   |.ok i d=>zf next a h f (.mk 16 [] c [] 0 [] [] [e,i]) d
def oH(next:Nat->PR Ex)(a:List cq)(b:Rd)(p:Nat):PR Ex:=match next p with
 |.bad e f=>.bad e f
 |.ok d c=>zf next a b b.ts.length d c
def iH(c:Nat->PR Ty)(a:Rd)(d:cq)(p:Nat):PR Ex:=
 match(if c5 (a.tok p) [58,58]then(dh a (p+1)).map fun i=>(4,d,i)else .ok (3,[],d) p:PR (Nat×cq×cq))with
 |.bad j k=>.bad j k
 |.ok (h,f,e) b=>if c5 (a.tok b) [91]then(jV c a b).map fun l=>.mk 4 f e [] 0 l [] []else .ok (.mk h f e [] 0 [] [] []) b
def gd(f:Nat->PR Ty)(d:Nat->PR Ex)(a:Rd)(p:Nat):PR Ex:=
 if(a.tok p).kind=3 then sT 9223372036854775807 a p
 else if(a.tok p).kind=4 then .ok (.mk 1 [] [] (a.tok p).text 0 [] [] []) (p+1)
 else if(a.tok p).kind=1 then iH f a (a.tok p).text (p+1)
 else if c5 (a.tok p) [116,114,117,101]then .ok (.mk 2 [] [] [] 1 [] [] []) (p+1)
 else if c5 (a.tok p) [102,97,108,115,101]then .ok (.mk 2 [] [] [] 0 [] [] []) (p+1)
 else if c5 (a.tok p) [123]then jP d a [125] 5 [] (p+1)
 else if c5 (a.tok p) [60]then match dh a (p+1)with
  |.bad b c=>.bad b c
  |.ok k e=>match fj d a [58] e with
   |.bad b c=>.bad b c
   |.ok h q1=>(cu a [[62]] q1).map fun _=>.mk 7 [] k [] 0 [] [] [h]
 else if c5 (a.tok p) [91]then match f (p+1)with
  |.bad b c=>.bad b c
  |.ok i e=>match cu a [[124]] e with
   |.bad b c=>.bad b c
   |.ok _ q1=>(gA (oc d) a [93] [] q1).map fun l=>.mk 14 [] [] [] 0 [i] [] l
 else if c5 (a.tok p) [40]then match d (p+1)with
  |.bad b c=>.bad b c
  |.ok h e=>match(if c5 (a.tok e) [58]then(f (e+1)).map fun i=>.mk 11 [] [] [] 0 [i] [] [h]else .ok h e:PR Ex)with
   |.bad b c=>.bad b c
   |.ok j q1=>(cu a [[41]] q1).map fun _=>j
 else .bad (a.tok p).off 3
def p8(a:Nat->PR Ex)(b:Rd):Nat->Ex->Nat->PR Ex
 |0,_,_=>.bad 0 3
 |f+1,d,c=>
  if c5 (b.tok c) [46]then match dh b (c+1)with
   |.bad e h=>.bad e h
   |.ok j q1=>p8 a b f (.mk 6 [] j [] 0 [] [] [d]) q1
  else if c5 (b.tok c) [40]then match jP a b [41] 9 [d] (c+1)with
   |.bad e h=>.bad e h
   |.ok i q1=>p8 a b f i q1
  else .ok d c
def od(c:Nat->PR Ty)(a:Nat->PR Ex)(b:Rd)(p:Nat):PR Ex:=match gd c a b p with
 |.bad f h=>.bad f h
 |.ok e d=>p8 a b b.ts.length e d
def op1(b:cq)(a:Ex):Ex:=.mk 16 [] b [] 0 [] [] [a]
def tP(c:Nat->PR Ty)(a:Nat->PR Ex)(b:Rd):Nat->Nat->PR Ex
 |0,_=>.bad 0 3
 |f+1,d=>
  if c5 (b.tok d) [108,101,110,103,116,104]then(tP c a b f (d+1)).map (op1 [108,101,110,103,116,104])
  else if c5 (b.tok d) [45]then sT 9223372036854775808 b (d+1)
  else od c a b d
def acI(c:Nat->PR Ty)(a:Nat->PR Ex)(b:Rd):Nat->PR Ex:=oH (tP c a b b.ts.length) [[42]] b
def wX(b:Nat->PR Ty)(a:Nat->PR Ex)(c:Rd):Nat->PR Ex:=oH (acI b a c) [[43],[45],[43,43]] c
def qj(b:Nat->PR Ty)(a:Nat->PR Ex)(c:Rd):Nat->Nat->PR Ex
 |0,_=>.bad 0 3
 |f+1,e=>
  if c5 (c.tok e) [110,111,116]then(qj b a c f (e+1)).map (op1 [110,111,116])
  else match wX b a c e with
   |.bad k l=>.bad k l
   |.ok h d=>match xj (c.tok d) [[61,61],[61,61,61],[60]]with
    |none=>.ok h d
    |some j=>(wX b a c (d+1)).map fun i=>.mk 16 [] j [] 0 [] [] [h,i]
def acJ(c:Nat->PR Ty)(a:Nat->PR Ex)(b:Rd):Nat->PR Ex:=oH (qj c a b b.ts.length) [[97,110,100]] b
def Wo(b:Nat->PR Ty)(a:Nat->PR Ex)(c:Rd):Nat->PR Ex:=oH (acJ b a c) [[111,114]] c
def xI(a:Nat->PR Ex)(b:Rd)(p:Nat):PR Ex:=match dh b p with
 |.bad c d=>.bad c d
 |.ok i f=>match fj a b [61] f with
  |.bad c d=>.bad c d
  |.ok h q1=>(fj a b [105,110] q1).map fun e=>.mk 10 [] i [] 0 [] [] [h,e]
def oT(e:Nat->PR Ty)(a:Nat->PR Ex)(d:Rd)(p:Nat):PR Ex:=match dO e d p with
 |.bad b c=>.bad b c
 |.ok k h=>match a h with
  |.bad b c=>.bad b c
  |.ok i q1=>match fj a d [116,104,101,110] q1 with
   |.bad b c=>.bad b c
   |.ok f q2=>(fj a d [101,108,115,101] q2).map fun j=>.mk 12 [] [] [] 0 [k] [] [i,f,j]
def mz(e:Nat->PR Ty)(a:Nat->PR Ex)(d:Rd)(p:Nat):PR Ex:=match dO e d p with
 |.bad b c=>.bad b c
 |.ok i f=>match a f with
  |.bad b c=>.bad b c
  |.ok h q1=>match cu d [[123]] q1 with
   |.bad b c=>.bad b c
   |.ok _ q2=>(gA (kJ a d) d [125] [] q2).map (kq 13 [] [i] [h])
def lQ(e:Nat->PR Ty)(c:Nat->PR Ex)(d:Rd)(p:Nat):PR Ex:=match dO e d p with
 |.bad a b=>.bad a b
 |.ok m i=>match dh d i with
  |.bad a b=>.bad a b
  |.ok k q1=>match cu d [[44]] q1 with
   |.bad a b=>.bad a b
   |.ok _ q2=>match dh d q2 with
    |.bad a b=>.bad a b
    |.ok n q3=>match fj c d [105,110] q3 with
     |.bad a b=>.bad a b
     |.ok j q4=>match fj c d [102,114,111,109] q4 with
      |.bad a b=>.bad a b
      |.ok h f=>(fj c d [61,62] f).map fun l=>.mk 15 [] k n 0 [m] [] [j,h,l]
def TF:Ex->Ex->Ex
 |.mk f h e d b types a kids,c=>.mk f h e d b types a (kids++[c])
def funcF(e:Nat->PR Ty)(a:Nat->PR Ex)(b:Rd)(p:Nat):PR Ex:=match cu b [[40]] p with
 |.bad c d=>.bad c d
 |.ok _ f=>match gA (jW e a b) b [41] [] f with
  |.bad c d=>.bad c d
  |.ok h q1=>(fj a b [61,62] q1).map (TF (kq 8 [] [] [] h))
def ET(c:Nat->PR Ty)(b:Nat->PR Ex)(a:Rd)(p:Nat):PR Ex:=
 if(a.tok p).kind=5/\(a.tok p).text=[108,101,116]then xI b a (p+1)
 else if(a.tok p).kind=5/\(a.tok p).text=[105,102]then oT c b a (p+1)
 else if(a.tok p).kind=5/\(a.tok p).text=[109,97,116,99,104]then mz c b a (p+1)
 else if(a.tok p).kind=5/\(a.tok p).text=[102,111,108,100]then lQ c b a (p+1)
 else if(a.tok p).kind=5/\(a.tok p).text=[102,110]then funcF c b a (p+1)
 else Wo c b a p
def Ih(a:Rd):Nat->Nat->PR Ex
 |0,_=>.bad 0 3
 |f+1,b=>ET (b8 a a.ts.length) (Ih a f) a b
structure mA (g:FuncId) (fn:Nat->PR Ex) (R:Rd) (lo:Nat):Prop where
 lt:∀p x q,lo<=p->p<R.ts.length->fn p=.ok x q->p<q/\q<R.ts.length
 call:∀p,lo<=p->p<R.ts.length->∀(i:Nat) (σ:VS) (K:cO->VS->Prop),nth σ i=some (dp R p)->(∀x d q,fn p=.ok x q->je x d->K (.ret (.agg (d.map V.d))) (σ.set i (dp R q)))->
  (∀off e q,fn p=.bad off e->K (.eH (dt off e)) (σ.set i (dp R q)))->b4 C ca g [.bp i 0] σ K
def Qg(h:Rd)(d:PR Ex)(f:cO)(b:List V):Prop:=match d with
 |.ok d c=>b=xa h c/\∃e,je d e/\f=.ret (.agg (e.map V.d))
 |.bad a i=>∃c,b=xa h c/\f=.eH (dt a i)
def K3(e:Rd)(d:PR Ex)(c:cO)(b:VS):Prop:=∃a,b=[.box a]/\cM c=true/\fu 0 a=true/\Qg e d c a
variable{L:FuncId}
def mA.of{fn:Nat->PR Ex}{lo:Nat}(b:∀a k q,lo<=a->a<z.ts.length->fn a=.ok k q->a<q/\q<z.ts.length)(h:∀a,lo<=a->a<z.ts.length->b4 C ca L [.bp 0 0] [dp z a] (K3 z (fn a))):mA L fn z lo:=by
 refine⟨b,fun a i f l m n c k1 k2=>?_⟩;refine b4.one (dM:=[.bp 0 0]) (P:=Qg z (fn a)) (h a i f) l c Z Z Z (fun o j h=>?_);unfold Qg at h;exact OV
def mA.up{fn:Nat->PR Ex}{lo a:Nat}(e:mA L fn z lo)(c:lo<=a):mA L fn z a:=
 ⟨fun d h f b=>e.lt d h f (agV c b),fun d b=>e.call d (agV c b)⟩
variable{Q:PR Ex}
def dQ(b:Q=.ok K u)(a:je K G):K3 z Q (.ret (.agg (G.map V.d))) [dp z u]:=by
 subst b;exact⟨_,Z,qW 0 G,Z,Z,G,a,Z⟩
def cJ{a:Nat}(b:Q=.bad u N):K3 z Q (.eH (dt u N)) [dp z a]:=by
 subst b;exact⟨_,Z,Z,Z,a,Z,Z⟩
abbrev lw(l:lK)(a:cH):V:=.agg ((Ms l a).map V.d)
variable{M:List V}
def QB(e:(C.ff.get u).isSome=true)(f:D)(a:List lK)(n:eR a f)(x:a.length<4294967296) 
  (l:∀(k:Nat) (R:k<a.length) (m:cH),eZ a[k].ty m->∀{g:cO->VS->Prop},g (.ret (b6 false)) v->b4 C ca u (lw a[k] m::M) v g) (h:g (.ret (.d (.int .i64 (-1)))) v):b4 C ca oC [.d f,.fn u [] M] v g:=by
 refine cj ?_;cases n with
 |nil=>
  refine cd.loop ?_;exact h
 |ps s=>
  rename_i r q b c;have j:=s.len;refine cd.less (dB:=[(0,.d (.ps r q 8 b c)),(1,.fn u [] M),(7,b5 a.length),(8,b5 0)]) ⟨Z,Z,int_eq (by rw[j]),Z,tv⟩ ?_;refine cd.iter (fun i:Nat=>[(0,.d (.ps r q 8 b c)),(1,.fn u [] M),(7,b5 a.length),(8,b5 i)]) (fun _=>v) (fun i=>a.length-i) (fun i=>i<=a.length) ?_ 0 (agu _);intro i B;apply aZ<;>intro p
  ·have hi':i<a.length:=ee p;obtain⟨m,o,d⟩:=s.get hi';obtain⟨t,P,tn,w,A,rfl⟩:=d.cZ;refine bZ Z ?_;refine cc _ (by rw[ck];exact o) ?_;refine cg e ?_;refine l i hi' _ d ?_;exact Gc
  ·exact h
def oZ(b:(C.ff.get u).isSome=true)(f:D)(a:List lK)(c:eR a f)(e:a.length<4294967296) 
  (i:∀(h:Nat) (k:h<a.length) (j:cH),eZ a[h].ty j->∀{g:cO->VS->Prop},g (.ret (b6 false)) v->b4 C ca u (lw a[h] j::M) v g) (d:g (.ret (b6 false)) v):b4 C ca dN [.d f,.fn u [] M] v g:=by
 refine cj ?_;refine QB b f a c e i ?_;exact d
def zt(l:lK)(a:eZ l.ty G)(b:g (.ret (cn l.n)) v):b4 C ca iR [lw l G] v g:=by
 obtain⟨d,c,tn,e,f,rfl⟩:=a.cZ;refine cC (v:=cn l.n) ?_ Z Z b;exact Fa
def DC(f:D)(a:List lK)(o:eR a f)(E:a.length<4294967296)(q:mw lK.n a)(l:g (.ret (b5 0)) v):b4 C ca pd [.d f,.fn iR [] []] v g:=by
 refine cj ?_;cases o with
 |nil=>
  refine cd.loop ?_;exact l
 |ps t=>
  rename_i Y x d j;have m:=t.len;refine cD (dB:=[(0,.d (.ps Y x 8 d j)),(1,.fn iR [] []),(5,b5 1)]) ?_;refine cd.iter (fun i:Nat=>[(0,.d (.ps Y x 8 d j)),(1,.fn iR [] []),(5,b5 i)]) (fun _=>v) (fun i=>a.length-i) (fun i=>1<=i) ?_ 1 (agq _);intro i r;apply aZ<;>intro w
  ·have c:i<a.length:=m▸ee w;obtain⟨I,s,k⟩:=t.get c;obtain⟨J,p,e⟩:=t.get (show i-1<a.length by omega);have Vo:cE (a[i-1]'om).n a[i].n=true:=q.px (agn om) (agn c) om;obtain⟨y,G,tn,z,F,rfl⟩:=k.cZ;obtain⟨B,A,u,V,P,rfl⟩:=e.cZ;have n:=vz (a:=i) r om;have b:=s;have h:=p;rw[<-ck]at b h;repeat first
    |refine bZ n ?_
    |refine bZ rfl ?_
    |refine cc _ h ?_
    |refine cc _ b ?_
    |refine cf ?_
    |refine zt _ e ?_
    |refine zt _ k ?_
    |refine zq _ _ ?_
   exact Zk
  ·exact l
def w9(f:eZ cV G):G=[.int .i64 0,.str [],.str [],.ci,.ci]∨∃c e d,G=[.int .i64 0,.str [],.str [],.ci,.ps c e 7 d []]:=by
 cases f with
 |mk b a=>
  obtain rfl:=b.cS;rcases a.cS with rfl|⟨c,e,d,rfl⟩
  ·exact .inl Z
  ·exact .inr ⟨c,e,d,Z⟩
def sX(b:eZ cV G)(a:g (.ret (b6 true)) v):b4 C ca jU [.agg (G.map V.d)] v g:=by
 rcases w9 b with rfl|⟨c,e,d,rfl⟩
 ·refine cC ?_ Z Z a;exact Fa
 ·refine cC ?_ Z Z a;exact Fa
def zu{t:Ty}(h:eZ t G)(f:∀b,g (.ret (b6 b)) v):b4 C ca jU [.agg (G.map V.d)] v g:=by
 cases h with
 |mk c a=>
  rename_i o l k e d m n;refine b4.closed (P:=fun i=>∃b,i=.ret (b6 b)) ?_ Z (fun i h=>by obtain⟨b,rfl⟩:=h;exact f b);refine cm ?_;cases c with
  |nil=>
   cases a with
   |nil=>
    exact RT
   |ps a=>
    exact RT
  |ps c j=>
   cases a with
   |nil=>
    exact RT
   |ps a=>
    exact RT
def exV(b n:Nat)(a kids:D):List V:=[b5 b,cn [],cn [],cn [],b5 n,.d a,.d .ci,.d kids]
structure PT (f:FuncId) (R:Rd) (p q k n:Nat) (P:D->D->Prop):Prop where
 call:∀(i:Nat) (σ:VS) (K:cO->VS->Prop),nth σ i=some (dp R p)->(∀ty kids,P ty kids->K (.ret (.agg (exV k n ty kids))) (σ.set i (dp R q)))->b4 C ca f [.bp i 0] σ K
def ExR(f:Rd)(c e n:Nat)(h:D->D->Prop)(d:cO)(b:List V):Prop:=b=xa f c/\∃a kids,h a kids/\d=.ret (.agg (exV e n a kids))
def PT.of{f:FuncId}{p k l n:Nat}{m:D->D->Prop}(i:b4 C ca f [.bp 0 0] [dp z p] fun h c=>∃a,c=[.box a]/\cM h=true/\fu 0 a=true/\ExR z k l n m h a):PT f z p k l n m:=
 ⟨fun o q r b e=>b4.one (dM:=[.bp 0 0]) i o b rfl rfl rfl fun h a i=>by
  obtain⟨rfl,j,kids,d,rfl⟩:=i;exact e j kids d⟩
def opsL:List cq:=[[46],[40],[42],[43],[45],[43,43],[61,61],[61,61,61],[60],[97,110,100],[111,114]]
def adR(t:Tok):Bool:=opsL.all fun a=> !c5 t a
def adt{t:Tok}(b:adR t=true)(a:H∈opsL):c5 t H=false:=by
 have:=List.all_eq_true.1 b H a;simpa using this
def TG(p:z.Wf)(k:u<z.ts.length)(a:List cq)(m:a.length<4294967296)(f:∀n∈a,c5 (z.tok u) n=false)(i b d:Nat)(h:nth v i=some (dp z u))(j:g (.ret (.d (.int .i64 (-1)))) v):
  b4 C ca kK [.d (.ps b 0 1 d (eW a)),.fn ko [.bp i 0] []] v g:=by
 refine cj ?_;refine cd.less (dB:=[(0,.d (.ps b 0 1 d (eW a))),(1,.fn ko [.bp i 0] []),(7,b5 a.length),(8,b5 0)]) ⟨Z,Z,int_eq (by simp[eW]),Z,tv⟩ ?_;refine cd.iter (fun e:Nat=>[(0,.d (.ps b 0 1 d (eW a))),(1,.fn ko [.bp i 0] []),(7,b5 a.length),(8,b5 e)]) (fun _=>v) (fun e=>a.length-e) (fun e=>e<=a.length) ?_ 0 (agu _);intro e o;apply aZ<;>intro l
 ·have c:e<a.length:=ee l;refine bZ Z ?_;refine cc [.str a[e]] (by rw[ck,eW,List.getElem?_map,agn c];rfl) ?_;refine qV z u (z.tok u) a[e] (b0 k) i h ?_;rw[f _ (agt c)];refine⟨e+1,c,iK,.eS,Z,Z⟩
 ·exact j
def Wp:Nat->Bool:=fun a=>agF a 6
def MO{f:FuncId}{dM a:List V}{o:cN}{r:cO->Prop}(p:b4 C ca f dM [o] fun c d=>d=[o]/\cM c=true/\r c)(i:Nat)(hσ:nth v i=some o)(hc:fW 0 o=true)(b:fu 1 dM=true)(l:a=hU (jT [i] v.length) dM)(e:∀c,r c->g c v):
  b4 C ca f a v g:=by
 refine p.frame [i] Z sm (fun j i' h=>?_) b l (fun n k h _=>?_)
 ·exact Za
 ·obtain⟨rfl,m,q⟩:=h;rw[mv _ _ m];simp only[agM,List.map_nil,fh _ _ hc,merge,agr];rw[u3 hσ];exact e n q
def fm(a:cq)(t:Int)(l:Bool)(b:Int):V:=.agg [cn a,.d (.int .i64 t),b6 l,.d (.int .i64 b)]
def T9:List rL:=[⟨b5 0,fm [98] 0 false 0,0⟩,⟨b5 1,fm [120] 0 false 0,1⟩,⟨b5 2,fm [98] 0 false 0,2⟩,⟨b5 3,fm [110] 0 false 0,3⟩,⟨b5 4,fm [109,110] (-1) false 0,4⟩,
 ⟨b5 5,fm [] 0 true 0,5⟩,⟨b5 6,fm [110] 0 false 1,6⟩,⟨b5 7,fm [110] 0 false 1,7⟩,⟨b5 8,fm [116,111] 0 true 1,8⟩,⟨b5 9,fm [] 0 true 1,9⟩,
 ⟨b5 10,fm [110] 0 false 2,10⟩,⟨b5 11,fm [] 1 false 1,11⟩,⟨b5 12,fm [] 1 false 3,12⟩,⟨b5 13,fm [118] 1 true 1,13⟩,⟨b5 14,fm [] 1 false (-1),14⟩,
 ⟨b5 15,fm [110,120] 1 false 3,15⟩,⟨b5 16,fm [110] 0 false (-1),16⟩]
def HL:cN:=.map T9 17
def lS(t:Ty)(e:cH)(a:eZ t e)(b:ol t)(d:ct t<4294967296)(c:g (.ret (b6 true)) v):b4 C ca tu [.agg (e.map V.d)] v g:=by
 obtain⟨i,j,f,k,h,rfl⟩:=a.cZ;exact cC (HG t _ a b d) Z Z c
def lZ(a:cK H=true):H.length<4294967296:=by
 simp only[cK,agH,decide_eq_true_eq]at a;omega
def oo(a:dX H=true):H.length<4294967296:=by
 simp only[dX,agH,decide_eq_true_eq]at a;omega
def jf(s:cq)(h:s=[]∨cK s=true)(b:g (.ret (b6 true)) v):b4 C ca BA [cn s] v g:=by
 refine cj ?_;rcases h with rfl|h
 ·exact b
 ·have a:s≠[]:=fun c=>by subst c;cases h
  refine a7 (decide_eq_false a) ?_;repeat refine a7 (decide_eq_false a) ?_
  refine ic s (lZ h) ?_;rw[h];repeat refine a7 (decide_eq_false a) ?_
  exact b
def si(b:Bool):Nat:=if b then 7 else 0
def Dy(t:Ty)(q:cH)(f:eZ t q)(l:ol t)(d:ct t<4294967296):b4 C ca qM [.agg (q.map V.d)] [] fun s p=>p=[]/\s=.ret (b5 (si (lm t))):=by
 refine cm ?_;have c:=l;cases l with
 |base hk=>
  rename_i n;cases f with
  |mk b hf=>
   refine lS _ _ (eZ.mk b hf) c d ?_;obtain rfl:=b.cS;have m:n=0∨n=1∨n=2∨n=3∨n=4:=om;rcases m with rfl|rfl|rfl|rfl|rfl
   ·exact Ip
   ·exact Ip
   ·exact Ip
   ·exact Ip
   ·exact Ip
 |list=>
  cases f with
  |mk b hf=>
   refine lS _ _ (eZ.mk b hf) c d ?_;obtain⟨w,A,o,q,rfl⟩:=b.nN;exact Ip
 |Rz h=>
  cases f with
  |mk b hf=>
   refine lS _ _ (eZ.mk b hf) c d ?_;obtain rfl:=b.cS;have k:=(sV d).1;cases hf with
   |nil=>
    exact RP
   |ps hf=>
    exact Sd
 |vrt h=>
  cases f with
  |mk b hf=>
   refine lS _ _ (eZ.mk b hf) c d ?_;obtain rfl:=b.cS;have k:=(sV d).1;cases hf with
   |nil=>
    exact RP
   |ps hf=>
    exact Sd
 |func h=>
  cases f with
  |mk b hf=>
   refine lS _ _ (eZ.mk b hf) c d ?_;obtain⟨w,A,o,q,rfl⟩:=b.nN;have k:=(sV d).1;cases hf with
   |nil=>
    exact RP
   |ps hf=>
    exact Sd
 |ref i e=>
  cases f with
  |mk b hf=>
   refine lS _ _ (eZ.mk b hf) c d ?_;cases b with
   |nil=>
    rcases hf.cS with rfl|⟨b2,o2,abJ,rfl⟩
    ·refine jf _ i ?_;refine ie _ (oo e) ?_;rw[e];exact RP
    ·refine jf _ i ?_;refine ie _ (oo e) ?_;rw[e];refine gI Z _ _ (ll.ps .nil) dc (fun x j hj=>absurd hj (agI _)) ?_;refine iy _ _ (ll.ps .nil) dc List.Pairwise.nil ?_;exact a8 0 ⟨Z,Z⟩
   |ps b r=>
    have hal:=b.len;rcases hf.cS with rfl|⟨b2,o2,abJ,rfl⟩
    ·apply aZ<;>intro hc
     ·exact abS
     ·have h8:=dq (a:=8) hc;rw[hal]at h8;repeat refine a7 hc ?_
      refine jf _ i ?_;refine ie _ (oo e) ?_;rw[e];refine gI Z _ _ ll.nil dc (fun x j hj=>absurd hj (agI _)) ?_;refine iy _ _ ll.nil dc List.Pairwise.nil ?_;exact a8 0 ⟨Z,by simp[lm,Nat.not_lt.2 h8,si];rfl⟩
    ·apply aZ<;>intro hc
     ·exact abS
     ·have h8:=dq (a:=8) hc;rw[hal]at h8;repeat refine a7 hc ?_
      refine jf _ i ?_;refine ie _ (oo e) ?_;rw[e];refine gI Z _ _ (ll.ps .nil) dc (fun x j hj=>absurd hj (agI _)) ?_;refine iy _ _ (ll.ps .nil) dc List.Pairwise.nil ?_;exact a8 0 ⟨Z,by simp[lm,Nat.not_lt.2 h8,si];rfl⟩
def EU(t:Ty)(e:cH)(a:eZ t e)(b:ol t)(d:ct t<4294967296)(c:g (.ret (b5 (si (lm t)))) v):b4 C ca qM [.agg (e.map V.d)] v g:=by
 obtain⟨i,j,f,k,h,rfl⟩:=a.cZ;exact cC (Dy t _ a b d) Z Z c
inductive ft:Ty->Prop
 |mk {t:Ty} (h:ol t) (hp:∀p∈dD t,ft p):ft t
def vd{l:List Ty}:oW l=false↔∀b∈l,ru b=false:=by
 induction l with
 |nil=>simp[oW]
 |cons c l a=>simp[oW,a]
def Dz{l:List Ty}{t:Ty}(c:t∈l)(a:ru t=true):oW l=true:=by
 cases b:oW l with
 |true=>rfl
 |false=>rw[vd.1 b t c]at a;cases a
def WJ(d c:List V)(h e:ki)(b:Bool)(f:cO)(a:VS):Prop:=match b with
 |true=>a=j0 [b5 7] d c e/\f=.ret (b6 false)
 |false=>a=j0 [b5 0] d c h/\f=.ret (b6 true)
def TV(c b:List V)(m o:ki)(Rx:fu 0 c=true)(Io:fu 0 b=true)(hL:fW 7 (.loop m)=true)(k:fW 7 (.loop o)=true)(E:∀h A,fu 0 h=true->fu 0 A=true->mJ 9 (j0 [b5 0] c b m++[.box h,.box A]) 9=true) 
  (L:∀(h:List V) (t:Ty) (i:cH) (J:cO->VS->Prop),eZ t i->ol t->ct t<4294967296->(lm t=false->J (.ret (b6 true)) (j0 [b5 0] c b m++[.box h,.box (i.map V.d)]))->(lm t=true->J (.ret (b6 false)) (j0 [b5 7] c b o++[.box h,.box (i.map V.d)]))->
   iA C ca 4 [.agg (i.map V.d)] (j0 [b5 0] c b m++[.box h]) J) (n:Nat)
  (O:∀(t:Ty) (i:cH),ct t<=n->eZ t i->ft t->b4 C ca ez [.agg (i.map V.d),.bp 5 0,.bp 6 0] (j0 [b5 0] c b m) (WJ c b m o (ru t)))
  (t:Ty) (i:cH) (u:ct t<=n+1) (ad:n+1<4294967296) (P:eZ t i) (R:ft t):
  b4 C ca ez [.agg (i.map V.d),.bp 5 0,.bp 6 0] (j0 [b5 0] c b m) (WJ c b m o (ru t)):=by
 obtain⟨F,G,j,g,v,rfl⟩:=P.cZ;have W:=eO t;cases R with
 |mk R w=>
 refine cm ?_;refine L (qk F G j g v) t _ _ P R om (fun e=>?_) (fun e=>?_)
 ·refine xM t _ P om (fun i H=>?_);rw[xK,e,Bool.false_or];have Y:cy (dD t)<=n:=om;generalize dD t=a at H Y w;have S:=dA a;cases H with
  |nil=>
   exact aag
  |ps q=>
   rename_i X T x B;have z:=q.len;refine cd.less (dB:=[(12,.d (.ps X T 5 x B)),(13,b5 a.length),(14,b5 0),(2,.bp 6 0)]) ⟨Z,int_eq (by rw[z]),Z,Z,tv⟩ ?_;refine cd.iter (fun f:Nat=>[(12,.d (.ps X T 5 x B)),(13,b5 a.length),(14,b5 f),(2,.bp 6 0)]) (fun f=>j0 [b5 0] c b m++[.box (qk F G j g v),.box (qk F G j g v)]) (fun f=>a.length-f) (fun f=>f<=a.length/\∀l (r:l<a.length),l<f->ru a[l]=false) ?_ 0 ⟨agu _,fun l _ q=>absurd q (agI _)⟩;rintro f ⟨ac,s⟩;apply aZ<;>intro I
   ·have d:f<a.length:=ee I;obtain⟨i,M,D⟩:=q.get d;refine bZ Z ?_;obtain⟨N,K,y,Q,f2,rfl⟩:=D.cZ;refine cc _ (by rw[ck];exact M) ?_;have ab:=dJ (agt d);refine(O a[f] _ om D (w _ (agt d))).pre [.box (qk F G j g v),.box (qk F G j g v),.box (qk N K y Q f2)] (nP Z Rx Io hL) Z (fun ae aa q=>?_);cases p:ru a[f]with
    |false=>
     rw[p]at q;obtain⟨rfl,rfl⟩:=q;refine⟨Z,nP Z Rx Io hL,Z,?_⟩;refine⟨f+1,⟨d,fun l r U=>?_⟩,iK,.drop 9 ⟨Z,Z,int_eq (cp om),Z,tv⟩ Z Z ?_ Z Z Z Z,Z,Z⟩
     ·rcases Nat.lt_or_ge l f with h1|h1
      ·exact s l r h1
      ·obtain rfl:l=f:=om;exact p
     ·exact E _ _ Z Z
    |true=>
     rw[p]at q;obtain⟨rfl,rfl⟩:=q;refine⟨Z,nP Z Rx Io k,Z,?_⟩;refine cU.drop 7 ?_ ?_ ?_ ?_
     ·exact Z
     ·exact nP Z Rx Io k
     ·exact Z
     refine cU.now Z ?_;rw[Dz (agt d) p];exact⟨Z,Z⟩
   ·have d:a.length<=f:=dq I;refine cU.drop 7 ?_ ?_ ?_ ?_
    ·exact Z
    ·exact nP Z Rx Io hL
    ·exact Z
    refine cU.now Z ?_;rw[vd.2 (fun t u=>by
     obtain⟨l,r,rfl⟩:=List.mem_iff_getElem.1 u;exact s l r om)]
    exact⟨Z,Z⟩
 ·refine cU.drop 7 ?_ ?_ ?_ ?_
  ·exact Z
  ·exact nP Z Rx Io k
  ·exact Z
  refine cU.now Z ?_;rw[xK,e,agP];exact⟨Z,Z⟩
def WK(b a:List V)(i f:ki)(l:fu 0 b=true)(m:fu 0 a=true)(s:fW 7 (.loop i)=true)(n:fW 7 (.loop f)=true)(k:∀d h,fu 0 d=true->fu 0 h=true->mJ 9 (j0 [b5 0] b a i++[.box d,.box h]) 9=true) 
  (w:∀(d:List V) (c:Ty) (e:cH) (p:cO->VS->Prop),eZ c e->ol c->ct c<4294967296->(lm c=false->p (.ret (b6 true)) (j0 [b5 0] b a i++[.box d,.box (e.map V.d)]))->(lm c=true->p (.ret (b6 false)) (j0 [b5 7] b a f++[.box d,.box (e.map V.d)]))->
   iA C ca 4 [.agg (e.map V.d)] (j0 [b5 0] b a i++[.box d]) p):∀(j:Nat) (c:Ty) (e:cH),j<4294967296->ct c<=j->eZ c e->ft c->b4 C ca ez [.agg (e.map V.d),.bp 5 0,.bp 6 0] (j0 [b5 0] b a i) (WJ b a i f (ru c)):=by
 intro j;induction j with
 |zero=>intro c e _ D;have:=gO c;omega
 |succ j B=>intro c e A D o t;exact TV b a i f l m s n k w j (fun c e r q x=>B c e om r q x) c e D A o t
def Oy(a:ki):ki:={a with state:=.done,pending:=some .ret}
def TW(b a:List V)(d:ki)(f:fu 0 b=true)(h:fu 0 a=true)(k:fW 7 (.loop d)=true)(i:fW 9 (.loop d)=true) 
  (p:∀(c:List V) (t:Ty) (e:cH) (o:cO->VS->Prop),eZ t e->ol t->ct t<4294967296->(lm t=false->o (.ret (b6 true)) (j0 [b5 0] b a d++[.box c,.box (e.map V.d)]))->(lm t=true->o (.ret (b6 false)) (j0 [b5 7] b a (Oy d)++[.box c,.box (e.map V.d)]))->
   iA C ca 4 [.agg (e.map V.d)] (j0 [b5 0] b a d++[.box c]) o) (n:Nat) (t:Ty) (e:cH) (r:n<4294967296) (q:ct t<=n) (l:eZ t e) (m:ft t):b4 C ca ez [.agg (e.map V.d),.bp 5 0,.bp 6 0] (j0 [b5 0] b a d) (WJ b a d (Oy d) (ru t)):=
 WK b a d (Oy d) f h k k (fun c j w s=>by
  simp only[j0,agz,List.nil_append,mJ,fW,gx 9 b f,gx 9 a h,gx 9 c w,gx 9 j s,agS,agT]at i⊢;rw[i];rfl) p n t e r q l m
def k6(t:Ty):Bool:=decide (4096<ct t)||decide (32<nD t)||ru t
def BI(t:Ty)(q:cH)(a:eZ t q)(k:ft t)(w:ct t<4294967295):b4 C ca pS [.agg (q.map V.d)] [] fun A h=>h=[]/\A=.ret (b5 (si (k6 t))):=by
 obtain⟨p,s,i,j,o,rfl⟩:=a.cZ;refine cm ?_;refine nF t _ a om ?_;apply aZ<;>intro c
 ·have f:=ee (a:=4096) c;repeat refine cg c ?_
  refine a8 0 ⟨Z,?_⟩;rw[k6,decide_eq_true f,agP,agP];rfl
 ·have f:=dq (a:=4096) c;repeat refine a7 c ?_
  refine MK _ t _ w (agq _) a ?_;repeat refine a7 c ?_
  apply aZ<;>intro d
  ·have e:=ee (a:=32) d;repeat refine cg d ?_
   refine a8 0 ⟨Z,?_⟩;rw[k6,decide_eq_true e,Bool.or_true,agP];rfl
  ·have e:=dq (a:=32) d;repeat refine a7 d ?_
   have l:k6 t=ru t:=by rw[k6,decide_eq_false om,decide_eq_false om];rfl
   rw[l];refine cj ?_;refine cj ?_;refine(TW (qk p s i j o) (qk p s i j o) _ Z Z ?_ ?_ (fun B t q D a k r n x=>?_) _ t _ om (agq _) a k).mono (fun A h m=>?_)
   ·exact Z
   ·exact Z
   ·obtain⟨p,s,i,j,o,rfl⟩:=a.cZ;refine iA.intro ?_;refine EU t _ a k r ?_;cases b:lm t with
    |false=>exact n b
    |true=>exact x b
   ·cases b:ru t with
    |false=>
     rw[b]at m;obtain⟨rfl,rfl⟩:=m;exact a8 0 ⟨Z,Z⟩
    |true=>
     rw[b]at m;obtain⟨rfl,rfl⟩:=m;exact a8 0 ⟨Z,Z⟩
def qb(t:Ty)(e:cH)(a:eZ t e)(b:ft t)(d:ct t<4294967295)(c:g (.ret (b5 (si (k6 t)))) v):b4 C ca pS [.agg (e.map V.d)] v g:=by
 obtain⟨i,j,f,k,h,rfl⟩:=a.cZ;exact cC (BI t _ a b d) Z Z c
end Go.Proofs.YtpejealjkmhkgaaGreatDoor
