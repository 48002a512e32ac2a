/- Part of the proof. -/
import Derived.Test.YtpejealjkmhkgaaGreatDoorKBk
set_option linter.all false
set_option maxHeartbeats 16000000
set_option maxRecDepth 100000
open List renaming getElem_mem->abK,take_of_length_le->abL,isPrefixOf->aet,cons_append->aeu,getElem?_eq_getElem->aev,length_append->aeO,take_add_one->aeP
open Int renaming ofNat->aeM,ofNat_eq_natCast->aeN
open Nat renaming le_add_right->aeQ,zero_le->aeR
open Option renaming toList_some->aeS
namespace Go.Proofs.YtpejealjkmhkgaaGreatDoor
open Go.AM Go.VM
theorem sZ(c:UInt8){σ:VS}{K:cO->VS->Prop}(hk:K (.ret (bX (k9 c))) σ):bV C ca uM [io c] σ K:=by
 exact YM
theorem vl(c:UInt8){σ:VS}{K:cO->VS->Prop}(hk:K (.ret (bX (iT c))) σ):bV C ca sG [io c] σ K:=by
 exact YJ
theorem s0(c:UInt8){σ:VS}{K:cO->VS->Prop}(hk:K (.ret (bX (isDigit c))) σ):bV C ca uL [io c] σ K:=by
 exact YL
theorem Kr(c:UInt8){σ:VS}{K:cO->VS->Prop}(hk:K (.ret (bX (isWord c))) σ):bV C ca wu [io c] σ K:=by
 refine cj ?_;refine sZ c ?_;apply aZ<;>intro h1
 ·exact aeL
 ·refine a7 h1 (vl c ?_);refine a7 h1 ?_;apply aZ<;>intro h2
  ·exact acr
  ·refine a7 h2 (s0 c ?_);exact YB
theorem zy(s:cq)(c:s.length<4294967296){σ:VS}{K:cO->VS->Prop}(hk:K (.ret (bX (s.all isWord))) σ):bV C ca uR [cn s] σ K:=by
 refine cj ?_;refine cD (dB:=[(3,bW 0),(0,cn s)]) ?_;refine cd.iter (fun i:Nat=>[(3,bW i),(0,cn s)]) (fun _=>σ) (fun i=>s.length-i) (fun i=>i<=s.length/\(s.take i).all isWord=true) ?_ 0 ⟨om,by simp⟩;rintro i ⟨d,hp⟩;apply aZ<;>intro h
 ·have h:i<s.length:=ee h;have hgi:s[i]?=some s[i]:=aev h;refine bZ Z (cc s[i] (by rw[ck];exact hgi) ?_);refine Kr s[i] ?_;apply aZ<;>intro h2
  ·exact acm
  ·refine⟨i+1,⟨om,?_⟩,om,.eS,Z,Z⟩;exact Zx
 ·have h:s.length<=i:=dq h;refine eL ?_ hk;rw[abL om]at hp;exact hp.symm
def kwL:List cq:=[[97,110,100],[97,110,121],[97,115],[98,111,111,108],[100,101,112,114,101,99,97,116,101,100],[101,108,115,101],[101,120,112,111,114,116],[102,97,108,115,101],[102,110],[102,111,108,100],[102,114,111,109],[105,102],[105,109,112,111,114,116],[105,110],[105,110,116],[108,101,110,103,116,104],[108,101,116],[108,105,115,116],[109,97,116,99,104],[109,111,100,117,108,101],[110,111,110,101],[110,111,116],[111,114],[116,101,120,116],[116,104,101,110],[116,114,117,101],[116,121,112,101],[117,115,101]]
def DE(l:List cq):List cH:=l.map fun b=>[.str b]
def aee:Nat->Bool:=fun b=>Nat.beq b 1
theorem BL{σ:VS}{K:cO->VS->Prop}(b:∀c,K (.ret (.d (.ps c 0 1 28 (DE kwL)))) σ):bV C ca rY [] σ K:=by
 refine bV.body aee (fun _=>Z) ?_;intro c;exact b c
theorem DF(l:List cq)(p:l.length<4294967296)(s:cq)(b f:Nat){σ:VS}{K:cO->VS->Prop}(h:K (.ret (bX (decide (s∈l)))) σ):bV C ca xG [.d (.ps b 0 1 f (DE l)),cn s] σ K:=by
 refine cj ?_;have j:(DE l).length=l.length:=by simp[DE]
 refine cD (dB:=[(5,bW 0),(0,.d (.ps b 0 1 f (DE l))),(1,cn s)]) ?_;refine cd.iter (fun c:Nat=>[(5,bW c),(0,.d (.ps b 0 1 f (DE l))),(1,cn s)]) (fun _=>σ) (fun c=>l.length-c) (fun c=>c<=l.length/\s ∉ l.take c) ?_ 0 ⟨om,by simp⟩;rintro c ⟨t,k⟩;apply aZ<;>intro n
 ·have n:c<l.length:=j▸ee n;have i:l[c]?=some l[c]:=aev n;refine bZ Z (cc [.str l[c]] (by rw[ck,DE,List.getElem?_map,i];rfl) ?_);apply aZ<;>intro d
  ·have d:l[c]=s:=of_decide_eq_true d;rw[decide_eq_true (d▸abK n)]at h;exact h
  ·have d:l[c]≠s:=of_decide_eq_false d;refine⟨c+1,⟨om,?_⟩,om,.eS,Z,Z⟩;rw[aeP,i];simp only[Option.toList,List.mem_append,List.mem_singleton,not_or];exact⟨k,fun r=>d r.symm⟩
 ·have n:l.length<=c:=j▸dq n;rw[abL n]at k;rw[decide_eq_false k]at h;exact h
def kwT:List cq->cq
 |[]=>[32]
 |w::b=>32::(w++kwT b)
theorem Az(c b:cq):pK c b=c.isPrefixOf b:=by
 induction c generalizing b with
 |nil=>cases b<;>rfl
 |cons f c h=>
  cases b with
  |nil=>rfl
  |cons d b=>
   simp only[pK,aet,h];rw[show(f==d)=Nat.beq f.toNat d.toNat from by rw[Bool.eq_iff_iff];simp only[beq_iff_eq,Nat.beq_eq];exact UInt8.toNat_inj.symm];cases Nat.beq f.toNat d.toNat<;>rfl
theorem Ug{s b c:cq}(h:32 ∉ s)(f:32 ∉ b):(s++[32]).isPrefixOf (b++32::c)=decide (s=b):=by
 induction s generalizing b with
 |nil=>
  cases b with
  |nil=>simp[aet]
  |cons i b=>
   simp only[List.nil_append,aeu,aet,Bool.and_true];have:i≠32:=fun d=>f (by simp[d]);simp[this.symm]
 |cons l s j=>
  cases b with
  |nil=>
   simp only[aeu,List.nil_append,aet];have:l≠32:=fun d=>h (by simp[d]);simp[this]
  |cons i b=>
   simp only[aeu,aet];rw[j (fun k=>h (by simp[k])) (fun k=>f (by simp[k]))];by_cases d:l=i
   ·subst d;simp
   ·simp[d]
theorem Uh{p d b:cq}(c:32 ∉ d)(h:∃f,p=32::f):hQ p (d++b)=hQ p b:=by
 induction d with
 |nil=>rfl
 |cons l d i=>
  obtain⟨f,rfl⟩:=h;have j:l≠32:=fun o=>c (by simp[o]);have k:pK (32::f) (l::(d++b))=false:=by
   rw[Az,aet];simp[j.symm]
  simp only[aeu,hQ,k];exact i (fun n=>c (by simp[n]))
theorem Ui(b:List cq):∃c,kwT b=32::c:=by
 cases b with
 |nil=>exact⟨_,rfl⟩
 |cons d b=>exact⟨_,rfl⟩
theorem QN(s:cq)(l:32 ∉ s):∀b:List cq,(∀c∈b,32 ∉ c)->hQ (32::(s++[32])) (kwT b)=decide (s∈b):=by
 intro b;induction b with
 |nil=>
  intro _;have k:pK (32::(s++[32])) [32]=false:=by
   rw[Az];cases s<;>simp[aet]
  simp only[kwT,hQ,k];simp
 |cons c b f=>
  intro d;obtain⟨o,j⟩:=Ui b;have h:pK (32::(s++[32])) (32::(c++kwT b))=decide (s=c):=by
   rw[Az,aet,j,Ug l (d c sm)];simp
  have f:=f (fun c n=>d c (by simp[n]));simp only[kwT,hQ,h];by_cases i:s=c
  ·simp[i]
  ·simp only[decide_eq_false i];rw[Uh (d c sm) ⟨_,rfl⟩,f];simp[i]
theorem Uj{s:cq}(c:s.all isWord=true):Tg s=decide (s∈kwL):=by
 have b:32 ∉ s:=fun f=>by
  have:=List.all_eq_true.1 c 32 f;revert this;decide
 have d:B1=kwT kwL:=rfl;unfold Tg;rw[d];exact QN s b kwL dc
theorem eU(s:cq)(d:s.length<4294967296){σ:VS}{K:cO->VS->Prop}(hk:K (.ret (bX (cK s))) σ):bV C ca tL [cn s] σ K:=by
 refine cj ?_;apply aZ<;>intro h1
 ·repeat refine cg h1 ?_
  cases s with
  |nil=>simp at h1
  |cons c r=>
   apply aZ<;>intro h2
   ·have Ie:(c::r).length<=32:=JA h2;refine cg h2 (bZ Z (cc c Z ?_));refine cg h2 (sZ c ?_);refine cg h2 ?_;apply aZ<;>intro h3
    ·refine cg h3 (zy (c::r) om ?_);refine cg h3 ?_;apply aZ<;>intro h4
     ·have b:(c::r).all isWord=true:=h4;refine BL (fun f=>?_);repeat refine cg h4 ?_
      refine DF kwL dc (c::r) f 28 ?_;rw[<-Uj b];repeat refine cg h4 ?_
      exact Zv
     ·exact acb
    ·exact acs
   ·exact Y0
 ·exact Zp
theorem fD(s:cq)(b:s.length<4294967296){σ:VS}{K:cO->VS->Prop}(hk:K (.ret (bX (dX s))) σ):bV C ca tM [cn s] σ K:=by
 refine cj ?_;apply aZ<;>intro h1
 ·repeat refine cg h1 ?_
  cases s with
  |nil=>simp at h1
  |cons c r=>
   apply aZ<;>intro h2
   ·have Ie:(c::r).length<=32:=JA h2;refine cg h2 (bZ Z (cc c Z ?_));refine cg h2 (vl c ?_);refine cg h2 ?_;apply aZ<;>intro h3
    ·refine cg h3 (zy (c::r) om ?_);exact ab0
    ·exact aco
   ·exact Y1
 ·exact Zp
theorem QO(p:UInt8->Bool)(l:cq):(l.take (et p l)).all p=true:=by
 unfold et;have c:l=l.takeWhile p++l.dropWhile p:=List.takeWhile_append_dropWhile.symm;have b:l.take (l.takeWhile p).length=l.takeWhile p:=by
  conv=>lhs;rw[c]
  conv=>lhs;arg 1;rw[<-c]
  rw[List.take_left'];rfl
 rw[b];exact List.all_takeWhile
theorem eb{R R':Rd}(b:R.ts=R'.ts)(p:Nat):R.tok p=R'.tok p:=by unfold Rd.tok;rw[b]
variable{A z:Rd}
theorem jc(f:z.ts=A.ts):∀(b:List cq) (c:Nat),cu z b c=cu A b c:=by
 intro b;induction b with
 |nil=>intro c;rfl
 |cons h b d=>intro c;rw[cu,cu,eb f,d]
theorem Ks(i:z.ts=A.ts)(c:Nat->PR Ty):∀(d:Nat) (b:List Ty) (f:Nat),ey c z d b f=ey c A d b f:=by
 intro d;induction d with
 |zero=>intro b f;rfl
 |succ d h=>
  intro b f;rw[ey,ey];cases c f with
  |bad n j=>rfl
  |ok l k=>dsimp only;rw[eb i,h,jc i]
theorem Kt(c:z.ts=A.ts)(b:Nat->PR Ty)(p:Nat):jV b z p=jV b A p:=by
 rw[jV,jV,eb c,Ks c,c]
theorem Bh(c:z.ts=A.ts)(b:Nat->PR Ty)(p:Nat):dO b z p=dO b A p:=by
 rw[dO,dO,jc c];cases cu A [[91]] p with
 |bad f h=>rfl
 |ok i d=>
  dsimp only;cases b d with
  |bad f h=>rfl
  |ok j q1=>dsimp only;rw[jc c]
theorem EX(k:z.ts=A.ts)(i:Nat->PR Ty)(c h:cq)(d:Bool):∀(j:Nat) (b:List oG) (f:Nat),db i z c h d j b f=db i A c h d j b f:=by
 intro j;induction j with
 |zero=>intro b f;rfl
 |succ j l=>
  intro b f;rw[db,db,eb k,eb k (f+1),jc k];split
  ·rfl
  ·split
   ·rfl
   ·cases cu A [[58]] (if(d&&c5 (A.tok (f+1)) [63])=true then f+1+1 else f+1)with
    |bad o n=>rfl
    |ok p q2=>
     dsimp only;cases i q2 with
     |bad o n=>rfl
     |ok r q1=>
      dsimp only;rw[eb k,jc k];split
      ·rfl
      ·cases cu A [c] q1 with
       |bad o n=>rfl
       |ok p q3=>exact l _ _
theorem MZ(h:z.ts=A.ts)(f:Nat->PR Ty)(b d:cq)(c:Bool)(p:Nat):eY f z b d c p=eY f A b d c p:=by
 rw[eY,eY,eb h,EX h,h]
theorem WS(i:z.ts=A.ts)(b:Nat->PR Ty)(f:Nat)(d:cq)(h r:Nat):hO b z f d h r=hO b A f d h r:=by
 have k:∀c,dO b z c=dO b A c:=Bh i b;have o:∀w c,cu z w c=cu A w c:=jc i;have l:∀t s p c,eY b z t s p c=eY b A t s p c:=MZ i b;have n:∀c,jV b z c=jV b A c:=Kt i b;have j:∀c,z.tok c=A.tok c:=eb i;unfold hO;simp only[k,o,l,n,j]
theorem HM{R R':Rd}(d:R.ts=R'.ts):∀(b:Nat),dl R b=dl R' b:=by
 intro b;induction b with
 |zero=>rfl
 |succ b c=>
  funext f;rw[dl,dl,c,eb d,WS d]
def PR.E{c:Type}(f:PR c):Prop:=∀b d,f=.bad b d->d≠0
theorem PR.E.ok{b:Type}{h:b}{d:Nat}:(PR.ok h d).E:=fun c i f=>by cases f
theorem PR.E.bad{d:Type}{b f:Nat}(h:f≠0):(PR.bad b f:PR d).E:=fun _ _ c=>by cases c;exact h
variable{y:Nat}
theorem PR.E.get{b:Type}{c:Nat}(d:(PR.bad y c:PR b).E):c≠0:=d y c rfl
theorem PR.E.map{b c:Type}{f:b->c}{d:PR b}(h:d.E):(d.map f).E:=by
 cases d with
 |ok j i=>exact .ok
 |bad k l=>exact .bad h.get
theorem iv(f:Rd):∀(b:List cq) (d:Nat),(cu f b d).E:=by
 intro b;induction b with
 |nil=>intro d;exact .ok
 |cons h b c=>
  intro d;rw[cu];split
  ·exact c _
  ·exact .bad dc
variable{g:Nat->PR Ty}
theorem M0(k:∀c,(g c).E)(l:Rd):∀(h:Nat) (b:List Ty) (c:Nat),(ey g l h b c).E:=by
 intro h;induction h with
 |zero=>intro b c;exact .bad dc
 |succ h i=>
  intro b c;rw[ey];have f:=k c;cases n:g c with
  |bad r p=>rw[n]at f;exact .bad f.get
  |ok w o=>
   dsimp only;split
   ·exact i _ _
   ·have d:=iv l [[93]] o;cases j:cu l [[93]] o with
    |ok t s=>exact .ok
    |bad r p=>rw[j]at d;exact .bad d.get
theorem HN(b:∀p,(g p).E)(c:Rd)(p:Nat):(jV g c p).E:=by
 rw[jV];split
 ·exact M0 b c _ _ _
 ·exact .ok
theorem s3(i:∀p,(g p).E)(f:Rd)(p:Nat):(dO g f p).E:=by
 rw[dO];have c:=iv f [[91]] p;cases j:cu f [[91]] p with
 |bad n o=>rw[j]at c;exact .bad c.get
 |ok r l=>
  dsimp only;have b:=i l;cases h:g l with
  |bad n o=>rw[h]at b;exact .bad b.get
  |ok s q1=>
   dsimp only;have d:=iv f [[93]] q1;cases k:cu f [[93]] q1 with
   |bad n o=>rw[k]at d;exact .bad d.get
   |ok r q2=>exact .ok
theorem HO(p:∀C,(g C).E)(f:Rd)(b k:cq)(d:Bool):∀(o:Nat) (c:List oG) (h:Nat),(db g f b k d o c h).E:=by
 intro o;induction o with
 |zero=>intro c h;exact .bad dc
 |succ o w=>
  intro c h;rw[db];split
  ·exact .bad dc
  ·split
   ·exact .bad dc
   ·generalize (if(d&&c5 (f.tok (h+1)) [63])=true then h+1+1 else h+1)=i;have l:=iv f [[58]] i;cases t:cu f [[58]] i with
    |bad x B=>rw[t]at l;exact .bad l.get
    |ok D q2=>
     dsimp only;have j:=p q2;cases s:g q2 with
     |bad x B=>rw[s]at j;exact .bad j.get
     |ok E q1=>
      dsimp only;split
      ·exact .ok
      ·have n:=iv f [b] q1;cases r:cu f [b] q1 with
       |bad x B=>rw[r]at n;exact .bad n.get
       |ok D q3=>exact w _ _
theorem AA(f:∀p,(g p).E)(h:Rd)(b d:cq)(c:Bool)(p:Nat):(eY g h b d c p).E:=by
 rw[eY];split
 ·exact .ok
 ·exact(HO f h b d c _ _ _).map
theorem abi(b:∀s,(g s).E)(c:Rd)(l:Nat)(j:cq)(f i:Nat):(hO g c l j f i).E:=by
 have k:(PR.bad f 3:PR Ty).E:=.bad dc;unfold hO;split
 ·split
  ·exact .ok
  ·split
   ·exact(s3 b c i).map
   ·split
    ·have d:=iv c [[40]] i;cases h:cu c [[40]] i with
     |bad p r=>rw[h]at d;exact .bad d.get
     |ok t q1=>
      dsimp only;have n:=AA b c [44] [41] true q1;cases o:eY g c [44] [41] true q1 with
      |bad p r=>rw[o]at n;exact .bad n.get
      |ok w q2=>exact(b q2).map
    ·exact k
 ·split
  ·split
   ·exact(AA b c _ _ _ _).map
   ·split
    ·exact(AA b c _ _ _ _).map
    ·exact k
  ·split
   ·exact(HN b c i).map
   ·split
    ·have d:=iv c [[58,58]] i;cases h:cu c [[58,58]] i with
     |bad p r=>rw[h]at d;exact .bad d.get
     |ok t q1=>
      dsimp only;split
      ·exact .bad dc
      ·exact(HN b c _).map
    ·exact k
theorem HP(f:Rd):∀(b c:Nat),(dl f b c).E:=by
 intro b;induction b with
 |zero=>intro c;exact .bad dc
 |succ b d=>intro c;rw[dl];exact abi d f _ _ _ _
def w6:Ty:=.mk 0 [] [] [] []
theorem WT:eZ w6 [.int .i64 (aeM 0),.str [],.str [],.ci,.ci]:=.mk .nil .nil
def kR(s:cq):Ty×Nat×Nat:=match jl s with
 |.err b d=>(w6,b,d)
 |.ok c=>match dl ⟨0,0,c⟩ c.length 0 with
  |.bad b d=>(w6,b,d)
  |.ok h f=>if(Rd.tok ⟨0,0,c⟩ f).kind≠0 then(w6,(Rd.tok ⟨0,0,c⟩ f).off,3)else if k6 h=true then(w6,0,7)else(h,0,0)
section
variable{γ δ:Type} (step:γ->Ex->γ ⊕ δ)
mutual
def jj:Ex->γ->γ ⊕ δ
 |.mk k m n x num types labels kids,g=>match step g (.mk k m n x num types labels kids)with
  |.inr s=>.inr s
  |.inl g'=>fx kids g'
def fx:List Ex->γ->γ ⊕ δ
 |[],g=>.inl g
 |e::l,g=>match jj e g with
  |.inr s=>.inr s
  |.inl g'=>fx l g'
end
theorem ou(b:Ex)(d:γ):jj step b d=match step d b with
  |.inr s=>.inr s
  |.inl c=>fx step b.kids c:=by cases b;rw[jj];rfl
theorem DG(f b:List Ex)(d:γ):fx step (f++b) d=match fx step f d with
  |.inr s=>.inr s
  |.inl c=>fx step b c:=by
 induction f generalizing d with
 |nil=>rfl
 |cons i f h=>
  simp only[aeu,fx];cases jj step i d with
  |inr s=>rfl
  |inl c=>exact h c
theorem vm{l:List Ex}{c b:γ}(f:y<l.length)(d:fx step (l.take y) c=.inl b):fx step (l.take (y+1)) c=jj step l[y] b:=by
 rw[aeP,aev f,DG,d];simp only[aeS,fx];cases jj step l[y] b<;>rfl
theorem vn{l:List Ex}{b:γ}{s:δ}(c:fx step (l.take y) b=.inr s):fx step l b=.inr s:=by
 have:=DG step (l.take y) (l.drop y) b;rw[List.take_append_drop,c]at this;exact this
variable{step}
theorem OF{h:γ->Nat}(B:∀d f b,step d f=.inl b->h b<=h d+(1+cy (k7 f))):∀(f:Ex) (d b:γ),jj step f d=.inl b->h b<=h d+cP f:=by
 have o:∀(p:Nat) (f:Ex) (d b:γ),cP f<=p->jj step f d=.inl b->h b<=h d+cP f:=by
  intro p;induction p with
  |zero=>intro f d b w;have:=gP f;omega
  |succ p x=>
   intro f d b w c;have D:=fJ f;rw[ou]at c;cases i:step d f with
   |inr s=>rw[i]at c;cases c
   |inl r=>
    rw[i]at c;have H:=B _ _ _ i;have:∀(k:List Ex) (d b:γ),cQ k<=p->fx step k d=.inl b->h b<=h d+cQ k:=by
     intro k;induction k with
     |nil=>intro d b _ w;cases w;exact Nat.le_refl _
     |cons C k n=>
      intro d b t c;rw[fx]at c;rw[cQ]at t⊢;cases j:jj step C d with
      |inr s=>rw[j]at c;cases c
      |inl l=>
       rw[j]at c;have E:=x C d l om j;have I:=n l b om c;omega
    have G:=this f.kids r b om c;omega
 intro f d b;exact o _ f d b (Nat.le_refl _)
end
theorem Ca(n:Nat)(σ:VS)(b:VS)(c:σ.length=n):Nat.ble n (σ++b).length=true:=by
 rw[Nat.ble_eq,aeO,c];exact aeQ _ _
theorem Ku(n:Nat)(σ:VS)(o:cN)(b:VS)(c:σ.length+1=n):Nat.ble n (σ++o::b).length=true:=by
 rw[Nat.ble_eq,aeO,List.length_cons];omega
theorem FU(σ:VS)(o:cN)(b:VS){n:Nat}(c:σ.length+1=n):(σ++o::b).take n=σ++[o]:=by
 subst c;rw[List.take_append,abL om];simp
theorem WU:∀{d:Nat} {b c:VS},b.length=d->mJ y (b++c) d=mJ y b d:=by
 intro d;induction d with
 |zero=>intro b c _;rw[mJ,mJ]
 |succ d f=>
  intro b c h;cases b with
  |nil=>cases h
  |cons i b=>
   simp only[aeu,mJ];rw[f (by simpa using h)]
theorem vo{d n:Nat}{σ b:VS}(f:mJ d σ n=true)(c:σ.length=n):mJ d (σ++b) n=true:=by rw[WU c,f]
structure Ob3 where
 (o0 o1 o2:cN)
 L:ki
def W3(s:Ob3):VS:=[s.o0,s.o1,s.o2,.eI false,.loop s.L,.box [.tR 4],.box [.fn eA [] [.bp 5 0,.bp 6 0]]]
theorem WV{γ δ:Type}{step:γ->Ex->γ ⊕ δ}{B:γ->Nat}{Good:Ex->Prop}{x:γ ⊕ δ->Ob3} 
  (y:∀b,Good b->∀o∈b.kids,Good o) (w:∀o,mJ 7 (W3 (x o)) 7=true) (R:∀o p l,fu 0 p=true->mJ 8 (W3 (x o)++.box p::l) 8=true)
  (ad:∀h b G,step h b=.inl G->B G<=B h+(1+cy (k7 b)))
  (ao:∀(h:γ) (b:Ex) (J:cH) (p:List V) (al:cO->VS->Prop),je b J->Good b->fu 0 p=true->B h+cP b<4294967296->(∀G,step h b=.inl G->∀l,al (.ret (bX true)) (W3 (x (.inl G))++.box p::l))->(∀s,step h b=.inr s->∀l,al (.ret (bX false)) (W3 (x (.inr s))++.box p::l))->
   iA C ca 4 [.agg (J.map V.d)] (W3 (x (.inl h))++[.box p]) al) (n:Nat)
  (ar:∀(b:Ex) (J:cH) (h:γ),cP b<=n->je b J->Good b->B h+cP b<4294967296->bV C ca eA [.agg (J.map V.d),.bp 5 0,.bp 6 0] (W3 (x (.inl h))) fun ah t=>∃o,jj step b h=o/\t=W3 (x o)/\ah=.ret (bX o.isLeft))
  (b:Ex) (J:cH) (h:γ) (aC:cP b<=n+1) (U:je b J) (O:Good b) (m:B h+cP b<4294967296):
  bV C ca eA [.agg (J.map V.d),.bp 5 0,.bp 6 0] (W3 (x (.inl h))) fun ah t=>∃o,jj step b h=o/\t=W3 (x o)/\ah=.ret (bX o.isLeft):=by
 obtain⟨ai,aj,I,K,r,L,N,an,rfl⟩:=U.eight;have ax:=fJ b;refine cm ?_;refine ao h b _ (ky ai aj I K r L N an) _ U O Z m (fun f M l=>?_) (fun s M l=>?_)
 ·have v:=U.abh.1;have av:=ad h b f M;have H:=y b O;have ae:jj step b h=fx step b.kids f:=by rw[ou,M]
  rw[ae];have a:cQ b.kids<=n:=om;have aa:B f+cQ b.kids<4294967296:=om;generalize b.kids=c at v a aa H;have au:=ju c;cases v with
  |nil=>
   refine cd.loop ?_;refine cU.drop 7 (Ca 7 _ _ Z) (vo (w _) Z) Z ?_;exact cU.now Z ⟨_,Z,Z,Z⟩
  |ps ak=>
   rename_i A g i k;have u:=ak.len;refine cw (dB:=[(12,.d (.ps A g 8 i k)),(13,bW c.length),(14,bW 0),(2,.bp 6 0)]) (fU:=W3 (x (.inl f))++[.box (ky ai aj I K r L N (.ps A g 8 i k))]) (.drop 8 ⟨Z,int_eq (by rw[u]),Z,Z,tv⟩ (Ku 8 _ _ _ Z) Z (R _ _ _ Z) Z Z Z (by exact FU _ _ _ rfl)) ?_;refine cd.iter (fun D:Nat×γ=>[(12,.d (.ps A g 8 i k)),(13,bW c.length),(14,bW D.1),(2,.bp 6 0)]) (fun D=>W3 (x (.inl D.2))++[.box (ky ai aj I K r L N (.ps A g 8 i k))]) (fun D=>c.length-D.1) (fun D=>D.1<=c.length/\fx step (c.take D.1) f=.inl D.2/\B D.2<=B f+cQ (c.take D.1)) ?_ (0,f) ⟨aeR _,by rw[List.take_zero];rfl,aeQ _ _⟩;rintro⟨T,W⟩ ⟨F,j,Q⟩;have F:T<=c.length:=F;have j:fx step (c.take T) f=.inl W:=j;have Q:B W<=B f+cQ (c.take T):=Q;apply aZ<;>intro af
   ·have d:T<c.length:=ee af;obtain⟨J,ap,S⟩:=ak.get d;refine bZ Z ?_;obtain⟨aq,am,q,z,X,ac,ab,Y,rfl⟩:=S.eight;refine cc _ (by rw[ck];exact ap) ?_;have aA:=j7 (abK d);have e:=tU d;have aw:=py c (T+1);refine(ar c[T] _ W om S (H _ (abK d)) om).pre [.box (ky ai aj I K r L N (.ps A g 8 i k)),.box (ky aq am q z X ac ab Y)] (w _) Z (fun ah t ak=>?_);obtain⟨o,P,rfl,rfl⟩:=ak;refine⟨Z,w _,Z,?_⟩;have E:=vm step d j;rw[P]at E;cases o with
    |inl ag=>
     have aB:=OF ad _ _ _ P;refine⟨(T+1,ag),⟨d,E,by show B ag<=_;rw[e];omega⟩,iK,.drop 8 ⟨Z,Z,int_eq (cp om),Z,tv⟩ Z Z (R _ _ _ Z) Z Z Z Z,Z,Z⟩
    |inr s=>
     refine cU.drop 7 Z (vo (w _) Z) Z ?_;refine cU.now Z ⟨.inr s,?_,Z,Z⟩;exact vn step E
   ·have d:c.length<=T:=dq af;rw[abL d]at j;refine cU.drop 7 Z (vo (w _) Z) Z ?_;exact cU.now Z ⟨_,j,Z,Z⟩
 ·refine cU.drop 7 (Ca 7 _ _ Z) (vo (w _) Z) Z ?_;exact cU.now Z ⟨.inr s,by rw[ou,M],Z,Z⟩
theorem abj{γ δ:Type}{step:γ->Ex->γ ⊕ δ}{B:γ->Nat}{Good:Ex->Prop}{S:γ ⊕ δ->Ob3} 
  (k:∀b,Good b->∀i∈b.kids,Good i) (s:∀i,mJ 7 (W3 (S i)) 7=true) (o:∀i c f,fu 0 c=true->mJ 8 (W3 (S i)++.box c::f) 8=true)
  (G:∀d b h,step d b=.inl h->B h<=B d+(1+cy (k7 b)))
  (x:∀(d:γ) (b:Ex) (j:cH) (c:List V) (p:cO->VS->Prop),je b j->Good b->fu 0 c=true->B d+cP b<4294967296->(∀h,step d b=.inl h->∀f,p (.ret (bX true)) (W3 (S (.inl h))++.box c::f))->(∀H,step d b=.inr H->∀f,p (.ret (bX false)) (W3 (S (.inr H))++.box c::f))->
   iA C ca 4 [.agg (j.map V.d)] (W3 (S (.inl d))++[.box c]) p):
  ∀(l:Nat) (b:Ex) (j:cH) (d:γ),cP b<=l->je b j->Good b->B d+cP b<4294967296->bV C ca eA [.agg (j.map V.d),.bp 5 0,.bp 6 0] (W3 (S (.inl d))) fun I n=>∃i,jj step b d=i/\n=W3 (S i)/\I=.ret (bX i.isLeft):=by
 intro l;induction l with
 |zero=>intro b j d J;have:=gP b;omega
 |succ l E=>intro b j d w r D t;exact WV k s o G x l E b j d w r D t
structure Ob5 where
 (o0 o1 o2 o3 o4:cN)
 L:ki
def W5(s:Ob5):VS:=[s.o0,s.o1,s.o2,s.o3,s.o4,.eI false,.loop s.L,.box [.tR 6],.box [.fn eA [] [.bp 7 0,.bp 8 0]]]
theorem WW{γ δ:Type}{step:γ->Ex->γ ⊕ δ}{B:γ->Nat}{Good:Ex->Prop}{x:γ ⊕ δ->Ob5} 
  (y:∀b,Good b->∀o∈b.kids,Good o) (w:∀o,mJ 9 (W5 (x o)) 9=true) (R:∀o p l,fu 0 p=true->mJ 10 (W5 (x o)++.box p::l) 10=true)
  (ad:∀h b G,step h b=.inl G->B G<=B h+(1+cy (k7 b)))
  (ao:∀(h:γ) (b:Ex) (J:cH) (p:List V) (al:cO->VS->Prop),je b J->Good b->fu 0 p=true->B h+cP b<4294967296->(∀G,step h b=.inl G->∀l,al (.ret (bX true)) (W5 (x (.inl G))++.box p::l))->(∀s,step h b=.inr s->∀l,al (.ret (bX false)) (W5 (x (.inr s))++.box p::l))->
   iA C ca 6 [.agg (J.map V.d)] (W5 (x (.inl h))++[.box p]) al) (n:Nat)
  (ar:∀(b:Ex) (J:cH) (h:γ),cP b<=n->je b J->Good b->B h+cP b<4294967296->bV C ca eA [.agg (J.map V.d),.bp 7 0,.bp 8 0] (W5 (x (.inl h))) fun ah t=>∃o,jj step b h=o/\t=W5 (x o)/\ah=.ret (bX o.isLeft))
  (b:Ex) (J:cH) (h:γ) (aC:cP b<=n+1) (U:je b J) (O:Good b) (m:B h+cP b<4294967296):
  bV C ca eA [.agg (J.map V.d),.bp 7 0,.bp 8 0] (W5 (x (.inl h))) fun ah t=>∃o,jj step b h=o/\t=W5 (x o)/\ah=.ret (bX o.isLeft):=by
 obtain⟨ai,aj,I,K,r,L,N,an,rfl⟩:=U.eight;have ax:=fJ b;refine cm ?_;refine ao h b _ (ky ai aj I K r L N an) _ U O Z m (fun f M l=>?_) (fun s M l=>?_)
 ·have v:=U.abh.1;have av:=ad h b f M;have H:=y b O;have ae:jj step b h=fx step b.kids f:=by rw[ou,M]
  rw[ae];have a:cQ b.kids<=n:=om;have aa:B f+cQ b.kids<4294967296:=om;generalize b.kids=c at v a aa H;have au:=ju c;cases v with
  |nil=>
   refine cd.loop ?_;refine cU.drop 9 (Ca 9 _ _ Z) (vo (w _) Z) Z ?_;exact cU.now Z ⟨_,Z,Z,Z⟩
  |ps ak=>
   rename_i A g i k;have u:=ak.len;refine cw (dB:=[(12,.d (.ps A g 8 i k)),(13,bW c.length),(14,bW 0),(2,.bp 8 0)]) (fU:=W5 (x (.inl f))++[.box (ky ai aj I K r L N (.ps A g 8 i k))]) (.drop 10 ⟨Z,int_eq (by rw[u]),Z,Z,tv⟩ (Ku 10 _ _ _ Z) Z (R _ _ _ Z) Z Z Z (by exact FU _ _ _ rfl)) ?_;refine cd.iter (fun D:Nat×γ=>[(12,.d (.ps A g 8 i k)),(13,bW c.length),(14,bW D.1),(2,.bp 8 0)]) (fun D=>W5 (x (.inl D.2))++[.box (ky ai aj I K r L N (.ps A g 8 i k))]) (fun D=>c.length-D.1) (fun D=>D.1<=c.length/\fx step (c.take D.1) f=.inl D.2/\B D.2<=B f+cQ (c.take D.1)) ?_ (0,f) ⟨aeR _,by rw[List.take_zero];rfl,aeQ _ _⟩;rintro⟨T,W⟩ ⟨F,j,Q⟩;have F:T<=c.length:=F;have j:fx step (c.take T) f=.inl W:=j;have Q:B W<=B f+cQ (c.take T):=Q;apply aZ<;>intro af
   ·have d:T<c.length:=ee af;obtain⟨J,ap,S⟩:=ak.get d;refine bZ Z ?_;obtain⟨aq,am,q,z,X,ac,ab,Y,rfl⟩:=S.eight;refine cc _ (by rw[ck];exact ap) ?_;have aA:=j7 (abK d);have e:=tU d;have aw:=py c (T+1);refine(ar c[T] _ W om S (H _ (abK d)) om).pre [.box (ky ai aj I K r L N (.ps A g 8 i k)),.box (ky aq am q z X ac ab Y)] (w _) Z (fun ah t ak=>?_);obtain⟨o,P,rfl,rfl⟩:=ak;refine⟨Z,w _,Z,?_⟩;have E:=vm step d j;rw[P]at E;cases o with
    |inl ag=>
     have aB:=OF ad _ _ _ P;refine⟨(T+1,ag),⟨d,E,by show B ag<=_;rw[e];omega⟩,iK,.drop 10 ⟨Z,Z,int_eq (cp om),Z,tv⟩ Z Z (R _ _ _ Z) Z Z Z Z,Z,Z⟩
    |inr s=>
     refine cU.drop 9 Z (vo (w _) Z) Z ?_;refine cU.now Z ⟨.inr s,?_,Z,Z⟩;exact vn step E
   ·have d:c.length<=T:=dq af;rw[abL d]at j;refine cU.drop 9 Z (vo (w _) Z) Z ?_;exact cU.now Z ⟨_,j,Z,Z⟩
 ·refine cU.drop 9 (Ca 9 _ _ Z) (vo (w _) Z) Z ?_;exact cU.now Z ⟨.inr s,by rw[ou,M],Z,Z⟩
theorem abk{γ δ:Type}{step:γ->Ex->γ ⊕ δ}{B:γ->Nat}{Good:Ex->Prop}{S:γ ⊕ δ->Ob5} 
  (k:∀b,Good b->∀i∈b.kids,Good i) (s:∀i,mJ 9 (W5 (S i)) 9=true) (o:∀i c f,fu 0 c=true->mJ 10 (W5 (S i)++.box c::f) 10=true)
  (G:∀d b h,step d b=.inl h->B h<=B d+(1+cy (k7 b)))
  (x:∀(d:γ) (b:Ex) (j:cH) (c:List V) (p:cO->VS->Prop),je b j->Good b->fu 0 c=true->B d+cP b<4294967296->(∀h,step d b=.inl h->∀f,p (.ret (bX true)) (W5 (S (.inl h))++.box c::f))->(∀H,step d b=.inr H->∀f,p (.ret (bX false)) (W5 (S (.inr H))++.box c::f))->
   iA C ca 6 [.agg (j.map V.d)] (W5 (S (.inl d))++[.box c]) p):
  ∀(l:Nat) (b:Ex) (j:cH) (d:γ),cP b<=l->je b j->Good b->B d+cP b<4294967296->bV C ca eA [.agg (j.map V.d),.bp 7 0,.bp 8 0] (W5 (S (.inl d))) fun I n=>∃i,jj step b d=i/\n=W5 (S i)/\I=.ret (bX i.isLeft):=by
 intro l;induction l with
 |zero=>intro b j d J;have:=gP b;omega
 |succ l E=>intro b j d w r D t;exact WW k s o G x l E b j d w r D t
variable{a m q:D}
theorem QP(n:cq){x b:Ex}(hl:eR [] a)(hk:fR [x,b] m):gy 10 [] n [] 0 .ci a m (fm [110] 0 false 2):=by
 exact abP
theorem Uk{t:Ty}(d:fA [t] a){x:Ex}(c:eR [] m)(b:fR [x] q):gy 11 [] [] [] 0 a m q (fm [] 1 false 1):=by
 unfold gy;rcases c.cS with rfl|⟨h,p,o,rfl⟩<;>obtain⟨k,n,f,d1,rfl⟩:=b.one<;>obtain⟨l,i,j,d0,rfl⟩:=d.nN<;>exact fitAll
theorem QQ{t:Ty}(ht:fA [t] a){x b c:Ex}(hl:eR [] m)(hk:fR [x,b,c] q):gy 12 [] [] [] 0 a m q (fm [] 1 false 3):=by
 exact Y2
variable{u:List Ex}
theorem Ul{t:Ty}(c:fA [t] a)(b:eR [] m)(d:fR u q):gy 14 [] [] [] 0 a m q (fm [] 1 false (-1)):=by
 unfold gy;rcases b.cS with rfl|⟨f,l,k,rfl⟩<;>obtain⟨j,h,i,d0,rfl⟩:=c.nN<;>exact fitAll
theorem QR{t:Ty}(n d:cq)(ht:fA [t] a){x b c:Ex}(hl:eR [] m)(hk:fR [x,b,c] q):gy 15 [] n d 0 a m q (fm [110,120] 1 false 3):=by
 exact Y2
theorem Um{n:cq}(b:n∈K9){x:Ex}(hl:eR [] a)(hk:fR [x] m):gy 16 [] n [] 0 .ci a m (fm [110] 0 false (-1)):=by
 exact VA
theorem Un{n:cq}(c:n∈BK){x b:Ex}(hl:eR [] a)(hk:fR [x,b] m):gy 16 [] n [] 0 .ci a m (fm [110] 0 false (-1)):=by
 exact abP
theorem DH{s:cq}(c:cK s=true){σ:VS}{K:cO->VS->Prop}(b:K (.ret (bX true)) σ):bV C ca uO [cn s] σ K:=
 ic s (lZ c) (by rw[c];exact b)
def s5(l:Nat)(o n j:cq)(b:Int)(h i d:D)(f:V):Prop:=bV C ca yS [Ua l o n j b h i d,f] [] fun k c=>c=[]/\k=.ret (bX false)
variable{F:Prop}
theorem ov (b:F:=by
 have mS:=hw.name;have hvr:=hw.var;unfold s5;refine cm ?_;repeat' first|(change jR _ _ _;first|refine cg (by with_reducible assumption) ?_|refine a7 (by with_reducible assumption) ?_)|refine dx (args:=[.str _,.str _]) (x:=.bool true) rfl rfl ?_|refine dx (args:=[.str _,.str _]) (x:=.bool false) rfl rfl ?_|refine DH (by assumption) ?_|refine jf _ (by assumption) ?_|(show bV C ca oR _ _ _;refine cj ?_)
 refine oZ Z _ labels hl hlen (fun j hj d hd K hk=>?_) ?_
 ·obtain⟨tk,tm,tn,ta,tf,rfl⟩:=hd.cZ;have hnj:=mS _ (List.getElem_mem hj);have hvj:=hvr _ (List.getElem_mem hj);simp at hvj;refine cm ?_;repeat' first|(change jR _ _ _;first|refine cg (by with_reducible assumption) ?_|refine a7 (by with_reducible assumption) ?_)|refine dx (args:=[.str _,.str _]) (x:=.bool true) rfl rfl ?_|refine dx (args:=[.str _,.str _]) (x:=.bool false) rfl rfl ?_|refine DH (by assumption) ?_|refine jf _ (by assumption) ?_|(show bV C ca oR _ _ _;refine cj ?_)
  exact a8 3 hk
 ·exact a8 0 ⟨Z,Z⟩):F:=b
variable{e:Int}
theorem acZ{x:cq}{labels:List hZ}(hl:eR labels m)(hlen:labels.length<4294967296)(hw:k8 0 labels):s5 0 [] [] x e a m q (fm [98] 0 false 0):=by
 exact ov
theorem ac0{x:cq}{labels:List hZ}(hl:eR labels m)(hlen:labels.length<4294967296)(hw:k8 1 labels):s5 1 [] [] x e a m q (fm [120] 0 false 0):=by
 exact ov
theorem ac1{x:cq}{labels:List hZ}(hl:eR labels m)(hlen:labels.length<4294967296)(hw:k8 2 labels):s5 2 [] [] x e a m q (fm [98] 0 false 0):=by
 exact ov
theorem ac2{n x:cq}{labels:List hZ}(b:cK n=true)(hl:eR labels m)(hlen:labels.length<4294967296)(hw:k8 3 labels):s5 3 [] n x e a m q (fm [110] 0 false 0):=by
 exact ov
theorem ac3{b n x:cq}{labels:List hZ}(c:b=[]∨cK b=true)(d:cK n=true)(hl:eR labels m)(hlen:labels.length<4294967296)(hw:k8 4 labels):s5 4 b n x e a m q (fm [109,110] (-1) false 0):=by
 exact ov
theorem ac4{x:cq}{labels:List hZ}(hl:eR labels m)(hlen:labels.length<4294967296)(hw:k8 5 labels):s5 5 [] [] x e a m q (fm [] 0 true 0):=by
 exact ov
theorem ac5{n x:cq}{labels:List hZ}(b:cK n=true)(hl:eR labels m)(hlen:labels.length<4294967296)(hw:k8 6 labels):s5 6 [] n x e a m q (fm [110] 0 false 1):=by
 exact ov
theorem ac6{n x:cq}{labels:List hZ}(b:cK n=true)(hl:eR labels m)(hlen:labels.length<4294967296)(hw:k8 7 labels):s5 7 [] n x e a m q (fm [110] 0 false 1):=by
 exact ov
theorem ac7{x:cq}{labels:List hZ}(hl:eR labels m)(hlen:labels.length<4294967296)(hw:k8 8 labels):s5 8 [] [] x e a m q (fm [116,111] 0 true 1):=by
 exact ov
theorem ac8{x:cq}{labels:List hZ}(hl:eR labels m)(hlen:labels.length<4294967296)(hw:k8 9 labels):s5 9 [] [] x e a m q (fm [] 0 true 1):=by
 exact ov
theorem abl{n x:cq}{labels:List hZ}(b:cK n=true)(hl:eR labels m)(hlen:labels.length<4294967296)(hw:k8 10 labels):s5 10 [] n x e a m q (fm [110] 0 false 2):=by
 exact ov
theorem abm{x:cq}{labels:List hZ}(hl:eR labels m)(hlen:labels.length<4294967296)(hw:k8 11 labels):s5 11 [] [] x e a m q (fm [] 1 false 1):=by
 exact ov
theorem abn{x:cq}{labels:List hZ}(hl:eR labels m)(hlen:labels.length<4294967296)(hw:k8 12 labels):s5 12 [] [] x e a m q (fm [] 1 false 3):=by
 exact ov
theorem abo{x:cq}{labels:List hZ}(hl:eR labels m)(hlen:labels.length<4294967296)(hw:k8 13 labels):s5 13 [] [] x e a m q (fm [118] 1 true 1):=by
 exact ov
theorem abp{x:cq}{labels:List hZ}(hl:eR labels m)(hlen:labels.length<4294967296)(hw:k8 14 labels):s5 14 [] [] x e a m q (fm [] 1 false (-1)):=by
 exact ov
theorem abq{n x:cq}{labels:List hZ}(c:cK n=true)(b:cK x=true)(hl:eR labels m)(hlen:labels.length<4294967296)(hw:k8 15 labels):s5 15 [] n x e a m q (fm [110,120] 1 false 3):=by
 exact ov
theorem Uo{n x:cq}{labels:List hZ}(hl:eR labels m)(hlen:labels.length<4294967296)(hw:k8 16 labels):s5 16 [] n x e a m q (fm [110] 0 false (-1)):=by
 exact ov
variable{v:List hZ}
theorem DI{k:Nat}(f:k≠16)(j:k≠8){E n b s:cq}{c t:Int}{l:Bool}(o:eR v m)(i:v.length<4294967296)(x:y<4:=by decide):
  bV C ca wV [Ua k E n b c a m q,fm s t l (aeM y)] [] fun B h=>h=[]/\B=.ret (bW (y+v.length)):=by
 have w:decide (aeM k=16)=false:=decide_eq_false fun p=>f (by simp only[aeN]at p;omega);have G:decide (aeM k=8)=false:=decide_eq_false fun p=>j (by simp only[aeN]at p;omega);refine cm ?_;have r:decide (aeM y<0)=false:=decide_eq_false (by simp only[aeN];omega);repeat refine de ?_
 cases o with
 |nil=>exact a8 0 ⟨rfl,congrArg (fun b=>cO.ret (V.d (D.int .i64 b))) (c4 (b:=0) om)⟩
 |ps H=>
  have d:=H.len;exact a8 0 ⟨Z,congrArg (fun b=>cO.ret (V.d (D.int .i64 b))) ((c4 om).trans (by rw[d]))⟩
theorem AB{l:List hZ}(b:y<l.length):zv (l.take (y+1))=zv (l.take y)+if l[y].tV then 1 else 0:=by
 rw[aeP,aev b,zv,zv,List.filter_append,aeO];simp only[aeS,List.filter_cons,List.filter_nil];split<;>simp
theorem HQ(l:List hZ):zv l<=l.length:=List.length_filter_le _ _
theorem QS{J n I s:cq}{i t:Int}{l:Bool}(E:eR v m)(B:v.length<4294967296):
  bV C ca wV [Ua 8 J n I i a m q,fm s t l e] [] fun L p=>p=[]/\L=.ret (bW (zv v+1)):=by
 refine cm ?_;cases E with
 |nil=>
  exact oy
 |ps K=>
  rename_i G x f h;have k:=K.len;refine cd.less (dB:=[(5,bW 1),(20,.d (.ps G x 8 f h)),(21,bW v.length),(22,bW 0)]) ⟨Z,Z,int_eq (by rw[k]),Z,tv⟩ ?_;refine cd.iter (fun d:Nat=>[(5,bW (zv (v.take d)+1)),(20,.d (.ps G x 8 f h)),(21,bW v.length),(22,bW d)]) (fun _=>[.box (ky 8 J n I i a (.ps G x 8 f h) q),.box [cn s,.d (.int .i64 t),bX l,.d (.int .i64 e)]]) (fun d=>v.length-d) (fun d=>d<=v.length) ?_ 0 (aeR _);intro d P;apply aZ<;>intro w
  ·have b:d<v.length:=ee w;obtain⟨R,H,r⟩:=K.get b;obtain⟨M,Q,tn,N,O,rfl⟩:=r.cZ;have c:=AB b;have j:=HQ (v.take d);rw[List.length_take]at j;refine bZ Z ?_;refine cc _ (by rw[ck];exact H) ?_;apply aZ<;>intro o
   ·rw[o]at c;refine⟨d+1,b,iK,.drop 2 ⟨int_eq ?_,Z,Z,int_eq (cp om),tv⟩ Z Z Z Z Z Z Z,Z,Z⟩;rw[c];exact cp om
   ·rw[o]at c;refine⟨d+1,b,iK,.drop 2 ⟨int_eq ?_,Z,Z,int_eq (cp om),tv⟩ Z Z Z Z Z Z Z,Z,Z⟩;rw[c];rfl
  ·have b:v.length<=d:=dq w;rw[abL b];exact a8 0 ⟨Z,Z⟩
theorem ry{c b:Nat}(d:c=b):(!decide (aeM c=aeM b))=false:=by simp[d]
theorem WX (d:F:=by
 rcases hl.inv with⟨_,rfl⟩|⟨b,o,c,els,rfl,hll⟩;all_goals
  rcases hk.inv with⟨hke,rfl⟩|⟨b2,o2,c2,my,rfl,hkl⟩
  ·subst hke;have ZW:0=_:=ZW;have hN:=ry ZW;have hN':(!decide ((0:Int)=Int.ofNat _))=false:=hN;repeat' first|(change jR _ _ _;first|refine cg (by with_reducible assumption) ?_|refine a7 (by with_reducible assumption) ?_|refine aZ (fun _=>?_) (fun _=>?_))|refine dx (args:=[.str _,.str _]) (x:=.bool true) rfl rfl ?_|refine dx (args:=[.str _,.str _]) (x:=.bool false) rfl rfl ?_|refine fin ?_|(show bV C ca lg _ _ _;refine cj ?_)
   all_goals first|exact a8 0 ⟨rfl,rfl⟩|(exact absurd ZW om)
  ·have hN:=ry (hkl.len.trans ZW);repeat' first|(change jR _ _ _;first|refine cg (by with_reducible assumption) ?_|refine a7 (by with_reducible assumption) ?_|refine aZ (fun _=>?_) (fun _=>?_))|refine dx (args:=[.str _,.str _]) (x:=.bool true) rfl rfl ?_|refine dx (args:=[.str _,.str _]) (x:=.bool false) rfl rfl ?_|refine fin ?_|(show bV C ca lg _ _ _;refine cj ?_)
   all_goals exact a8 0 ⟨rfl,rfl⟩):F:=d
theorem aao (b:F:=by
 refine cm ?_;repeat' first|(change jR _ _ _;first|refine cg (by with_reducible assumption) ?_|refine a7 (by with_reducible assumption) ?_|refine aZ (fun _=>?_) (fun _=>?_))|refine dx (args:=[.str _,.str _]) (x:=.bool true) rfl rfl ?_|refine dx (args:=[.str _,.str _]) (x:=.bool false) rfl rfl ?_|refine sX hd ?_|refine zu hd (fun _=>?_)|(show bV C ca lg _ _ _;refine cj ?_)
 all_goals exact a8 3 hk):F:=b
def Kv(h:Nat)(b c d:D)(s:cq)(t:Int)(l:Bool)(f:Int):VS:=[.box (ky h [] [] [] 0 b c d),.box [cn s,.d (.int .i64 t),bX l,.d (.int .i64 f)],.box [.fn lg [] [.bp 1 0]]]
theorem Up{labels:List hZ}(hl:eR labels a)(hlen:labels.length<4294967296)(hw:k8 5 labels)(hk:fR u m)(ZW:u.length=0+labels.length):gy 5 [] [] [] 0 .ci a m (fm [] 0 true 0):=by
 have fin:∀{K:cO->VS->Prop},K (.ret (bX false)) (Kv 5 .ci a m [] 0 true 0)->bV C ca dN [.d a,.fn lh [] [.bp 2 0]] (Kv 5 .ci a m [] 0 true 0) K:=by
  intro K hK;refine oZ Z _ labels hl hlen (fun j hj d hd K hk=>?_) hK;have hvj:=hw.var _ (List.getElem_mem hj);have htj:=hw.ty _ (List.getElem_mem hj);generalize labels[j]=l at hvj htj hd;obtain⟨ln,lv,lt,lo⟩:=l;simp at hvj htj;obtain⟨rfl,rfl⟩:=htj;subst hvj;have hd:eZ cV d:=hd;rcases w9 hd with rfl|⟨b,o,c,rfl⟩;all_goals exact aao
 unfold gy;refine cm ?_;refine cC (DI (k:=5) dc dc hl hlen) Z Z ?_;exact WX
theorem QT{labels:List hZ}(hl:eR labels a)(hlen:labels.length<4294967296)(hw:k8 9 labels)(hk:fR u m)(ZW:u.length=1+labels.length):gy 9 [] [] [] 0 .ci a m (fm [] 0 true 1):=by
 have fin:∀{K:cO->VS->Prop},K (.ret (bX false)) (Kv 9 .ci a m [] 0 true 1)->bV C ca dN [.d a,.fn lh [] [.bp 2 0]] (Kv 9 .ci a m [] 0 true 1) K:=by
  intro K hK;refine oZ Z _ labels hl hlen (fun j hj d hd K hk=>?_) hK;have hvj:=hw.var _ (List.getElem_mem hj);have htj:=hw.ty _ (List.getElem_mem hj);generalize labels[j]=l at hvj htj hd;obtain⟨ln,lv,lt,lo⟩:=l;simp at hvj htj;obtain⟨rfl,rfl⟩:=htj;subst hvj;have hd:eZ cV d:=hd;rcases w9 hd with rfl|⟨b,o,c,rfl⟩;all_goals exact aao
 unfold gy;refine cm ?_;refine cC (DI (k:=9) dc dc hl hlen) Z Z ?_;exact WX
theorem Uq{t:Ty}(r:fA [t] a)(hl:eR v m)(d:v.length<4294967296)(k:k8 13 v)(hk:fR u q)(ZW:u.length=1+v.length):gy 13 [] [] [] 0 a m q (fm [118] 1 true 1):=by
 obtain⟨j,n,i,d9,rfl⟩:=r.nN;have fin:∀{p:cO->VS->Prop},p (.ret (bX false)) (Kv 13 (.ps j n 5 i [d9]) m q [118] 1 true 1)->bV C ca dN [.d m,.fn lh [] [.bp 2 0]] (Kv 13 (.ps j n 5 i [d9]) m q [118] 1 true 1) p:=by
  intro p s;refine oZ Z _ v hl d (fun x l G hd p hk=>?_) s;have h:=k.var _ (abK l);have f:=k.ty _ (abK l);generalize v[x]=J at h f hd;obtain⟨H,I,E,B⟩:=J;simp at h f;obtain⟨rfl,rfl⟩:=f;have w:=WR h;have hd:eZ cV G:=hd;rcases w9 hd with rfl|⟨b,o,c,rfl⟩;all_goals exact aao
 unfold gy;refine cm ?_;refine cC (DI (k:=13) dc dc hl d) Z Z ?_;exact WX
theorem QU(hl:eR v a)(b:v.length<4294967296)(f:k8 8 v)(hk:fR u m)(ZW:u.length=zv v+1):gy 8 [] [] [] 0 .ci a m (fm [116,111] 0 true 1):=by
 have fin:∀{i:cO->VS->Prop},i (.ret (bX false)) (Kv 8 .ci a m [116,111] 0 true 1)->bV C ca dN [.d a,.fn lh [] [.bp 2 0]] (Kv 8 .ci a m [116,111] 0 true 1) i:=by
  intro i j;refine oZ Z _ v hl b (fun k h B hd i hk=>?_) j;have c:=f.var _ (abK h);have d:=f.ty _ (abK h);generalize v[k]=x at c d hd;obtain⟨s,t,o,w⟩:=x;simp at c d;subst c;obtain⟨l,r,tn,n,p,rfl⟩:=hd.cZ;exact aao
 unfold gy;refine cm ?_;refine cC (QS hl b) Z Z ?_;exact WX
end Go.Proofs.YtpejealjkmhkgaaGreatDoor
