/- Part of the proof. -/
import Derived.Test.YtpejealjkmhkgaaGreatDoorBAn
set_option linter.all false
set_option maxHeartbeats 16000000
set_option maxRecDepth 100000
open List renaming length_append->agj,cons_append->agk,take_of_length_le->agm,length_drop->ago,map_cons->agp,length_cons->agq,length_map->agr,getD_eq_getElem?_getD->ags,getElem?_eq_getElem->agu,nil_append->agv,take_succ_eq_append_getElem->agw,zipIdx_cons->agx,getElem?_map->agy,append_assoc->agz,map_append->agA,getElem?_eq_none->agB,drop_zero->agC,take_succ_cons->agE,pairwise_cons->agF,flatMap_cons->agH,map_nil->agI,length_zip->agJ,getElem?_eq_some_iff->agK,getElem?_eq_none_iff->agL,mem_cons->agM,getElem?_cons_zero->agN,getElem?_cons_succ->agO,take->agQ,drop->agR,length_take_le->agS
open Int renaming ofNat->agl,ofNat_eq_natCast->agt
open Nat renaming le_refl->agn,zero_le->agD,beq->agG,le_of_ble_eq_true->agP
namespace Go.Proofs.YtpejealjkmhkgaaGreatDoor
open Go.AM Go.VM
structure Mv (R R':Rd) (g:Nat->Nat):Prop where
 len:R'.ts.length=R.ts.length
 tok:∀p,R'.tok p=⟨(R.tok p).kind,(R.tok p).text,g (R.tok p).off⟩
 z:g 0=0
def PR.mo{α:Type}(g:Nat->Nat):PR α->PR α
 |.ok b q=>.ok b q
 |.bad c a=>.bad (g c) a
section
variable{α β:Type} {g:Nat->Nat}
def iZ{b a:PR α}{f:α->β}(c:a=b.mo g):a.map f=(b.map f).mo g:=by subst c;cases b<;>rfl
theorem gj{j c:PR α}{l b:PR β}{f i:α->Nat->PR β}(k:c=j.mo g)(m:∀a q,i a q=(f a q).mo g) 
  (p:∀o e,j=.bad o e->l=.bad o e:=by intro o e hx;rw[hx]) (h:∀o e,c=.bad o e->b=.bad o e:=by intro o e hx;rw[hx])
  (n:∀a q,j=.ok a q->l=f a q:=by intro a q hx;rw[hx]) (d:∀a q,c=.ok a q->b=i a q:=by intro a q hx;rw[hx]):b=l.mo g:=by
 cases hx:j with
 |bad o e=>
  rw[hx]at k;rw[p _ _ hx,h _ _ k];try rfl
 |ok a q=>
  rw[hx]at k;rw[n _ _ hx,d _ _ k,m]
end
variable{E K Q:Nat}
section
variable{R R':Rd} {g:Nat->Nat} (c:Mv R R' g)
include c
theorem Mv.is(p:Nat)(a:cq):c5 (R'.tok p) a=c5 (R.tok p) a:=by rw[c.tok];try rfl
theorem Mv.kind(p:Nat):(R'.tok p).kind=(R.tok p).kind:=by rw[c.tok]
theorem Mv.text(p:Nat):(R'.tok p).text=(R.tok p).text:=by rw[c.tok]
theorem Mv.off(p:Nat):(R'.tok p).off=g (R.tok p).off:=by rw[c.tok]
theorem Mv.bad{α:Type}{p a:Nat}:(.bad (R'.tok p).off a:PR α)=(PR.bad (R.tok p).off a).mo g:=by rw[c.off];try rfl
theorem Mv.op(p:Nat)(a:List cq):xj (R'.tok p) a=xj (R.tok p) a:=by rw[c.tok];try rfl
theorem Mv.zero{α:Type}:(.bad 0 E:PR α)=(PR.bad 0 E).mo g:=by rw[PR.mo,c.z]
theorem j1:∀(a:List cq) (b:Nat),cu R' a b=(cu R a b).mo g:=by
 intro a;induction a with
 |nil=>intro b;rfl
 |cons e a d=>
  intro b;rw[cu,cu,c.is];split
  ·exact d _
  ·exact c.bad
theorem zF(a p:Nat):jY a R' p=(jY a R p).mo g:=by
 rw[jY,jY,c.kind];split
 ·exact c.bad
 ·rw[c.text];try rfl
theorem mq(p:Nat):dh R' p=(dh R p).mo g:=zF c 1 p
theorem rn{α:Type}{d b:Nat->PR α}(f:cq)(p:Nat)(h:∀q,b q=(d q).mo g):dI b R' f p=(dI d R f p).mo g:=by
 rw[dI,dI];refine gj (j1 c [f] p) fun a q=>?_;exact h q
variable{ty vv:Nat->PR Ty} (ht:∀q,vv q=(ty q).mo g)
include ht
theorem R7:∀(b:Nat) (a:List Ty) (d:Nat),ey vv R' b a d=(ey ty R b a d).mo g:=by
 intro b;induction b with
 |zero=>intro a d;exact c.zero
 |succ b f=>
  intro a d;rw[ey,ey];refine gj (ht d) fun i q=>?_;dsimp only;rw[c.is];split
  ·exact f _ _
  ·refine gj (j1 c [[93]] q) fun h q1=>?_;exact Z
theorem Im(p:Nat):jV vv R' p=(jV ty R p).mo g:=by
 rw[jV,jV,c.is,c.len];split
 ·exact R7 c ht _ _ _
 ·rfl
theorem sc(p:Nat):dO vv R' p=(dO ty R p).mo g:=by
 rw[dO,dO];refine gj (j1 c [[91]] p) fun b q=>?_;dsimp only;refine gj (ht q) fun d q1=>?_;dsimp only;refine gj (j1 c [[93]] q1) fun b q=>?_;exact Z
theorem KX(b f:cq)(d:Bool):∀(h:Nat) (a:List oG) (i:Nat),db vv R' b f d h a i=(db ty R b f d h a i).mo g:=by
 intro h;induction h with
 |zero=>intro a i;exact c.zero
 |succ h j=>
  intro a i;rw[db,db,c.kind,c.text,c.is];split
  ·exact c.bad
  split
  ·exact c.bad
  refine gj (j1 c [[58]] _) fun k q=>?_;dsimp only;refine gj (ht q) fun l q1=>?_;dsimp only;rw[c.is];split
  ·rfl
  ·refine gj (j1 c [b] q1) fun k q=>?_;exact j _ _
theorem DT(d b:cq)(a:Bool)(p:Nat):eY vv R' d b a p=(eY ty R d b a p).mo g:=by
 rw[eY,eY,c.is,c.len];split
 ·rfl
 ·exact iZ (KX c ht _ _ _ _ _ _)
theorem afl(p:Nat):ja vv R' (R'.tok p).kind (R'.tok p).text (R'.tok p).off (p+1)=(ja ty R (R.tok p).kind (R.tok p).text (R.tok p).off (p+1)).mo g:=by
 have d:∀{α:Type},(.bad (g (R.tok p).off) 3:PR α)=(PR.bad (R.tok p).off 3).mo g:=rfl;rw[c.kind,c.text,c.off];unfold ja;split
 ·split
  ·rfl
  ·split
   ·exact iZ (sc c ht _)
   ·split
    ·refine gj (j1 c [[40]] _) fun b q=>?_;dsimp only;refine gj (DT c ht [44] [41] true q) fun b q=>?_;exact iZ (ht _)
    ·rfl
 ·split
  ·split
   ·exact iZ (DT c ht _ _ _ _)
   ·split
    ·exact iZ (DT c ht _ _ _ _)
    ·rfl
  ·split
   ·exact iZ (Im c ht _)
   ·split
    ·refine gj (j1 c [[58,58]] _) fun b q=>?_;dsimp only;rw[c.kind,c.text];split
     ·exact c.bad
     ·exact iZ (Im c ht _)
    ·rfl
omit ht
theorem Yz:∀(b a:Nat),b8 R' b a=(b8 R b a).mo g:=by
 intro b;induction b with
 |zero=>intro a;exact c.zero
 |succ b d=>
  intro a;rw[b8,b8];exact afl c d a
theorem Fb(a:List eo)(p:Nat):eJ R' a p=(eJ R a p).mo g:=by
 rw[eJ,eJ,c.kind,c.text];split
 ·exact c.bad
 ·split
  ·exact c.bad
  ·rfl
theorem aeC{α:Type}{step b:α->Nat->PR α}(j:∀a q,b a q=(step a q).mo g)(d:cq):∀(f:Nat) (a:α) (h:Nat),ji b R' d f a h=(ji step R d f a h).mo g:=by
 intro f;induction f with
 |zero=>intro a h;exact c.zero
 |succ f i=>
  intro a h;rw[ji,ji];refine gj (j a h) fun l q=>?_;dsimp only;rw[c.is];split
  ·rfl
  ·refine gj (j1 c [[44]] q) fun k q1=>?_;exact i _ _
theorem EY{α:Type}{step a:α->Nat->PR α}(e:∀d q,a d q=(step d q).mo g)(b:cq)(d:α)(p:Nat):gA a R' b d p=(gA step R b d p).mo g:=by
 rw[gA,gA,c.is,c.len];split
 ·rfl
 ·exact aeC c e _ _ _ _
theorem YC(a p:Nat):sT a R' p=(sT a R p).mo g:=by
 rw[sT,sT,c.kind,c.text];split
 ·exact c.bad
 ·split
  ·split
   ·exact c.bad
   ·rfl
  ·exact c.bad
variable{ex zo:Nat->PR Ex} (he:∀q,zo q=(ex q).mo g)
include he
theorem wO(b:cq)(p:Nat):fj zo R' b p=(fj ex R b p).mo g:=by
 rw[fj,fj];refine gj (j1 c [b] p) fun d q=>?_;exact he q
theorem aeF(a:List eo)(p:Nat):lP zo R' a p=(lP ex R a p).mo g:=by
 rw[lP,lP];refine gj (Fb c a p) fun b q=>?_;exact rl
theorem aeG(a:List eo)(p:Nat):kJ zo R' a p=(kJ ex R a p).mo g:=by
 rw[kJ,kJ];refine gj (Fb c a p) fun b q=>?_;dsimp only;refine gj (mq c q) fun b q=>?_;exact rl
theorem OQ(a:cq)(b:Nat)(kids:List Ex)(p:Nat):jP zo R' a b kids p=(jP ex R a b kids p).mo g:=by
 rw[jP,jP];exact iZ (EY c (aeF c he) a [] p)
omit c in
theorem aeK(a:List Ex)(p:Nat):oc zo a p=(oc ex a p).mo g:=by
 rw[oc,oc];exact iZ (he p)
include ht
theorem aeM(a:List eo)(p:Nat):jW vv zo R' a p=(jW ty ex R a p).mo g:=by
 rw[jW,jW];refine gj (Fb c a p) fun b q=>?_;dsimp only;refine gj (j1 c [[58]] q) fun b q=>?_;dsimp only;refine gj (ht q) fun b q=>?_;dsimp only;rw[c.is];split
 ·exact iZ (he _)
 ·rfl
end
section
variable{R R':Rd} {g:Nat->Nat} (c:Mv R R' g)
include c
omit c in
theorem lT{α:Type}{b a:Prop}[Decidable b][Decidable a]{k j d c:PR α}(i:a=b)(h:d=k.mo g)(f:c=j.mo g):(if a then d else c)=(if b then k else j).mo g:=by
 subst i h f;by_cases e:a
 ·rw[if_pos e,if_pos e]
 ·rw[if_neg e,if_neg e]
theorem afm{next b:Nat->PR Ex}(k:∀q,b q=(next q).mo g)(d:List cq):∀(f:Nat) (h:Ex) (i:Nat),zf b d R' f h i=(zf next d R f h i).mo g:=by
 intro f;induction f with
 |zero=>intro h i;exact c.zero
 |succ f j=>
  intro h i;rw[zf,zf,c.op];split
  ·rfl
  ·refine gj (k _) fun l q=>?_;exact j _ _
theorem H7{next b:Nat->PR Ex}(f:∀q,b q=(next q).mo g)(d:List cq)(p:Nat):oH b d R' p=(oH next d R p).mo g:=by
 rw[oH,oH,c.len];refine gj (f _) fun h q=>?_;exact afm c f d _ _ _
variable{ty vv:Nat->PR Ty} (ht:∀q,vv q=(ty q).mo g)
include ht
theorem ab6(b:cq)(p:Nat):iH vv R' b p=(iH ty R b p).mo g:=by
 rw[iH,iH,c.is];have d:(if c5 (R.tok p) [58,58]then(dh R' (p+1)).map fun f=>(4,b,f)else .ok (3,[],b) p:PR (Nat×cq×cq))=(if c5 (R.tok p) [58,58]then(dh R (p+1)).map fun f=>(4,b,f)else .ok (3,[],b) p:PR (Nat×cq×cq)).mo g:=by
  split
  ·exact iZ (mq c _)
  ·rfl
 refine gj d fun h q=>?_;obtain⟨j,k,i⟩:=h;dsimp only;rw[c.is];split
 ·exact iZ (Im c ht _)
 ·rfl
omit ht
variable{ex zo:Nat->PR Ex} (he:∀q,zo q=(ex q).mo g)
include he
theorem aeN:∀(b:Nat) (d:Ex) (h:Nat),p8 zo R' b d h=(p8 ex R b d h).mo g:=by
 intro b;induction b with
 |zero=>intro d h;exact c.zero
 |succ b f=>
  intro d h;rw[p8,p8,c.is,c.is];split
  ·refine gj (mq c _) fun i q=>?_;exact f _ _
  ·split
   ·refine gj (OQ c he [41] 9 [d] _) fun i q=>?_;exact f _ _
   ·rfl
theorem afn(p:Nat):xI zo R' p=(xI ex R p).mo g:=by
 rw[xI,xI];refine gj (mq c _) fun b q=>?_;dsimp only;refine gj (wO c he [61] q) fun b q=>?_;exact rl
include ht
theorem aeO(p:Nat):gd vv zo R' p=(gd ty ex R p).mo g:=by
 have d:∀k,((R'.tok p).kind=k)=((R.tok p).kind=k):=fun k=>by rw[c.kind]
 have b:∀i,(c5 (R'.tok p) i=true)=(c5 (R.tok p) i=true):=fun i=>by rw[c.is]
 rw[gd,gd];refine lT (d _) (YC c _ _) ?_;refine lT (d _) (by rw[c.text];try rfl) ?_;refine lT (d _) (by rw[c.text];exact ab6 c ht _ _) ?_;refine lT (b _) Z ?_;refine lT (b _) Z ?_;refine lT (b _) (OQ c he _ _ _ _) ?_;refine lT (b _) ?_ ?_
 ·refine gj (mq c _) fun f q=>?_;dsimp only;refine gj (wO c he [58] q) fun f q=>?_;exact iZ (j1 c _ _)
 refine lT (b _) ?_ ?_
 ·refine gj (ht _) fun f q=>?_;dsimp only;refine gj (j1 c [[124]] q) fun f q=>?_;exact iZ (EY c (aeK he) _ _ _)
 refine lT (b _) ?_ c.bad;refine gj (he _) fun h q=>?_;dsimp only;have l:(if c5 (R.tok q) [58]then(vv (q+1)).map fun j=>.mk 11 [] [] [] 0 [j] [] [h]else .ok h q:PR Ex)=(if c5 (R.tok q) [58]then(ty (q+1)).map fun j=>.mk 11 [] [] [] 0 [j] [] [h]else .ok h q:PR Ex).mo g:=by
  split
  ·exact iZ (ht _)
  ·rfl
 rw[c.is];refine gj l fun f q=>?_;exact iZ (j1 c _ _)
theorem aeP(p:Nat):od vv zo R' p=(od ty ex R p).mo g:=by
 rw[od,od,c.len];refine gj (aeO c ht he p) fun b q=>?_;exact aeN c he _ _ _
theorem afo:∀(b a:Nat),tP vv zo R' b a=(tP ty ex R b a).mo g:=by
 intro b;induction b with
 |zero=>intro a;exact c.zero
 |succ b d=>
  intro a;rw[tP,tP];refine lT (by rw[c.is]) (iZ (d _)) ?_;exact lT (by rw[c.is]) (YC c _ _) (aeP c ht he a)
theorem afp(p:Nat):acI vv zo R' p=(acI ty ex R p).mo g:=H7 c (fun q=>by rw[c.len];exact afo c ht he _ q) _ p
theorem YI(p:Nat):wX vv zo R' p=(wX ty ex R p).mo g:=H7 c (fun q=>afp c ht he q) _ p
theorem afq:∀(d b:Nat),qj vv zo R' d b=(qj ty ex R d b).mo g:=by
 intro d;induction d with
 |zero=>intro b;exact c.zero
 |succ d f=>
  intro b;rw[qj,qj];refine lT (by rw[c.is]) (iZ (f _)) ?_
  ·refine gj (YI c ht he b) fun h q=>?_;dsimp only;rw[c.op];split
   ·rfl
   ·exact iZ (YI c ht he _)
theorem afr(p:Nat):acJ vv zo R' p=(acJ ty ex R p).mo g:=H7 c (fun q=>by rw[c.len];exact afq c ht he _ q) _ p
theorem afL(p:Nat):Wo vv zo R' p=(Wo ty ex R p).mo g:=H7 c (fun q=>afr c ht he q) _ p
theorem aeQ(p:Nat):oT vv zo R' p=(oT ty ex R p).mo g:=by
 rw[oT,oT];refine gj (sc c ht p) fun b q=>?_;dsimp only;refine gj (he q) fun b q=>?_;dsimp only;refine gj (wO c he [116,104,101,110] q) fun b q=>?_;exact rl
theorem ab9(p:Nat):mz vv zo R' p=(mz ty ex R p).mo g:=by
 rw[mz,mz];refine gj (sc c ht p) fun b q=>?_;dsimp only;refine gj (he q) fun b q=>?_;dsimp only;refine gj (j1 c [[123]] q) fun b q=>?_;exact iZ (EY c (aeG c he) _ _ _)
theorem aeR(p:Nat):lQ vv zo R' p=(lQ ty ex R p).mo g:=by
 rw[lQ,lQ];refine gj (sc c ht p) fun b q=>?_;dsimp only;refine gj (mq c q) fun b q=>?_;dsimp only;refine gj (j1 c [[44]] q) fun b q=>?_;dsimp only;refine gj (mq c q) fun b q=>?_;dsimp only;refine gj (wO c he [105,110] q) fun b q=>?_;dsimp only;refine gj (wO c he [102,114,111,109] q) fun b q=>?_;exact rl
theorem aeS(p:Nat):funcF vv zo R' p=(funcF ty ex R p).mo g:=by
 rw[funcF,funcF];refine gj (j1 c [[40]] p) fun b q=>?_;dsimp only;refine gj (EY c (aeM c ht he) [41] [] q) fun b q=>?_;exact rl
theorem afM(p:Nat):ET vv zo R' p=(ET ty ex R p).mo g:=by
 rw[ET,ET];have a:∀b,((R'.tok p).kind=5/\(R'.tok p).text=b)=((R.tok p).kind=5/\(R.tok p).text=b):=fun b=>by rw[c.kind,c.text]
 refine lT (a _) (afn c he _) ?_;refine lT (a _) (aeQ c ht he _) ?_;refine lT (a _) (ab9 c ht he _) ?_;refine lT (a _) (aeR c ht he _) ?_;exact lT (a _) (aeS c ht he _) (afL c ht he _)
omit ht he
theorem XI:∀(b a:Nat),Ih R' b a=(Ih R b a).mo g:=by
 intro b;induction b with
 |zero=>intro a;exact c.zero
 |succ b d=>
  intro a;rw[Ih,Ih];exact afM c (fun q=>by rw[c.len];exact Yz c _ q) d a
end
def moM{α:Type}(g:Nat->Nat):PR (α×List Nat)->PR (α×List Nat)
 |.ok a q=>.ok (a.1,a.2.map g) q
 |.bad c b=>.bad (g c) b
section
variable{R R':Rd} {g:Nat->Nat} (c:Mv R R' g)
include c
theorem OZ(p:Nat):iS R' p=(iS R p).mo g:=by
 rw[iS,iS,c.kind];split
 ·exact zF c _ _
 ·exact mq c _
theorem aeT:∀(b:Nat) (f:cq) (d:Nat),oU R' b f d=(oU R b f d).mo g:=by
 intro b;induction b with
 |zero=>intro f d;exact c.zero
 |succ b h=>
  intro f d;rw[oU,oU,c.is];split
  ·refine gj (mq c _) fun a q=>?_;exact h _ _
  ·rfl
theorem Zc(p:Nat):hP R' p=(hP R p).mo g:=by
 rw[hP,hP,c.len];refine gj (mq c p) fun a q=>?_;dsimp only;refine gj (aeT c _ a q) fun b q=>?_;dsimp only;split
 ·rfl
 ·exact c.bad
theorem aeU{α:Type}{step b:α->Nat->PR α}(i:∀a q,b a q=(step a q).mo g):∀(d:Nat) (a:α) (f:Nat),qY b R' d a f=(qY step R d a f).mo g:=by
 intro d;induction d with
 |zero=>intro a f;exact c.zero
 |succ d h=>
  intro a f;rw[qY,qY];refine gj (i a f) fun a q=>?_;dsimp only;rw[c.is];split
  ·exact h _ _
  ·exact iZ (j1 c _ _)
theorem R9{α:Type}{step a:α->Nat->PR α}(d:∀b q,a b q=(step b q).mo g)(b:α)(p:Nat):jZ a R' b p=(jZ step R b p).mo g:=by
 rw[jZ,jZ,c.is,c.len];split
 ·exact aeU c d _ _ _
 ·rfl
theorem afs(p:Nat):og R' p=(og R p).mo g:=by
 rw[og,og,c.is,c.is];split
 ·split
  ·exact iZ (zF c _ _)
  ·rfl
 ·rfl
theorem acg(a:List mM)(p:Nat):gG R' a p=(gG R a p).mo g:=by
 have b:xJ (R'.tok p)=xJ (R.tok p):=by rw[xJ,xJ,c.is,c.is,c.is]
 rw[gG,gG,b];split
 ·exact c.bad
 ·exact iZ (zF c _ _)
theorem aeV(a b:Bool)(n:cq)(p:Nat):kQ R' a b n p=(kQ R a b n p).mo g:=by
 rw[kQ,kQ];refine gj (mq c p) fun d q=>?_;dsimp only;refine gj (rn c [58,58] q (OZ c)) fun d q=>?_;exact iZ (rn c _ _ (OZ c))
theorem adk(p:Nat):iu R' p=(iu R p).mo g:=by
 rw[iu,iu];refine gj (Zc c p) fun b q=>?_;exact iZ (rn c _ _ (mq c))
theorem XV:∀(b:Nat) (f:List vY) (d:Nat),fT R' b f d=(fT R b f d).mo g:=by
 intro b;induction b with
 |zero=>intro f d;exact c.zero
 |succ b h=>
  intro f d;rw[fT,fT,c.is];split
  ·refine gj (adk c _) fun i q=>?_;exact h _ _
  ·rfl
variable{ty vv:Nat->PR Ty} (ht:∀q,vv q=(ty q).mo g)
include ht
theorem aeW(a:cq)(t0:Ty)(p:Nat):oI vv R' a t0 p=(oI ty R a t0 p).mo g:=by
 rw[oI,oI,c.is];split
 ·exact iZ (ht _)
 ·rfl
theorem adl(a:List mM)(p:Nat):ia vv R' a p=(ia ty R a p).mo g:=by
 rw[ia,ia];refine gj (zF c 2 p) fun b q=>?_;dsimp only;rw[c.is];split
 ·exact iZ (ht _)
 ·rfl
theorem aeX(a b:Bool)(n:cq)(p:Nat):kt vv R' a b n p=(kt ty R a b n p).mo g:=by
 rw[kt,kt];refine gj (zF c 2 p) fun d q=>?_;dsimp only;refine gj (R9 c (acg c) [] q) fun d q=>?_;dsimp only;refine gj (aeW c ht [62,58] zm q) fun d q=>?_;dsimp only;refine gj (aeW c ht [60,58] cV q) fun d q=>?_;exact iZ (rn c _ _ ht)
variable{ex zo:Nat->PR Ex} (he:∀q,zo q=(ex q).mo g)
include he
theorem aeY(a b:Bool)(n:cq)(p:Nat):mB vv zo R' a b n p=(mB ty ex R a b n p).mo g:=by
 rw[mB,mB];refine gj (mq c p) fun d q=>?_;dsimp only;refine gj (R9 c (adl c ht) [] q) fun d q=>?_;dsimp only;refine gj (rn c [58] q ht) fun d q=>?_;exact iZ (rn c _ _ he)
theorem aft(p:Nat):j6 vv zo R' p=(j6 ty ex R p).mo g:=by
 rw[j6,j6];refine gj (afs c p) fun b q=>?_;dsimp only;rw[c.is,c.is,c.is];split
 ·exact aeX c ht _ _ _ _
 split
 ·exact aeY c ht he _ _ _ _
 split
 ·exact aeV c _ _ _ _
 ·exact c.bad
theorem aeZ:∀(d:Nat) (e:List jX) (a:List Nat) (b:Nat),ib vv zo R' d e (a.map g) b=moM g (ib ty ex R d e a b):=by
 intro d;induction d with
 |zero=>intro e a b;rw[ib,ib,moM,c.z]
 |succ d f=>
  intro e a b;rw[ib,ib,c.kind,aft c ht he,c.off];split
  ·cases j6 ty ex R b with
   |bad i j=>rfl
   |ok h q=>
    have:=f (e++[h]) (a++[(R.tok b).off]) q;rw[agA]at this;exact this
  ·rfl
theorem afN(p:Nat):tQ vv zo R' p=moM g (tQ ty ex R p):=by
 rw[tQ,tQ,rn c _ p (Zc c),c.len];cases dI (hP R) R [109,111,100,117,108,101] p with
 |bad b a=>rfl
 |ok s q=>
  dsimp only[PR.mo];rw[XV c];cases fT R R.ts.length [] q with
  |bad b a=>rfl
  |ok d q=>
   dsimp only[PR.mo];have:=aeZ c ht he R.ts.length [] [] q;rw[agI]at this;rw[this];cases ib ty ex R R.ts.length [] [] q<;>rfl
omit ht he
theorem Zd(p:Nat):AD R' p=moM g (AD R p):=afN c (fun q=>by rw[c.len];exact Yz c _ q) (fun q=>by rw[c.len];exact XI c _ q) p
end
def pR:Nat->cq
 |0=>[32]
 |1=>[10,9]
 |2=>[32,47,47,32,120,10]
 |_=>[32,32]
def zI:cq:=[48,49,50,51,52,53,54,55,56,57,97,98,99,100,101,102]
def KR(n:Nat):UInt8:=zI.getD n 0
def qc(c:UInt8):cq:=if c=34∨c=92 then [92,c]else if c=10 then [92,110]else if 32<=c/\c<=126 then [c]else [92,120,KR (c.toNat/16),KR (c.toNat%16)]
def sI(a:cq):cq:=34::(a.flatMap qc++[34])
def nn(t:Tok):cq:=if t.kind=4 then sI t.text else t.text
def iF:List (Tok×Nat)->cq
 |[]=>[]
 |x::a=>pR x.2++(nn x.1++iF a)
def H4:Nat->List (Tok×Nat)->List Tok
 |_,[]=>[]
 |n,a::b=>⟨a.1.kind,a.1.text,n+(pR a.2).length⟩::H4 (n+(pR a.2).length+(nn a.1).length) b
def F3(a:Nat):∃c b,pR a=c::b/\(c=32∨c=10):=by
 match a with
 |0=>exact⟨_,_,rfl,.inl rfl⟩
 |1=>exact⟨_,_,rfl,.inr rfl⟩
 |2=>exact⟨_,_,rfl,.inl rfl⟩
 |_+3=>exact⟨_,_,rfl,.inl rfl⟩
def EZ(a:Nat):1<=(pR a).length/\(pR a).length<=6:=by
 match a with
 |0=>exact⟨dc,dc⟩
 |1=>exact⟨dc,dc⟩
 |2=>exact⟨dc,dc⟩
 |_+3=>exact⟨show 1<=2 by decide,show 2<=6 by decide⟩
def ae0(b:Nat)(l:cq)(a:dZ false l=0):dZ false (pR b++l)=(pR b).length:=by
 match b with
 |0=>show 1+dZ false l=1;rw[a]
 |1=>show 1+(1+dZ false l)=2;rw[a]
 |2=>show 1+(1+(1+(1+(1+(1+dZ false l)))))=6;rw[a]
 |_+3=>show 1+(1+dZ false l)=2;rw[a]
def ae1:∀n:Nat,n<16->wC (KR n)=some n:=by
 intro n a
 match n,a with
 |0,_|1,_|2,_|3,_|4,_|5,_|6,_|7,_|8,_|9,_|10,_|11,_|12,_|13,_|14,_|15,_=>rfl
 |n+16,a=>exact absurd a om
def ae2(c:UInt8):UInt8.ofNat (16*(c.toNat/16)+c.toNat%16)=c:=by
 rw[Nat.div_add_mod];exact UInt8.ofNat_toNat
theorem afu(c:UInt8){l g:cq}(m:fv l=some (g,E)):fv (qc c++l)=some (c::g,E+(qc c).length):=by
 have a:∀{h:Nat} {f:UInt8},(fv l).map (fun j=>(f::j.1,j.2+h))=some (f::g,E+h):=fun{h f}=>by rw[m];try rfl
 unfold qc;by_cases b:c=34∨c=92
 ·rw[if_pos b,agk,agk,agv,p6];dsimp only;rw[if_pos b];exact a
 rw[if_neg b];by_cases d:c=10
 ·rw[if_pos d,agk,agk,agv,p6,d];dsimp only;rw[if_neg dc,if_pos rfl];exact a
 rw[if_neg d];by_cases e:32<=c/\c<=126
 ·rw[if_pos e,agk,agv,Df (fun i=>b (.inl i)) (UInt8.not_lt.2 e.1) (fun i=>b (.inr i))];exact a
 ·rw[if_neg e];simp only[agk,agv];rw[p6];have k:=c.toNat_lt;try dsimp only
  rw[if_neg dc,if_neg dc,if_pos rfl];try dsimp only
  rw[ae1 _ om,ae1 _ om];dsimp only;rw[ae2];exact a
def afO:∀(a b:cq),fv (a.flatMap qc++34::b)=some (a,(a.flatMap qc).length+1):=by
 intro a;induction a with
 |nil=>intro b;exact De b
 |cons c a d=>
  intro b;rw[agH,agz,afu c (d b),agj];congr 2;omega
def ae3{l:cq}(a:jE l≠[]):jE l∈uX++Oc.map fun i=>[i]:=by
 unfold jE at a⊢;split at a
 ·rename_i h e;exact List.mem_append_left _ (List.mem_of_find?_eq_some e)
 ·rename_i e;split at a
  ·exact absurd Z a
  ·rename_i c k;split at a
   ·rename_i d;rw[if_pos d];refine List.mem_append_right _ (List.mem_map.2 ⟨c,?_,Z⟩);have b:∀(l:cq) (g:Nat),0<=indexByte l c.toNat g->c∈l:=by
     intro l;induction l with
     |nil=>intro g a;exact absurd (show(0:Int)<= -1 from a) dc
     |cons h l f=>
      intro g a;rw[indexByte]at a;split at a
      ·rename_i j;have:=Nat.eq_of_beq_eq_true j;rw[UInt8.toNat_inj.1 this];exact List.mem_cons_self
      ·exact List.mem_cons_of_mem _ (f _ a)
    exact b _ _ d
   ·exact absurd Z a
def Raw(d:Nat)(t a:cq):Prop:=a≠[]/\∀c b,c=32∨c=10->oa (a++c::b)=.ok d t a.length/\dZ false (a++c::b)=0
def afv:∀b∈uX++Oc.map fun d=>[d],Raw 6 b b:=by
 intro b ht;simp only[uX,Oc,agp,agI,agk,agv,agM,List.not_mem_nil,or_false]at ht;refine⟨?_,fun c e a=>?_⟩
 ·rintro rfl;simp at ht
 ·rcases a with rfl|rfl<;>rcases ht with rfl|rfl|rfl|rfl|rfl|rfl|rfl|rfl|rfl|rfl|rfl|rfl|rfl|rfl|rfl|rfl|rfl|rfl|rfl|rfl|rfl|rfl|rfl|rfl|rfl<;>exact⟨rfl,rfl⟩
def DU{c:UInt8}(a:c=32∨c=10):isWord c=false/\isDigit c=false:=by rcases a with rfl|rfl<;>exact⟨rfl,rfl⟩
theorem Sb(p:UInt8->Bool){c:UInt8}(e:p c=false)(f:cq):∀a:cq,a.all p=true->et p (a++c::f)=a.length:=by
 intro a;induction a with
 |nil=>intro _;rw[agv,p5,e];try rfl
 |cons g a b=>
  intro d;rw[List.all_cons,Bool.and_eq_true]at d;rw[agk,p5,if_pos d.1,b d.2];try rfl
variable{J:UInt8} {F:cq}
def Zm(b:isWord J=true):dZ false (J::F)=0:=by
 have a:J≠47/\J≠32/\J≠9/\J≠10/\J≠13:=by
  refine⟨?_,?_,?_,?_,?_⟩<;>(rintro rfl;exact absurd b dc)
 obtain⟨a,c,g,d,f⟩:=a;rw[dZ,if_neg (fun e=>a e.1),if_neg (by rintro(e|e|e|e)<;>contradiction)]
def ZZ{l t:cq}{q n:Nat}(b:oa l=.ok q t n):Raw q t (nn ⟨q,t,0⟩):=by
 cases l with
 |nil=>cases b
 |cons d l=>
  rw[oa]at b;split at b
  ·rename_i j;have a:=QO isWord (d::l);have o:et isWord (d::l)=et isWord l+1:=by rw[p5,if_pos (Mm j)]
   have B:q≠4/\t=(d::l).take (et isWord (d::l))/\∀y,nM t y=.ok q t y:=by
    unfold nM at b;split at b
    ·rename_i h;cases b;exact⟨dc,rfl,fun y=>by rw[nM,if_pos h]⟩
    ·rename_i h;split at b
     ·rename_i i;cases b;exact⟨dc,rfl,fun y=>by rw[nM,if_neg h,if_pos i]⟩
     ·rename_i i;split at b
      ·rename_i s;cases b;exact⟨dc,rfl,fun y=>by rw[nM,if_neg h,if_neg i,if_pos s]⟩
      ·cases b
   obtain⟨x,ht,h⟩:=B;have e:nn ⟨q,t,0⟩=t:=if_neg x;rw[e];rw[<-ht]at a;rw[o,agE]at ht;refine⟨by rw[ht];simp,fun c r k=>?_⟩;have f:=Sb isWord (DU k).1 r t a;refine⟨?_,?_⟩
   ·rw[ht]at f⊢;rw[agk]at f⊢;rw[oa,if_pos j,f,<-agk,List.take_left',<-ht]
    ·exact h _
    ·rfl
   ·rw[ht,agk];exact Zm (Mm j)
  ·rename_i j;split at b
   ·rename_i p;have a:=QO isDigit (d::l);have A:isWord d=true:=by rw[isWord,p];simp
    have o:et isDigit (d::l)=et isDigit l+1:=by rw[p5,if_pos p]
    unfold mZ at b;split at b
    ·cases b
    ·rename_i m;cases b;have e:nn ⟨3,(d::l).take (et isDigit (d::l)),0⟩=(d::l).take (et isDigit (d::l)):=if_neg (show ¬(3:Nat)=4 by decide);rw[e];generalize ht:(d::l).take (et isDigit (d::l))=t at m a;rw[o,agE]at ht;refine⟨by rw[<-ht];simp,fun c r k=>?_⟩;have f:=Sb isDigit (DU k).2 r t a;refine⟨?_,?_⟩
     ·rw[<-ht]at f⊢;rw[agk]at f⊢;rw[oa,if_neg j,if_pos p,f,<-agk,List.take_left' rfl,ht,mZ,if_neg];rintro(g|g|g)
      ·exact m (.inl g)
      ·exact m (.inr (.inl g))
      ·rw[List.drop_left' rfl]at g;have:isWord c=true:=g;rw[(DU k).1]at this;cases this
     ·rw[<-ht,agk];exact Zm A
   ·split at b
    ·rename_i m;split at b
     ·cases b;have e:nn ⟨4,t,0⟩=sI t:=if_pos rfl;rw[e];refine⟨by simp[sI],fun c r k=>⟨?_,?_⟩⟩
      ·rw[sI,agk,oa,if_neg dc,if_neg dc,if_pos rfl,agz];show(match fv (t.flatMap qc++34::c::r)with|some (D,n)=>Ml.ok 4 D (n+1)|none=>.err 3)=_;rw[afO];simp
      ·rfl
     ·cases b
    ·split at b
     ·cases b
     ·rename_i C;cases b;have e:nn ⟨6,jE (d::l),0⟩=jE (d::l):=if_neg (show ¬(6:Nat)=4 by decide);rw[e];exact afv _ (ae3 C)
inductive Tks:List (Tok×Nat)->Prop
 |fin {t:Tok} {k:Nat} (h:t.kind=0) (ht:t.text=[]):Tks [(t,k)]
 |cons {t:Tok} {k:Nat} {r:List (Tok×Nat)} (h:∃l n,oa l=.ok t.kind t.text n) (hr:Tks r):Tks ((t,k)::r)
def Tks.head{l:List (Tok×Nat)}(a:Tks l):∃b c,l=b::c:=by cases a<;>exact⟨_,_,rfl⟩
def Sc(t:Tok):nn t=nn ⟨t.kind,t.text,0⟩:=rfl
theorem Tks.skip{b:Tok×Nat}{g:List (Tok×Nat)}(a:Tks (b::g)):dZ false (iF (b::g))=(pR b.2).length:=by
 rw[iF];refine ae0 _ _ ?_;cases a with
 |fin e ht=>rw[show nn _=[]from by rw[nn,if_neg (by rw[e];decide),ht]];rfl
 |cons a d=>
  obtain⟨l,k,a⟩:=a;obtain⟨h,q,rfl⟩:=d.head;obtain⟨c,i,j,f⟩:=F3 h.2;rw[iF,j,agk,Sc];exact((ZZ a).2 c _ f).2
theorem ae4:∀(p:List (Tok×Nat)),Tks p->∀(y:Tok×Nat) (A:List (Tok×Nat)),p=y::A->∀(a:cq) (i:Nat),p.length<=i->jF (a++iF p) i (a.length+(pR y.2).length)=.ok (H4 a.length p):=by
 intro p t;induction t with
 |fin r ht=>
  rename_i b d;intro y A x a i l;cases x;have m:nn b=[]:=by rw[nn,if_neg (by rw[r];decide),ht]
  obtain⟨i,rfl⟩:∃g,i=g+1:=⟨i-1,by simp at l;omega⟩;have el:(a++iF [(b,d)]).length=a.length+(pR d).length:=by
   rw[iF,iF,m,List.append_nil,List.append_nil,agj]
  rw[jF,el,if_pos (agn _),H4,H4,r,ht]
 |cons t m D=>
  rename_i b d A;intro y n x a i l;cases x;obtain⟨p,M,t⟩:=t;obtain⟨f,q,rfl⟩:=m.head;obtain⟨i,rfl⟩:∃g,i=g+1:=⟨i-1,by simp at l;omega⟩;have e:=ZZ t;rw[<-Sc]at e;have C:0<(nn b).length:=List.length_pos_iff.2 e.1;obtain⟨c,n,x,L⟩:=F3 f.2;have o:=(e.2 c (n++(nn f.1++iF q)) L).1;have B:iF (f::q)=c::(n++(nn f.1++iF q)):=by rw[iF,x,agk]
  have s:a++iF ((b,d)::f::q)=(a++pR d)++(nn b++iF (f::q)):=by rw[iF];simp only[agz]
  have j:a++iF ((b,d)::f::q)=(a++pR d++nn b)++iF (f::q):=by rw[s,agz (a++pR d)]
  have el:(a++pR d).length=a.length+(pR d).length:=agj;have h:(a++pR d++nn b).length=a.length+(pR d).length+(nn b).length:=by rw[agj,el]
  rw[jF,if_neg]
  ·have d1:(a++iF ((b,d)::f::q)).drop (a.length+(pR d).length)=nn b++iF (f::q):=by rw[s,<-el,List.drop_left]
   have d2:(a++iF ((b,d)::f::q)).drop (a.length+(pR d).length+(nn b).length)=iF (f::q):=by rw[j,<-h,List.drop_left]
   have k:oa (nn b++iF (f::q))=.ok b.kind b.text (nn b).length:=by rw[B];exact o
   rw[d1,k];dsimp only;rw[d2,m.skip,j,<-h,D f q rfl _ i (by simp at l⊢;omega),h];try rfl
  ·rw[j,agj,h];dsimp only;omega
def ado{l:List (Tok×Nat)}(c:Tks l)(f:(iF l).length<=65536):jl (iF l)=.ok (H4 0 l):=by
 obtain⟨b,d,rfl⟩:=c.head;have a:∀l:List (Tok×Nat),l.length<=(iF l).length:=by
  intro l;induction l with
  |nil=>exact agn _
  |cons b l e=>
   have:=(EZ b.2).1;rw[iF];simp only[agj,agq];omega
 have:=ae4 _ c b d rfl [] ((iF (b::d)).length+1) (Nat.le_succ_of_le (a _));rw[jl,if_neg om,c.skip];simpa using this
def adp(s:cq)(h:Nat->Nat):∀(e c i:Nat) (b:List Tok),s.length-c<e->jF s e c=.ok b->Tks (b.zipIdx i|>.map fun k=>(k.1,h k.2)):=by
 intro e;induction e with
 |zero=>intro c i b a;omega
 |succ e g=>
  intro c i b m a;rw[jF]at a;split at a
  ·cases a;exact .fin Z Z
  ·cases ht:oa (s.drop c)with
   |err n=>rw[ht]at a;cases a
   |ok p o l=>
    rw[ht]at a;dsimp only at a;have j:=y7 ht;rw[ago]at j;cases d:jF s e (c+l+dZ false (s.drop (c+l)))with
    |err q n=>rw[d]at a;cases a
    |ok f=>
     rw[d]at a;cases a;rw[agx,agp];exact .cons ⟨_,_,ht⟩ (g _ _ f om d)
def afw:∀(e:Nat) (i:cq),i.length<=e->∀g h,fv i=some (g,h)->g.length<=h:=by
 intro e;induction e with
 |zero=>
  intro i f g h a;cases i with
  |nil=>rw[fv.eq_def]at a;cases a
  |cons _ _=>simp at f
 |succ e ih=>
  intro i f g h a;cases i with
  |nil=>rw[fv.eq_def]at a;cases a
  |cons c n=>
   have j:n.length<=e:=by simpa using f
   have step:∀(q:cq) (p:Nat) (m:UInt8),1<=p->q.length<=e->((fv q).map fun r=>(m::r.1,r.2+p))=some (g,h)->g.length<=h:=by
    intro q p m d h2 h3;exact Ns
   by_cases d:c=34
   ·subst d;rw[De]at a;cases a;simp
   ·by_cases h2:c<32
    ·rw[JI d h2]at a;cases a
    ·by_cases h3:c=92
     ·subst h3;rw[p6]at a;cases n with
      |nil=>cases a
      |cons s b=>
       have k:b.length+1<=e:=by simpa using j
       simp only at a;split at a
       ·exact step b 2 _ dc om a
       ·split at a
        ·exact step b 2 _ dc om a
        ·split at a
         ·cases b with
          |nil=>cases a
          |cons m o=>
           cases o with
           |nil=>cases a
           |cons y l=>
            simp only at a;split at a
            ·exact step l 4 _ dc (by simp at k;omega) a
            ·cases a
         ·cases a
     ·rw[Df d h2 h3]at a;exact step n 1 c dc j a
def Z0{l:cq}{e n:Nat}{t:cq}(a:oa l=.ok e t n):t.length<=n:=by
 cases l with
 |nil=>cases a
 |cons c b=>
  rw[oa]at a;split at a
  ·have:t=(c::b).take (et isWord (c::b))/\n=et isWord (c::b):=by
    unfold nM at a;split at a
    ·cases a;exact⟨rfl,rfl⟩
    ·split at a
     ·cases a;exact⟨rfl,rfl⟩
     ·split at a
      ·cases a;exact⟨rfl,rfl⟩
      ·cases a
   rw[this.1,this.2];exact agS _ _
  ·split at a
   ·unfold mZ at a;split at a
    ·cases a
    ·cases a;exact agS _ _
   ·split at a
    ·split at a
     ·rename_i d;cases a;have:=afw _ _ (agn _) _ _ d;omega
     ·cases a
    ·split at a
     ·cases a
     ·cases a;exact agn _
def afP(c:UInt8):(qc c).length<=4:=by
 unfold qc;repeat' split
 all_goals simp
def adq(a:cq):(sI a).length<=4*a.length+2:=by
 have:∀a:cq,(a.flatMap qc).length<=4*a.length:=by
  intro a;induction a with
  |nil=>exact agn _
  |cons c a b=>
   have:=afP c;rw[agH];simp only[agj,agq];omega
 have:=this a;simp only[sI,agq,agj,List.length_nil];omega
def Z1(t:Tok):(nn t).length<=4*t.text.length+2:=by
 unfold nn;split
 ·exact adq _
 ·omega
def ae5(e:Nat->Nat)(s:cq):∀(j b g:Nat) (c:List Tok),b<=s.length->jF s j b=.ok c->(iF (c.zipIdx g|>.map fun p=>(p.1,e p.2))).length<=12*(s.length-b)+8:=by
 intro j;induction j with
 |zero=>intro b g c _ a;cases a;simp[iF]
 |succ j n=>
  intro b g c t a;rw[jF]at a;split at a
  ·cases a;have k:=EZ (e g);have d:=Z1 ⟨0,[],s.length⟩;simp only[agx,List.zipIdx_nil,agp,agI,iF,agj,List.length_nil]at d⊢;omega
  ·cases ht:oa (s.drop b)with
   |err y=>rw[ht]at a;cases a
   |ok r x l=>
    rw[ht]at a;dsimp only at a;have m:=y7 ht;have o:=Z0 ht;rw[ago]at m;have h:=y3 false (s.drop (b+l));rw[ago]at h;cases f:jF s j (b+l+dZ false (s.drop (b+l)))with
    |err A y=>rw[f]at a;cases a
    |ok i=>
     rw[f]at a;cases a;have q:=n _ (g+1) i om f;have k:=EZ (e g);have d:=Z1 ⟨r,x,b⟩;rw[agx,agp,iF,agj,agj];dsimp only at d⊢;omega
def uS(a:List Tok)(b:Nat->Nat):cq:=iF (a.zipIdx.map fun c=>(c.1,b c.2))
def ra(a:List Tok)(b:Nat->Nat):List Tok:=H4 0 (a.zipIdx.map fun c=>(c.1,b c.2))
variable{G u:List Tok}
def KN{s:cq}(g:s.length<=800)(c:jl s=.ok u)(a:Nat->Nat):jl (uS u a)=.ok (ra u a)/\(uS u a).length<=9608:=by
 unfold jl at c;split at c
 ·cases c
 ·have b:=y3 false s;have f:=ae5 a s _ _ 0 u b c;have e:=adp s a _ _ 0 u om c;have d:(uS u a).length<=9608:=Nat.le_trans f om;exact⟨ado e (Nat.le_trans d dc),d⟩
def AH(a:List Tok):Nat->Nat
 |0=>0
 |i+1=>(a[i]?.map Tok.off).getD 0
def ae6(a:List Tok):List Tok:=a.zipIdx.map fun b=>⟨b.1.kind,b.1.text,b.2+1⟩
def KY(c a:List Tok):Prop:=a.length=c.length/\∀(e:Nat) (d:Tok),c[e]?=some d->∃b:Tok,a[e]?=some b/\b.kind=d.kind/\b.text=d.text
theorem Rj(b:KY u G):Mv ⟨0,0,ae6 u⟩ ⟨0,0,G⟩ (AH G):=by
 refine⟨by simp[ae6,b.1],fun f=>?_,Z⟩;rw[Rd.tok,Rd.tok];show(G[f]?).getD _=_;simp only[ae6];rw[agy,List.getElem?_zipIdx];cases a:u[f]? with
 |none=>
  have c:=agL.1 a;rw[agB (by rw[b.1];exact c)];rfl
 |some i=>
  obtain⟨h,g,e,d⟩:=b.2 _ _ a;rw[g];simp only[Option.map_some,Option.getD_some,Nat.zero_add,AH,g,<-e,<-d]
def KY.refl(a:List Tok):KY a a:=⟨rfl,fun _ b c=>⟨b,c,rfl,rfl⟩⟩
def adr:∀(a:List Tok) (b:Nat->Nat) (g i:Nat),(H4 i (a.zipIdx g|>.map fun h=>(h.1,b h.2))).length=a.length/\∀(c:Nat) (f:Tok),a[c]?=some f->∃d:Tok,(H4 i (a.zipIdx g|>.map fun h=>(h.1,b h.2)))[c]?=some d/\d.kind=f.kind/\d.text=f.text:=by
 intro a b;induction a with
 |nil=>intro g i;exact⟨rfl,fun c f n=>by simp at n⟩
 |cons f a k=>
  intro g i;obtain⟨j,l⟩:=k (g+1) (i+(pR (b g)).length+(nn f).length);rw[agx,agp,H4];refine⟨by rw[agq,agq,j],fun c m e=>?_⟩;cases c with
  |zero=>simp only[agN,Option.some.injEq]at e;subst e;exact⟨_,rfl,rfl,rfl⟩
  |succ c=>exact l c m e
def Sh(a:List Tok)(b:Nat->Nat):KY a (ra a b):=adr a b 0 0
def Blank{α:Type}(d a:List Tok)(c b:α×Nat×Nat):Prop:=b.1=c.1/\b.2.2=c.2.2/\∃e,c.2.1=AH d e/\b.2.1=AH a e
def XW{s o:cq}(e:jl s=.ok u)(d:jl o=.ok G)(c:KY u G):Blank u G (oY s) (oY o):=by
 have b:=Rj (KY.refl u);have a:=Rj c;unfold oY;rw[e,d];dsimp only;rw[show G.length=u.length from c.1,XI b,XI a];cases Ih ⟨0,0,ae6 u⟩ u.length 0 with
 |bad o g=>exact⟨rfl,rfl,o,rfl,rfl⟩
 |ok f q=>
  dsimp only[PR.mo];rw[b.kind,a.kind,b.off,a.off];split
  ·exact⟨Z,Z,_,Z,Z⟩
  split
  ·exact⟨Z,Z,0,Z,Z⟩
  ·exact⟨Z,Z,0,Z,Z⟩
def getD_map(g:Nat->Nat)(a:g 0=0)(l:List Nat)(b:Nat):(l.map g).getD b 0=g (l.getD b 0):=by
 rw[ags,ags,agy];cases l[b]? with
 |none=>exact a.symm
 |some c=>rfl
def ads{s o:cq}(e:jl s=.ok u)(c:jl o=.ok G)(d:KY u G):Blank u G (s6 s) (s6 o):=by
 have b:=Rj (KY.refl u);have a:=Rj d;unfold s6;rw[e,c];dsimp only;rw[Zd b,Zd a];cases AD ⟨0,0,ae6 u⟩ 0 with
 |bad o g=>exact⟨rfl,rfl,o,rfl,rfl⟩
 |ok f q=>
  dsimp only[moM];rw[b.kind,a.kind,b.off,a.off];split
  ·exact⟨Z,Z,_,Z,Z⟩
  split
  ·exact⟨Z,Z,0,Z,Z⟩
  split
  ·exact⟨Z,Z,_,getD_map _ Z _ _,getD_map _ Z _ _⟩
  ·exact⟨Z,Z,0,Z,Z⟩
def lex_lt(s:cq):∀(f c:Nat) (b:List Tok),c<=s.length->jF s f c=.ok b->(∀n∈b,c<=n.off)/\b.Pairwise fun p q=>p.off<q.off:=by
 intro f;induction f with
 |zero=>intro c b _ a;cases a;exact⟨by simp,.nil⟩
 |succ f m=>
  intro c b k a;rw[jF]at a;split at a
  ·cases a;refine⟨fun n ht=>?_,by simp⟩;simp at ht;subst ht;exact k
  ·cases ht:oa (s.drop c)with
   |err r=>rw[ht]at a;cases a
   |ok x n j=>
    rw[ht]at a;dsimp only at a;have l:=y7 ht;rw[ago]at l;have e:=y3 false (s.drop (c+j));rw[ago]at e;cases d:jF s f (c+j+dZ false (s.drop (c+j)))with
    |err t r=>rw[d]at a;cases a
    |ok o=>
     rw[d]at a;cases a;obtain⟨g,i⟩:=m _ _ om d;refine⟨fun h hx=>?_,agF.2 ⟨fun h hx=>?_,i⟩⟩
     ·rcases agM.1 hx with rfl|hx
      ·exact agn _
      ·have:=g h hx;omega
     ·have:=g h hx;show c<h.off;omega
def s7:List (Nat×Nat)->Nat->Option Nat
 |[],_=>none
 |x::b,a=>if a=x.1 then some x.2 else s7 b a
def Z3(b a:List Tok):List (Nat×Nat):=(b.zip a).map fun c=>(c.1.off,c.2.off)
def ae7:∀{b a:List Tok},(b.Pairwise fun k j=>k.off<j.off)->∀{f:Nat} {h d:Tok},b[f]?=some h->a[f]?=some d->s7 (Z3 b a) h.off=some d.off:=by
 intro b;induction b with
 |nil=>intro a _ f h d e;simp at e
 |cons k b i=>
  intro a g f h d e c;cases a with
  |nil=>simp at c
  |cons j a=>
   rw[Z3,List.zip_cons_cons,agp,s7];cases f with
   |zero=>
    simp only[agN,Option.some.injEq]at e c;subst e c;rw[if_pos rfl]
   |succ f=>
    simp only[agO]at e c;have:=(agF.1 g).1 h (List.mem_of_getElem? e);rw[if_neg (by dsimp only;omega)];exact i (agF.1 g).2 e c
def ae8{s:cq}(d:jl s=.ok u)(b:KY u G)(c:Nat):s7 (Z3 u G) (AH u c)=some (AH G c)∨(AH u c=0/\AH G c=0):=by
 cases c with
 |zero=>exact .inr ⟨rfl,rfl⟩
 |succ i=>
  have e:u.Pairwise fun k h=>k.off<h.off:=by
   unfold jl at d;split at d
   ·cases d
   ·exact(lex_lt s _ _ u (y3 false s) d).2
  rw[AH,AH];cases a:u[i]? with
  |none=>
   have f:=agL.1 a;rw[agB (by rw[b.1];exact f)];exact .inr ⟨Z,Z⟩
  |some l=>
   obtain⟨j,g,_⟩:=b.2 _ _ a;rw[g];exact .inl (ae7 e a g)
def qfz:Nat->Bool:=fun a=>agG a 25||agG a 30||agG a 40||agG a 51||agG a 54
variable{H:VS}
def Yt{a:Tm}{r cs:cq}(d:gm a 4=some (.ms 1 1 0 (r.length+1+cs.length) (r.length+1+cs.length))) 
  (b:H=[.gone,.row 1 ((((J::r).map fun c=>[io c]).drop 0).take (r.length+1)++cs.map fun c=>[io c])]) (f:gm a 0=some (cn F)) (g:gm a 3=some (cn zI)) (e:gm a 5=some (b5 E)):
  Gz 0 [(0,cn F),(3,cn zI),(4,Wg (J::r++cs)),(5,b5 E)] (Wh (J::r++cs)) [] .none a H:=by
 subst b;refine .pick 0 [1] ⟨f,g,?_,e,tv⟩ Z Z Z Z Z sm ⟨?_,Th _ _,tv⟩
 ·rw[d];show _=some (V.ms 1 1 0 ((r++cs).length+1) ((r++cs).length+1));rw[agj,Nat.add_right_comm]
 ·show some (cN.row 1 _)=some (hV (jT [1] 2) (bytesRow (J::r++cs)));rw[Mj,bytesRow,agA,agC,agm sm]
def afx(a:cq):(a.flatMap qc).length<=4*a.length:=by
 induction a with
 |nil=>simp
 |cons c d b=>
  have:(qc c).length<=4:=by unfold qc;split<;>(try split)<;>(try split)<;>simp
  simp only[agH,agj,agq];omega
def af0:∀c:Fin 256,IntKind.u8.wrap ((agl c.1).tdiv 16)=agl (c.1/16):=dc
def afF(c:Nat)(a:c<256):IntKind.u8.wrap ((agl c).tdiv 16)=agl (c/16):=af0 ⟨c,a⟩
theorem U4(s:cq)(S:s.length<=65536):b4 C ca p1 [cn s] [] fun r B=>B=[]/\r=.ret (cn (sI s)):=by
 have L:∀i,((s.take i).flatMap qc).length<=4*s.length:=by
  intro i;have h:=afx (s.take i);have f:=List.length_take_le' i s;omega
 refine cv qfz (fun _=>Z) ?_;refine cd.less (dB:=[(0,cn s),(3,cn zI),(4,Wg [34]),(5,b5 0)]) ⟨Z,Z,Z,Z,tv⟩ ?_;refine cd.iter (fun i:Nat=>[(0,cn s),(3,cn zI),(4,Wg (34::(s.take i).flatMap qc)),(5,b5 i)]) (fun i=>Wh (34::(s.take i).flatMap qc)) (fun i=>s.length-i) (fun i=>i<=s.length) ?_ 0 (agD _);intro i T;have N:=L i;have a:s.length<=i->sI s=34::((s.take i).flatMap qc++[34]):=fun t=>by rw[agm t];try rfl
 have hnx:∀t:i<s.length,(s.take (i+1)).flatMap qc=(s.take i).flatMap qc++qc s[i]:=fun t=>by rw[agw t,List.flatMap_append];simp
 generalize (s.take i).flatMap qc=acc at N hnx a;refine aZ (fun q=>?_) (fun q=>?_)
 ·have hi':i<s.length:=ee q;have x:s[i]?=some s[i]:=agu hi';have hnx:=hnx hi';have hg:∀j:Nat,j<=4->(acc.length+1+j)*1<=fy/\acc.length+1+j<=fy:=fun j U=>by unfold fy;omega
  have hf:∀y,Nat.ble (acc.length+1+(y+1)) (acc.length+1)=false:=fun y=>by rw[N3];exact decide_eq_false om
  refine bZ Z (cc s[i] (by rw[ck];exact x) ?_);refine aZ (fun h=>?_) (fun h=>?_)
  ·have e:qc s[i]=[92,s[i]]:=by rw[qc,if_pos (.inl (UInt8.toNat_inj.1 (AJ (b:=34) h)))]
   exact Np
  have O:s[i]≠34:=fun e=>ED (b:=34) h (by rw[e];try rfl);repeat refine de ?_
  refine aZ (fun f=>?_) (fun f=>?_)
  ·have e:qc s[i]=[92,s[i]]:=by rw[qc,if_pos (.inr (UInt8.toNat_inj.1 (AJ (b:=92) f)))]
   exact Np
  have R:s[i]≠92:=fun e=>ED (b:=92) f (by rw[e];try rfl);repeat refine de ?_
  have d:qc s[i]=if s[i]=10 then [92,110]else if 32<=s[i]/\s[i]<=126 then [s[i]]else [92,120,KR (s[i].toNat/16),KR (s[i].toNat%16)]:=by rw[qc,if_neg (fun t=>t.elim O R)]
  refine aZ (fun l=>?_) (fun l=>?_)
  ·have e:qc s[i]=[92,110]:=by rw[d,if_pos (UInt8.toNat_inj.1 (AJ (b:=10) l))]
   repeat refine de ?_
   intro b;refine a6 Z (a6 ⟨Z,Z,by simp,agn _,hg _ (agP Z)⟩ ?_);refine a7 Z (a7 (hf _) ?_);refine⟨i+1,hi',by show s.length-(i+1)<s.length-i;omega,?_,Z,Z⟩;show Gz 0 [(0,cn s),(3,cn zI),(4,Wg (34::(s.take (i+1)).flatMap qc)),(5,b5 (i+1:Nat))] (Wh (34::(s.take (i+1)).flatMap qc)) [] .none _ _;rw[hnx,e];exact Yt (r:=acc) (cs:=[92,110]) Z Z Z Z (int_eq (cp om))
  have M:s[i]≠10:=fun e=>ED (b:=10) l (by rw[e];try rfl);repeat refine de ?_
  rw[if_neg M]at d;by_cases g:32<=s[i].toNat/\s[i].toNat<=126
  ·have e:qc s[i]=[s[i]]:=by rw[d,if_pos ⟨UInt8.le_iff_toNat_le.2 g.1,UInt8.le_iff_toNat_le.2 g.2⟩]
   have k:decide (32<=agl s[i].toNat)=true:=decide_eq_true (by simp only[agt];omega);have n:decide (agl s[i].toNat<=126)=true:=decide_eq_true (by simp only[agt];omega);repeat refine de ?_
   intro b;refine a6 Z (a6 ⟨Z,Z,by simp,agn _,hg _ (agP Z)⟩ ?_);refine a7 Z (a7 (hf _) ?_);refine⟨i+1,hi',by show s.length-(i+1)<s.length-i;omega,?_,Z,Z⟩;show Gz 0 [(0,cn s),(3,cn zI),(4,Wg (34::(s.take (i+1)).flatMap qc)),(5,b5 (i+1:Nat))] (Wh (34::(s.take (i+1)).flatMap qc)) [] .none _ _;rw[hnx,e];exact Yt (r:=acc) (cs:=[s[i]]) Z Z Z Z (int_eq (cp om))
  ·have e:qc s[i]=[92,120,KR (s[i].toNat/16),KR (s[i].toNat%16)]:=by
    rw[d,if_neg];rintro⟨o,p⟩;have o:=UInt8.le_iff_toNat_le.1 o;have p:=UInt8.le_iff_toNat_le.1 p;exact g ⟨o,p⟩
   have ht:=s[i].toNat_lt;have hm:0+(acc.length+1)<=(List.map (fun c=>[io c]) (34::acc)).length:=by simp
   have A:∀j,j<16->nth zI j=some (KR j):=dc;have RB:=A (s[i].toNat/16) om;have hx2:=A (s[i].toNat%16) om;refine aZ (fun k=>?_) (fun k=>?_)
   ·repeat refine de ?_
    have n:decide (agl s[i].toNat<=126)=false:=decide_eq_false (fun n=>g ⟨by have:=of_decide_eq_true k;simp only[agt]at this;omega,by simp only[agt]at n;omega⟩);exact No
   ·exact No
 ·have D:s.length<=i:=dq q;have hf:∀y,Nat.ble (acc.length+1+(y+1)) (acc.length+1)=false:=fun y=>by rw[N3];exact decide_eq_false om
  intro b;refine a6 Z (a6 ⟨Z,Z,by simp,agn _,by unfold fy;show(acc.length+1+1)*1<=_;omega,by unfold fy;show acc.length+1+1<=_;omega⟩ ?_);refine a7 Z (a7 (hf 0) ?_);refine aaN (34::acc++[34]) Z Z ?_ ?_ ?_
  ·show agQ (acc.length+1+1) (agR 0 (agQ (acc.length+1) (agR 0 ((34::acc).map fun c=>[io c]))++[34].map fun c=>[io c]))=(34::acc++[34]).map fun c=>[io c];rw[agC,agm sm,agC,agm sm,agA]
  ·show 0+(acc.length+1+1)<=(agQ (acc.length+1) (agR 0 ((34::acc).map fun c=>[io c]))++[34].map fun c=>[io c]).length;simp
  ·rw[a D];exact a8 0 ⟨Z,Z⟩
variable{v:cO->VS->Prop}
def X1(a:cq)(c:a.length<=65536)(b:v (.ret (cn (sI a))) H):b4 C ca p1 [cn a] H v:=
 cC (U4 a c) rfl rfl b
def Rk(s:cq)(c:UInt8)(e:cq)(b:s=c::e)(d:s.length<4294967296)(a:v (.ret (Ib (oa s))) H):b4 C ca iX [cn s] H v:=by
 refine cC (KW s c e b d) Z ?_ a;cases oa s<;>rfl
def aga:Nat->Bool:=fun a=>agG a 36||agG a 50
def rlT(b:cq)(a:Nat×List Tok):Tm:=[(0,cn b),(5,.ms 0 3 0 a.2.length a.2.length),(6,b5 a.1)]
def rlS(a:List Tok):VS:=[oF a]
def ae9{c a n:Nat}(e:c<=a)(b:a<4294967296)(d:n=1:=by rfl):(c+n)*32<=fy/\c+n<=fy:=by
 unfold fy;omega
variable{w:Nat->Nat}
theorem afy(a:List Tok)(t:Tok):some (cN.row 3 (agQ a.length (agR 0 (a.map fun t=>(rq t).map V.d))++[(rq t).map V.d]))=some (hV w (oF (a++[t]))):=by
 rw[Qa,oF,agA,agC,agm sm];try rfl
def afQ(b:Nat)(a:List Tok)(t:Tok):some (V.ms b 3 0 (a.length+1) (a.length+1))=some (V.ms b 3 0 (a++[t]).length (a++[t]).length):=by simp
def aej(b:cq)(a:Nat)(e:a<=b.length)(f:b.length<4294967296){g:V}(d:g=b5 a)(c:v (.ret (b5 (dZ false (b.drop a)))) H):b4 C ca p2 [cn b,g] H v:=by
 subst d;exact HY b a e f c
theorem Yg(s:cq)(r:∀B,Tn (jl s) B->v B H):b4 C ca Dv [cn s] H v:=by
 refine b4.closed (P:=Tn (jl s)) ?_ Z r;refine cv aga (fun _=>Z) ?_;apply aZ<;>intro N
 ·have f:65536<s.length:=ee (a:=65536) N;refine cU.now Z ⟨Z,Z,?_⟩;rw[jl,if_pos f];try rfl
 ·have f:s.length<=65536:=dq (a:=65536) N;have n:s.length<4294967296:=om;refine HY s 0 (agD _) n ?_;refine cw (dB:=rlT s (dZ false s,[])) (fU:=rlS []) .eS ?_;refine cd.iter (rlT s) (fun t=>rlS t.2) (fun t=>s.length-t.1) (To s) ?_ (dZ false s,[]) ⟨y3 false s,agD _,s.length+1,by show s.length-dZ false s<s.length+1;omega,by rw[Ht]⟩;rintro⟨b,a⟩ ⟨j,c,l,h,d⟩;have j:b<=s.length:=j;have c:a.length<=b:=c;have h:s.length-b<l:=h;have d:jF s (s.length+1) (dZ false s)=(jF s l b).P9 a:=d;obtain⟨l,rfl⟩:∃g,l=g+1:=⟨l-1,om⟩;apply aZ<;>intro p
  ·have e:b<s.length:=ee p;have q:s.drop b=s[b]::s.drop (b+1):=List.drop_eq_getElem_cons e;refine bZ Z (a6 ⟨j,agn _⟩ ?_);rw[List.take_length];refine Rk (s.drop b) _ _ q (by rw[ago];omega) ?_;cases ht:oa (s.drop b)with
   |err S=>
    have he:=Iq ht;refine aZ (fun o=>?_) (fun o=>absurd (l3 o) he);refine cU.drop 0 ?_ ?_ ?_ ?_
    ·exact Z
    ·exact Z
    ·exact Z
    refine cU.now Z ⟨Z,Z,?_⟩;rw[Vy f e ht d];try rfl
   |ok x A i=>
    have y:=y7 ht;rw[ago]at y;have m:b+i<=s.length:=om;have k:=y3 false (s.drop (b+i));rw[ago]at k;intro R;refine a6 Z (a6 ⟨Z,Z,by simp[oF],agn _,ae9 c om⟩ ?_);refine a7 Z (a7 (fG a.length) ?_);refine aej s (b+i) m n (congrArg V.d (congrArg (D.int .i64) (c4 om))) ?_;refine⟨(b+i+dZ false (s.drop (b+i)),a++[⟨x,A,b⟩]),JL e h c ht d,by show s.length-(b+i+dZ false (s.drop (b+i)))<s.length-b;omega,?_,Z,Z⟩;refine .pick 0 [2] ⟨Z,afQ 2 a ⟨x,A,b⟩,int_eq ?_,tv⟩ Z Z Z Z Z dc ⟨afy a ⟨x,A,b⟩,Wk _ _,tv⟩;rw[c4 om];exact c4 om
  ·have e:s.length<=b:=dq p;intro R;refine a6 Z (a6 ⟨Z,Z,by simp[oF],agn _,ae9 c om⟩ ?_);refine a7 Z (a7 (fG a.length) ?_);rw[Tp f e d];refine Oe 1 (a++[⟨0,[],s.length⟩]) (a.length+1) sm ?_;exact Dh a a.length Z ⟨0,[],s.length⟩
def n7:Nat->List (Nat×Nat)->List rL
 |_,[]=>[]
 |k,a::b=>⟨b5 a.1,b5 a.2,k⟩::n7 (k+1) b
def atM(l:List (Nat×Nat)):cN:=.map (n7 0 l) l.length
def Yj(l:List (Nat×Nat))(b:Nat×Nat):∀a,n7 a (l++[b])=n7 a l++[⟨b5 b.1,b5 b.2,a+l.length⟩]:=by
 induction l with
 |nil=>intro a;rfl
 |cons d l c=>
  intro a;show _::n7 (a+1) (l++[b])=_;rw[c];simp only[n7,agk,agq];rw[show a+1+l.length=a+(l.length+1)from by omega]
theorem afz(l:List (Nat×Nat))(a:Nat×Nat):atM (l++[a])=.map (n7 0 l++[⟨b5 a.1,b5 a.2,l.length⟩]) (l.length+1):=by
 rw[atM,Yj,Nat.zero_add,agj];try rfl
theorem F4(n:Nat)(l:List (Nat×Nat)):fW n (atM l)=true:=by
 have:∀(l:List (Nat×Nat)) (b:Nat),(n7 b l).all (fun c=>bd n c.key&&bd n c.val)=true:=by
  intro l;induction l with
  |nil=>intro b;rfl
  |cons d l a=>intro b;simp only[n7,List.all_cons,a];try rfl
 exact this l 0
theorem aac{kd:IntKind}{n:Nat}:∀{l:List (Nat×Nat)} {k i:Nat},∃f,eN (.int kd) (b5 n) (n7 k l) i=some ((s7 l n).map fun g=>(f,b5 g)):=by
 intro l;induction l with
 |nil=>intro k i;exact⟨0,rfl⟩
 |cons a l c=>
  intro k i;have e:eN (.int kd) (b5 n) (n7 k (a::l)) i=match decide (agl n=agl a.1)with
   |true=>some (some (i,b5 a.2))
   |false=>eN (.int kd) (b5 n) (n7 (k+1) l) (i+1):=by
   show(match tY .i64 .i64,decide (agl n=agl a.1)with
    |true,true=>some (some (i,b5 a.2))
    |true,false=>eN (.int kd) (b5 n) (n7 (k+1) l) (i+1)
    |false,_=>none)=_
   rw[show tY .i64 .i64=true from rfl];cases decide (agl n=agl a.1)<;>rfl
  rw[e,s7];by_cases b:n=a.1
  ·refine⟨i,?_⟩;rw[if_pos b,decide_eq_true (by rw[b])];rfl
  ·obtain⟨f,d⟩:=c (k:=k+1) (i:=i+1);refine⟨f,?_⟩;rw[if_neg b,decide_eq_false (fun h=>b (by simp only[agt]at h;omega))];exact d
def Yl{l:List (Nat×Nat)}{n:Nat}(d:∀a∈l,a.1<n):s7 l n=none:=by
 induction l with
 |nil=>rfl
 |cons e l b=>
  rw[s7,if_neg (by have:=d e sm;omega)];exact b fun a c=>d a (by simp[c])
inductive KO:cq->D->Prop
 |nil:KO [] .ci
 |ps {b o cap:Nat} {l:cq}:KO l (.ps b o 1 cap (l.map fun c=>[uy c]))
def kF(l:cq)(a:Nat):Nat:=(l.getD a 0).toNat%4
def U7(a b:List (Tok×Nat)):iF (a++b)=iF a++iF b:=by
 induction a with
 |nil=>rfl
 |cons d e c=>rw[agk,iF,iF,c];simp
def aek{l:List (Tok×Nat)}(a:E<l.length):iF (l.take (E+1))=iF (l.take E)++pR l[E].2++nn l[E].1:=by
 rw[agw a,U7];simp[iF]
def afA(l:List (Tok×Nat))(a:Nat):(iF (l.take a)).length<=(iF l).length:=by
 conv=>rhs;rw[<-List.take_append_drop a l,U7,agj]
 omega
def afa:∀(b:List (Tok×Nat)) (c a:Nat) (d:a<b.length),(H4 c b)[a]?=some ⟨b[a].1.kind,b[a].1.text,c+(iF (b.take a)).length+(pR b[a].2).length⟩:=by
 intro b;induction b with
 |nil=>intro c a d;cases d
 |cons f g e=>
  intro c a d;cases a with
  |zero=>simp[H4,iF]
  |succ a=>
   rw[H4,agO,e _ a (Nat.lt_of_succ_lt_succ d)];simp only[agE,iF,agj,List.getElem_cons_succ];congr 2;omega
structure Gd (ts:List Tok) (ks:Nat->Nat) (i:Nat) (out:cq) (m:List (Nat×Nat)):Prop where
 out:out=iF ((ts.zipIdx.map fun x=>(x.1,ks x.2)).take i)
 m:m=(Z3 ts (ra ts ks)).take i
def Gd.zero:Gd u w 0 [] []:=⟨rfl,rfl⟩
def zl:(u.zipIdx.map fun a=>(a.1,w a.2)).length=u.length:=by simp
def zg(b:E<u.length):(u.zipIdx.map fun a=>(a.1,w a.2))[E]'(by rw[zl];exact b)=(u[E],w E):=by simp
variable{z:List (Nat×Nat)}
def Gd.next(d:Gd u w E F z)(b:E<u.length):Gd u w (E+1) (F++pR (w E)++nn u[E]) (z++[(u[E].off,(F++pR (w E)).length)]):=by
 have c:E<(u.zipIdx.map fun f=>(f.1,w f.2)).length:=by rw[zl];exact b
 refine⟨?_,?_⟩
 ·rw[aek c,<-d.out,zg b]
 ·have a:=afa _ 0 E c;rw[zg b,<-d.out]at a;have g:E<(ra u w).length:=(agK.1 a).1;have e:E<(Z3 u (ra u w)).length:=by simp only[Z3,agr,agJ];omega
  rw[agw e,<-d.m];congr 2;simp only[Z3,List.getElem_map,List.getElem_zip];rw[show(ra u w)[E]=_ from(agK.1 a).2];simp
def Gd.len(a:Gd u w E F z):F.length<=(uS u w).length:=by
 rw[a.out];exact afA _ _
def Gd.fresh{s:cq}(a:jl s=.ok u)(f:Gd u w E F z)(e:E<u.length):s7 z u[E].off=none:=by
 refine Yl fun j b=>?_;have c:u.Pairwise fun h g=>h.off<g.off:=by
  unfold jl at a;split at a
  ·cases a
  ·exact(lex_lt s _ _ u (y3 false s) a).2
 rw[f.m,Z3]at b;obtain⟨i,d,rfl⟩:=List.getElem_of_mem b;simp only[List.length_take,agr,agJ]at d;simp only[List.getElem_take,List.getElem_map,List.getElem_zip];exact List.pairwise_iff_getElem.1 c i E om e om
theorem Gd.fin(a:Gd u w u.length F z):F=uS u w/\z=Z3 u (ra u w):=by
 refine⟨?_,?_⟩
 ·rw[a.out,agm (by rw[zl];exact agn _)];rfl
 ·rw[a.m,agm (by simp only[Z3,agr,agJ];omega)]
def af1:Nat->Bool:=fun a=>agG a 41
def afB:∀a,a<4->nth [[D.str [32]],[D.str [10,9]],[D.str [32,47,47,32,120,10]],[D.str [32,32]]] a=some [D.str (pR a)]:=by
 intro a b
 match a,b with
 |0,_|1,_|2,_|3,_=>rfl
theorem afR(c:UInt8):(IntKind.i64.wrap (agl c.toNat)).tmod 4=agl (c.toNat%4):=by
 have a:=c4 (a:=c.toNat) (b:=0) (by have:=c.toNat_lt;omega);rw[show agl c.toNat+agl 0=agl c.toNat from Int.add_zero _]at a;rw[a];try rfl
def Ve{s:cq}(b:s.length<=800)(a:jl s=.ok u):u.length<=4097:=by
 unfold jl at a;split at a
 ·cases a
 ·have:=(Ka s _ _ u om a).2.2.1;omega
def afb{s:cq}(m:s.length<=800)(a:jl s=.ok u){t:Tok}(ht:t∈u):t.text.length<=65536:=by
 have e:∀(f d:Nat) (u:List Tok),jF s f d=.ok u->∀t∈u,t.text.length<=s.length:=by
  intro f;induction f with
  |zero=>intro d u a t ht;cases a;simp at ht
  |succ f g=>
   intro d u a t ht;rw[jF]at a;split at a
   ·cases a;simp at ht;subst ht;exact agD _
   ·cases b:oa (s.drop d)with
    |err n=>rw[b]at a;cases a
    |ok o k i=>
     rw[b]at a;dsimp only at a;have h:=y7 b;have l:=Z0 b;rw[ago]at h;cases c:jF s f (d+i+dZ false (s.drop (d+i)))with
     |err p n=>rw[c]at a;cases a
     |ok j=>
      rw[c]at a;cases a;rcases agM.1 ht with rfl|ht
      ·show k.length<=_;omega
      ·exact g _ _ c t ht
 unfold jl at a;split at a
 ·cases a
 ·have:=e _ _ _ a t ht;omega
def afc(a:Nat->Nat)(c:List (Nat×Nat))(d b:Nat):(some (cN.map (n7 0 c++[⟨b5 d,b5 b,c.length⟩]) (c.length+1)):Option cN)=some (hV a (atM (c++[(d,b)]))):=by
 rw[fh a _ (F4 _ _),afz]
def afd{s:cq}(a:jl s=.ok u):u≠[]:=by
 unfold jl at a;split at a
 ·cases a
 ·rintro rfl;rw[jF]at a;split at a
  ·cases a
  ·split at a
   ·cases a
   ·revert a;cases jF s _ _<;>intro a<;>cases a
def Yn{s:cq}(i:jl s=.ok u)(a:Nat->Nat):∃c f,uS u a=c::f:=by
 have b:=afd i;cases u with
 |nil=>exact absurd rfl b
 |cons g u=>
  obtain⟨c,f,d,_⟩:=F3 (a 0);have h:uS (g::u) a=iF (List.map (fun e=>(e.1,a e.2)) (List.zipIdx (g::u))):=rfl;rw[agx,agp,iF,d]at h;exact⟨_,_,h⟩
variable{I:Prop}
def afS (a:I:=by
 refine bZ (m:=ks i) (by rw[e0];first|exact afR _|exact rfl) ?_;refine cc _ hs4 ?_;refine AI Z (fun _=>Z) Z (by rw[<-List.length_append];exact hl2) ?_;repeat refine a6 (by repeat' (first|exact tv|exact rfl|refine And.intro ?_ ?_)) ?_
 refine Xu Z (fun _=>Z) Z ?_;repeat refine a6 (by repeat' (first|exact tv|exact rfl|refine And.intro ?_ ?_)) ?_
 refine cc none hj ?_;repeat refine a6 (by repeat' (first|exact tv|exact rfl|refine And.intro ?_ ?_)) ?_
 refine aZ (fun h4=>?_) (fun h4=>?_)
 ·have hr:nn ⟨tk,tt,to⟩=sI tt:=if_pos (AJ (b:=4) h4);rw[hr]at hn Bn;refine X1 tt htx ?_;repeat refine a6 (by repeat' (first|exact tv|exact rfl|refine And.intro ?_ ?_)) ?_
  refine AI Z (fun _=>Z) Z (by rw[<-List.length_append];exact Nat.le_trans Bn om) ?_;refine⟨(i+1,_,_),⟨hi',hn⟩,by show ts.length-(i+1)<ts.length-i;omega,.pick 2 [0,1] ?_ Z Z Z Z Z dc ?_,Z,Z⟩
  ·exact⟨Z,Z,Z,Z,Z,int_eq (cp om),tv⟩
  ·exact⟨Z,Z,afc _ _ _ _,F4 _ _,tv⟩
 ·have hr:nn ⟨tk,tt,to⟩=tt:=if_neg (ED (b:=4) h4);rw[hr]at hn Bn;refine AI Z (fun _=>Z) Z (by rw[<-List.length_append];exact Nat.le_trans Bn om) ?_;refine⟨(i+1,_,_),⟨hi',hn⟩,by show ts.length-(i+1)<ts.length-i;omega,.pick 2 [0,1] ?_ Z Z Z Z Z dc ?_,Z,Z⟩
  ·exact⟨Z,Z,Z,Z,Z,int_eq (cp om),tv⟩
  ·exact⟨Z,Z,afc _ _ _ _,F4 _ _,tv⟩):I:=a
variable{P:D}
theorem Lf{s:cq}(r:s.length<=800)(O:KO F P) 
  (j:∀q V,jl s=.err q V->v (.ret (.dS [cn [],.d .En,b6 false])) [])
  (g:∀ts,jl s=.ok ts->v (.ret (.dS [cn (uS ts (kF F)),.map 1,b6 true])) [.gone,atM (Z3 ts (ra ts (kF F)))]):b4 C ca s4 [cn s,.d P] [] v:=by
 refine cv af1 (fun _=>Z) ?_;refine Yg s (fun T hr=>?_);cases a:jl s with
 |err q V=>
  rw[a]at hr;obtain rfl:T=_:=hr;have he:=mD a;refine aZ (fun B=>?_) (fun B=>absurd (l3 B) he);exact cU.now Z (j _ _ a)
 |ok ts=>
  rw[a]at hr;obtain⟨b,n,rfl⟩:=hr;obtain⟨_,y⟩:=KN r a (kF F);have S:=Ve r a;have A:=fun i (k:i<ts.length)=>afb r a (List.getElem_mem k);obtain⟨ks,d⟩:∃ks,ks=kF F:=⟨_,rfl⟩;have g:=g ts a;rw[<-d]at g y;refine cd.less (dB:=[(1,.d P),(10,.bp 0 0),(11,.map 1),(24,.d (.ps b 0 3 n (ts.map rq))),(25,b5 (ts.map rq).length),(26,b5 0)]) ⟨Z,Z,Z,Z,Z,Z,tv⟩ ?_;refine cd.iter (fun h:Nat×cq×List (Nat×Nat)=>[(1,.d P),(10,.bp 0 0),(11,.map 1),(24,.d (.ps b 0 3 n (ts.map rq))),(25,b5 (ts.map rq).length),(26,b5 h.1)]) (fun h=>[.j2 110 5 h.2.1,atM h.2.2]) (fun h=>ts.length-h.1) (fun h=>h.1<=ts.length/\Gd ts ks h.1 h.2.1 h.2.2) ?_ (0,[],[]) ⟨agD _,.zero⟩;rintro⟨i,l,m⟩ ⟨k,f⟩;have k:i<=ts.length:=k;have f:Gd ts ks i l m:=f;have R:=f.len;apply aZ<;>intro N
  ·have hi':i<ts.length:=by have:=ee N;rwa[agr]at this
   have o:nth (ts.map rq) i=some (rq ts[i]):=by rw[ck,agy,agu hi'];try rfl
   refine bZ Z ?_;refine cc _ o ?_;have e:=f.fresh a hi';have hn:=f.next hi'
   have Bn:=hn.len;have htx:=A i hi';generalize ts[i]=W at o e hn Bn htx;obtain⟨tk,tt,to⟩:=W;obtain⟨X,hj⟩:=aac (kd:=.i64) (n:=to) (l:=m) (k:=0) (i:=0);have e:s7 m to=none:=e;rw[e]at hj;have hj:eN (.int .i64) (b5 to) (n7 0 m) 0=some none:=hj;have U:=EZ (ks i);have hl2:(l++pR (ks i)).length<=140737488355328:=by rw[agj];omega
   have hs4:nth [[D.str [32]],[D.str [10,9]],[D.str [32,47,47,32,120,10]],[D.str [32,32]]] (ks i)=some [D.str (pR (ks i))]:=afB _ (by rw[d];exact Nat.mod_lt _ dc);cases O with
   |nil=>
    have e0:ks i=0:=by rw[d];try rfl
    intro t;exact afS
   |ps=>
    refine aZ (fun j=>?_) (fun j=>?_)
    ·have p:i<F.length:=by have:=ee j;rwa[agr]at this
     have x:nth (F.map fun c=>[uy c]) i=some [uy F[i]]:=by rw[ck,agy,agu p];try rfl
     have e0:ks i=F[i].toNat%4:=by rw[d,kF,ags,agu p];try rfl
     refine bZ Z ?_;refine cc _ x ?_;refine a6 dc ?_;intro t;exact afS
    ·have e0:ks i=0:=by
      have hj:F.length<=i:=by have:=dq j;rwa[agr]at this
      rw[d,kF,ags,agB hj];try rfl
     intro t;exact afS
  ·have M:ts.length<=i:=by have:=dq N;rwa[agr]at this
   obtain rfl:i=ts.length:=Nat.le_antisymm k M;obtain⟨rfl,rfl⟩:=f.fin;obtain⟨c,T,L⟩:=Yn a ks;rw[L]at g⊢;refine Xv Z (fun _=>Z) Z Z ?_;exact cU.now Z g
def Yp(s:cq):ej (oY s).1/\cP (oY s).1<4294967295:=by
 have b:ej w7/\cP w7<4294967295:=⟨.leaf .int,dc⟩;unfold oY;cases h:jl s with
 |err e n=>exact b
 |ok a=>
  dsimp only;cases i:Ih ⟨0,0,a⟩ a.length 0 with
  |bad e n=>exact b
  |ok k q=>
   dsimp only;split
   ·exact b
   ·split
    ·exact b
    ·obtain⟨l,c⟩:=mC (R:=⟨0,0,a⟩) h;have g:=vw (R:=⟨0,0,a⟩) h;obtain⟨j,m,_,d⟩:=zx l g a.length 0 0 k q (agn _) c i;have f:=l.len;have d:q<a.length:=d;have f:a.length<4294967296:=f;exact⟨j,by show cP k<4294967295;omega⟩
def afT{s:cq}(g:∀a,jl s=.ok a->a.length<=4097):XG (s6 s).1:=by
 unfold s6;cases d:jl s with
 |err e j=>exact .zero
 |ok a=>
  dsimp only;cases f:AD ⟨0,0,a⟩ 0 with
  |bad e j=>exact .zero
  |ok k q=>
   dsimp only;split
   ·exact .zero
   split
   ·exact .zero
   split
   ·exact .zero
   ·obtain⟨h,c⟩:=mC (R:=⟨0,0,a⟩) d;have b:=vw (R:=⟨0,0,a⟩) d;obtain⟨i,_⟩:=U3 h b (pt h b _) (zx h b _ 0) (g _ d) c f;exact .of i
def U8{s:cq}(a:(oY s).2.2=0):(oY s).2.1=0:=by
 unfold oY at a⊢;cases d:jl s with
 |err b g=>rw[d]at a;exact absurd a (mD d)
 |ok e=>
  rw[d]at a;dsimp only at a⊢;cases c:Ih ⟨0,0,e⟩ e.length 0 with
  |bad b g=>rw[c]at a;exact absurd a (UE _ _ _ b g c)
  |ok h q=>
   rw[c]at a;dsimp only at a⊢;split at a
   ·cases a
   ·rename_i f;rw[if_neg f];split<;>rfl
def aae{s:cq}(a:(s6 s).2.2=0):(s6 s).2.1=0:=by
 unfold s6 at a⊢;cases f:jl s with
 |err b i=>rw[f]at a;exact absurd a (mD f)
 |ok g=>
  rw[f]at a;dsimp only at a⊢;cases c:AD ⟨0,0,g⟩ 0 with
  |bad b i=>rw[c]at a;exact absurd a (UW _ _ b i c)
  |ok j q=>
   rw[c]at a;dsimp only at a⊢;split at a
   ·cases a
   ·rename_i h;rw[if_neg h];split at a
    ·rename_i d;exact absurd a d
    ·rename_i d;rw[if_neg d];split at a
     ·rename_i e;exact absurd a e
     ·rename_i e;rw[if_neg e]
def mvE (a:I:=by
 first
  |exact⟨rfl,rfl⟩
  |exact⟨rfl,congrArg (fun b=>cO.ret (b6 b)) h1⟩
  |exact⟨rfl,congrArg (fun b=>cO.ret (b6 b)) h3⟩
  |exact⟨rfl,congrArg (fun b=>cO.ret (b6 b)) h5⟩):I:=a
def U9(l:List (Nat×Nat))(b a c:Nat):Prop:=(c=0/\b=0/\a=0)∨(c≠0/\(s7 l b=some a∨(b=0/\a=0)))
def HZ{α:Type}{l m:α}{h g e f:Nat}(o:jl F=.ok u)(j:KY u G)(i:Blank u G (l,h,e) (m,g,f))(k:e=0->h=0)(d:f=0->g=0):U9 (Z3 u G) h g e:=by
 obtain⟨_,a,n,b,c⟩:=i;have a:f=e:=a;have b:h=_:=b;have c:g=_:=c;by_cases he:e=0
 ·exact .inl ⟨he,k he,d (a.trans he)⟩
 ·refine .inr ⟨he,?_⟩;rw[b,c];exact ae8 o j n
theorem Va{l:List (Nat×Nat)}(c:U9 l E K Q):b4 C ca kU [b5 E,b5 K,b5 Q,.bp 0 0] [.box [.map 1],atM l] fun m j=>j=[.box [.map 1],atM l]/\m=.ret (b6 true):=by
 obtain⟨k,a⟩:=aac (kd:=.i64) (n:=E) (l:=l) (k:=0) (i:=0);refine b4.body Aj (fun _=>Z) ?_;rcases c with⟨he,e,f⟩|⟨he,c⟩
 ·have h1:decide (agl Q=0)=true:=decide_eq_true (by rw[he];try rfl);have i:decide (agl E=0)=true:=decide_eq_true (by rw[e];try rfl);have h3:decide (agl K=0)=true:=decide_eq_true (by rw[f];try rfl);cases d:s7 l E with
  |none=>
   rw[d]at a;refine cc none a ?_;repeat refine de ?_
   exact mvE
  |some h=>
   rw[d]at a;refine cc (some (k,b5 h)) a ?_;repeat refine de ?_
   exact mvE
 ·have h1:decide (agl Q=0)=false:=decide_eq_false (fun c=>he (by simpa using c));have o:(!decide (agl Q=0))=true:=by rw[h1];try rfl
  cases d:s7 l E with
  |none=>
   rw[d]at a c;obtain⟨e,f⟩:=c.resolve_left (fun c=>by cases c);have i:decide (agl E=0)=true:=decide_eq_true (by rw[e];try rfl);have h3:decide (agl K=0)=true:=decide_eq_true (by rw[f];try rfl);refine cc none a ?_;repeat refine de ?_
   exact mvE
  |some h=>
   rw[d]at a c;refine cc (some (k,b5 h)) a ?_;by_cases g:h=K
   ·have h5:decide (agl h=agl K)=true:=decide_eq_true (by rw[g]);repeat refine de ?_
    exact mvE
   ·have h5:decide (agl h=agl K)=false:=decide_eq_false (fun c=>g (Int.ofNat.inj c));obtain⟨e,f⟩:=c.resolve_left (fun c=>by cases c;exact g rfl);have i:decide (agl E=0)=true:=decide_eq_true (by rw[e];try rfl);have h3:decide (agl K=0)=true:=decide_eq_true (by rw[f];try rfl);repeat refine de ?_
    exact mvE
def KP{l:List (Nat×Nat)}(i:U9 l E K Q)(e:H[2]?=some (.box [.map 1]))(f:H[1]?=some (atM l))(c:v (.ret (b6 true)) (merge H [2,1] [.box [.map 1],atM l])):
  b4 C ca kU [b5 E,b5 K,b5 Q,.bp 2 0] H v:=by
 refine(Va i).frame [2,1] Z dc (fun h b a=>?_) Z Z (fun j d g _=>?_)
 ·match h,a with
  |0,a=>
   obtain rfl:2=b:=by simpa using a
   exact⟨_,Z,e,Z⟩
  |1,a=>
   obtain rfl:1=b:=by simpa using a
   exact⟨_,Z,by rw[fh _ _ (F4 _ _)];exact f,F4 _ _⟩
  |h+2,a=>simp at a
 ·obtain⟨rfl,rfl⟩:=g;rw[agp,agp,agI,fh _ _ (F4 _ _)];exact c
def af2 (h:I:=by
 refine Lf hs hk (fun off e hx=>?_) (fun ts hx=>?_)
 ·exact cU.now Z Z
 obtain⟨hxo,_⟩:=KN hs hx (kF kl);have hsm:=Sh ts (kF kl);have Vo:=Ve hs hx;obtain⟨O,hO⟩:∃O,O=uS ts (kF kl):=⟨_,rfl⟩;obtain⟨L,hL⟩:∃L,L=ra ts (kF kl):=⟨_,rfl⟩;rw[<-hO,<-hL]at hxo;rw[<-hL]at hsm;rw[<-hO,<-hL];have hbx:=XW hx hxo hsm;have hbm:=ads hx hxo hsm;have ht1:∀t,jl s=.ok t->t.length<=4097:=fun t h=>by rw[hx]at h;cases h;exact Vo
 have ht2:∀t,jl O=.ok t->t.length<=4097:=fun t h=>by rw[hxo]at h;cases h;rw[hsm.1];exact Vo
 have hq:=afT ht1;have hA:=Yp s;have e1:=@U8 s;have e2:=@U8 O;have m1:=@aae s;have m2:=@aae O;obtain⟨A,i,e,hX⟩:∃A i e,oY s=(A,i,e):=⟨_,_,_,rfl⟩;obtain⟨B,k,f,hY⟩:∃A i e,oY O=(A,i,e):=⟨_,_,_,rfl⟩;obtain⟨M,p,g,hZ⟩:∃A i e,s6 s=(A,i,e):=⟨_,_,_,rfl⟩;obtain⟨N,q,j,hW⟩:∃A i e,s6 O=(A,i,e):=⟨_,_,_,rfl⟩;have hP1:∀r,FX s r->∃d,je A d/\r=.ret (.dS [.agg (d.map V.d),b5 i,b5 e]):=fun r h=>by rw[FX,hX]at h;exact h
 have hP2:∀r,FX O r->∃d,je B d/\r=.ret (.dS [.agg (d.map V.d),b5 k,b5 f]):=fun r h=>by rw[FX,hY]at h;exact h
 have hP3:∀r,Ra s r->∃d,At M d/\r=.ret (.dS [.agg (d.map V.d),b5 p,b5 g]):=fun r h=>by rw[Ra,hZ]at h;exact h
 have hP4:∀r,Ra O r->∃d,At N d/\r=.ret (.dS [.agg (d.map V.d),b5 q,b5 j]):=fun r h=>by rw[Ra,hW]at h;exact h
 rw[hX]at hbx hA e1;rw[hY]at hbx e2;rw[hZ]at hbm hq m1;rw[hW]at hbm m2;have mv1:U9 (Z3 ts L) i k e:=HZ hx hsm hbx e1 e2;have mv2:U9 (Z3 ts L) p q g:=HZ hx hsm hbm m1 m2;obtain rfl:B=A:=hbx.1;obtain rfl:f=e:=hbx.2.1;obtain rfl:N=M:=hbm.1;obtain rfl:j=g:=hbm.2.1;refine M5 s (fun r hr=>?_);obtain⟨d1,XF,rfl⟩:=hP1 r hr;obtain⟨k1,m1,n1,x1,age,ty1,lb1,kd1,rfl⟩:=XF.eight;refine M5 O (fun r hr=>?_);obtain⟨d2,hd2,rfl⟩:=hP2 r hr;obtain⟨k2,m2,n2,x2,abT,ty2,lb2,kd2,rfl⟩:=hd2.eight;refine Re s ht1 (fun r hr=>?_);obtain⟨d3,hd3,rfl⟩:=hP3 r hr;have agb:=hd3;obtain⟨is3,ds3,_,_,rfl⟩:=agb;refine Re O ht2 (fun r hr=>?_);obtain⟨d4,hd4,rfl⟩:=hP4 r hr;have agc:=hd4;obtain⟨is4,ds4,_,_,rfl⟩:=agc;repeat refine cg (sE _) ?_
 refine KP mv1 Z Z ?_;repeat refine cg (sE _) ?_
 refine KP mv2 Z Z ?_;repeat refine cg (sE _) ?_
 refine U6 _ _ _ _ hA.2 (Nat.le_refl _) hA.1 XF hd2 ?_;repeat refine cg (sE _) ?_
 refine XH hq hd3 hd4 ?_;repeat refine cg (sE _) ?_
 exact cU.now Z Z):I:=h
def Rq(s:cq){kl:cq}(hk:KO kl P):b4 C ca qh [cn s,.d P] [] fun r _=>r=.ret (b6 true):=by
 refine cv Aj (fun _=>Z) ?_;refine dx (args:=[]) (x:=.bool true) Z Z ?_;refine aZ (fun a=>?_) (fun a=>?_)
 ·repeat (change jR _ _ _;first|refine cg (by with_reducible exact a) ?_)
  exact cU.now Z Z
 have hs:s.length<=800:=dq (a:=800) a;have b:P=.ci∨∃R S c T,P=.ps R S 1 c T:=by
  cases hk with
  |nil=>exact .inl rfl
  |ps=>exact .inr ⟨_,_,_,_,rfl⟩
 rcases b with rfl|⟨y,n,x,o,rfl⟩
 ·repeat refine de ?_
  exact af2
 ·repeat refine de ?_
  refine aZ (fun m=>?_) (fun m=>?_)
  ·repeat refine de ?_
   exact cU.now Z Z
  ·repeat refine de ?_
   exact af2
end Go.Proofs.YtpejealjkmhkgaaGreatDoor
