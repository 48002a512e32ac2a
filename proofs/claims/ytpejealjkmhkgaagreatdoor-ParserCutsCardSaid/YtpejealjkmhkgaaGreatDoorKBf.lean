/- Part of the proof. -/
import Derived.Test.YtpejealjkmhkgaaGreatDoorKBe
set_option linter.all false
set_option maxHeartbeats 16000000
set_option maxRecDepth 100000
open Nat renaming reduceEqDiff->YL,beq->YN
open Bool renaming false_eq_true->YM
namespace Go.Proofs.YtpejealjkmhkgaaGreatDoor
open Go.AM Go.VM
theorem Ur(h:Rd)(x:h.Wf)(f p:Nat)(z:p<h.ts.length)(y:eo (de h f) h (p+1))(b:Nat)(g:List UInt8)(i:Nat)(k:h.ts[p]?=some ⟨b,g,i⟩)(t:de h (f+1) p=eR (de h f) h b g i (p+1))(r:b=5)(m:g=[105,110,116]):
  b1 C b7 dk [.bp 0 0] [dq h p] fun v o=>∃j,o=[.box j]/\cN v=true/\e5 0 j=true/\zu h (de h (f+1) p) v j:=by
 have s:=x.len;have n:b≠0->p+1<h.ts.length:=fun u=>x.go p _ k u;have l:b≠0->dW ⟨b,g,i⟩ p=p+1:=fun u=>if_neg u;refine cA lz (fun _=>Z) ?_;refine dr h p _ k om 0 Z ?_;first|have w:p+1<h.ts.length:=n om|skip
 first|rw[l om]|skip
 subst r;subst m;have q:eN .string (cq [105,110,116]) kb 0=some (some (0,b3 2)):=rfl;repeat refine b8 ?_
 refine b9 ?_;refine b4 none Z ?_;refine b4 none Z ?_;refine b4 none Z ?_;refine b4 none Z ?_;refine b4 none Z ?_;refine b4 _ q ?_;repeat refine b8 ?_
 refine a7 1 ⟨_,Z,Z,Z,?_⟩;rw[t];simp only[eR,if_true,if_false,reduceIte,YL,PR.map];exact⟨Z,_,.mk .nil .nil,Z⟩
theorem Us(h:Rd)(x:h.Wf)(f p:Nat)(z:p<h.ts.length)(y:eo (de h f) h (p+1))(b:Nat)(g:List UInt8)(i:Nat)(k:h.ts[p]?=some ⟨b,g,i⟩)(t:de h (f+1) p=eR (de h f) h b g i (p+1))(r:b=5)(m:g=[98,111,111,108]):
  b1 C b7 dk [.bp 0 0] [dq h p] fun v o=>∃j,o=[.box j]/\cN v=true/\e5 0 j=true/\zu h (de h (f+1) p) v j:=by
 have s:=x.len;have n:b≠0->p+1<h.ts.length:=fun u=>x.go p _ k u;have l:b≠0->dW ⟨b,g,i⟩ p=p+1:=fun u=>if_neg u;refine cA lz (fun _=>Z) ?_;refine dr h p _ k om 0 Z ?_;first|have w:p+1<h.ts.length:=n om|skip
 first|rw[l om]|skip
 subst r;subst m;have q:eN .string (cq [98,111,111,108]) kb 0=some (some (1,b3 3)):=rfl;repeat refine b8 ?_
 refine b9 ?_;refine b4 none Z ?_;refine b4 none Z ?_;refine b4 none Z ?_;refine b4 none Z ?_;refine b4 none Z ?_;refine b4 _ q ?_;repeat refine b8 ?_
 refine a7 1 ⟨_,Z,Z,Z,?_⟩;rw[t];simp only[eR,if_true,if_false,reduceIte,YL,PR.map];exact⟨Z,_,.mk .nil .nil,Z⟩
theorem Ut(h:Rd)(x:h.Wf)(f p:Nat)(z:p<h.ts.length)(y:eo (de h f) h (p+1))(b:Nat)(g:List UInt8)(i:Nat)(k:h.ts[p]?=some ⟨b,g,i⟩)(t:de h (f+1) p=eR (de h f) h b g i (p+1))(r:b=5)(m:g=[116,101,120,116]):
  b1 C b7 dk [.bp 0 0] [dq h p] fun v o=>∃j,o=[.box j]/\cN v=true/\e5 0 j=true/\zu h (de h (f+1) p) v j:=by
 have s:=x.len;have n:b≠0->p+1<h.ts.length:=fun u=>x.go p _ k u;have l:b≠0->dW ⟨b,g,i⟩ p=p+1:=fun u=>if_neg u;refine cA lz (fun _=>Z) ?_;refine dr h p _ k om 0 Z ?_;first|have w:p+1<h.ts.length:=n om|skip
 first|rw[l om]|skip
 subst r;subst m;have q:eN .string (cq [116,101,120,116]) kb 0=some (some (2,b3 4)):=rfl;repeat refine b8 ?_
 refine b9 ?_;refine b4 none Z ?_;refine b4 none Z ?_;refine b4 none Z ?_;refine b4 none Z ?_;refine b4 none Z ?_;refine b4 _ q ?_;repeat refine b8 ?_
 refine a7 1 ⟨_,Z,Z,Z,?_⟩;rw[t];simp only[eR,if_true,if_false,reduceIte,YL,PR.map];exact⟨Z,_,.mk .nil .nil,Z⟩
theorem Uu(h:Rd)(x:h.Wf)(f p:Nat)(z:p<h.ts.length)(y:eo (de h f) h (p+1))(b:Nat)(g:List UInt8)(i:Nat)(k:h.ts[p]?=some ⟨b,g,i⟩)(t:de h (f+1) p=eR (de h f) h b g i (p+1))(r:b=5)(m:g=[97,110,121]):
  b1 C b7 dk [.bp 0 0] [dq h p] fun v o=>∃j,o=[.box j]/\cN v=true/\e5 0 j=true/\zu h (de h (f+1) p) v j:=by
 have s:=x.len;have n:b≠0->p+1<h.ts.length:=fun u=>x.go p _ k u;have l:b≠0->dW ⟨b,g,i⟩ p=p+1:=fun u=>if_neg u;refine cA lz (fun _=>Z) ?_;refine dr h p _ k om 0 Z ?_;first|have w:p+1<h.ts.length:=n om|skip
 first|rw[l om]|skip
 subst r;subst m;have q:eN .string (cq [97,110,121]) kb 0=some (some (3,b3 0)):=rfl;repeat refine b8 ?_
 refine b9 ?_;refine b4 none Z ?_;refine b4 none Z ?_;refine b4 none Z ?_;refine b4 none Z ?_;refine b4 none Z ?_;refine b4 _ q ?_;repeat refine b8 ?_
 refine a7 1 ⟨_,Z,Z,Z,?_⟩;rw[t];simp only[eR,if_true,if_false,reduceIte,YL,PR.map];exact⟨Z,_,.mk .nil .nil,Z⟩
theorem Uv(h:Rd)(x:h.Wf)(f p:Nat)(z:p<h.ts.length)(y:eo (de h f) h (p+1))(b:Nat)(g:List UInt8)(i:Nat)(k:h.ts[p]?=some ⟨b,g,i⟩)(t:de h (f+1) p=eR (de h f) h b g i (p+1))(r:b=5)(m:g=[110,111,110,101]):
  b1 C b7 dk [.bp 0 0] [dq h p] fun v o=>∃j,o=[.box j]/\cN v=true/\e5 0 j=true/\zu h (de h (f+1) p) v j:=by
 have s:=x.len;have n:b≠0->p+1<h.ts.length:=fun u=>x.go p _ k u;have l:b≠0->dW ⟨b,g,i⟩ p=p+1:=fun u=>if_neg u;refine cA lz (fun _=>Z) ?_;refine dr h p _ k om 0 Z ?_;first|have w:p+1<h.ts.length:=n om|skip
 first|rw[l om]|skip
 subst r;subst m;have q:eN .string (cq [110,111,110,101]) kb 0=some (some (4,b3 1)):=rfl;repeat refine b8 ?_
 refine b9 ?_;refine b4 none Z ?_;refine b4 none Z ?_;refine b4 none Z ?_;refine b4 none Z ?_;refine b4 none Z ?_;refine b4 _ q ?_;repeat refine b8 ?_
 refine a7 1 ⟨_,Z,Z,Z,?_⟩;rw[t];simp only[eR,if_true,if_false,reduceIte,YL,PR.map];exact⟨Z,_,.mk .nil .nil,Z⟩
theorem Uw(h:Rd)(z:h.Wf)(f p:Nat)(D:p<h.ts.length)(v:eo (de h f) h (p+1))(b:Nat)(g:List UInt8)(i:Nat)(k:h.ts[p]?=some ⟨b,g,i⟩)(r:de h (f+1) p=eR (de h f) h b g i (p+1))(w:b=5)(q:g=[108,105,115,116]):
  b1 C b7 dk [.bp 0 0] [dq h p] fun A t=>∃j,t=[.box j]/\cN A=true/\e5 0 j=true/\zu h (de h (f+1) p) A j:=by
 have x:=z.len;have s:b≠0->p+1<h.ts.length:=fun y=>z.go p _ k y;have n:b≠0->dW ⟨b,g,i⟩ p=p+1:=fun y=>if_neg y;refine cA lz (fun _=>Z) ?_;refine dr h p _ k om 0 Z ?_;first|have o:p+1<h.ts.length:=s om|skip
 first|rw[n om]|skip
 subst w;subst q;have u:eN .string (cq [108,105,115,116]) kb 0=some none:=rfl;repeat refine b8 ?_
 refine b9 ?_;refine b4 none Z ?_;refine b4 none Z ?_;refine b4 none Z ?_;refine b4 none Z ?_;refine b4 none Z ?_;refine b4 _ u ?_;repeat refine b8 ?_
 refine nl h z (de h f) (p+1) o v 0 ?_ (fun L H B l m=>?_) (fun i M B l=>?_)
 ·exact Z
 ·obtain⟨G,K,I,F,E,rfl⟩:=m.di;intro J;refine a7 1 ⟨_,Z,Z,Z,?_⟩;rw[r];simp only[eR,if_true,if_false,reduceIte,YL,PR.map,l];exact⟨Z,_,.mk (.ps (.cons m .nil) sm) .nil,Z⟩
 ·refine a7 1 ⟨_,Z,Z,Z,?_⟩;rw[r];simp only[eR,if_true,if_false,reduceIte,YL,PR.map,l];exact⟨B,Z,Z⟩
theorem Ux(j:Rd)(y:j.Wf)(f p:Nat)(Q:p<j.ts.length)(w:eo (de j f) j (p+1))(g:Nat)(b:List UInt8)(i:Nat)(t:j.ts[p]?=some ⟨g,b,i⟩)(q:de j (f+1) p=eR (de j f) j g b i (p+1))(I:g=5)(h:b=[102,110]):
  b1 C b7 dk [.bp 0 0] [dq j p] fun N E=>∃n,E=[.box n]/\cN N=true/\e5 0 n=true/\zu j (de j (f+1) p) N n:=by
 have J:=y.len;have D:g≠0->p+1<j.ts.length:=fun L=>y.go p _ t L;have z:g≠0->dW ⟨g,b,i⟩ p=p+1:=fun L=>if_neg L;refine cA lz (fun _=>Z) ?_;refine dr j p _ t om 0 Z ?_;first|have u:p+1<j.ts.length:=D om|skip
 first|rw[z om]|skip
 subst I;have m:sJ b=none:=by rw[h];rfl
 have k:b≠[108,105,115,116]:=by rw[h];decide
 have G:=AV m;repeat refine b8 ?_
 refine b9 ?_;refine b4 none Z ?_;refine b4 none Z ?_;refine b4 none Z ?_;refine b4 none Z ?_;refine b4 none Z ?_;refine b4 _ G ?_;repeat refine b8 ?_
 refine a6 (decide_eq_false k) ?_;repeat refine a6 (decide_eq_false k) ?_
 refine a8 (decide_eq_true h) ?_;repeat refine a8 (decide_eq_true h) ?_
 intro X;refine ej j y [[40]] dc (p+1) u _ _ 0 ?_ ?_
 ·exact Z
 cases l:cu j [[40]] (p+1)with
 |bad i P=>
  intro K;refine a7 1 ⟨_,Z,Z,Z,?_⟩;rw[q];simp only[eR,if_true,if_false,reduceIte,YL,PR.map,m,k,h,l];exact⟨K,Z,Z⟩
 |ok _ A=>
  have s:=c8 y _ _ _ u l;have v:p+1<=A:=by rw[cH _ _ _ l];omega
  refine sI j y (de j f) [44] [41] true A s (w.up v) 0 ?_ (fun c V M o H=>?_) (fun i P K o=>?_)
  ·exact Z
  ·obtain⟨O,F⟩:=qV y (w.up v).lt s o;refine w.call M om F 0 _ _ ?_ (fun a d2 B x r=>?_) (fun i P B x=>?_)
   ·exact Z
   ·obtain⟨U,Y,W,T,R,rfl⟩:=r.di;intro S;refine a7 1 ⟨_,Z,Z,Z,?_⟩;rw[q];simp only[eR,if_true,if_false,reduceIte,YL,PR.map,m,k,h,l,o,x];exact⟨Z,_,.mk (.ps (.cons r .nil) sm) H,Z⟩
   ·refine a7 1 ⟨_,Z,Z,Z,?_⟩;rw[q];simp only[eR,if_true,if_false,reduceIte,YL,PR.map,m,k,h,l,o,x];exact⟨B,Z,Z⟩
  ·refine a7 1 ⟨_,Z,Z,Z,?_⟩;rw[q];simp only[eR,if_true,if_false,reduceIte,YL,PR.map,m,k,h,l,o];exact⟨K,Z,Z⟩
theorem Uy(h:Rd)(z:h.Wf)(f p:Nat)(B:p<h.ts.length)(A:eo (de h f) h (p+1))(g:Nat)(b:List UInt8)(i:Nat)(l:h.ts[p]?=some ⟨g,b,i⟩)(v:de h (f+1) p=eR (de h f) h g b i (p+1))(t:g=5)(n:sJ b=none)(m:b≠[108,105,115,116])(k:b≠[102,110]):
  b1 C b7 dk [.bp 0 0] [dq h p] fun x r=>∃j,r=[.box j]/\cN x=true/\e5 0 j=true/\zu h (de h (f+1) p) x j:=by
 have u:=z.len;have q:g≠0->p+1<h.ts.length:=fun w=>z.go p _ l w;have o:g≠0->dW ⟨g,b,i⟩ p=p+1:=fun w=>if_neg w;refine cA lz (fun _=>Z) ?_;refine dr h p _ l om 0 Z ?_;first|have y:p+1<h.ts.length:=q om|skip
 first|rw[o om]|skip
 subst t;have s:=AV n;repeat refine b8 ?_
 refine b9 ?_;refine b4 none Z ?_;refine b4 none Z ?_;refine b4 none Z ?_;refine b4 none Z ?_;refine b4 none Z ?_;refine b4 _ s ?_;repeat refine b8 ?_
 refine a6 (decide_eq_false m) ?_;repeat refine a6 (decide_eq_false m) ?_
 refine a6 (decide_eq_false k) ?_;repeat refine a6 (decide_eq_false k) ?_
 refine eO _ i 3 ?_;refine a7 1 ⟨_,Z,Z,Z,?_⟩;rw[v];simp only[eR,if_true,if_false,reduceIte,YL,PR.map,n,m,k];exact⟨_,Z,Z⟩
theorem Uz(h:Rd)(z:h.Wf)(f p:Nat)(D:p<h.ts.length)(v:eo (de h f) h (p+1))(b:Nat)(g:List UInt8)(i:Nat)(k:h.ts[p]?=some ⟨b,g,i⟩)(q:de h (f+1) p=eR (de h f) h b g i (p+1))(x:b=6)(o:g=[123]):
  b1 C b7 dk [.bp 0 0] [dq h p] fun A s=>∃j,s=[.box j]/\cN A=true/\e5 0 j=true/\zu h (de h (f+1) p) A j:=by
 have w:=z.len;have r:b≠0->p+1<h.ts.length:=fun y=>z.go p _ k y;have m:b≠0->dW ⟨b,g,i⟩ p=p+1:=fun y=>if_neg y;refine cA lz (fun _=>Z) ?_;refine dr h p _ k om 0 Z ?_;first|have n:p+1<h.ts.length:=r om|skip
 first|rw[m om]|skip
 subst x;subst o;have t:eN .string (cq [123]) kb 0=some none:=rfl;repeat refine b8 ?_
 refine b9 ?_;refine b4 none Z ?_;refine b4 none Z ?_;refine b4 none Z ?_;refine b4 none Z ?_;refine b4 none Z ?_;refine b4 _ t ?_;repeat refine b8 ?_
 refine sI h z (de h f) [44] [125] false (p+1) n v 0 ?_ (fun G E B l u=>?_) (fun i F B l=>?_)
 ·exact Z
 ·refine a7 1 ⟨_,Z,Z,Z,?_⟩;rw[q];simp only[eR,if_true,if_false,reduceIte,YL,PR.map,l];exact⟨Z,_,.mk .nil u,Z⟩
 ·refine a7 1 ⟨_,Z,Z,Z,?_⟩;rw[q];simp only[eR,if_true,if_false,reduceIte,YL,PR.map,l];exact⟨B,Z,Z⟩
theorem UA(h:Rd)(z:h.Wf)(f p:Nat)(D:p<h.ts.length)(v:eo (de h f) h (p+1))(b:Nat)(g:List UInt8)(i:Nat)(k:h.ts[p]?=some ⟨b,g,i⟩)(q:de h (f+1) p=eR (de h f) h b g i (p+1))(x:b=6)(o:g=[60]):
  b1 C b7 dk [.bp 0 0] [dq h p] fun A s=>∃j,s=[.box j]/\cN A=true/\e5 0 j=true/\zu h (de h (f+1) p) A j:=by
 have w:=z.len;have r:b≠0->p+1<h.ts.length:=fun y=>z.go p _ k y;have m:b≠0->dW ⟨b,g,i⟩ p=p+1:=fun y=>if_neg y;refine cA lz (fun _=>Z) ?_;refine dr h p _ k om 0 Z ?_;first|have n:p+1<h.ts.length:=r om|skip
 first|rw[m om]|skip
 subst x;subst o;have t:eN .string (cq [60]) kb 0=some none:=rfl;repeat refine b8 ?_
 refine b9 ?_;refine b4 none Z ?_;refine b4 none Z ?_;refine b4 none Z ?_;refine b4 none Z ?_;refine b4 none Z ?_;refine b4 _ t ?_;repeat refine b8 ?_
 refine sI h z (de h f) [124] [62] false (p+1) n v 0 ?_ (fun G E B l u=>?_) (fun i F B l=>?_)
 ·exact Z
 ·refine a7 1 ⟨_,Z,Z,Z,?_⟩;rw[q];simp only[eR,if_true,if_false,reduceIte,YL,PR.map,l];exact⟨Z,_,.mk .nil u,Z⟩
 ·refine a7 1 ⟨_,Z,Z,Z,?_⟩;rw[q];simp only[eR,if_true,if_false,reduceIte,YL,PR.map,l];exact⟨B,Z,Z⟩
theorem R6(h:Rd)(y:h.Wf)(f p:Nat)(A:p<h.ts.length)(z:eo (de h f) h (p+1))(g:Nat)(b:List UInt8)(i:Nat)(k:h.ts[p]?=some ⟨g,b,i⟩)(t:de h (f+1) p=eR (de h f) h g b i (p+1))(u:g=6)(m:b≠[123])(l:b≠[60])(r:eN .string (cq b) kb 0=some none):
  b1 C b7 dk [.bp 0 0] [dq h p] fun w q=>∃j,q=[.box j]/\cN w=true/\e5 0 j=true/\zu h (de h (f+1) p) w j:=by
 have s:=y.len;have o:g≠0->p+1<h.ts.length:=fun v=>y.go p _ k v;have n:g≠0->dW ⟨g,b,i⟩ p=p+1:=fun v=>if_neg v;refine cA lz (fun _=>Z) ?_;refine dr h p _ k om 0 Z ?_;first|have x:p+1<h.ts.length:=o om|skip
 first|rw[n om]|skip
 subst u;repeat refine b8 ?_
 refine b9 ?_;refine b4 none Z ?_;refine b4 none Z ?_;refine b4 none Z ?_;refine b4 none Z ?_;refine b4 none Z ?_;refine b4 _ r ?_;repeat refine b8 ?_
 refine a6 (decide_eq_false m) ?_;repeat refine a6 (decide_eq_false m) ?_
 refine a6 (decide_eq_false l) ?_;repeat refine a6 (decide_eq_false l) ?_
 refine eO _ i 3 ?_;refine a7 1 ⟨_,Z,Z,Z,?_⟩;rw[t];simp only[eR,if_true,if_false,reduceIte,YL,PR.map,m,l];exact⟨_,Z,Z⟩
theorem R7(h:Rd)(A:h.Wf)(f p:Nat)(D:p<h.ts.length)(B:eo (de h f) h (p+1))(g:Nat)(b:List UInt8)(i:Nat)(k:h.ts[p]?=some ⟨g,b,i⟩)(v:de h (f+1) p=eR (de h f) h g b i (p+1))(w:g=6)(m:b≠[123])(l:b≠[60])(t s:Nat)(r:eN .string (cq b) kb 0=some (some (t,b3 s))):
  b1 C b7 dk [.bp 0 0] [dq h p] fun y q=>∃j,q=[.box j]/\cN y=true/\e5 0 j=true/\zu h (de h (f+1) p) y j:=by
 have u:=A.len;have o:g≠0->p+1<h.ts.length:=fun x=>A.go p _ k x;have n:g≠0->dW ⟨g,b,i⟩ p=p+1:=fun x=>if_neg x;refine cA lz (fun _=>Z) ?_;refine dr h p _ k om 0 Z ?_;first|have z:p+1<h.ts.length:=o om|skip
 first|rw[n om]|skip
 subst w;repeat refine b8 ?_
 refine b9 ?_;refine b4 none Z ?_;refine b4 none Z ?_;refine b4 none Z ?_;refine b4 none Z ?_;refine b4 none Z ?_;refine b4 _ r ?_;repeat refine b8 ?_
 refine a6 (decide_eq_false m) ?_;repeat refine a6 (decide_eq_false m) ?_
 refine a6 (decide_eq_false l) ?_;repeat refine a6 (decide_eq_false l) ?_
 refine eO _ i 3 ?_;refine a7 1 ⟨_,Z,Z,Z,?_⟩;rw[v];simp only[eR,if_true,if_false,reduceIte,YL,PR.map,m,l];exact⟨_,Z,Z⟩
theorem R8(h:Rd)(y:h.Wf)(f p:Nat)(B:p<h.ts.length)(v:eo (de h f) h (p+1))(b:Nat)(g:List UInt8)(i:Nat)(k:h.ts[p]?=some ⟨b,g,i⟩)(o:de h (f+1) p=eR (de h f) h b g i (p+1))(u:b=2)(s:eN .string (cq g) kb 0=some none):
  b1 C b7 dk [.bp 0 0] [dq h p] fun z r=>∃j,r=[.box j]/\cN z=true/\e5 0 j=true/\zu h (de h (f+1) p) z j:=by
 have w:=y.len;have q:b≠0->p+1<h.ts.length:=fun x=>y.go p _ k x;have m:b≠0->dW ⟨b,g,i⟩ p=p+1:=fun x=>if_neg x;refine cA lz (fun _=>Z) ?_;refine dr h p _ k om 0 Z ?_;first|have n:p+1<h.ts.length:=q om|skip
 first|rw[m om]|skip
 subst u;repeat refine b8 ?_
 refine b9 ?_;refine b4 none Z ?_;refine b4 none Z ?_;refine b4 none Z ?_;refine b4 none Z ?_;refine b4 none Z ?_;refine b4 _ s ?_;repeat refine b8 ?_
 repeat refine b8 ?_
 refine ny h y (de h f) (p+1) n v 0 ?_ (fun F D A l t=>?_) (fun i E A l=>?_)
 ·exact Z
 ·repeat refine b8 ?_
  refine a7 1 ⟨_,Z,Z,Z,?_⟩;rw[o];simp only[eR,if_true,if_false,reduceIte,YL,PR.map,l];exact⟨Z,_,.mk t .nil,Z⟩
 ·refine a7 1 ⟨_,Z,Z,Z,?_⟩;rw[o];simp only[eR,if_true,if_false,reduceIte,YL,PR.map,l];exact⟨A,Z,Z⟩
theorem R9(h:Rd)(A:h.Wf)(f p:Nat)(E:p<h.ts.length)(v:eo (de h f) h (p+1))(b:Nat)(g:List UInt8)(i:Nat)(k:h.ts[p]?=some ⟨b,g,i⟩)(o:de h (f+1) p=eR (de h f) h b g i (p+1))(u:b=2)(x w:Nat)(s:eN .string (cq g) kb 0=some (some (x,b3 w))):
  b1 C b7 dk [.bp 0 0] [dq h p] fun B r=>∃j,r=[.box j]/\cN B=true/\e5 0 j=true/\zu h (de h (f+1) p) B j:=by
 have y:=A.len;have q:b≠0->p+1<h.ts.length:=fun z=>A.go p _ k z;have m:b≠0->dW ⟨b,g,i⟩ p=p+1:=fun z=>if_neg z;refine cA lz (fun _=>Z) ?_;refine dr h p _ k om 0 Z ?_;first|have n:p+1<h.ts.length:=q om|skip
 first|rw[m om]|skip
 subst u;repeat refine b8 ?_
 refine b9 ?_;refine b4 none Z ?_;refine b4 none Z ?_;refine b4 none Z ?_;refine b4 none Z ?_;refine b4 none Z ?_;refine b4 _ s ?_;repeat refine b8 ?_
 repeat refine b8 ?_
 refine ny h A (de h f) (p+1) n v 0 ?_ (fun H F D l t=>?_) (fun i G D l=>?_)
 ·exact Z
 ·repeat refine b8 ?_
  refine a7 1 ⟨_,Z,Z,Z,?_⟩;rw[o];simp only[eR,if_true,if_false,reduceIte,YL,PR.map,l];exact⟨Z,_,.mk t .nil,Z⟩
 ·refine a7 1 ⟨_,Z,Z,Z,?_⟩;rw[o];simp only[eR,if_true,if_false,reduceIte,YL,PR.map,l];exact⟨D,Z,Z⟩
theorem Sa(g:Rd)(t:g.Wf)(f p:Nat)(I:p<g.ts.length)(B:eo (de g f) g (p+1))(b:Nat)(i:List UInt8)(j:Nat)(q:g.ts[p]?=some ⟨b,i,j⟩)(n:de g (f+1) p=eR (de g f) g b i j (p+1))(D:b=1)(y:eN .string (cq i) kb 0=some none):
  b1 C b7 dk [.bp 0 0] [dq g p] fun G w=>∃m,w=[.box m]/\cN G=true/\e5 0 m=true/\zu g (de g (f+1) p) G m:=by
 have E:=t.len;have v:b≠0->p+1<g.ts.length:=fun F=>t.go p _ q F;have u:b≠0->dW ⟨b,i,j⟩ p=p+1:=fun F=>if_neg F;refine cA lz (fun _=>Z) ?_;refine dr g p _ q om 0 Z ?_;first|have r:p+1<g.ts.length:=v om|skip
 first|rw[u om]|skip
 subst D;repeat refine b8 ?_
 refine b9 ?_;refine b4 none Z ?_;refine b4 none Z ?_;refine b4 none Z ?_;refine b4 none Z ?_;refine b4 none Z ?_;refine b4 _ y ?_;repeat refine b8 ?_
 intro L;refine ej g t [[58,58]] dc (p+1) r _ _ 0 ?_ ?_
 ·exact Z
 cases l:cu g [[58,58]] (p+1)with
 |bad j J=>
  intro z;refine a7 1 ⟨_,Z,Z,Z,?_⟩;rw[n];simp only[eR,if_true,if_false,reduceIte,YL,PR.map,l];exact⟨z,Z,Z⟩
 |ok _ h=>
  have o:=c8 t _ _ _ r l;have H:p+1<=h:=by rw[cH _ _ _ l];omega
  refine n8 g h 2 (g.tok h) (bZ o) om 0 ?_ (fun k=>?_) (fun k=>?_)
  ·exact Z
  ·have x:h+1<g.ts.length:=t.go h _ (bZ o) om;rw[show dW (g.tok h) h=h+1 from if_neg om];repeat refine b8 ?_
   refine ny g t (de g f) (h+1) x (B.up om) 0 ?_ (fun M K z s A=>?_) (fun j J z s=>?_)
   ·exact Z
   ·repeat refine b8 ?_
    refine a7 1 ⟨_,Z,Z,Z,?_⟩;rw[n];simp only[eR,if_true,if_false,reduceIte,YL,PR.map,l,k,ne_eq,not_true,s];exact⟨Z,_,.mk A .nil,Z⟩
   ·refine a7 1 ⟨_,Z,Z,Z,?_⟩;rw[n];simp only[eR,if_true,if_false,reduceIte,YL,PR.map,l,k,ne_eq,not_true,s];exact⟨z,Z,Z⟩
  ·refine a7 1 ⟨_,Z,Z,Z,?_⟩;rw[n];simp only[eR,if_true,if_false,reduceIte,YL,PR.map,l,k,ne_eq,not_false_iff];exact⟨_,Z,Z⟩
theorem Sb(g:Rd)(t:g.Wf)(f p:Nat)(K:p<g.ts.length)(B:eo (de g f) g (p+1))(b:Nat)(i:List UInt8)(j:Nat)(q:g.ts[p]?=some ⟨b,i,j⟩)(n:de g (f+1) p=eR (de g f) g b i j (p+1))(F:b=1)(E D:Nat)(y:eN .string (cq i) kb 0=some (some (E,b3 D))):
  b1 C b7 dk [.bp 0 0] [dq g p] fun I w=>∃m,w=[.box m]/\cN I=true/\e5 0 m=true/\zu g (de g (f+1) p) I m:=by
 have G:=t.len;have v:b≠0->p+1<g.ts.length:=fun H=>t.go p _ q H;have u:b≠0->dW ⟨b,i,j⟩ p=p+1:=fun H=>if_neg H;refine cA lz (fun _=>Z) ?_;refine dr g p _ q om 0 Z ?_;first|have r:p+1<g.ts.length:=v om|skip
 first|rw[u om]|skip
 subst F;repeat refine b8 ?_
 refine b9 ?_;refine b4 none Z ?_;refine b4 none Z ?_;refine b4 none Z ?_;refine b4 none Z ?_;refine b4 none Z ?_;refine b4 _ y ?_;repeat refine b8 ?_
 intro N;refine ej g t [[58,58]] dc (p+1) r _ _ 0 ?_ ?_
 ·exact Z
 cases l:cu g [[58,58]] (p+1)with
 |bad j L=>
  intro z;refine a7 1 ⟨_,Z,Z,Z,?_⟩;rw[n];simp only[eR,if_true,if_false,reduceIte,YL,PR.map,l];exact⟨z,Z,Z⟩
 |ok _ h=>
  have o:=c8 t _ _ _ r l;have J:p+1<=h:=by rw[cH _ _ _ l];omega
  refine n8 g h 2 (g.tok h) (bZ o) om 0 ?_ (fun k=>?_) (fun k=>?_)
  ·exact Z
  ·have x:h+1<g.ts.length:=t.go h _ (bZ o) om;rw[show dW (g.tok h) h=h+1 from if_neg om];repeat refine b8 ?_
   refine ny g t (de g f) (h+1) x (B.up om) 0 ?_ (fun O M z s A=>?_) (fun j L z s=>?_)
   ·exact Z
   ·repeat refine b8 ?_
    refine a7 1 ⟨_,Z,Z,Z,?_⟩;rw[n];simp only[eR,if_true,if_false,reduceIte,YL,PR.map,l,k,ne_eq,not_true,s];exact⟨Z,_,.mk A .nil,Z⟩
   ·refine a7 1 ⟨_,Z,Z,Z,?_⟩;rw[n];simp only[eR,if_true,if_false,reduceIte,YL,PR.map,l,k,ne_eq,not_true,s];exact⟨z,Z,Z⟩
  ·refine a7 1 ⟨_,Z,Z,Z,?_⟩;rw[n];simp only[eR,if_true,if_false,reduceIte,YL,PR.map,l,k,ne_eq,not_false_iff];exact⟨_,Z,Z⟩
theorem Sc(h:Rd)(z:h.Wf)(f p:Nat)(B:p<h.ts.length)(A:eo (de h f) h (p+1))(b:Nat)(g:List UInt8)(i:Nat)(l:h.ts[p]?=some ⟨b,g,i⟩)(v:de h (f+1) p=eR (de h f) h b g i (p+1))(k:b≠5)(n:b≠6)(s:b≠2)(r:b≠1)(t:eN .string (cq g) kb 0=some none):
  b1 C b7 dk [.bp 0 0] [dq h p] fun x q=>∃j,q=[.box j]/\cN x=true/\e5 0 j=true/\zu h (de h (f+1) p) x j:=by
 have u:=z.len;have o:b≠0->p+1<h.ts.length:=fun w=>z.go p _ l w;have m:b≠0->dW ⟨b,g,i⟩ p=p+1:=fun w=>if_neg w;refine cA lz (fun _=>Z) ?_;refine dr h p _ l om 0 Z ?_;first|have y:p+1<h.ts.length:=o om|skip
 first|rw[m om]|skip
 skip
 repeat refine b8 ?_
 refine b9 ?_;refine b4 none Z ?_;refine b4 none Z ?_;refine b4 none Z ?_;refine b4 none Z ?_;refine b4 none Z ?_;refine b4 _ t ?_;repeat refine b8 ?_
 refine a6 (mE k) ?_;repeat refine a6 (mE k) ?_
 repeat first|refine a6 (mE k) ?_|refine a6 (mE n) ?_|refine a6 (mE s) ?_|refine a6 (mE r) ?_
 refine eO _ i 3 ?_;refine a7 1 ⟨_,Z,Z,Z,?_⟩;rw[v];simp only[eR,if_true,if_false,reduceIte,YL,PR.map,k,n,s,r];exact⟨_,Z,Z⟩
theorem Sd(h:Rd)(B:h.Wf)(f p:Nat)(E:p<h.ts.length)(D:eo (de h f) h (p+1))(b:Nat)(g:List UInt8)(i:Nat)(l:h.ts[p]?=some ⟨b,g,i⟩)(x:de h (f+1) p=eR (de h f) h b g i (p+1))(k:b≠5)(n:b≠6)(s:b≠2)(r:b≠1)(v u:Nat)(t:eN .string (cq g) kb 0=some (some (v,b3 u))):
  b1 C b7 dk [.bp 0 0] [dq h p] fun z q=>∃j,q=[.box j]/\cN z=true/\e5 0 j=true/\zu h (de h (f+1) p) z j:=by
 have w:=B.len;have o:b≠0->p+1<h.ts.length:=fun y=>B.go p _ l y;have m:b≠0->dW ⟨b,g,i⟩ p=p+1:=fun y=>if_neg y;refine cA lz (fun _=>Z) ?_;refine dr h p _ l om 0 Z ?_;first|have A:p+1<h.ts.length:=o om|skip
 first|rw[m om]|skip
 skip
 repeat refine b8 ?_
 refine b9 ?_;refine b4 none Z ?_;refine b4 none Z ?_;refine b4 none Z ?_;refine b4 none Z ?_;refine b4 none Z ?_;refine b4 _ t ?_;repeat refine b8 ?_
 refine a6 (mE k) ?_;repeat refine a6 (mE k) ?_
 repeat first|refine a6 (mE k) ?_|refine a6 (mE n) ?_|refine a6 (mE s) ?_|refine a6 (mE r) ?_
 refine eO _ i 3 ?_;refine a7 1 ⟨_,Z,Z,Z,?_⟩;rw[x];simp only[eR,if_true,if_false,reduceIte,YL,PR.map,k,n,s,r];exact⟨_,Z,Z⟩
theorem MH(q:Rd)(s:q.Wf)(f p:Nat)(n:p<q.ts.length)(o:eo (de q f) q (p+1)):
  b1 C b7 dk [.bp 0 0] [dq q p] fun N E=>∃y,E=[.box y]/\cN N=true/\e5 0 y=true/\zu q (de q (f+1) p) N y:=by
 have m:de q (f+1) p=eR (de q f) q (q.tok p).kind (q.tok p).text (q.tok p).off (p+1):=by rw[de]
 have h:=bZ n;generalize q.tok p=L at m h;obtain⟨g,b,i⟩:=L;dsimp only at m;have cases:(g=5/\(b=[105,110,116]))∨(g=5/\b=[98,111,111,108])∨(g=5/\b=[116,101,120,116])∨(g=5/\b=[97,110,121])∨(g=5/\b=[110,111,110,101])∨(g=5/\b=[108,105,115,116])∨(g=5/\b=[102,110])∨
   (g=5/\sJ b=none/\b≠[108,105,115,116]/\b≠[102,110])∨(g=6/\b=[123])∨(g=6/\b=[60])∨(g=6/\b≠[123]/\b≠[60])∨g=2∨g=1∨(g≠5/\g≠6/\g≠2/\g≠1):=by
  by_cases j:g=5
  ·by_cases h1:b=[105,110,116]
   ·exact .inl ⟨j,h1⟩
   refine .inr ?_;by_cases h2:b=[98,111,111,108]
   ·exact .inl ⟨j,h2⟩
   refine .inr ?_;by_cases D:b=[116,101,120,116]
   ·exact .inl ⟨j,D⟩
   refine .inr ?_;by_cases A:b=[97,110,121]
   ·exact .inl ⟨j,A⟩
   refine .inr ?_;by_cases r:b=[110,111,110,101]
   ·exact .inl ⟨j,r⟩
   refine .inr ?_;by_cases v:b=[108,105,115,116]
   ·exact .inl ⟨j,v⟩
   refine .inr ?_;by_cases x:b=[102,110]
   ·exact .inl ⟨j,x⟩
   refine .inr (.inl ⟨j,?_,v,x⟩);unfold sJ;rw[if_neg h1,if_neg h2,if_neg D,if_neg A,if_neg r]
  ·refine .inr (.inr (.inr (.inr (.inr (.inr (.inr (.inr ?_)))))));by_cases r:g=6
   ·by_cases v:b=[123]
    ·exact .inl ⟨r,v⟩
    ·by_cases x:b=[60]
     ·exact .inr (.inl ⟨r,x⟩)
     ·exact .inr (.inr (.inl ⟨r,v,x⟩))
   ·by_cases h2:g=2
    ·exact .inr (.inr (.inr (.inl h2)))
    ·by_cases h1:g=1
     ·exact .inr (.inr (.inr (.inr (.inl h1))))
     ·exact .inr (.inr (.inr (.inr (.inr ⟨j,r,h2,h1⟩))))
 rcases cases with⟨j,l⟩|⟨j,l⟩|⟨j,l⟩|⟨j,l⟩|⟨j,l⟩|⟨j,l⟩|⟨j,l⟩|⟨j,K,M,G⟩|⟨r,w⟩|⟨r,w⟩|⟨r,J,F⟩|h2|h1|⟨z,B,I,H⟩
 ·exact Ur q s f p n o g b i h m j l
 ·exact Us q s f p n o g b i h m j l
 ·exact Ut q s f p n o g b i h m j l
 ·exact Uu q s f p n o g b i h m j l
 ·exact Uv q s f p n o g b i h m j l
 ·exact Uw q s f p n o g b i h m j l
 ·exact Ux q s f p n o g b i h m j l
 ·exact Uy q s f p n o g b i h m j K M G
 ·exact Uz q s f p n o g b i h m r w
 ·exact UA q s f p n o g b i h m r w
 ·rcases qW b with k|⟨u,t,k⟩
  ·exact R6 q s f p n o g b i h m r J F k
  ·exact R7 q s f p n o g b i h m r J F u t k
 ·rcases qW b with k|⟨u,t,k⟩
  ·exact R8 q s f p n o g b i h m h2 k
  ·exact R9 q s f p n o g b i h m h2 u t k
 ·rcases qW b with k|⟨u,t,k⟩
  ·exact Sa q s f p n o g b i h m h1 k
  ·exact Sb q s f p n o g b i h m h1 u t k
 ·rcases qW b with k|⟨u,t,k⟩
  ·exact Sc q s f p n o g b i h m z B I H k
  ·exact Sd q s f p n o g b i h m z B I H u t k
variable{e:Nat}
theorem e6{g f:Type}{j:g->f}{i:PR g}{b:f}(k:i.map j=.ok b e):∃h,i=.ok h e/\j h=b:=by
 cases i with
 |ok h m=>cases k;exact⟨h,rfl,rfl⟩
 |bad l n=>cases k
variable{a:Nat->PR Ty} {d:Rd}
theorem KY(m:d.Wf){r:List UInt8}{v p k:Nat}{t:Ty}(j:∀i t k,p<=i->i<d.ts.length->a i=.ok t k->i<k/\k<d.ts.length) 
  (f:e≠0->p<d.ts.length) (b:eR a d e r v p=.ok t k):p<=k/\k<d.ts.length:=by
 unfold eR at b;split at b
 ·have f:=f om;split at b
  ·cases b;exact⟨Nat.le_refl _,f⟩
  ·split at b
   ·obtain⟨s,g,_⟩:=e6 b;exact jA m j f g
   ·split at b
    ·cases h:cu d [[40]] p with
     |bad B C=>rw[h]at b;cases b
     |ok D l=>
      rw[h]at b;dsimp only at b;have z:=cH _ _ _ h;have o:=c8 m _ _ _ f h;cases q:ey a d [44] [41] true l with
      |bad B C=>rw[q]at b;cases b
      |ok F A=>
       rw[q]at b;dsimp only at b;obtain⟨y,n⟩:=qV m (fun i t k w=>j i t k om) o q;obtain⟨s,g,_⟩:=e6 b;obtain⟨E,x⟩:=j A s k om n g;exact⟨om,x⟩
    ·cases b
 ·split at b
  ·have f:=f om;split at b
   ·obtain⟨s,g,_⟩:=e6 b;exact qV m j f g
   ·split at b
    ·obtain⟨s,g,_⟩:=e6 b;exact qV m j f g
    ·cases b
  ·split at b
   ·obtain⟨s,g,_⟩:=e6 b;exact AU m j (f om) g
   ·split at b
    ·have f:=f om;cases h:cu d [[58,58]] p with
     |bad B C=>rw[h]at b;cases b
     |ok D l=>
      rw[h]at b;dsimp only at b;have z:=cH _ _ _ h;have o:=c8 m _ _ _ f h;split at b
      ·cases b
      ·rename_i u;have u:(d.tok l).kind=2:=by simpa using u
       obtain⟨s,g,_⟩:=e6 b;obtain⟨y,n⟩:=AU m (fun i t k w=>j i t k om) (m.go l _ (bZ o) om) g;exact⟨om,n⟩
    ·cases b
theorem KZ(p:d.Wf):∀(h b:Nat) (g:Ty) (f:Nat),b<d.ts.length->de d h b=.ok g f->b<f/\f<d.ts.length:=by
 intro h;induction h with
 |zero=>intro b g f _ i;cases i
 |succ h l=>
  intro b g f j i;rw[de]at i;obtain⟨r,q⟩:=KY p (p:=b+1) (fun n g f _ o m=>l n g f o m) (fun k=>p.go b _ (bZ j) k) i;exact⟨om,q⟩
theorem AZ(w:d.Wf):∀(g f:Nat),d.ts.length-f<=g->eo (de d g) d f:=by
 intro g;induction g with
 |zero=>intro f j;exact⟨fun h n i k b=>om,fun h k b=>om⟩
 |succ g t=>
  intro f j;refine⟨fun h n i _ b r=>KZ w _ h n i b r,fun h k b z y A m o s=>?_⟩;refine b1.one (dN:=[.bp 0 0]) (P:=zu d (de d (g+1) h)) (MH d w g h b (t (h+1) om)) z m Z Z Z (fun B v j=>?_);unfold zu at j;split at j
  ·rename_i n i u;obtain⟨rfl,x,p,rfl⟩:=j;exact o n x i u p
  ·rename_i l q u;obtain⟨i,rfl,rfl⟩:=j;exact s l q i u
def Xk:Nat->Bool:=fun b=>YN b 6||YN b 12||YN b 16||YN b 22||YN b 26||YN b 32||YN b 33
variable{c:Nat->PR Ex}
theorem Jo(I:d.Wf){p:Nat}(z:eo a d p)(g:ld cR c d p)(D:p<d.ts.length):
  b1 C b7 jq [.bp 0 0] [dq d p] (H2 d (kH a c d p)):=by
 have O:=I.len;refine cA Xk (fun _=>Z) ?_;refine nl d I a p D z 0 Z (fun U e x b m=>?_) (fun k t x b=>?_)
 ·obtain⟨X,s⟩:=jA I (fun P U x M f j=>z.lt P U x M f j) D b;obtain⟨W,ae,tn,Y,ab,rfl⟩:=m.di;intro aj;repeat refine b6 ?_
  refine g.call x om s 0 _ _ ?_ (fun ag ah B h y=>?_) (fun k t B h=>?_)
  ·exact Z
  ·obtain⟨Q,v⟩:=g.lt _ _ _ om s h;obtain⟨R,T,S,E,o,q,F,A,rfl⟩:=y.eight;intro ac;repeat refine b8 ?_
   intro K;refine gM I [116,104,101,110] v K _ 0 Z (fun f r=>?_) (fun f x=>?_)
   ·repeat refine b6 ?_
    refine g.call (B+1) om r 0 _ _ ?_ (fun ai d2 H i l=>?_) (fun k t H i=>?_)
    ·exact Z
    ·obtain⟨L,u⟩:=g.lt _ _ _ om r i;obtain⟨R,T,S,E,o,q,F,A,rfl⟩:=l.eight;intro ad;repeat refine b8 ?_
     intro J;refine gM I [101,108,115,101] u J _ 0 Z (fun j G=>?_) (fun j x=>?_)
     ·repeat refine b6 ?_
      refine g.call (H+1) om G 0 _ _ ?_ (fun af d3 N w n=>?_) (fun k t N w=>?_)
      ·exact Z
      ·obtain⟨R,T,S,E,o,q,F,A,rfl⟩:=n.eight;intro V;repeat refine b8 ?_
       intro aa;repeat refine b8 ?_
       refine a7 1 (dK (by simp only[kH,eJ,cu,PR.map,if_true,b,h,i,w,f,j]) (.mk (.ps (.cons m .nil) sm) .nil (.ps (.cons y (.cons l (.cons n .nil))))))
      ·refine a7 1 (cK (by simp only[kH,eJ,cu,PR.map,if_true,b,h,i,w,f,j]))
     ·refine a7 1 (cK (by simp only[kH,eJ,cu,PR.map,if_true,if_false,YM,b,h,i,f,j]))
    ·refine a7 1 (cK (by simp only[kH,eJ,cu,PR.map,if_true,b,h,i,f]))
   ·refine a7 1 (cK (by simp only[kH,eJ,cu,PR.map,if_true,if_false,YM,b,h,f]))
  ·refine a7 1 (cK (by simp only[kH,b,h]))
 ·refine a7 1 (cK (by simp only[kH,b]))
def Xl:Nat->Bool:=fun b=>YN b 6||YN b 12||YN b 18||YN b 28||YN b 38||YN b 24||YN b 34||YN b 44||YN b 45
theorem Jp(r:d.Wf){p:Nat}(I:eo a d p)(k:ld cR c d p)(M:p<d.ts.length):
  b1 C b7 pv [.bp 0 0] [dq d p] (H2 d (jb a c d p)):=by
 have V:=r.len;refine cA Xl (fun _=>Z) ?_;refine nl d r a p M I 0 Z (fun ad aj m f t=>?_) (fun o B m f=>?_)
 ·obtain⟨ah,A⟩:=jA r (fun Y ad m g i j=>I.lt Y ad m g i j) M f;obtain⟨ag,am,tn,ai,al,rfl⟩:=t.di;intro au;refine jR d m _ (bZ A) om 0 ?_ (fun h=>?_) (fun h=>?_)
  ·exact Z
  ·have H:m+1<d.ts.length:=r.go m _ (bZ A) om;intro R;refine gM r [44] H R _ 0 Z (fun g y=>?_) (fun g m=>?_)
   ·refine jR d (m+1+1) _ (bZ y) om 0 ?_ (fun b=>?_) (fun b=>?_)
    ·exact Z
    ·have Q:m+1+1+1<d.ts.length:=r.go (m+1+1) _ (bZ y) om;intro W;refine gM r [105,110] Q W _ 0 Z (fun i z=>?_) (fun i m=>?_)
     ·repeat refine b6 ?_
      refine k.call (m+1+1+1+1) om z 0 _ _ ?_ (fun ap aq L l G=>?_) (fun o B L l=>?_)
      ·exact Z
      ·obtain⟨e,E⟩:=k.lt _ _ _ om z l;obtain⟨aa,ac,ab,N,v,w,O,K,rfl⟩:=G.eight;intro af;repeat refine b8 ?_
       intro X;refine gM r [102,114,111,109] E X _ 0 Z (fun j x=>?_) (fun j m=>?_)
       ·repeat refine b6 ?_
        refine k.call (L+1) om x 0 _ _ ?_ (fun ar d2 P n s=>?_) (fun o B P n=>?_)
        ·exact Z
        ·obtain⟨T,D⟩:=k.lt _ _ _ om x n;obtain⟨aa,ac,ab,N,v,w,O,K,rfl⟩:=s.eight;intro ae;repeat refine b8 ?_
         intro S;refine gM r [61,62] D S _ 0 Z (fun q J=>?_) (fun q m=>?_)
         ·repeat refine b6 ?_
          refine k.call (P+1) om J 0 _ _ ?_ (fun ao d3 U F u=>?_) (fun o B U F=>?_)
          ·exact Z
          ·obtain⟨aa,ac,ab,N,v,w,O,K,rfl⟩:=u.eight;intro ak;repeat refine b8 ?_
           intro an;repeat refine b8 ?_
           refine a7 1 (dK (by simp only[jb,c9,eJ,cu,PR.map,ne_eq,not_true,if_false,if_true,f,l,n,F,h,b,g,i,j,q]) (.mk (.ps (.cons t .nil) sm) .nil (.ps (.cons G (.cons s (.cons u .nil))))))
          ·refine a7 1 (cK (by simp only[jb,c9,eJ,cu,PR.map,ne_eq,not_true,if_false,if_true,f,l,n,F,h,b,g,i,j,q]))
         ·refine a7 1 (cK (by simp only[jb,c9,eJ,cu,PR.map,ne_eq,not_true,if_false,if_true,YM,f,l,n,h,b,g,i,j,q]))
        ·refine a7 1 (cK (by simp only[jb,c9,eJ,cu,PR.map,ne_eq,not_true,if_false,if_true,f,l,n,h,b,g,i,j]))
       ·refine a7 1 (cK (by simp only[jb,c9,eJ,cu,PR.map,ne_eq,not_true,if_false,if_true,YM,f,l,h,b,g,i,j]))
      ·refine a7 1 (cK (by simp only[jb,c9,eJ,cu,PR.map,ne_eq,not_true,if_false,if_true,f,l,h,b,g,i]))
     ·refine a7 1 (cK (by simp only[jb,c9,eJ,cu,PR.map,ne_eq,not_true,if_false,if_true,YM,f,h,b,g,i]))
    ·refine a7 1 (cK (by simp only[jb,c9,cu,ne_eq,not_true,not_false_eq_true,if_false,if_true,f,h,b,g]))
   ·refine a7 1 (cK (by simp only[jb,c9,cu,ne_eq,not_true,if_false,YM,f,h,g]))
  ·refine a7 1 (cK (by simp only[jb,c9,ne_eq,not_false_eq_true,if_true,f,h]))
 ·refine a7 1 (cK (by simp only[jb,f]))
theorem GW(r:d.Wf)(u:List UInt8){p:Nat}(l:eo a d p)(h:p<d.ts.length):
  b1 C b7 sy [.bp 0 0,cq u] [dq d p] (H2 d (gm a d u p)):=by
 have t:=r.len;refine cz ?_;refine cG d p _ [58,58] (bZ h) om 0 Z (fun b=>?_) (fun b=>?_)
 ·have i:=r.step h b;refine jR d (p+1) _ (bZ i) om 0 Z (fun g=>?_) (fun g=>?_)
  ·have j:p+1+1<d.ts.length:=r.go (p+1) _ (bZ i) om;refine pb d (p+1+1) _ [91] (bZ j) 0 Z ?_;apply aZ<;>intro f
   ·refine ny d r a (p+1+1) j ⟨fun m x q w=>l.lt m x q om,fun m w=>l.call m om⟩ 0 Z (fun y v q n k=>?_) (fun o s q n=>?_)
    ·refine a7 1 (dK (by simp only[gm,c9,PR.map,b,f,g,n,ne_eq,not_true,if_false,if_true]) (.mk k .nil .nil))
    ·refine a7 1 (cK (by simp only[gm,c9,PR.map,b,f,g,n,ne_eq,not_true,if_false,if_true]))
   ·refine a7 1 (dK (by simp only[gm,c9,PR.map,b,f,g,ne_eq,not_true,if_false,if_true,YM]) (.mk .nil .nil .nil))
  ·refine a7 1 (cK (by simp only[gm,c9,PR.map,b,g,ne_eq,not_false_eq_true,if_true]))
 ·refine pb d p _ [91] (bZ h) 0 Z ?_;apply aZ<;>intro f
  ·refine ny d r a p h l 0 Z (fun y v q n k=>?_) (fun o s q n=>?_)
   ·refine a7 1 (dK (by simp only[gm,PR.map,b,f,n,if_false,if_true,YM]) (.mk k .nil .nil))
   ·refine a7 1 (cK (by simp only[gm,PR.map,b,f,n,if_false,if_true,YM]))
  ·refine a7 1 (dK (by simp only[gm,b,f,if_false,YM]) (.mk .nil .nil .nil))
end Go.Proofs.YtpejealjkmhkgaaGreatDoor
