/-
  The same words at another place, function by function. Plain.
-/
import Derived.Test.YtkblonfmjlopaaaGreatDoorSxS
set_option linter.all false
set_option maxRecDepth 1000000
set_option maxHeartbeats 16000000
namespace Go.Proofs.YtkblonfmjlopaaaGreatDoor
section
open Go
def oE(w:ak):Prop:=w=[100,97,116,97,116,121,112,101]\/w=[116,121,112,101]\/w=[101,120,99,101,112,116,105,111,110]\/w=[115,116,114,117,99,116,117,114,101]\/w=[115,105,103,110,97,116,117,114,101]
def rq(w:ak):Prop:=w=[118,97,108]\/w=[102,117,110]\/oE w
def JP(x:Nd):ak:=match x with|_::.v (.string b)::_=>b.data.toList|_=>[]
structure Sf(X i:Tx)(k:Nat)(f j:Fs):Prop where
 ty:∀ s,b7 X k True True f.ty j.ty s
 pat:∀ s,b7 X k True True f.pat j.pat s
 exp:∀ s,b7 X k True True f.exp j.exp s
 dr:∀ b s,b7 X k (Wk X i k) False (f.dr b) (j.dr b) s
 e8:∀ l b s,b7 X k True True (f.e8 l b) (j.e8 l b) s
 fB:∀ l b s,b7 X k True True (f.fB l b) (j.fB l b) s
 either:∀ s,b7 X k True True f.either j.either s
 both:∀ s,b7 X k True True f.both j.both s
 jU:∀ ls s,b7 X k True True (f.jU ls) (j.jU ls) s
 prec:∀ ls s,b7 X k True True (f.prec ls) (j.prec ls) s
 kk:∀ ls s,b7 X k True True (f.kk ls) (j.kk ls) s
 iq:∀ s,b7 X k True True f.iq j.iq s
 data:∀ s,b7 X k True True f.data j.data s
 kS:∀ s,b7 X k True True f.kS j.kS s
 specs:∀ s,b7 X k True True f.specs j.specs s
 vars:∀ s,b7 X k True True f.vars j.vars s
 hd:∀ w s,b7 X k True True (f.hd w) (j.hd w) s
 mF:∀ w s,b7 X k True True (f.mF w) (j.mF w) s
 l7:∀ w s,b7 X k True True (f.l7 w) (j.l7 w) s
 lS:∀ e s,b7 X k (Wk X i k) True (f.lS e) (j.lS e) s
 lC:∀ e s,b7 X k True True (f.lC e) (j.lC e) s
 lU:∀ l s,b7 X k True True (f.lU l) (j.lU l) s
 jK:∀ s,b7 X k True True f.jK j.jK s
 oD:∀ w s,b7 X k True (oE w) (f.oD w) (j.oD w) s
 mG:∀ w s,s.i+2<=X.ts.length->b7 X k True True (f.mG w) (j.mG w) s
section
variable {X i:Tx} {k:Nat} {α β:Type} {P Q P' Q':Prop} {s:al}
theorem yz{σ:Type}{b:ak}{o d:σ->PM (Nd×σ)}(c:∀ s,b7 X k P Q (a7 X b) (a7 i b) s)(h:∀ x s,b7 X k P Q (o x) (d x) s):∀ (n m:Nat) (a:List Nd) (x:σ) (s:al),n<=m->b7 X k P Q (gy X b o n a x) (gy i b d m a x) s
 |0,m,a,x,s,A=>c8
 |n+1,m,a,x,s,A=>by
  obtain⟨m,rfl⟩:∃ q,m=q+1:=⟨m-1,O⟩;unfold Go.Proofs.YtkblonfmjlopaaaGreatDoor.gy;exact ad (c s) fun t e _ _ _=>cj (fun _=>ad (h x e) fun r f _ _ _=>yz c h n m _ _ f O) (fun _=>a1)
theorem wK{σ:Type}{a:ak}{o b:σ->PM (Nd×σ)}(c:∀ s,b7 X k P Q (a7 X a) (a7 i a) s)(h:∀ x s,b7 X k P Q (o x) (b x) s){n m:Nat}(A:n<=m){x:σ}:b7 X k P Q (list X n a o x) (list i m a b x) s:=by
 unfold Go.Proofs.YtkblonfmjlopaaaGreatDoor.list;exact ad (h x s) fun r d _ _ _=>yz c h n m _ _ d A
theorem BW{o b:PM Nd}(h:∀ s,b7 X k P Q o b s)(u:Unit)(s:al):b7 X k P Q (lone o u) (lone b u) s:=by
 unfold Go.Proofs.YtkblonfmjlopaaaGreatDoor.lone;exact ad (h s) fun a c _ _ _=>a1
theorem jS{a:ak}{o b:PM Nd}(c:∀ s,b7 X k P Q (a7 X a) (a7 i a) s)(h:∀ s,b7 X k P Q o b s){n m:Nat}(A:n<=m):b7 X k P Q (df X n a o) (df i m a b) s:=by
 unfold Go.Proofs.YtkblonfmjlopaaaGreatDoor.df;exact ad (wK c (fun u s=>BW h u s) A) fun r d _ _ _=>a1
variable (E:Ext X i k)
include E
theorem r2{σ:Type}{a:ak}{o c:σ->PM (Nd×σ)}(b:a≠[59])(h:∀ x s,b7 X k P Q (o x) (c x) s){n m:Nat}(A:n<=m){x:σ}:b7 X k P Q (hF X n a o x) (hF i m a c x) s:=by
 unfold Go.Proofs.YtkblonfmjlopaaaGreatDoor.hF;exact ad (cu E b) fun t d _ _ _=>cj (fun _=>a1) (fun _=>ad (wK (fun s=>cu E bh) h A) fun l e _ _ _=>ad (et E b) fun _ f _ _ _=>a1)
theorem sT{a:ak}{o b:PM Nd}(c:a≠[59])(h:∀ s,b7 X k P Q o b s){n m:Nat}(A:n<=m):b7 X k P Q (gd X n a o) (gd i m a b) s:=by
 unfold Go.Proofs.YtkblonfmjlopaaaGreatDoor.gd;exact ad (r2 E c (fun u s=>BW h u s) A) fun r d _ _ _=>a1
theorem wL:∀ (n m:Nat) (b:List ak) (s:al),n<=m->b7 X k P Q (hQ X n b) (hQ i m b) s
 |0,m,b,s,A=>c8
 |n+1,m,b,s,A=>by
  obtain⟨m,rfl⟩:∃ q,m=q+1:=⟨m-1,O⟩;unfold Go.Proofs.YtkblonfmjlopaaaGreatDoor.hQ;exact ad (C_ E) fun t d _ _ _=>cj (fun _=>ad (g_ E) fun a c _ _ _=>wL n m _ c O) (fun _=>a1)
theorem GW{n m:Nat}(A:n<=m):b7 X k P Q (names X n) (names i m) s:=by
 unfold Go.Proofs.YtkblonfmjlopaaaGreatDoor.names;exact ad (g_ E) fun a b _ _ _=>wL E n m _ b A
theorem wM{n m:Nat}(A:n<=m):b7 X k P Q (vars X n) (vars i m) s:=by
 unfold Go.Proofs.YtkblonfmjlopaaaGreatDoor.vars;refine pH E fun c=>kK (E.kind c bh bh) (fun _=>ad (sB E) fun a b _ _ _=>a1) (fun _=>ad (cu E bh) fun o b _ _ _=>cj (fun _=>ad (jS (fun s=>cu E bh) (fun s=>ad (sB E) fun a b _ _ _=>a1) A) fun l d _ _ _=>ad (et E bh) fun _ e _ _ _=>a1) (fun _=>a1))
theorem r3:∀ (n m:Nat) (l:List Nd) (s:al),n<=m->b7 X k P Q (ek X n l) (ek i m l) s
 |0,m,acc,s,A=>c8
 |n+1,m,acc,s,A=>by
  obtain⟨m,rfl⟩:∃ q,m=q+1:=⟨m-1,O⟩;unfold Go.Proofs.YtkblonfmjlopaaaGreatDoor.ek;exact pH E fun b=>kK (E.kind b bh bh) (fun _=>ad (qQ E) fun a c _ _ _=>r3 n m _ c O) (fun _=>a1)
variable {f j:Fs} {n m:Nat} (h:Sf X i k f j) (A:n<=m)
include h
theorem BX(b:List ak)(s:al):b7 X k True True (jz X f b) (jz i j b) s:=by
 unfold Go.Proofs.YtkblonfmjlopaaaGreatDoor.jz;exact ad (n6 E) fun a d _ _ _=>ad (et E bh) fun _ c _ _ _=>ad (h.ty c) fun t e _ _ _=>a1
theorem zV(b:List ak)(s:al):b7 X k True True (iI X f b) (iI i j b) s:=by
 unfold Go.Proofs.YtkblonfmjlopaaaGreatDoor.iI;exact ad (n6 E) fun a d _ _ _=>ad (et E bh) fun _ c _ _ _=>ad (h.pat c) fun t e _ _ _=>a1
theorem zW(b:List ak)(s:al):b7 X k True True (iJ X f b) (iJ i j b) s:=by
 unfold Go.Proofs.YtkblonfmjlopaaaGreatDoor.iJ;exact ad (n6 E) fun a d _ _ _=>ad (et E bh) fun _ c _ _ _=>ad (h.exp c) fun t e _ _ _=>a1
theorem zX:b7 X k True True (qf X f) (qf i j) s:=by
 unfold Go.Proofs.YtkblonfmjlopaaaGreatDoor.qf;exact ad (cu E bh) fun o a _ _ _=>cj (fun _=>ad (h.ty a) fun b c _ _ _=>a1) (fun _=>a1)
theorem tP:∀ (n m:Nat) (x:Nd) (s:al),n<=m->b7 X k True True (fq X f n x) (fq i j m x) s
 |0,m,x,s,A=>c8
 |n+1,m,x,s,A=>by
  obtain⟨m,rfl⟩:∃ q,m=q+1:=⟨m-1,O⟩;unfold Go.Proofs.YtkblonfmjlopaaaGreatDoor.fq;exact ad (cu E bh) fun o a _ _ _=>cj (fun _=>ad (h.ty a) fun t b _ _ _=>tP n m _ b O) (fun _=>a1)
theorem tQ:∀ (n m:Nat) (x:Nd) (s:al),n<=m->b7 X k True True (gV X f n x) (gV i j m x) s
 |0,m,x,s,A=>c8
 |n+1,m,x,s,A=>by
  obtain⟨m,rfl⟩:∃ q,m=q+1:=⟨m-1,O⟩;unfold Go.Proofs.YtkblonfmjlopaaaGreatDoor.gV;exact ad (cu E bh) fun o a _ _ _=>cj (fun _=>ad (h.ty a) fun t b _ _ _=>tQ n m _ b O) (fun _=>a1)
theorem tR:∀ (n m:Nat) (x:Nd) (s:al),n<=m->b7 X k True True (gH X f n x) (gH i j m x) s
 |0,m,x,s,A=>c8
 |n+1,m,x,s,A=>by
  obtain⟨m,rfl⟩:∃ q,m=q+1:=⟨m-1,O⟩;unfold Go.Proofs.YtkblonfmjlopaaaGreatDoor.gH;exact ad (cu E bh) fun o a _ _ _=>cj (fun _=>ad (h.iq a) fun t b _ _ _=>tR n m _ b O) (fun _=>a1)
omit h in
theorem q5{h:Int}{o d:Bool}{u v:Int->Bool->PM Nd}{p:ak->Nd->Nd->Nd}(w:∀ l b s,b7 X k P Q (u l b) (v l b) s):∀ (n m:Nat) (a:Nd) (f:Int×Bool) (s:al),n<=m->b7 X k P Q (fg X h o d u p n a f) (fg i h o d v p m a f) s
 |0,m,a,f,s,A=>c8
 |n+1,m,a,f,s,A=>by
  obtain⟨m,rfl⟩:∃ q,m=q+1:=⟨m-1,O⟩;intro j b t e;unfold Go.Proofs.YtkblonfmjlopaaaGreatDoor.fg at e⊢;simp only [] at e⊢
  have x:((V i (gl k s)).kind=1\/(V i (gl k s)).kind=2\/d=true/\ay i [[61]] (gl k s)=true)↔((V X s).kind=1\/(V X s).kind=2\/d=true/\ay X [[61]] s=true):=by
   rw[E.kind j bh bh,E.kind j bh bh,E.iE j bh]
  by_cases c:(V X s).kind=1\/(V X s).kind=2\/d=true/\ay X [[61]] s=true
  ·have z:(V X s).kind≠0:=by
    rcases c with c|c|⟨_,c⟩
    ·omega
    ·omega
    ·unfold ay at c;simp only [Bool.and_eq_true,beq_iff_eq] at c;omega
   have r:=dd z;rw[if_neg (fun q=>q c)] at e;rw[if_neg (fun q=>q (x.2 c)),(E.same j z).2.1];rw[show(gl k s).sc=s.sc from rfl]
   rcases y:j2 s.sc (V X s).text with _|g
   ·rw[y] at e;cases e;exact⟨aw _,j,fun _=>rfl,fun _=>rfl⟩
   ·rw[y] at e;simp only [] at e⊢
    split at e
    ·cases e;exact⟨aw _,j,fun _=>rfl,fun _=>by rw[if_pos ‹_›]⟩
    ·rename_i B
     split at e
     ·cases e
     ·rename_i c2
      split at e
      ·cases e
      ·rename_i C;rw[if_neg B,if_neg c2,if_neg C];exact ad (lK r) (fun _ D _ _ _=>ad (w _ _ D) fun b F _ _ _=>q5 w n m _ _ F O) j b t e
  ·rw[if_pos c] at e;cases e;exact⟨aw _,j,fun _=>rfl,fun _=>by rw[if_pos (fun q=>c (x.1 q))]⟩
include A
theorem tS:b7 X k True True (fe X f n) (fe i j m) s:=by
 unfold Go.Proofs.YtkblonfmjlopaaaGreatDoor.fe;refine pH E fun c=>ad ?_ fun l b _ _ _=>ad (r3 E n m _ b A) fun l d _ _ _=>?_
 ·refine kK (E.kind c bh bh) (fun _=>ad (sB E) fun a b _ _ _=>a1) (fun _=>kK (E.kind c bh bh) (fun _=>ad (qQ E) fun a b _ _ _=>a1) (fun _=>ad (cu E bh) fun o b _ _ _=>cj (fun _=>?_) (fun _=>?_)))
  ·exact ad (jS (fun s=>cu E bh) h.ty A) fun l d _ _ _=>ad (et E bh) fun _ e _ _ _=>a1
  ·exact ad (et E bh) fun _ d _ _ _=>ad (r2 E bh h.jU A) fun r e _ _ _=>a1
 ·split
  ·exact a1
  ·exact n_
theorem yA:∀ (a b:Nat) (l:List Nd) (s:al),a<=b->b7 X k True True (ik X f n a l) (ik i j m b l) s
 |0,b,l,s,e=>c8
 |a+1,b,l,s,e=>by
  obtain⟨b,rfl⟩:∃ q,b=q+1:=⟨b-1,O⟩;unfold Go.Proofs.YtkblonfmjlopaaaGreatDoor.ik;refine pH E fun d=>kK ?_ (fun c=>ad (lK (dd O)) fun _ o _ _ _=>ad (tS E h A) fun x g _ _ _=>yA a b _ g O) (fun _=>a1);rw[E.kind d bh bh]
  by_cases c:(V X s).kind=2
  ·rw[(E.same d O).2.1]
  ·exact⟨fun q=>absurd q.1 c,fun q=>absurd q.1 c⟩
theorem LK:b7 X k True True (qh X f n) (qh i j m) s:=by
 unfold Go.Proofs.YtkblonfmjlopaaaGreatDoor.qh;exact ad (tS E h A) fun a c _ _ _=>ad (yA E h A n m _ c A) fun l e _ _ _=>ad (cu E bh) fun o d _ _ _=>cj (fun _=>ad (h.ty d) fun b g _ _ _=>a1) (fun _=>a1)
theorem DP(w:ak):b7 X k True True (h' X f n w) (h' i j m w) s:=by
 unfold Go.Proofs.YtkblonfmjlopaaaGreatDoor.h';exact cj (fun _=>a1) (fun _=>cj (fun _=>ad (g_ E) fun a b _ _ _=>a1) (fun _=>ad (r2 E bh h.prec A) fun r b _ _ _=>a1))
theorem sU:b7 X k True True (fp X f n) (fp i j m) s:=fun d=>by
 by_cases c:du X s=true
 rotate_left 1
 ·intro a t e;unfold Go.Proofs.YtkblonfmjlopaaaGreatDoor.fp at e;rw[if_neg c] at e;cases e
 have o:(V X s).kind≠0:=fun x=>by
  unfold du ea ay at c;simp only [Bool.or_eq_true,Bool.and_eq_true,beq_iff_eq] at c;omega
 have b:=dd o;obtain⟨r,u,v,y,w⟩:=E.same d o
 have g:b7 X k True True (step1>>=fun _=>(if(V X s).kind=4 then pure (c_ 3 [] (V X s).num 0 [] [] [] [])
  else if(V X s).kind=6 then pure (c_ 4 [] 0 (V X s).n [] [] [] [])
  else if(V X s).kind=7 then pure (c_ 5 [] 0 0 (V X s).text [] [] [])
  else if(V X s).kind=8 then
   (if(V X s).text=[40] then(do
     let l<-gd X n [41] f.pat
     match l with
     |[a]=>pure a
     |_=>f.lU l)
   else if(V X s).text=[91] then(do
    let l<-gd X n [93] f.pat
    pure (c_ 10 [] 0 0 [] [] l []))
   else f.l7 (V X s).text)
  else pure (named (V X s).text):PM Nd)) (step1>>=fun _=>(if(V X s).kind=4 then pure (c_ 3 [] (V X s).num 0 [] [] [] [])
  else if(V X s).kind=6 then pure (c_ 4 [] 0 (V X s).n [] [] [] [])
  else if(V X s).kind=7 then pure (c_ 5 [] 0 0 (V X s).text [] [] [])
  else if(V X s).kind=8 then
   (if(V X s).text=[40] then(do
     let l<-gd i m [41] j.pat
     match l with
     |[a]=>pure a
     |_=>j.lU l)
   else if(V X s).text=[91] then(do
    let l<-gd i m [93] j.pat
    pure (c_ 10 [] 0 0 [] [] l []))
   else j.l7 (V X s).text)
  else pure (named (V X s).text):PM Nd)) s:=by
  refine ad (lK b) fun _ q _ _ _=>?_;refine cj (fun _=>a1) (fun _=>cj (fun _=>a1) (fun _=>cj (fun _=>a1) (fun _=>cj (fun _=>cj (fun _=>?_) (fun _=>cj (fun _=>?_) (fun _=>h.l7 _ q))) (fun _=>a1))))
  ·refine ad (sT E bh h.pat A) fun l p _ _ _=>?_
   split
   ·exact a1
   ·exact h.lU _ p
  ·exact ad (sT E bh h.pat A) fun l p _ _ _=>a1
 refine sm_at g ?_ (fun _=>?_) d
 ·unfold Go.Proofs.YtkblonfmjlopaaaGreatDoor.fp;rw[if_pos c];rfl
 ·unfold Go.Proofs.YtkblonfmjlopaaaGreatDoor.fp;rw[if_pos ((E.atomic d).trans c)];simp only [r,u,v,w]
  rfl
theorem DQ:b7 X k True True (jg X f n) (jg i j m) s:=fun r=>by
 have l:((V i (gl k s)).kind=1\/(V i (gl k s)).kind=2\/(V i (gl k s)).kind=8/\(V i (gl k s)).text=[111,112])↔((V X s).kind=1\/(V X s).kind=2\/(V X s).kind=8/\(V X s).text=[111,112]):=by
  rcases E.next r with⟨_,F,G,_⟩|⟨_,e,u|⟨d,g⟩⟩
  ·rw[F,G]
  ·rw[e,u]
  ·rw[e,d,g];decide
 intro b t e
 have e:(Go.Proofs.YtkblonfmjlopaaaGreatDoor.fp X f n>>=fun x=>PM.get>>=fun D=>if((V X s).kind=1\/(V X s).kind=2\/(V X s).kind=8/\(V X s).text=[111,112])/\du X D=true then(do
  let y<-Go.Proofs.YtkblonfmjlopaaaGreatDoor.fp X f n
  pure (c_ 6 (JP x) 0 0 [] [] [y] [])) else pure x) s=some (.ok (b,t)):=e
 obtain⟨x,a,d,g⟩:=di e;obtain⟨H,p,v,w⟩:=sU E h A r x a d
 have o:b7 X k True True (if((V X s).kind=1\/(V X s).kind=2\/(V X s).kind=8/\(V X s).text=[111,112])/\du X a=true then(do
  let y<-Go.Proofs.YtkblonfmjlopaaaGreatDoor.fp X f n
  pure (c_ 6 (JP x) 0 0 [] [] [y] [])) else pure x) (if((V i (gl k s)).kind=1\/(V i (gl k s)).kind=2\/(V i (gl k s)).kind=8/\(V i (gl k s)).text=[111,112])/\du i (gl k a)=true then(do
  let y<-Go.Proofs.YtkblonfmjlopaaaGreatDoor.fp i j m
  pure (c_ 6 (JP x) 0 0 [] [] [y] [])) else pure x) a:=by
  refine kK (by rw[l,E.atomic p]) (fun _=>ad (sU E h A) fun y J _ _ _=>a1) (fun _=>a1)
 obtain⟨I,z,B,C⟩:=o p b t g;refine⟨O,z,fun q=>(B q).trans (v q),fun c=>?_⟩;have:=w (.inr trivial);show(Go.Proofs.YtkblonfmjlopaaaGreatDoor.fp i j m>>=_) (gl k s)=_;rw[e4 this];exact C c
omit E A in
theorem GX(w:ak)(c:s.i+2<=X.ts.length):b7 X k True True (jY f w) (jY j w) s:=by
 unfold Go.Proofs.YtkblonfmjlopaaaGreatDoor.jY;refine ad (lK O) fun _ d a _ _=>?_;cases a;exact ad (lK (show s.i+1<X.ts.length from O)) fun _ b _ _ _=>ad (h.pat b) fun y e _ _ _=>a1
theorem JQ:b7 X k True True (nC X f n) (nC i j m) s:=fun a=>by
 have d:b7 X k True True ((if((V X s).kind=1/\dw X false s=true)/\hR X s=true then f.mG (V X s).text else f.e8 0 false:PM Nd)>>=fun x=>fq X f n x) ((if((V i (gl k s)).kind=1/\dw i false (gl k s)=true)/\hR i (gl k s)=true then j.mG (V i (gl k s)).text else j.e8 0 false:PM Nd)>>=fun x=>fq i j m x) s:=by
  refine ad ?_ fun x g _ _ _=>tP E h n m _ g A
  by_cases e:(V X s).kind=1
  ·have b:=dd (X:=X) (s:=s) O;rw[(E.same a O).2.1];refine kK (by rw[E.kind a bh bh,E.short a,E.hR b]) (fun c=>h.mG _ s ?_) (fun _=>h.e8 _ _ s);have:=c.2;unfold hR at this
   rcases gr (s.i+1) X.ts.length with q|q
   ·omega
   ·rw[j4 q] at this;cases this
  ·rw[if_neg (fun q=>e q.1.1),if_neg (fun q=>e ((E.kind a bh bh).1 q.1.1))];exact h.e8 _ _ s
 exact d a
theorem BY(l:Int)(b:Bool):b7 X k True True (ic X f n l b) (ic i j m l b) s:=by
 unfold Go.Proofs.YtkblonfmjlopaaaGreatDoor.ic;exact ad (DQ E h A) fun a c _ _ _=>q5 E h.e8 n m _ _ c A
theorem DR:b7 X k True True (kd X f n) (kd i j m) s:=by
 unfold Go.Proofs.YtkblonfmjlopaaaGreatDoor.kd;refine jS (fun s=>cu E bh) (fun s=>?_) A;unfold nN;exact ad (h.pat s) fun x b _ _ _=>ad (et E bh) fun _ a _ _ _=>ad (h.exp a) fun e c _ _ _=>a1
omit A in
theorem DS(e:Nd)(A:n<=m):b7 X k (Wk X i k) True (iw X f n e) (iw i j m e) s:=by
 unfold Go.Proofs.YtkblonfmjlopaaaGreatDoor.iw;exact ad (jS (fun s=>mK E) (fun s=>(h.exp s).le (fun _=>trivial) id) A) fun l a _ _ _=>a1
theorem DT(e:Nd):b7 X k True True (ix X f n e) (ix i j m e) s:=by
 unfold Go.Proofs.YtkblonfmjlopaaaGreatDoor.ix;exact ad (jS (fun s=>cu E bh) h.exp A) fun l a _ _ _=>a1
omit h A in
theorem qc(w:ak)(t:al)(b:t.i=X.ts.length)(g:Unit->PM α)(r:α×al):(a8 X w>>=g) t≠some (.ok r):=by
 have:a8 X w t=some (.error (31,X.en)):=by
  unfold a8;show PM.bind _ _ _=_
  have a:ay X [w] t=false:=by
   have:¬ay X [w] t=true:=fun q=>ba (ee q)
   simpa using this
  unfold PM.bind a7;rw[if_neg (by rw[a];decide)];show eo X t=_;unfold eo;rw[j4 O]
 intro e;have e:PM.bind _ _ _=_:=e;unfold PM.bind at e;rw[this] at e;cases e
omit A in
theorem GY:b7 X k True True (paren X f) (paren i j) s:=by
 unfold Go.Proofs.YtkblonfmjlopaaaGreatDoor.paren;refine ad (cu E bh) fun o v _ _ _=>cj (fun _=>a1) (fun _=>ad (h.exp v) fun e x _ _ _=>?_);have d:∀ (r:Nd) (t:al),t.i=X.ts.length->∀ q,(a8 X [41]>>=fun _=>(pure r:PM Nd)) t≠some (.ok q):=fun r t g q=>qc E [41] t g _ q;refine mh (mK E) (fun hX w _ _ _=>?_) (fun hX t g r u=>?_)
 ·refine mh (P':=Wk X i k) ?_ (fun r c _ _ _=>ad (et E bh) fun _ y _ _ _=>a1) (fun r t g q=>d r t g q);exact cj (fun _=>h.lS _ w) (fun _=>ad (cu E bh) fun b c _ _ _=>cj (fun _=>(h.lC _ c).le (fun _=>trivial) id) (fun _=>a1))
 ·obtain⟨a,c,m,n⟩:=di u
  have p:t.i<=c.i/\c.i<=X.ts.length:=by
   have l:b7 X k (Wk X i k) True (if hX=true then f.lS e else(do
    let b<-Go.Proofs.YtkblonfmjlopaaaGreatDoor.a7 X [44]
    if b=true then f.lC e else pure e)) (if hX=true then j.lS e else(do
    let b<-Go.Proofs.YtkblonfmjlopaaaGreatDoor.a7 i [44]
    if b=true then j.lC e else pure e)) t:=cj (fun _=>h.lS _ t) (fun _=>ad (cu E bh) fun b c _ _ _=>cj (fun _=>(h.lC _ c).le (fun _=>trivial) id) (fun _=>a1))
   have:=l O a c m;exact⟨this.1,this.2.1⟩
  exact d a c O _ n
end
end
section
open Go
section
variable {X i:Tx} {k:Nat} {α β:Type} {P Q P' Q':Prop} {s:al}
theorem yB{x c:PM α}(h:b7 X k P False x c s)(b:∀ a t,x s=some (.ok (a,t))->t.sc=s.sc):b7 X k P Q x c s:=fun i a t e=>by
 obtain⟨d,f,_,g⟩:=h i a t e;exact⟨d,f,fun _=>b a t e,g⟩
def oT(sc:List Fx):PM Unit:=PM.get>>=fun now=>PM.set {now with sc:=sc}
theorem wN(a:List Fx)(s:al):oT a s=some (.ok ((),⟨s.i,a⟩)):=rfl
theorem BZ{b:List Fx}:b7 X k P False (oT b) (oT b) s:=fun c a t e=>by
 cases e;exact⟨aw _,c,fun q=>q.elim,fun _=>rfl⟩
variable (E:Ext X i k)
include E
variable {f j:Fs} {n m:Nat} (h:Sf X i k f j) (A:n<=m)
include h A
theorem JR:b7 X k True True (do
 let d<-PM.get
 let b<-f.dr false
 a8 X [105,110]
 let l<-df X n [59] f.exp
 a8 X [101,110,100]
 let c<-PM.get
 PM.set {c with sc:=d.sc}
 pure (b9 13 [] 0 0 0 [] [] [lL l] [] b [])) (do
 let d<-PM.get
 let b<-j.dr false
 a8 i [105,110]
 let l<-df i m [59] j.exp
 a8 i [101,110,100]
 let c<-PM.get
 PM.set {c with sc:=d.sc}
 pure (b9 13 [] 0 0 0 [] [] [lL l] [] b [])) s:=by
 have o:b7 X k True True (f.dr false>>=fun b=>a8 X [105,110]>>=fun _=>df X n [59] f.exp>>=fun l=>a8 X [101,110,100]>>=fun _=>oT s.sc>>=fun _=>(pure (b9 13 [] 0 0 0 [] [] [lL l] [] b []):PM Nd))
  (j.dr false>>=fun b=>a8 i [105,110]>>=fun _=>df i m [59] j.exp>>=fun l=>a8 i [101,110,100]>>=fun _=>oT s.sc>>=fun _=>(pure (b9 13 [] 0 0 0 [] [] [lL l] [] b []):PM Nd)) s:=by
  refine yB ?_ (fun a t e=>?_)
  ·refine mh (h.dr false s) (fun b u _ _ _=>ad (et E bh) fun _ v _ _ _=>?_) (fun b t g r=>qc E _ t g _ r);refine mh ((jS (fun s=>mK E) (fun s=>(h.exp s).le (P':=Wk X i k) (Q':=False) (fun _=>trivial) (fun _=>trivial)) A)) (fun l w _ _ _=>ad (et E bh) fun _ x _ _ _=>ad BZ fun _ y _ _ _=>a1) (fun l t g r=>qc E _ t g _ r)
  ·obtain⟨_,_,_,e⟩:=di e;obtain⟨_,_,_,e⟩:=di e;obtain⟨_,_,_,e⟩:=di e;obtain⟨_,_,_,e⟩:=di e;obtain⟨_,_,p,e⟩:=di e;cases p;cases e
   rfl
 exact fun q=>o q
theorem GZ(w:ak):b7 X k True True (jo X f n w) (jo i j m w) s:=by
 unfold Go.Proofs.YtkblonfmjlopaaaGreatDoor.jo;refine cj (fun _=>ad (g_ E) fun a b _ _ _=>a1) (fun _=>cj (fun _=>ad (n6 E) fun a b _ _ _=>a1) (fun _=>cj (fun _=>JR E h A) (fun _=>cj (fun _=>?_) (fun _=>?_))))
 ·exact ad (sT E bh h.exp A) fun l b _ _ _=>a1
 ·exact ad (r2 E bh h.kk A) fun r b _ _ _=>a1
omit A in
theorem B0:b7 X k True True (atom X f) (atom i j) s:=fun d=>by
 by_cases c:ed X s=true
 rotate_left 1
 ·intro a t e;unfold Go.Proofs.YtkblonfmjlopaaaGreatDoor.atom at e;rw[if_neg c] at e;cases e
 have l:(V X s).kind≠0:=fun u=>by
  unfold ed ea ay at c;simp only [Bool.or_eq_true,Bool.and_eq_true,beq_iff_eq] at c;omega
 have b:=dd l;obtain⟨n,o,p,q,r⟩:=E.same d l
 have g:b7 X k True True (step1>>=fun _=>(if(V X s).kind=4 then pure (b9 1 [] (V X s).num 0 0 [] [] [] [] [] [])
  else if(V X s).kind=5 then pure (b9 2 [] 0 0 (V X s).bits [] [] [] [] [] [])
  else if(V X s).kind=6 then pure (b9 3 [] 0 (V X s).n 0 [] [] [] [] [] [])
  else if(V X s).kind=7 then pure (b9 4 [] 0 0 0 (V X s).text [] [] [] [] [])
  else if(V X s).kind=8 then(if(V X s).text=[40] then paren X f else f.mF (V X s).text)
  else pure (tC (V X s).text):PM Nd)) (step1>>=fun _=>(if(V X s).kind=4 then pure (b9 1 [] (V X s).num 0 0 [] [] [] [] [] [])
  else if(V X s).kind=5 then pure (b9 2 [] 0 0 (V X s).bits [] [] [] [] [] [])
  else if(V X s).kind=6 then pure (b9 3 [] 0 (V X s).n 0 [] [] [] [] [] [])
  else if(V X s).kind=7 then pure (b9 4 [] 0 0 0 (V X s).text [] [] [] [] [])
  else if(V X s).kind=8 then(if(V X s).text=[40] then paren i j else j.mF (V X s).text)
  else pure (tC (V X s).text):PM Nd)) s:=by
  refine ad (lK b) fun _ m _ _ _=>?_;exact cj (fun _=>a1) (fun _=>cj (fun _=>a1) (fun _=>cj (fun _=>a1) (fun _=>cj (fun _=>a1) (fun _=>cj (fun _=>cj (fun _=>GY E h) (fun _=>h.mF _ m)) (fun _=>a1)))))
 refine sm_at g ?_ (fun _=>?_) d
 ·unfold Go.Proofs.YtkblonfmjlopaaaGreatDoor.atom;rw[if_pos c];rfl
 ·unfold Go.Proofs.YtkblonfmjlopaaaGreatDoor.atom;rw[if_pos ((E.EK d).trans c)];simp only [n,o,p,q,r]
  rfl
omit A in
theorem B1:∀ (p q:Nat) (a:Nd) (s:al),p<=q->b7 X k True True (j' X f p a) (j' i j q a) s
 |0,q,a,s,e=>c8
 |p+1,q,a,s,e=>fun d=>by
  obtain⟨q,rfl⟩:∃ z,q=z+1:=⟨q-1,O⟩
  have c:b7 X k True True (if ed X s=true then(do
   let b<-Go.Proofs.YtkblonfmjlopaaaGreatDoor.atom X f
   Go.Proofs.YtkblonfmjlopaaaGreatDoor.j' X f p (fh 8 [a,b]):PM Nd) else pure a) (if ed i (gl k s)=true then(do
   let b<-Go.Proofs.YtkblonfmjlopaaaGreatDoor.atom i j
   Go.Proofs.YtkblonfmjlopaaaGreatDoor.j' i j q (fh 8 [a,b]):PM Nd) else pure a) s:=
   kK (by rw[E.EK d]) (fun _=>ad (B0 E h) fun b g _ _ _=>B1 p q _ g O) (fun _=>a1)
  refine sm_at c ?_ (fun _=>?_) d
  ·conv=>lhs;unfold Go.Proofs.YtkblonfmjlopaaaGreatDoor.j'
   split<;>rfl
  ·conv=>lhs;unfold Go.Proofs.YtkblonfmjlopaaaGreatDoor.j'
   split<;>rfl
theorem B2(l:Int)(b:Bool):b7 X k True True (ie X f n l b) (ie i j m l b) s:=by
 unfold Go.Proofs.YtkblonfmjlopaaaGreatDoor.ie app;exact ad (ad (B0 E h) fun a c _ _ _=>B1 E h n m a c A) fun a d _ _ _=>q5 E h.fB n m _ _ d A
theorem DU:b7 X k True True (iz X f n) (iz i j m) s:=by
 unfold Go.Proofs.YtkblonfmjlopaaaGreatDoor.iz;exact ad (h.fB _ _ s) fun e a _ _ _=>tQ E h n m _ a A
omit A in
theorem DV(w:ak):b7 X k True True (h_ X f w) (h_ i j w) s:=by
 unfold Go.Proofs.YtkblonfmjlopaaaGreatDoor.h_;refine cj (fun _=>?_) (fun _=>cj (fun _=>?_) (fun _=>cj (fun _=>?_) (fun _=>?_)))
 ·exact ad (h.exp s) fun a e _ _ _=>ad (et E bh) fun _ d _ _ _=>ad (h.exp d) fun b g _ _ _=>ad (et E bh) fun _ l _ _ _=>ad (h.exp l) fun c m _ _ _=>a1
 ·exact ad (h.exp s) fun a e _ _ _=>ad (et E bh) fun _ d _ _ _=>ad (h.exp d) fun b g _ _ _=>a1
 ·exact ad (h.exp s) fun a e _ _ _=>ad (et E bh) fun _ d _ _ _=>ad (h.iq d) fun b g _ _ _=>a1
 ·exact ad (h.iq s) fun a e _ _ _=>a1
omit A in
theorem yC(b:s.i<X.ts.length):b7 X k True True (ahead X f) (ahead i j) s:=fun d=>by
 have g:(V i (gl k s)).text=(V X s).text:=by
  rcases E.next d with⟨_,w⟩|⟨q,_⟩
  ·exact w.2.1
  ·omega
 have c:b7 X k True True (step1>>=fun _=>(if(V X s).text=[114,97,105,115,101] then(do let a<-f.exp;pure (fh 15 [a])) else f.hd (V X s).text:PM Nd)) (step1>>=fun _=>(if(V X s).text=[114,97,105,115,101] then(do let a<-j.exp;pure (fh 15 [a])) else j.hd (V X s).text:PM Nd)) s:=
  ad (lK b) fun _ e _ _ _=>cj (fun _=>ad (h.exp e) fun a l _ _ _=>a1) (fun _=>h.hd _ e)
 refine sm_at c rfl (fun _=>?_) d;unfold Go.Proofs.YtkblonfmjlopaaaGreatDoor.ahead;simp only [g]
 rfl
omit A in
theorem wO{y l:PM Nd}{g d:Nd->PM Nd}(m:∀ a s,b7 X k True True (g a) (d a) s)(n:∀ s,b7 X k True True y l s):b7 X k True True (iE X kg>>=fun b=>if b=true then Go.Proofs.YtkblonfmjlopaaaGreatDoor.ahead X f>>=g else y) (iE i kg>>=fun b=>if b=true then Go.Proofs.YtkblonfmjlopaaaGreatDoor.ahead i j>>=d else l) s:=by
 refine ad (pG E bh) fun b o e _ _=>cj (fun c=>?_) (fun _=>n o);cases e;exact ad (yC E h (ee c)) fun a p _ _ _=>m a p
omit A in
theorem yD{c:ak}{d:Int}{o g a e:PM Nd}(n:c≠[59])(l:∀ s,b7 X k True True o g s)(m:∀ s,b7 X k True True a e s):b7 X k True True (j3 X f c d o a) (j3 i j c d g e) s:=by
 unfold Go.Proofs.YtkblonfmjlopaaaGreatDoor.j3;exact ad (l s) fun a p _ _ _=>ad (cu E n) fun o q _ _ _=>cj (fun _=>wO E h (fun b s=>a1) (fun s=>ad (m s) fun b r _ _ _=>a1)) (fun _=>a1)
theorem JS:b7 X k True True (mM X f n) (mM i j m) s:=by
 unfold Go.Proofs.YtkblonfmjlopaaaGreatDoor.mM;refine ad (pG E bh) fun d a e _ _=>cj (fun c=>?_) (fun _=>ad (h.either a) fun e b _ _ _=>tR E h n m _ b A);cases e;exact yC E h (ee c)
omit A in
theorem JT:b7 X k True True (nD X f) (nD i j) s:=by
 unfold Go.Proofs.YtkblonfmjlopaaaGreatDoor.nD;exact ad (cu E bh) fun _ b _ _ _=>ad (g_ E) fun a c _ _ _=>ad (zX E h) fun t d _ _ _=>a1
theorem yE:b7 X k True True (jA X f n) (jA i j m) s:=by
 unfold Go.Proofs.YtkblonfmjlopaaaGreatDoor.jA;exact ad (wM E A) fun v b _ _ _=>ad (g_ E) fun a c _ _ _=>ad (et E bh) fun _ d _ _ _=>ad (jS (fun s=>cu E bh) (fun s=>JT E h) A) fun l e _ _ _=>a1
theorem pU:∀ (p q:Nat) (l:List Nd) (s:al),p<=q->b7 X k True True (cg X f n p l) (cg i j m q l) s
 |0,q,l,s,d=>c8
 |p+1,q,l,s,d=>fun c=>by
  obtain⟨q,rfl⟩:∃ z,q=z+1:=⟨q-1,O⟩
  have a:b7 X k True True (if du X s=true then(do
   let b<-Go.Proofs.YtkblonfmjlopaaaGreatDoor.fp X f n
   Go.Proofs.YtkblonfmjlopaaaGreatDoor.cg X f n p (l++[b]):PM (List Nd)) else pure l) (if du i (gl k s)=true then(do
   let b<-Go.Proofs.YtkblonfmjlopaaaGreatDoor.fp i j m
   Go.Proofs.YtkblonfmjlopaaaGreatDoor.cg i j m q (l++[b]):PM (List Nd)) else pure l) s:=
   kK (by rw[E.atomic c]) (fun _=>ad (sU E h A) fun b e _ _ _=>pU p q _ e O) (fun _=>a1)
  refine sm_at a ?_ (fun _=>?_) c
  ·conv=>lhs;unfold Go.Proofs.YtkblonfmjlopaaaGreatDoor.cg
   split<;>rfl
  ·conv=>lhs;unfold Go.Proofs.YtkblonfmjlopaaaGreatDoor.cg
   split<;>rfl
omit h A in
theorem B3{b:Bool}(c:dw X b s=true):(V X s).kind≠0:=fun h=>by
 unfold dw at c;simp only [Bool.or_eq_true,Bool.and_eq_true,beq_iff_eq] at c
 rcases c with c|⟨_,c|c⟩
 ·omega
 ·omega
 ·unfold ay at c;simp only [Bool.and_eq_true,beq_iff_eq] at c;omega
theorem B4(b:ak×Int):b7 X k True True (iK X f n b) (iK i j m b) s:=by
 unfold Go.Proofs.YtkblonfmjlopaaaGreatDoor.iK;refine ad (cu E bh) fun _ d _ _ _=>fun g=>?_
 have p:(¬b.1=[]/\dw i true (gl k d)=true/\¬(V i (gl k d)).text=b.1)↔(¬b.1=[]/\dw X true d=true/\¬(V X d).text=b.1):=by
  rw[E.short g]
  by_cases c:dw X true d=true
  ·rw[(E.same g (B3 E c)).2.1]
  ·exact⟨fun q=>absurd q.2.1 c,fun q=>absurd q.2.1 c⟩
 have K:=kK (X:=X) (k:=k) (P:=True) (Q:=True) (s:=d) p (x:=(Go.Proofs.YtkblonfmjlopaaaGreatDoor.eo X:PM (Nd×(ak×Int)))) (x':=(Go.Proofs.YtkblonfmjlopaaaGreatDoor.eo i:PM (Nd×(ak×Int)))) (y:=(do
  let a<-Go.Proofs.YtkblonfmjlopaaaGreatDoor.name X true
  let l<-Go.Proofs.YtkblonfmjlopaaaGreatDoor.cg X f n n []
  if l=[]\/¬b.1=[]/\¬(l.length:Int)=b.2 then Go.Proofs.YtkblonfmjlopaaaGreatDoor.eo X else do
   let o<-Go.Proofs.YtkblonfmjlopaaaGreatDoor.a7 X [58]
   let t<-(if o then(do let t<-f.ty;pure [t]) else pure []:PM (List Nd))
   Go.Proofs.YtkblonfmjlopaaaGreatDoor.a8 X [61]
   let e<-f.exp
   pure (gz l (if o then b9 19 [] 0 0 0 [] [] [e] [] [] t else e),(a,(l.length:Int))))) (y':=(do
  let a<-Go.Proofs.YtkblonfmjlopaaaGreatDoor.name i true
  let l<-Go.Proofs.YtkblonfmjlopaaaGreatDoor.cg i j m m []
  if l=[]\/¬b.1=[]/\¬(l.length:Int)=b.2 then Go.Proofs.YtkblonfmjlopaaaGreatDoor.eo i else do
   let o<-Go.Proofs.YtkblonfmjlopaaaGreatDoor.a7 i [58]
   let t<-(if o then(do let t<-j.ty;pure [t]) else pure []:PM (List Nd))
   Go.Proofs.YtkblonfmjlopaaaGreatDoor.a8 i [61]
   let e<-j.exp
   pure (gz l (if o then b9 19 [] 0 0 0 [] [] [e] [] [] t else e),(a,(l.length:Int)))))
  (fun _=>n_) (fun _=>ad (g_ E) fun a r _ _ _=>ad (pU E h A n m _ r A) fun l w _ _ _=>cj (fun _=>n_) (fun _=>ad (cu E bh) fun o u _ _ _=>ad (cj (fun _=>ad (h.ty u) fun t z _ _ _=>a1) (fun _=>a1)) fun t B _ _ _=>ad (et E bh) fun _ v _ _ _=>ad (h.exp v) fun e C _ _ _=>a1))
 exact K g
theorem JU:b7 X k True True (lH X f n) (lH i j m) s:=by
 unfold Go.Proofs.YtkblonfmjlopaaaGreatDoor.lH;exact ad (wK (fun s=>cu E bh) (fun x s=>B4 E h A x) A) fun r a _ _ _=>a1
omit h A in
theorem G0{w:ak}{t:al}(b:t.i=X.ts.length):a7 X w t=some (.ok (false,t)):=by
 have a:¬ay X [w] t=true:=fun q=>ba (ee q)
 unfold a7;rw[if_neg a]
omit E h A in
theorem G1:∀ (q:Nat) (l:List Nd) (t:al),t.i=X.ts.length->∀ r,gq X f n q l t≠some (.ok r)
 |0,l,t,d,r,e=>by cases e
 |q+1,l,t,d,⟨b,g⟩,e=>by
  unfold Go.Proofs.YtkblonfmjlopaaaGreatDoor.gq at e
  have a:∀ (w:ak),a7 X w t=some (.ok (false,t)):=fun w=>by
   have c:¬ay X [w] t=true:=fun q=>ba (ee q)
   unfold a7;rw[if_neg c]
  rw[e4 (a _)] at e;simp only [Bool.false_eq_true,if_false] at e;rw[e4 (a _)] at e;simp only [Bool.false_eq_true,if_false] at e;rw[e4 (a _)] at e;simp only [Bool.false_eq_true,if_false] at e;rw[e4 (a _)] at e;simp only [Bool.false_eq_true,if_false] at e;rw[e4 (a _)] at e;simp only [Bool.false_eq_true,if_false] at e;rw[e4 (a _)] at e;simp only [Bool.false_eq_true,if_false] at e;cases e
theorem yF:∀ (p q:Nat) (l:List Nd) (s:al),p<=q->b7 X k True True (gq X f n p l) (gq i j m q l) s
 |0,q,l,s,y=>c8
 |p+1,q,l,s,y=>by
  obtain⟨q,rfl⟩:∃ z,q=z+1:=⟨q-1,O⟩;have c:=fun l s=>yF p q l s O;have F:=G1 (X:=X) (f:=f) (n:=n) p;have wr:∀ (t:al),t.i=X.ts.length->∀ (w:ak),a7 X w t=some (.ok (false,t)):=fun t b w=>G0 E b;unfold Go.Proofs.YtkblonfmjlopaaaGreatDoor.gq;refine ad (cu E bh) fun e I _ _ _=>cj (fun _=>a1) (fun _=>mh (mK E) (fun hX B _ _ _=>?_) (fun hX t b r=>?_))
  ·refine cj (fun _=>c _ B) (fun _=>ad (cu E bh) fun v J _ _ _=>cj (fun _=>?_) (fun _=>ad (cu E bh) fun ty C _ _ _=>cj (fun _=>?_) (fun _=>ad (cu E bh) fun G o _ _ _=>cj (fun _=>?_) (fun _=>ad (cu E bh) fun ex g _ _ _=>cj (fun _=>?_) (fun _=>n_)))))
   ·exact ad (g_ E) fun a C _ _ _=>ad (et E bh) fun _ o _ _ _=>ad (h.ty o) fun t g _ _ _=>c _ g
   ·exact ad (wM E A) fun L o _ _ _=>ad (g_ E) fun a g _ _ _=>ad (cu E bh) fun H u _ _ _=>ad (cj (fun _=>ad (h.ty u) fun t x _ _ _=>a1) (fun _=>a1)) fun t D _ _ _=>c _ D
   ·exact ad (yE E h A) fun d g _ _ _=>c _ g
   ·exact ad (g_ E) fun a u _ _ _=>ad (zX E h) fun t x _ _ _=>c _ x
  ·intro e;cases hX
   ·simp only [Bool.false_eq_true,if_false] at e;rw[e4 (wr t b _)] at e;simp only [Bool.false_eq_true,if_false] at e;rw[e4 (wr t b _)] at e;simp only [Bool.false_eq_true,if_false] at e;rw[e4 (wr t b _)] at e;simp only [Bool.false_eq_true,if_false] at e;rw[e4 (wr t b _)] at e;simp only [Bool.false_eq_true,if_false] at e;cases e
   ·exact F _ t b _ e
theorem wP:b7 X k True True (jN X f n) (jN i j m) s:=by
 unfold Go.Proofs.YtkblonfmjlopaaaGreatDoor.jN;exact yF E h A n m _ s A
omit A in
theorem xb(a:ak)(qg:Bool)(l:List Nd):b7 X k True True (do
 let g<-PM.get
 let b<-f.dr true
 let d<-PM.get
 PM.set {d with sc:=g.sc}
 a8 X [101,110,100]
 pure (d_ {kind:=6,name:=a,qg:=qg,sigs:=l,dr:=b})) (do
 let g<-PM.get
 let b<-j.dr true
 let d<-PM.get
 PM.set {d with sc:=g.sc}
 a8 i [101,110,100]
 pure (d_ {kind:=6,name:=a,qg:=qg,sigs:=l,dr:=b})) s:=by
 have c:b7 X k True True (f.dr true>>=fun b=>oT s.sc>>=fun _=>a8 X [101,110,100]>>=fun _=>(pure (d_ {kind:=6,name:=a,qg:=qg,sigs:=l,dr:=b}):PM Nd))
  (j.dr true>>=fun b=>oT s.sc>>=fun _=>a8 i [101,110,100]>>=fun _=>(pure (d_ {kind:=6,name:=a,qg:=qg,sigs:=l,dr:=b}):PM Nd)) s:=by
  refine yB ?_ (fun a t e=>?_)
  ·refine mh (h.dr true s) (fun b n _ _ _=>ad BZ fun _ y _ _ _=>ad (et E bh) fun _ p _ _ _=>a1) (fun b t x r e=>?_);rw[e4 (wN s.sc t)] at e;exact qc E _ ⟨t.i,s.sc⟩ x _ r e
  ·obtain⟨_,n,_,e⟩:=di e;rw[e4 (wN s.sc n)] at e;obtain⟨u,y,q,e⟩:=di e;cases e;cases u
   have c:∀ (w:ak) (s t:al),a8 X w s=some (.ok ((),t))->t.sc=s.sc:=fun w s t e=>by
    unfold a8 at e;obtain⟨o,p,m,e⟩:=di e
    have:p.sc=s.sc:=by
     unfold a7 at m
     split at m<;>cases m<;>rfl
    cases o
    ·cases e
    ·cases e;exact this
   exact c _ ⟨n.i,s.sc⟩ _ q
 exact fun v=>c v
theorem wQ:b7 X k True True (gm X f n) (gm i j m) s:=by
 unfold Go.Proofs.YtkblonfmjlopaaaGreatDoor.gm;refine ad (g_ E) fun a p _ _ _=>ad (pG E bh) fun c q _ _ _=>ad (cu E bh) fun o r _ _ _=>ad (cj (fun _=>a1) (fun _=>cu E bh)) fun o t _ _ _=>ad (cj (fun _=>ad (cu E bh) fun s u _ _ _=>cj (fun _=>ad (wP E h A) fun l e _ _ _=>a1) (fun _=>ad (g_ E) fun b e _ _ _=>a1)) (fun _=>a1)) fun g v _ _ _=>ad (et E bh) fun _ w _ _ _=>ad (cu E bh) fun y x _ _ _=>cj (fun _=>xb E h a c g) (fun _=>ad (qQ E) fun b d _ _ _=>a1)
theorem JV(w:ak):b7 X k True (oE w) (l0 X f n w) (l0 i j m w) s:=by
 unfold Go.Proofs.YtkblonfmjlopaaaGreatDoor.l0;refine cj (fun _=>?_) (fun o=>cj (fun _=>?_) (fun c2=>cj (fun _=>?_) (fun p=>cj (fun _=>(h.kS s).le id (fun _=>trivial)) (fun q=>cj (fun _=>?_) (fun r=>?_)))))
 ·exact b7.le (ad (jS (fun s=>cu E bh) h.data A) fun l e _ _ _=>a1) id (fun _=>trivial)
 ·exact b7.le (ad (h.vars s) fun v e _ _ _=>ad (g_ E) fun a d _ _ _=>ad (et E bh) fun _ g _ _ _=>ad (h.ty g) fun t c _ _ _=>a1) id (fun _=>trivial)
 ·exact b7.le (ad (g_ E) fun a d _ _ _=>ad (zX E h) fun t c _ _ _=>a1) id (fun _=>trivial)
 ·exact b7.le (ad (g_ E) fun a d _ _ _=>ad (et E bh) fun _ g _ _ _=>ad (et E bh) fun _ c _ _ _=>ad (h.specs c) fun t c _ _ _=>a1) id (fun _=>trivial)
 ·have b:¬oE w:=fun b=>by
   rcases b with b|b|b|b|b
   ·exact o b
   ·exact c2 b
   ·exact p b
   ·exact q b
   ·exact r b
  exact ad ((h.jK s).le id (fun _=>trivial)) fun l e _ _ _=>ad (vJ b) fun _ d _ _ _=>a1
omit h A in
theorem DW:b7 X k P Q (ga X) (ga i) s:=fun b=>by
 by_cases c:(V X s).kind=4
 ·obtain⟨d,f,g⟩:=E.same b O
  by_cases c2:(V X s).text.length=1
  ·exact nB (P:=P) (Q:=Q) (dd O) (by unfold ga;simp only [];rw[if_pos c,if_pos c2]) (by unfold ga;simp only [];rw[d,f,if_pos c,if_pos c2];rfl) b
  ·intro a t e;unfold ga at e;simp only [] at e;rw[if_pos c,if_neg c2] at e;cases e
 ·intro a t e;unfold ga at e⊢;simp only [] at e⊢;rw[if_neg c] at e;cases e;exact⟨aw _,b,fun _=>rfl,fun _=>by rw[if_neg (fun q=>c ((E.kind b bh bh).1 q))]⟩
theorem vb(w:ak):b7 X k True (rq w) (kR X f n w) (kR i j m w) s:=by
 unfold Go.Proofs.YtkblonfmjlopaaaGreatDoor.kR;refine cj (fun _=>?_) (fun o=>cj (fun _=>?_) (fun c2=>cj (fun d=>?_) (fun d=>?_)))
 ·exact b7.le (ad (h.pat s) fun p b _ _ _=>ad (et E bh) fun _ g _ _ _=>ad (h.exp g) fun e r _ _ _=>a1) id (fun _=>trivial)
 ·exact b7.le (ad (jS (fun s=>cu E bh) (fun s=>JU E h A) A) fun l b _ _ _=>a1) id (fun _=>trivial)
 ·have a:¬rq w:=fun a=>by
   rcases a with a|a|a|a|a|a|a<;>rcases d with c|c<;>rw[a] at c<;>revert c<;>decide
  exact ad (DW E) fun t b _ _ _=>ad ((h.jK b).le id (fun _=>trivial)) fun l g _ _ _=>ad (vJ a) fun _ r _ _ _=>a1
 ·exact(h.oD w s).le id (fun q=>(q.resolve_left o).resolve_left c2)
omit h A in
theorem p3:∀ (n m:Nat) (s:al),n<=m->b7 X k (Wk X i k) Q (fz X n) (fz i m) s
 |0,m,s,A=>c8
 |n+1,m,s,A=>by
  obtain⟨m,rfl⟩:∃ q,m=q+1:=⟨m-1,O⟩;unfold Go.Proofs.YtkblonfmjlopaaaGreatDoor.fz;exact ad (mK E) fun o a _ _ _=>cj (fun _=>p3 n m a O) (fun _=>a1)
theorem n5(e:Bool):∀ (p q:Nat) (l:List Nd) (s:al),p<=q->b7 X k (Wk X i k) False (eR X f n e p l) (eR i j m e q l) s
 |0,q,l,s,u=>c8
 |p+1,q,l,s,u=>by
  obtain⟨q,rfl⟩:∃ z,q=z+1:=⟨q-1,O⟩;unfold Go.Proofs.YtkblonfmjlopaaaGreatDoor.eR;refine ad (p3 E n m s A) fun _ B _ _ _=>ad (pG E bh) fun a C r _ _=>ad (pG E bh) fun b o t _ _=>cj (fun _=>a1) (fun c=>pH E fun v=>?_)
  have g:o.i<X.ts.length:=by
   cases r;cases t
   rcases Decidable.not_not.1 c with q|q
   ·exact ee q
   ·exact ee q.2
  have x:(V i (gl k o)).text=(V X o).text:=by
   rcases E.next v with⟨_,w⟩|⟨q,_⟩
   ·exact w.2.1
   ·omega
  rw[x];exact ad (lK g) fun _ D _ _ _=>ad ((vb E h A _).le (fun _=>trivial) (fun q=>q.elim)) fun d y _ _ _=>n5 e p q _ y O
theorem DX:Sf X i k (k' X f n) (k' i j m):=by
 refine⟨fun s=>LK E h A,fun s=>JQ E h A,fun s=>JS E h A,fun b s=>n5 E h A b n m [] s A,fun l b s=>BY E h A l b,fun l b s=>B2 E h A l b,fun s=>?_,fun s=>?_,fun a s=>BX E h a s,fun a s=>zV E h a s,fun a s=>zW E h a s,fun s=>DR E h A,fun s=>yE E h A,fun s=>wQ E h A,fun s=>wP E h A,fun s=>wM E A,fun w s=>DV E h w,fun w s=>GZ E h A w,fun w s=>DP E h A w,fun e s=>DS E h e A,fun e s=>DT E h A e,fun l s=>a1,fun s=>GW E A,fun w s=>JV E h A w,fun w s c=>GX h w c⟩
 ·exact yD E h bh h.both h.either
 ·exact yD E h bh (fun s=>DU E h A) h.both
omit h A in
theorem nu:∀ n m,n<=m->Sf X i k (iZ X n) (iZ i m)
 |0,m,_=>⟨fun _=>c8,fun _=>c8,fun _=>c8,fun _ _=>c8,fun _ _ _=>c8,fun _ _ _=>c8,fun _=>c8,fun _=>c8,fun _ _=>c8,fun _ _=>c8,fun _ _=>c8,fun _=>c8,fun _=>c8,fun _=>c8,fun _=>c8,fun _=>c8,fun _ _=>c8,fun _ _=>c8,fun _ _=>c8,fun _ _=>c8,fun _ _=>c8,fun _ _=>c8,fun _=>c8,fun _ _=>c8,fun _ _ _=>c8⟩
 |n+1,m,A=>by
  obtain⟨m,rfl⟩:∃ q,m=q+1:=⟨m-1,O⟩;exact DX E (nu n m O) O
end
end
end Go.Proofs.YtkblonfmjlopaaaGreatDoor
