/-
  A word laid behind the others: what the scanner's cells say then.
-/
import Derived.Test.YtkblonfmjlopaaaGreatDoorLxNum
set_option linter.all false
set_option maxRecDepth 1000000
set_option maxHeartbeats 16000000
namespace Go.Proofs.YtkblonfmjlopaaaGreatDoor
open Go Go.RowKit
def kQ(t:Tok)(sg:Bool)(am:Option Addr)(nm cm:Nat):Array Value:=#[.int .i64 (t.kind:Nat),.string ⟨t.text.toArray⟩,.bool sg,.slice am nm cm,.int .u64 (t.bits:Nat),.int .i64 (t.n:Nat),.int .i64 (t.pos:Nat)]
theorem xo(t:Tok)(e:Bool)(a:Option Addr)(d b:Nat):∀ j,j<7->((kQ t e a d b)[j]!).oneCell'=true:=fun j c=>by
 match j,c with
 |0,_=>rfl
 |1,_=>rfl
 |2,_=>rfl
 |3,_=>rfl
 |4,_=>rfl
 |5,_=>rfl
 |6,_=>rfl
theorem xn(w:World)(t:Tok)(d:Bool)(a:Option Addr)(c b:Nat)(T:TypeId):∀ j,j<7->((w.alloc (.cells (kQ t d a c b) T)).drew).cell? ⟨w.heap.size,0+j,none⟩=some ((kQ t d a c b)[j]!):=fun j e=>by
 rw[gW];refine(jl w _ _ j).trans ?_
 match j,e with
 |0,_=>rfl
 |1,_=>rfl
 |2,_=>rfl
 |3,_=>rfl
 |4,_=>rfl
 |5,_=>rfl
 |6,_=>rfl
theorem Ic{W g:World}{b:Nat}{s:ByteArray}{p:Nat}{D m:Option Addr}{E v:Nat}{d:List Tok}{c:Nat}{z r:Nat->Value}{t:Tok}{G:Bool}{A:Option Addr}{F B:Nat}
 (h:Sc W b s p D d.length E 0 0) (aZ:d' W D d.length E 7 z) (N:∀ j,d.length*7<=j->j<E*7->z j=jH pj j) (aG:∀ i t,d[i]?=some t->rp W t z (i*7))
 (bI:dh W c D (E*7)) (b6:c<=b) (J:∀ x a,D=some ⟨x,a,none⟩->b<x/\x<W.heap.size) (aN:Mg W G A F B t.num)
 (aD:r=z/\m=D/\v=E\/r=jH pj/\m=some ⟨W.heap.size,0,none⟩/\W.heap.size<g.heap.size/\∀ p:Addr,p.block<W.heap.size->g.cell? p=W.cell? p)
 (R:d' g m (d.length+1) v 7 (c6 z (d.length*7) 7 (fun j=>(kQ t G A F B)[j]!) r)) (aP:dh g c m (v*7)) (Z:Below c W g) (n:Kp W g D (d.length*7) ((d.length+1)*7)):
 let l:=g.setCell ⟨b,2,none⟩ (.slice m (d.length+1) v)
 Sc l b s p m (d.length+1) v 0 0/\iR l m (d.length+1) v (d++[t])/\dh l c m (v*7)/\(∀ x a,m=some ⟨x,a,none⟩->b<x/\x<l.heap.size)/\Below c W l/\e6 W l:=by
 intro l;obtain⟨aQ,aR,aT,c2,aU,aV,aY⟩:=h;have P:∀ (q:Addr),q.block=b->g.cell? q=W.cell? q:=fun q aC=>n.cell q O (fun x a e aH=>ba (J x a e));have aX:∀ (q:Addr),q.block=b->g.frozen? q=W.frozen? q:=fun q aC=>n.frozen q O;have bE:W.heap.size<=g.heap.size:=n.size;have aB:(d.length+1)*7=d.length*7+7:=jd _ _
 have H:∀ x a,m=some ⟨x,a,none⟩->b<x/\x<g.heap.size:=fun x a e=>by
  rcases aD with⟨_,C,_⟩|⟨_,C,aL,_⟩
  ·rw[C] at e;have:=J x a e;omega
  ·rw[C] at e;simp only [Option.some.injEq,Addr.mk.injEq,and_true] at e;omega
 have aK:=(P ⟨b,2,none⟩ rfl).trans c2
 have aJ:e6 W g:=by
  intro bF bJ bG bH T;refine⟨T.le,T.mx,T.lm,fun q aC=>?_⟩;obtain⟨y,Q,aW,I⟩:=T.cell q aC;refine⟨y,Q,aW,?_⟩;have L:=kU W _ I;rw[<-I]
  rcases aD with⟨_,_,S⟩|⟨_,_,_,aM⟩
  ·refine n.cell ⟨y,Q+q,none⟩ L (fun x a e aH=>?_);obtain⟨Y,_,C,aL⟩:=aH;simp only at Y C aL;have aE:=R.le;have aN:(d.length+1)*7<=E*7:=jX _ O;obtain⟨bK,aO,X,w⟩:=aZ.cell (Q+q-a) O;rw[e] at X;simp only [Option.some.injEq,Addr.mk.injEq,and_true] at X;obtain⟨rfl,rfl⟩:=X;rw[show a+(Q+q-a)=Q+q from O,<-Y,I] at w;rw[N _ O O] at w;have:=f_ w;exact u' _ _ this.symm
  ·exact aM _ L
 have aI:e6 W l:=aJ.set aK (fun _ h=>by cases h) _;refine⟨⟨by simpa [l] using (by omega:b<g.heap.size),?_,?_,?_,?_,?_,fun o=>by simpa [l] using (aX ⟨b,o,none⟩ rfl).trans (aY o)⟩,⟨c6 z (d.length*7) 7 (fun j=>(kQ t G A F B)[j]!) r,⟨R.le,R.mx,fun j bC=>?_⟩,ar,fun j Y C=>?_,fun i u M=>?_⟩,aP.set _ _,fun x a e=>by simpa [l] using H x a e,Z.setCell b6 _,aI⟩
 ·rw[eb _ _ _ _ ih];exact(P ⟨b,0,none⟩ rfl).trans aR
 ·rw[eb _ _ _ _ ih];exact(P ⟨b,1,none⟩ rfl).trans aT
 ·rw[kA _ _ _ aK]
 ·rw[eb _ _ _ _ ih];exact(P ⟨b,3,none⟩ rfl).trans aU
 ·rw[eb _ _ _ _ ih];exact(P ⟨b,4,none⟩ rfl).trans aV
 ·obtain⟨x,a,e,I⟩:=R.cell j bC;have aH:=(H x a e).1;refine⟨x,a,e,?_⟩;rw[eb _ _ _ _ (by intro h;simp only [Addr.mk.injEq] at h;omega)];exact I
 ·unfold c6;rw[if_neg O,if_neg O]
  rcases aD with⟨S,_,aM⟩|⟨S,_⟩
  ·rw[S];exact N j O O
  ·rw[S]
 ·by_cases bA:i<d.length
  ·rw[lg bA] at M;refine((aG i u M).congr (fun k bD=>?_)).a6 aI;unfold c6;rw[if_pos O]
  ·have aA:i=d.length:=by
    have:=(List.getElem?_eq_some_iff.1 M).1;simp at this;omega
   subst aA;rw[kC (aw _),qt] at M;have aF:=f_ (show some _=some u from M);subst aF
   have f:∀ k,k<7->c6 z (d.length*7) 7 (fun j=>(kQ t G A F B)[j]!) r (d.length*7+k)=(kQ t G A F B)[k]!:=fun k bD=>by
    unfold c6;rw[if_neg O,if_pos O,sW]
   exact⟨G,A,F,B,f 0 O,f 1 O,f 2 O,f 3 O,f 4 O,f 5 O,f 6 O,aN.a6 aI⟩
theorem xp{W f:World}{b:Nat}{s:ByteArray}{p k:Nat}{q g:Option Addr}{v l:Nat}{c:List Tok}{a:Nat}{n r:Nat->Value}{t:Tok}{R:Bool}{H:Option Addr}{Q I:Nat}
 (h:Sc W b s p q c.length v 0 0) (X:d' W q c.length v 7 n) (F:∀ j,c.length*7<=j->j<v*7->n j=jH pj j) (E:∀ i t,c[i]?=some t->rp W t n (i*7))
 (Y:dh W a q (v*7)) (y:a<=b) (D:∀ x d,q=some ⟨x,d,none⟩->b<x/\x<W.heap.size) (aB:Mg W R H Q I t.num) (aG:p<k) (aE:c.length<=p)
 (aC:r=n/\g=q/\l=v\/r=jH pj/\g=some ⟨W.heap.size,0,none⟩/\W.heap.size<f.heap.size/\∀ p:Addr,p.block<W.heap.size->f.cell? p=W.cell? p)
 (S:d' f g (c.length+1) l 7 (c6 n (c.length*7) 7 (fun j=>(kQ t R H Q I)[j]!) r)) (T:dh f a g (l*7)) (B:Below a W f) (C:Kp W f q (c.length*7) ((c.length+1)*7)):
 St ((f.setCell ⟨b,2,none⟩ (.slice g (c.length+1) l)).setCell ⟨b,1,none⟩ (.int .i64 (k:Nat))) b s k (c++[t]) a/\Below a W ((f.setCell ⟨b,2,none⟩ (.slice g (c.length+1) l)).setCell ⟨b,1,none⟩ (.int .i64 (k:Nat)))/\e6 W ((f.setCell ⟨b,2,none⟩ (.slice g (c.length+1) l)).setCell ⟨b,1,none⟩ (.int .i64 (k:Nat))):=by
 obtain⟨m,L,M,w,N,P⟩:=Ic h X F E Y y D aB aC S T B C;generalize f.setCell ⟨b,2,none⟩ (.slice g (c.length+1) l)=G at m L M w N P⊢;have c1:=m.c1;have u:e6 G (G.setCell ⟨b,1,none⟩ (.int .i64 (k:Nat))):=(e6.refl G).set c1 (fun _ h=>by cases h) _;refine⟨⟨g,l,⟨by simpa using m.lt,?_,?_,?_,?_,?_,fun o=>by simpa using m.fr o⟩,?_,by simpa using M.set _ _,y,fun x d e=>by simpa using w x d e,b1⟩,N.setCell y _,P.trans u⟩
 ·rw[eb _ _ _ _ ih];exact m.c0
 ·rw[kA _ _ _ c1]
 ·rw[eb _ _ _ _ ih];simpa using m.c2
 ·rw[eb _ _ _ _ ih];exact m.c3
 ·rw[eb _ _ _ _ ih];exact m.c4
 ·obtain⟨n,A,e,z,aF⟩:=L;refine⟨n,⟨by simpa using A.le,A.mx,fun j aA=>?_⟩,ar,by simpa using z,fun i t aD=>(aF i t aD).a6 u⟩;obtain⟨x,d,J,Z⟩:=A.cell j aA;refine⟨x,d,J,?_⟩;have:=(w x d J).1;rw[eb _ _ _ _ (by intro h;simp only [Addr.mk.injEq] at h;omega)];exact Z
theorem uj(s:ByteArray):∀ m k a x b,j5 s m k a=.ok (x,b)->k<b/\b<=s.size:=by
 intro m
 induction m with
 |zero=>intro k a x b h;simp[j5] at h
 |succ m c=>
  intro k a x b h;unfold j5 at h
  split at h
  ·cases h
  ·split at h
   ·simp only [Except.ok.injEq,Prod.mk.injEq] at h;omega
   ·split at h
    ·cases h
    ·split at h
     ·have:=c _ _ _ _ h;omega
     ·split at h
      ·cases h
      ·have:=c _ _ _ _ h;omega
theorem rk(s:ByteArray):∀ m k a c q,j5 s m k a=.error (c,q)->c=31\/c=32:=by
 intro m
 induction m with
 |zero=>intro k a c q h;simp[j5] at h;omega
 |succ m b=>
  intro k a c q h;unfold j5 at h
  split at h
  ·simp only [Except.error.injEq,Prod.mk.injEq] at h;omega
  ·split at h
   ·cases h
   ·split at h
    ·simp only [Except.error.injEq,Prod.mk.injEq] at h;omega
    ·split at h
     ·exact b _ _ _ _ h
     ·split at h
      ·simp only [Except.error.injEq,Prod.mk.injEq] at h;omega
      ·exact b _ _ _ _ h
theorem Hu{x:List UInt8}{y:UInt8}(h:x=[y]):∀ w,(Instr.index 9 (.string ⟨x.toArray⟩) (.int .i64 0)).run Tryz.prog w=.ok (.int .u8 (y.toNat:Nat)) w:=by
 subst h;intro w;have:=f' (t:=9) (w:=w) (s:=⟨#[y]⟩) (k:=.i64) (z:=0) (i:=0) Tryz.underlying9 (by show 0<1;decide) rfl;exact this
theorem xm(F:List UInt8->Nat)(b:Nat)(s:ByteArray)(p:Nat)(n:List Tok)(base:Nat)(m:Int)(w:World)(bD:s.size<=65536)(eQ:p<s.size)(h:St w b s p n base)(X:base<=w.heap.size)(cF:3<base)(fS:w.cell? ⟨3,0,none⟩=some (.int .i64 m))(fH:Fh F base w s):
 Calls Tryz.prog 18 (t_ b) w fun e bO=>Out w bO b s n base e (gJ F s p):=by
 obtain⟨R,dZ⟩:∃ R,Hid (gJ F s p=R):=⟨_,U rfl⟩;rw[dZ.out];have fI:=h.base;have bA:=h;have eV:=U fH;clear fH;obtain⟨E,G,B,d,fN,eO,fO,fG⟩:=h;have fX:=B.c0;have fY:=B.c1;have fZ:=B.c3;clear d fN fO;obtain⟨c,N⟩:∃ c,bt s (p+0)=c:=⟨_,rfl⟩;have g:c<256:=N▸gI s _;have aL:=U N;have fJ:Hid (gJ F s p=R):=dZ;have d:=dZ.out;unfold gJ at d;simp only [show bt s p=c from N] at d;clear dZ fJ;have f:True:=trivial;have l:True:=trivial;have C:True:=trivial;have aG:True:=trivial;have aU:True:=trivial;have bZ:∀ (bO:World) (e:Ending) (q:Nat),Out (w.drewN q) bO b s n base e R->Out w bO b s n base e R:=fun _ _ _ o=>Out.drewN o;have bH:=U bZ
 have bL:∀ (bO:World) (dR:Option Addr) (dU dS dE dW q:Nat),R=.error (dE,dW)->Sc bO b s p dR dU dS (dE:Nat) (dW:Nat)->Below base (w.drewN q) bO->e6 (w.drewN q) bO->Out w bO b s n base (.returned (.tuple #[])) R:=fun bO dR dU dS dE dW q fP bN bR aZ=>by
  rw[fP];exact⟨rfl,(b' w _).trans bR,(e6.below (bn w _)).trans aZ,p,_,_,_,bN⟩
 have bE:=U bL;clear bZ bL;have dL:∀ q,(w.drewN q).cell? ⟨3,0,none⟩=some (.int .i64 m):=fun q=>o' fS q;have cT:=U dL;clear dL
 rcases cJ:isLet c with _|_
 rotate_left 1
 ·rw[cJ,if_pos rfl] at d;have aK:=U cJ;have aE:=U d;have cZ:=U (show isLet (bt s p)=true from N▸cJ);clear d cJ N;go_enter Tryz.func18,Tryz.ntmps18
  go_wp2_with (first|(have z:=f;go_at_call 47;refine(au b s p 0 E n.length G 0 0 _ O O O B).mono ?_;rintro e a ⟨rfl,aV,rfl⟩;rw[aL.out];clear f)|(go_at_call 49;refine(c7 _ _ g).mono ?_;rintro e a ⟨rfl,rfl⟩;rw[aK.out])|(go_at_call 50;refine(Fi b s p n base m _ bD cZ (bA.drewN _) (by simpa using X) cF (cT.out _)).mono ?_;rintro e a H;obtain rfl:=H.1;have aN:=U H;clear H))
  go_end0;exact bH.out _ _ _ (aE.out▸aN.out)
 rw[cJ,if_neg ar] at d;have aK:=U cJ;clear cJ
 by_cases aP:bm c=true
 ·rw[if_pos (mq aP)] at d;have aM:=U aP;have cB:=U (show bm (bt s p)=true from N▸aP);have aE:=U d;clear d aP N;go_enter Tryz.func18,Tryz.ntmps18
  go_wp2_with (first|(have z:=f;go_at_call 47;refine(au b s p 0 E n.length G 0 0 _ O O O B).mono ?_;rintro e a ⟨rfl,aV,rfl⟩;rw[aL.out];clear f)|(go_at_call 49;refine(c7 _ _ g).mono ?_;rintro e a ⟨rfl,rfl⟩;rw[aK.out])|(have z:=l;go_at_call 51;refine(dk _ _ g).mono ?_;rintro e a ⟨rfl,rfl⟩;rw[aM.out];clear l)|(go_at_call 52;refine(s6 F b s p n base m _ bD (mq cB) (bA.drewN _) (by simpa using X) cF (cT.out _) (fun i eP B d bX dP=>eV.out i eP B d bX ((b' w _).trans dP))).mono ?_;rintro e a H;obtain rfl:=H.1;have aN:=U H;clear H))
  go_end0;exact bH.out _ _ _ (aE.out▸aN.out)
 have bK:bm c=false:=by simpa using aP
 have aM:=U bK;obtain⟨c1,I⟩:∃ c1,bt s (p+1)=c1:=⟨_,rfl⟩;have bY:c1<256:=I▸gI s _;have aD:=U I;rw[I] at d
 by_cases bU:c=126/\bm c1=true
 ·rw[if_pos (Or.inr bU)] at d;obtain⟨rfl,bU⟩:=bU;have eD:=U bU;have cB:=U (show bt s p=126/\bm (bt s (p+1))=true from⟨N,I▸bU⟩);have aE:=U d;clear d aP N bU I bK;go_enter Tryz.func18,Tryz.ntmps18
  go_wp2_with (first|(have z:=f;go_at_call 47;refine(au b s p 0 E n.length G 0 0 _ O O O B).mono ?_;rintro e a ⟨rfl,aV,rfl⟩;rw[aL.out];clear f)|(go_at_call 49;refine(c7 _ _ g).mono ?_;rintro e a ⟨rfl,rfl⟩;rw[aK.out])|(have z:=l;go_at_call 51;refine(dk _ _ g).mono ?_;rintro e a ⟨rfl,rfl⟩;rw[aM.out];clear l)|(have z:=C;go_at_call 47;refine(au b s p 1 E n.length G 0 0 _ O O O (B.drewN _)).mono ?_;rintro e a ⟨rfl,_,rfl⟩;rw[aD.out];clear C)|(go_at_call 51;refine(dk _ _ bY).mono ?_;rintro e a ⟨rfl,rfl⟩;rw[eD.out])|(go_at_call 52;refine(s6 F b s p n base m _ bD (Or.inr cB) (bA.drewN _) (by simpa using X) cF (cT.out _) (fun i eP B d bX dP=>eV.out i eP B d bX ((b' w _).trans dP))).mono ?_;rintro e a H;obtain rfl:=H.1;have aN:=U H;clear H))
  go_end0;exact bH.out _ _ _ (aE.out▸aN.out)
 rw[if_neg (by rintro(h|h);exact aP h;exact bU h)] at d;clear aP bK
 by_cases eS:c=126
 ·subst eS;have fQ:bm c1=false:=by simpa using fun e=>bU ⟨rfl,e⟩
  have eD:=U fQ;rw[if_neg O,if_neg O,if_neg O,if_neg bh,if_pos bh] at d;have aA:fm (bt s p)=true:=by rw[show bt s p=_ from N];decide
  have aH:=e7 (p:=fm) eQ aA;have P:=dm (p:=fm) (s:=s) (i:=p) O;obtain⟨k,aF⟩:∃ k,cn fm s (p+0)=k:=⟨_,rfl⟩;rw[show cn fm s p=k from aF] at d aH P;have bC:=h6 (s:=s) (i:=p) (k:=k) O P;have bP:=U aF;have aJ:p+(k-p)=k:=O
  clear aA aF N I
  rcases aC:pa (sub s p k) with _|_
  all_goals
   rw[aC] at d;have bI:=U aC;have aE:=U d;clear d aC;go_enter Tryz.func18,Tryz.ntmps18
   go_wp2_with (first|(have z:=f;go_at_call 47;refine(au b s p 0 E n.length G 0 0 _ O O O B).mono ?_;rintro e a ⟨rfl,aV,rfl⟩;rw[aL.out];clear f)|(go_at_call 49;refine(c7 _ _ g).mono ?_;rintro e a ⟨rfl,rfl⟩;rw[aK.out])|(have z:=l;go_at_call 51;refine(dk _ _ g).mono ?_;rintro e a ⟨rfl,rfl⟩;rw[aM.out];clear l)|(have z:=C;go_at_call 47;refine(au b s p 1 E n.length G 0 0 _ O O O (B.drewN _)).mono ?_;rintro e a ⟨rfl,_,rfl⟩;rw[aD.out];clear C)|(go_at_call 51;refine(dk _ _ bY).mono ?_;rintro e a ⟨rfl,rfl⟩;rw[eD.out])|(have z:=aG;go_at_call 57;refine(Tryz.strings_IndexByte ⟨oU.toArray⟩ 126 _).mono ?_;rintro e a ⟨rfl,rfl⟩;clear aG)|(go_at_call 57;refine(Tryz.strings_IndexByte ⟨uT.toArray⟩ 126 _).mono ?_;rintro e a ⟨rfl,rfl⟩)|(go_at_call 55;refine(r' b s p 0 E n.length G 0 0 _ O O (B.drewN _)).mono ?_;rintro e a ⟨rfl,_,rfl⟩;rw[bP.out])|(go_at_call 60;refine(ja (sub s p k) m _ (cT.out _) O).mono ?_;rintro e a ⟨rfl,rfl⟩;rw[bI.out])|(go_at_call 54;refine(jI b s p (k-p) _ n base _ bD O O (bA.drewN _) (by simpa using X)).mono ?_;rintro e a H;obtain rfl:=H.1;have aN:=U H;clear H))
   go_end0;have h:=aN.out;rw[aJ] at h;exact bH.out _ _ _ (aE.out▸h)
 have eL:¬(c:Int)=126:=O
 have eK:((c:Int)==126)=false:=b1
 clear bU
 by_cases dH:c=34
 ·subst dH;rw[if_pos rfl] at d;obtain⟨Q,W⟩:∃ Q,gj s (p+0)=Q:=⟨_,rfl⟩;rw[show gj s p=Q from W] at d;clear N I;have cU:=U W
  rcases Q with⟨dE,dW⟩|⟨x,k⟩
  ·simp only at d;have cH:=rk s _ _ _ _ _ W;clear W;go_enter Tryz.func18,Tryz.ntmps18
   rcases cH with rfl|rfl
   all_goals
    go_wp2_with (first|(have z:=f;go_at_call 47;refine(au b s p 0 E n.length G 0 0 _ O O O B).mono ?_;rintro e a ⟨rfl,aV,rfl⟩;rw[aL.out];clear f)|(go_at_call 49;refine(c7 _ _ g).mono ?_;rintro e a ⟨rfl,rfl⟩;rw[aK.out])|(have z:=l;go_at_call 51;refine(dk _ _ g).mono ?_;rintro e a ⟨rfl,rfl⟩;rw[aM.out];clear l)|(go_at_call 53;refine(lq b s p 0 n base _ bD O (bA.drewN _) (by simpa using X)).mono ?_;intro e a W;rw[cU.out] at W;obtain⟨bG,bV,rfl,M,eU,Y,Z⟩:=W;have bS:=Z.c3))
    go_end0;exact bE.out _ _ _ _ _ _ _ d.symm Z bG bV
  ·simp only at d;have aF:=uj s _ _ _ _ _ W;clear W;have aE:=U d;clear d;go_enter Tryz.func18,Tryz.ntmps18
   go_wp2_with (first|(have z:=f;go_at_call 47;refine(au b s p 0 E n.length G 0 0 _ O O O B).mono ?_;rintro e a ⟨rfl,aV,rfl⟩;rw[aL.out];clear f)|(go_at_call 49;refine(c7 _ _ g).mono ?_;rintro e a ⟨rfl,rfl⟩;rw[aK.out])|(have z:=l;go_at_call 51;refine(dk _ _ g).mono ?_;rintro e a ⟨rfl,rfl⟩;rw[aM.out];clear l)|(go_at_call 53;refine(lq b s p 0 n base _ bD O (bA.drewN _) (by simpa using X)).mono ?_;intro e a W;rw[cU.out] at W;obtain⟨aR,aT,rfl,dV⟩:=W;have bG:=U ((b' w _).trans aR);have bV:=U ((e6.below (bn w _)).trans aT);clear aR aT;obtain⟨M,Y,Z,eB,eC,eN,cV,fE⟩:=dV;have dF:=Z.c0;have dG:=Z.c1;have bS:=Z.c3;have dO:=bG.size))
   have bJ:=Z.lt;have dY:=Z.c2;have dX:=Z.c1;obtain⟨dK,cE,_,cM,cL⟩:=eB;refine b3 (S:=fun bX=>bX.cell? ⟨b,2,none⟩=some (.slice M n.length Y)/\bX.cell? ⟨b,1,none⟩=some (.int .i64 (p:Nat))) (T:=fun j=>j==15) aq ?_;have v:=b4 dY dX;refine tq 0 v ?_;refine tq 1 v ?_;refine tq 2 v ?_;refine tq 3 v ?_;refine tq 4 v ?_;refine tq 5 v ?_;refine tq 6 v ?_;refine tq 7 v ?_;refine tq 8 v ?_;refine tq 9 v ?_;refine tq 10 v ?_;refine cw 11 fun K hK=>?_;go_simp;have b6:=xn a ⟨7,x,0,0,0,p⟩ false none 0 0 75;have D:Below a.heap.size a (a.alloc (.cells (kQ ⟨7,x,0,0,0,p⟩ false none 0 0) 75)).drew:=(ab _ _).drew;have bM:(a.alloc (.cells (kQ ⟨7,x,0,0,0,p⟩ false none 0 0) 75)).drew.heap.size=a.heap.size+1:=ar
   have cQ:=(D.cell (p:=⟨b,2,none⟩) bJ).trans dY;have cP:=(D.cell (p:=⟨b,1,none⟩) bJ).trans dX;refine hK.out _ (a.alloc (.cells (kQ ⟨7,x,0,0,0,p⟩ false none 0 0) 75)).drew (fun _=>⟨cQ,cP⟩) ?_;clear hK K;generalize (a.alloc (.cells (kQ ⟨7,x,0,0,0,p⟩ false none 0 0) 75)).drew=aY at b6 D bM cQ cP⊢;have cY:=Z.below D
   have cA:d' aY M n.length Y 7 dK:=⟨cE.le,cE.mx,fun j cI=>by
    obtain⟨x,A,e,N⟩:=cE.cell j cI
    exact⟨x,A,e,(D.cell (p:=⟨x,A+j,none⟩) (kU a _ N)).trans N⟩⟩
   have cD:dh aY base M (Y*7):=fun j cI=>by
    obtain⟨x,A,e,B,d⟩:=eC j cI;exact⟨x,A,e,B,(D.frozen (p:=⟨x,A+j,none⟩) (cV x A e).2).trans d⟩
   have aB:∀ x A,M=some ⟨x,A,none⟩->b<x/\x<aY.heap.size:=fun x A e=>ba (cV x A e)
   try simp only [Act.put,List.setIfInBounds_toArray,List.set_cons_zero,List.set_cons_succ]
   refine cw 12 fun K hK=>?_;rw[if_pos (by rfl)];refine kV aY (some 61) rfl _ _ 46 46 rfl 75 75 pj 7 80 Tryz.underlying46 Tryz.underlying46 Tryz.yS rfl O base O M n.length Y dK (fun j=>(kQ ⟨7,x,0,0,0,p⟩ false none 0 0)[j]!) a.heap.size 0 1 rfl rfl cA cD b6 (xo _ _ _ _ _) O O ?_;intro fK fL r cO dM cX dA cG aI;have cN:∀ (q:Addr),q.block=b->cO.cell? q=aY.cell? q:=fun q cW=>aI.cell q O (fun x A e dP=>ba (aB x A e));have aZ:∀ (q:Addr),q.block=b->cO.frozen? q=aY.frozen? q:=fun q cW=>aI.frozen q O;have cS:=(cN ⟨b,2,none⟩ rfl).trans cQ;have cR:=(cN ⟨b,1,none⟩ rfl).trans cP;refine hK.out _ _ (fun _=>⟨cS,cR⟩) ?_;clear hK K;have eM:∀ o,cO.frozen? ⟨b,o,none⟩=false:=fun o=>(aZ _ rfl).trans (cY.fr o);clear cN aZ
   try simp only [Act.put,List.setIfInBounds_toArray,List.set_cons_zero,List.set_cons_succ]
   refine cw 13 fun K hK=>?_;go_simp;refine hK.out _ _ (fun _=>⟨cS,cR⟩) ?_;clear hK K
   try simp only [Act.put,List.setIfInBounds_toArray,List.set_cons_zero,List.set_cons_succ]
   refine cw 14 fun K hK=>?_;go_simp;refine hK.out _ _ (fun _=>⟨cS,cR⟩) ?_;clear hK K
   try simp only [Act.put,List.setIfInBounds_toArray,List.set_cons_zero,List.set_cons_succ]
   refine cw 15 fun K hK=>?_;go_simp;refine oZ hK ?_;clear hK K;refine bj aq ?_ _;have eF:=U (xp (k:=k) (t:=⟨7,x,0,0,0,p⟩) cY cA cM (fun i u eT=>(cL i u eT).a6 (e6.below D)) cD fI aB (Mg.zero aY) O fG dM cX dA cG aI);clear dM cX dA aI cA cD b6 aB
   go_wp2
   go_end0;obtain⟨dB,dC,dD⟩:=eF.out;have e:((k:Nat):Int)=(p:Int)+((k-p-0:Nat):Int):=O
   rw[e] at dB dC dD;refine bH.out _ _ 0 ?_;rw[<-aE.out];exact⟨rfl,(bG.trans (D.mono O)).trans dC,(bV.trans (e6.below D)).trans dD,dB⟩
 rw[if_neg dH] at d;have fA:¬(c:Int)=34:=O
 have eX:((c:Int)==34)=false:=b1
 by_cases bF:c=35/\c1=34
 ·rw[if_pos bF] at d;obtain⟨rfl,rfl⟩:=bF;have fT:=iX I O;obtain⟨Q,W⟩:∃ Q,gj s (p+1)=Q:=⟨_,rfl⟩;rw[W] at d;clear N I;have cU:=U W
  rcases Q with⟨dE,dW⟩|⟨x,k⟩
  ·simp only at d;have cH:=rk s _ _ _ _ _ W;clear W;go_enter Tryz.func18,Tryz.ntmps18
   rcases cH with rfl|rfl
   all_goals
    go_wp2_with (first|(have z:=f;go_at_call 47;refine(au b s p 0 E n.length G 0 0 _ O O O B).mono ?_;rintro e a ⟨rfl,aV,rfl⟩;rw[aL.out];clear f)|(go_at_call 49;refine(c7 _ _ g).mono ?_;rintro e a ⟨rfl,rfl⟩;rw[aK.out])|(have z:=l;go_at_call 51;refine(dk _ _ g).mono ?_;rintro e a ⟨rfl,rfl⟩;rw[aM.out];clear l)|(have z:=C;go_at_call 47;refine(au b s p 1 E n.length G 0 0 _ O O O (B.drewN _)).mono ?_;rintro e a ⟨rfl,_,rfl⟩;rw[aD.out];clear C)|(go_at_call 53;refine(lq b s p 1 n base _ bD O (bA.drewN _) (by simpa using X)).mono ?_;intro e a W;rw[cU.out] at W;obtain⟨bG,bV,rfl,M,eU,Y,Z⟩:=W;have bS:=Z.c3))
    go_end0;exact bE.out _ _ _ _ _ _ _ d.symm Z bG bV
  ·simp only at d;have aF:=uj s _ _ _ _ _ W;clear W
   by_cases dQ:x.length=1
   ·rw[if_neg O] at d;obtain⟨y,rfl⟩:=List.length_eq_one_iff.1 dQ;have fR:=Hu (x:=[y]) rfl;have fW:=y.toNat_lt;have eE:Hid (IntKind.i64.wrap (y.toNat:Int)=(y.toNat:Int)):=U (gv _ O);have aE:=U d;clear d;go_enter Tryz.func18,Tryz.ntmps18
    go_wp2_with (first|(have z:=f;go_at_call 47;refine(au b s p 0 E n.length G 0 0 _ O O O B).mono ?_;rintro e a ⟨rfl,aV,rfl⟩;rw[aL.out];clear f)|(go_at_call 49;refine(c7 _ _ g).mono ?_;rintro e a ⟨rfl,rfl⟩;rw[aK.out])|(have z:=l;go_at_call 51;refine(dk _ _ g).mono ?_;rintro e a ⟨rfl,rfl⟩;rw[aM.out];clear l)|(have z:=C;go_at_call 47;refine(au b s p 1 E n.length G 0 0 _ O O O (B.drewN _)).mono ?_;rintro e a ⟨rfl,_,rfl⟩;rw[aD.out];clear C)|(go_at_call 53;refine(lq b s p 1 n base _ bD O (bA.drewN _) (by simpa using X)).mono ?_;intro e a W;rw[cU.out] at W;obtain⟨aR,aT,rfl,dV⟩:=W;have bG:=U ((b' w _).trans aR);have bV:=U ((e6.below (bn w _)).trans aT);clear aR aT;obtain⟨M,Y,Z,eB,eC,eN,cV,fE⟩:=dV;have dF:=Z.c0;have dG:=Z.c1;have bS:=Z.c3;have dO:=bG.size))
    have bJ:=Z.lt;have dY:=Z.c2;have dX:=Z.c1;obtain⟨dK,cE,_,cM,cL⟩:=eB;refine b3 (S:=fun bX=>bX.cell? ⟨b,2,none⟩=some (.slice M n.length Y)/\bX.cell? ⟨b,1,none⟩=some (.int .i64 (p:Nat))) (T:=fun j=>j==18) aq ?_;have v:=b4 dY dX;refine tq 0 v ?_;refine tq 1 v ?_;refine tq 2 v ?_;refine tq 3 v ?_;refine tq 4 v ?_;refine tq 5 v ?_;refine tq 6 v ?_;refine tq 7 v ?_;refine tq 8 v ?_;refine tq 9 v ?_;refine tq 10 v ?_;refine tq 11 v ?_;refine tq 12 v ?_;refine tq 13 v ?_;refine cw 14 fun K hK=>?_;go_simp;rw[eE.out];have b6:=xn a ⟨6,[y],0,0,y.toNat,p⟩ false none 0 0 75;have D:Below a.heap.size a (a.alloc (.cells (kQ ⟨6,[y],0,0,y.toNat,p⟩ false none 0 0) 75)).drew:=(ab _ _).drew;have bM:(a.alloc (.cells (kQ ⟨6,[y],0,0,y.toNat,p⟩ false none 0 0) 75)).drew.heap.size=a.heap.size+1:=ar
    have cQ:=(D.cell (p:=⟨b,2,none⟩) bJ).trans dY;have cP:=(D.cell (p:=⟨b,1,none⟩) bJ).trans dX;refine hK.out _ (a.alloc (.cells (kQ ⟨6,[y],0,0,y.toNat,p⟩ false none 0 0) 75)).drew (fun _=>⟨cQ,cP⟩) ?_;clear hK K;generalize (a.alloc (.cells (kQ ⟨6,[y],0,0,y.toNat,p⟩ false none 0 0) 75)).drew=aY at b6 D bM cQ cP⊢;have cY:=Z.below D
    have cA:d' aY M n.length Y 7 dK:=⟨cE.le,cE.mx,fun j cI=>by
     obtain⟨x,A,e,N⟩:=cE.cell j cI
     exact⟨x,A,e,(D.cell (p:=⟨x,A+j,none⟩) (kU a _ N)).trans N⟩⟩
    have cD:dh aY base M (Y*7):=fun j cI=>by
     obtain⟨x,A,e,B,d⟩:=eC j cI;exact⟨x,A,e,B,(D.frozen (p:=⟨x,A+j,none⟩) (cV x A e).2).trans d⟩
    have aB:∀ x A,M=some ⟨x,A,none⟩->b<x/\x<aY.heap.size:=fun x A e=>ba (cV x A e)
    try simp only [Act.put,List.setIfInBounds_toArray,List.set_cons_zero,List.set_cons_succ]
    refine cw 15 fun K hK=>?_;rw[if_pos (by rfl)];refine kV aY (some 123) rfl _ _ 46 46 rfl 75 75 pj 7 80 Tryz.underlying46 Tryz.underlying46 Tryz.yS rfl O base O M n.length Y dK (fun j=>(kQ ⟨6,[y],0,0,y.toNat,p⟩ false none 0 0)[j]!) a.heap.size 0 1 rfl rfl cA cD b6 (xo _ _ _ _ _) O O ?_;intro fK fL r cO dM cX dA cG aI;have cN:∀ (q:Addr),q.block=b->cO.cell? q=aY.cell? q:=fun q cW=>aI.cell q O (fun x A e dP=>ba (aB x A e));have aZ:∀ (q:Addr),q.block=b->cO.frozen? q=aY.frozen? q:=fun q cW=>aI.frozen q O;have cS:=(cN ⟨b,2,none⟩ rfl).trans cQ;have cR:=(cN ⟨b,1,none⟩ rfl).trans cP;refine hK.out _ _ (fun _=>⟨cS,cR⟩) ?_;clear hK K;have eM:∀ o,cO.frozen? ⟨b,o,none⟩=false:=fun o=>(aZ _ rfl).trans (cY.fr o);clear cN aZ
    try simp only [Act.put,List.setIfInBounds_toArray,List.set_cons_zero,List.set_cons_succ]
    refine cw 16 fun K hK=>?_;go_simp;refine hK.out _ _ (fun _=>⟨cS,cR⟩) ?_;clear hK K
    try simp only [Act.put,List.setIfInBounds_toArray,List.set_cons_zero,List.set_cons_succ]
    refine cw 17 fun K hK=>?_;go_simp;refine hK.out _ _ (fun _=>⟨cS,cR⟩) ?_;clear hK K
    try simp only [Act.put,List.setIfInBounds_toArray,List.set_cons_zero,List.set_cons_succ]
    refine cw 18 fun K hK=>?_;go_simp;refine oZ hK ?_;clear hK K;refine bj aq ?_ _;have eF:=U (xp (k:=k) (t:=⟨6,[y],0,0,y.toNat,p⟩) cY cA cM (fun i u eT=>(cL i u eT).a6 (e6.below D)) cD fI aB (Mg.zero aY) O fG dM cX dA cG aI);clear dM cX dA aI cA cD b6 aB
    go_wp2
    go_end0;obtain⟨dB,dC,dD⟩:=eF.out;have e:((k:Nat):Int)=(p:Int)+(((k-p-1:Nat):Int)+1):=O
    rw[e] at dB dC dD;refine bH.out _ _ 0 ?_;rw[<-aE.out];exact⟨rfl,(bG.trans (D.mono O)).trans dC,(bV.trans (e6.below D)).trans dD,dB⟩
   ·rw[if_pos dQ] at d;have fV:¬((x.length:Nat):Int)=1:=O
    have fU:(((x.length:Nat):Int)==1)=false:=b1
    go_enter Tryz.func18,Tryz.ntmps18
    go_wp2_with (first|(have z:=f;go_at_call 47;refine(au b s p 0 E n.length G 0 0 _ O O O B).mono ?_;rintro e a ⟨rfl,aV,rfl⟩;rw[aL.out];clear f)|(go_at_call 49;refine(c7 _ _ g).mono ?_;rintro e a ⟨rfl,rfl⟩;rw[aK.out])|(have z:=l;go_at_call 51;refine(dk _ _ g).mono ?_;rintro e a ⟨rfl,rfl⟩;rw[aM.out];clear l)|(have z:=C;go_at_call 47;refine(au b s p 1 E n.length G 0 0 _ O O O (B.drewN _)).mono ?_;rintro e a ⟨rfl,_,rfl⟩;rw[aD.out];clear C)|(go_at_call 53;refine(lq b s p 1 n base _ bD O (bA.drewN _) (by simpa using X)).mono ?_;intro e a W;rw[cU.out] at W;obtain⟨aR,aT,rfl,dV⟩:=W;have bG:=U ((b' w _).trans aR);have bV:=U ((e6.below (bn w _)).trans aT);clear aR aT;obtain⟨M,Y,Z,eB,eC,eN,cV,fE⟩:=dV;have dF:=Z.c0;have dG:=Z.c1;have bS:=Z.c3;have dO:=bG.size)|(go_at_call 48;refine(iA b s p M n.length Y 0 0 _ _ _ base eN Z).mono ?_;rintro e gA ⟨rfl,bN,bR,aZ⟩;have fM:=bN.c3))
    go_end0;exact bE.out _ _ _ _ _ _ 0 d.symm bN (bG.trans bR) (bV.trans aZ)
 rw[if_neg bF] at d
 by_cases dI:c=39
 ·subst dI;rw[if_pos rfl] at d
  by_cases cW:c1=39
  ·subst cW;rw[if_pos rfl] at d;obtain⟨c2,J⟩:∃ c2,bt s (p+2)=c2:=⟨_,rfl⟩;have aO:c2<256:=J▸gI s _;rw[J] at d
   rcases L:isLet c2 with _|_
   ·rw[L,if_neg ar] at d;have aX:=U L;have aW:=U J;clear L N I J;go_enter Tryz.func18,Tryz.ntmps18
    go_wp2_with (first|(have z:=f;go_at_call 47;refine(au b s p 0 E n.length G 0 0 _ O O O B).mono ?_;rintro e a ⟨rfl,aV,rfl⟩;rw[aL.out];clear f)|(have z:=aU;go_at_call 49;refine(c7 _ _ g).mono ?_;rintro e a ⟨rfl,rfl⟩;rw[aK.out];clear aU)|(have z:=l;go_at_call 51;refine(dk _ _ g).mono ?_;rintro e a ⟨rfl,rfl⟩;rw[aM.out];clear l)|(have z:=C;go_at_call 47;refine(au b s p 1 E n.length G 0 0 _ O O O (B.drewN _)).mono ?_;rintro e a ⟨rfl,_,rfl⟩;rw[aD.out];clear C)|(go_at_call 47;refine(au b s p 2 E n.length G 0 0 _ O O O (B.drewN _)).mono ?_;rintro e a ⟨rfl,_,rfl⟩;rw[aW.out])|(go_at_call 49;refine(c7 _ _ aO).mono ?_;rintro e a ⟨rfl,rfl⟩;rw[aX.out])|(go_at_call 48;refine(iA b s p E n.length G 0 0 _ _ _ base eO (B.drewN _)).mono ?_;rintro e a ⟨rfl,bN,bR,aZ⟩))
    refine bodyPost_ret (results_none rfl _ _ _) rfl ?_;exact bE.out _ _ _ _ _ _ _ d.symm bN bR aZ
   ·rw[L,if_pos rfl] at d;have cK:=kD (s:=s) (i:=p+2) (by rw[J];exact L);have aH:=e7 (p:=dx) cK (by rw[J];exact iB L);have P:=dm (p:=dx) (s:=s) (i:=p+2) O;obtain⟨k,aF⟩:∃ k,cn dx s (p+2)=k:=⟨_,rfl⟩;rw[aF] at d aH P;have bC:=h6 (s:=s) (i:=p+2) (k:=k) O P;have bP:=U aF;have aX:=U L;have aW:=U J;have aE:=U d;have aJ:p+(2+(k-(p+2)))=k:=O
    clear L aF N I J d;go_enter Tryz.func18,Tryz.ntmps18
    go_wp2_with (first|(have z:=f;go_at_call 47;refine(au b s p 0 E n.length G 0 0 _ O O O B).mono ?_;rintro e a ⟨rfl,aV,rfl⟩;rw[aL.out];clear f)|(have z:=aU;go_at_call 49;refine(c7 _ _ g).mono ?_;rintro e a ⟨rfl,rfl⟩;rw[aK.out];clear aU)|(have z:=l;go_at_call 51;refine(dk _ _ g).mono ?_;rintro e a ⟨rfl,rfl⟩;rw[aM.out];clear l)|(have z:=C;go_at_call 47;refine(au b s p 1 E n.length G 0 0 _ O O O (B.drewN _)).mono ?_;rintro e a ⟨rfl,_,rfl⟩;rw[aD.out];clear C)|(go_at_call 47;refine(au b s p 2 E n.length G 0 0 _ O O O (B.drewN _)).mono ?_;rintro e a ⟨rfl,_,rfl⟩;rw[aW.out])|(go_at_call 49;refine(c7 _ _ aO).mono ?_;rintro e a ⟨rfl,rfl⟩;rw[aX.out])|(go_at_call 55;refine(mr b s p 2 E n.length G 0 0 _ O O (B.drewN _)).mono ?_;rintro e a ⟨rfl,_,rfl⟩;rw[bP.out])|(go_at_call 54;refine(jI b s p (2+(k-(p+2))) 3 n base _ bD O O (bA.drewN _) (by simpa using X)).mono ?_;rintro e a H;obtain rfl:=H.1;have aN:=U H;clear H))
    go_end0;have h:=aN.out;rw[aJ] at h;exact bH.out _ _ _ (aE.out▸h)
  ·rw[if_neg cW] at d;have eJ:¬(c1:Int)=39:=O
   have eH:((c1:Int)==39)=false:=b1
   obtain⟨c2,J⟩:∃ c2,bt s (p+1)=c2:=⟨_,rfl⟩;have aO:c2<256:=J▸gI s _;rw[J] at d
   rcases L:isLet c2 with _|_
   ·rw[L,if_neg ar] at d;have aX:=U L;have aW:=U J;clear L N I J;go_enter Tryz.func18,Tryz.ntmps18
    go_wp2_with (first|(have z:=f;go_at_call 47;refine(au b s p 0 E n.length G 0 0 _ O O O B).mono ?_;rintro e a ⟨rfl,aV,rfl⟩;rw[aL.out];clear f)|(have z:=aU;go_at_call 49;refine(c7 _ _ g).mono ?_;rintro e a ⟨rfl,rfl⟩;rw[aK.out];clear aU)|(have z:=l;go_at_call 51;refine(dk _ _ g).mono ?_;rintro e a ⟨rfl,rfl⟩;rw[aM.out];clear l)|(have z:=C;go_at_call 47;refine(au b s p 1 E n.length G 0 0 _ O O O (B.drewN _)).mono ?_;rintro e a ⟨rfl,_,rfl⟩;rw[aD.out];clear C)|(go_at_call 47;refine(au b s p 1 E n.length G 0 0 _ O O O (B.drewN _)).mono ?_;rintro e a ⟨rfl,_,rfl⟩;rw[aW.out])|(go_at_call 49;refine(c7 _ _ aO).mono ?_;rintro e a ⟨rfl,rfl⟩;rw[aX.out])|(go_at_call 48;refine(iA b s p E n.length G 0 0 _ _ _ base eO (B.drewN _)).mono ?_;rintro e a ⟨rfl,bN,bR,aZ⟩))
    refine bodyPost_ret (results_none rfl _ _ _) rfl ?_;exact bE.out _ _ _ _ _ _ _ d.symm bN bR aZ
   ·rw[L,if_pos rfl] at d;have cK:=kD (s:=s) (i:=p+1) (by rw[J];exact L);have aH:=e7 (p:=dx) cK (by rw[J];exact iB L);have P:=dm (p:=dx) (s:=s) (i:=p+1) O;obtain⟨k,aF⟩:∃ k,cn dx s (p+1)=k:=⟨_,rfl⟩;rw[aF] at d aH P;have bC:=h6 (s:=s) (i:=p+1) (k:=k) O P;have bP:=U aF;have aX:=U L;have aW:=U J;have aE:=U d;have aJ:p+(1+(k-(p+1)))=k:=O
    clear L aF N I J d;go_enter Tryz.func18,Tryz.ntmps18
    go_wp2_with (first|(have z:=f;go_at_call 47;refine(au b s p 0 E n.length G 0 0 _ O O O B).mono ?_;rintro e a ⟨rfl,aV,rfl⟩;rw[aL.out];clear f)|(have z:=aU;go_at_call 49;refine(c7 _ _ g).mono ?_;rintro e a ⟨rfl,rfl⟩;rw[aK.out];clear aU)|(have z:=l;go_at_call 51;refine(dk _ _ g).mono ?_;rintro e a ⟨rfl,rfl⟩;rw[aM.out];clear l)|(have z:=C;go_at_call 47;refine(au b s p 1 E n.length G 0 0 _ O O O (B.drewN _)).mono ?_;rintro e a ⟨rfl,_,rfl⟩;rw[aD.out];clear C)|(go_at_call 47;refine(au b s p 1 E n.length G 0 0 _ O O O (B.drewN _)).mono ?_;rintro e a ⟨rfl,_,rfl⟩;rw[aW.out])|(go_at_call 49;refine(c7 _ _ aO).mono ?_;rintro e a ⟨rfl,rfl⟩;rw[aX.out])|(go_at_call 55;refine(mr b s p 1 E n.length G 0 0 _ O O (B.drewN _)).mono ?_;rintro e a ⟨rfl,_,rfl⟩;rw[bP.out])|(go_at_call 54;refine(jI b s p (1+(k-(p+1))) 3 n base _ bD O O (bA.drewN _) (by simpa using X)).mono ?_;rintro e a H;obtain rfl:=H.1;have aN:=U H;clear H))
    go_end0;have h:=aN.out;rw[aJ] at h;exact bH.out _ _ _ (aE.out▸h)
 rw[if_neg dI] at d;have fD:¬(c:Int)=39:=O
 have eZ:((c:Int)==39)=false:=b1
 by_cases dJ:c=35
 ·subst dJ;have fF:¬c1=34:=fun e=>bF ⟨rfl,e⟩;have eI:¬(c1:Int)=34:=O
  have eG:((c1:Int)==34)=false:=b1
  rw[if_neg bh,if_pos bh] at d;clear bF;have aA:fm (bt s p)=true:=by rw[show bt s p=_ from N];decide
  have aH:=e7 (p:=fm) eQ aA;have P:=dm (p:=fm) (s:=s) (i:=p) O;obtain⟨k,aF⟩:∃ k,cn fm s (p+0)=k:=⟨_,rfl⟩;rw[show cn fm s p=k from aF] at d aH P;have bC:=h6 (s:=s) (i:=p) (k:=k) O P;have bP:=U aF;have aJ:p+(k-p)=k:=O
  clear aA aF N I
  rcases aC:pa (sub s p k) with _|_
  all_goals
   rw[aC] at d;have bI:=U aC;have aE:=U d;clear d aC;go_enter Tryz.func18,Tryz.ntmps18
   go_wp2_with (first|(have z:=f;go_at_call 47;refine(au b s p 0 E n.length G 0 0 _ O O O B).mono ?_;rintro e a ⟨rfl,aV,rfl⟩;rw[aL.out];clear f)|(go_at_call 49;refine(c7 _ _ g).mono ?_;rintro e a ⟨rfl,rfl⟩;rw[aK.out])|(have z:=l;go_at_call 51;refine(dk _ _ g).mono ?_;rintro e a ⟨rfl,rfl⟩;rw[aM.out];clear l)|(have z:=C;go_at_call 47;refine(au b s p 1 E n.length G 0 0 _ O O O (B.drewN _)).mono ?_;rintro e a ⟨rfl,_,rfl⟩;rw[aD.out];clear C)|(have z:=aG;go_at_call 57;refine(Tryz.strings_IndexByte ⟨oU.toArray⟩ 35 _).mono ?_;rintro e a ⟨rfl,rfl⟩;clear aG)|(go_at_call 57;refine(Tryz.strings_IndexByte ⟨uT.toArray⟩ 35 _).mono ?_;rintro e a ⟨rfl,rfl⟩)|(go_at_call 55;refine(r' b s p 0 E n.length G 0 0 _ O O (B.drewN _)).mono ?_;rintro e a ⟨rfl,_,rfl⟩;rw[bP.out])|(go_at_call 60;refine(ja (sub s p k) m _ (cT.out _) O).mono ?_;rintro e a ⟨rfl,rfl⟩;rw[bI.out])|(go_at_call 54;refine(jI b s p (k-p) _ n base _ bD O O (bA.drewN _) (by simpa using X)).mono ?_;rintro e a H;obtain rfl:=H.1;have aN:=U H;clear H))
   go_end0;have h:=aN.out;rw[aJ] at h;exact bH.out _ _ _ (aE.out▸h)
 have fC:¬(c:Int)=35:=O
 have eY:((c:Int)==35)=false:=b1
 clear bF
 rcases bT:yR c with _|_
 rotate_left 1
 ·rw[bT,if_pos rfl] at d;have bQ:=U (show decide (0<=Lib.indexByte oU c.toUInt8)=true from bT);have aE:=U d;clear d bT N I;go_enter Tryz.func18,Tryz.ntmps18
  go_wp2_with (first|(have z:=f;go_at_call 47;refine(au b s p 0 E n.length G 0 0 _ O O O B).mono ?_;rintro e a ⟨rfl,aV,rfl⟩;rw[aL.out];clear f)|(go_at_call 49;refine(c7 _ _ g).mono ?_;rintro e a ⟨rfl,rfl⟩;rw[aK.out])|(have z:=l;go_at_call 51;refine(dk _ _ g).mono ?_;rintro e a ⟨rfl,rfl⟩;rw[aM.out];clear l)|(have z:=aG;go_at_call 57;refine(Tryz.strings_IndexByte ⟨oU.toArray⟩ (c:Nat) _).mono ?_;rintro e a ⟨rfl,rfl⟩;have bT:=bQ.out;clear aG)|(go_at_call 58;refine(n1 b s p 1 8 0 0 _ _ _ _ _ _ _ n base _ bD O O (bA.drewN _) (Mg.zero _)).mono ?_;rintro e a H;obtain rfl:=H.1;have aN:=U H;clear H))
  go_end0;exact bH.out _ _ _ (aE.out▸aN.out)
 rw[bT,if_neg ar] at d;have bQ:=U (show decide (0<=Lib.indexByte oU c.toUInt8)=false from bT);clear bT
 rcases aQ:fm c with _|_
 ·rw[aQ,if_neg ar] at d;have cC:=U (show decide (0<=Lib.indexByte uT c.toUInt8)=false from aQ);clear aQ N I;go_enter Tryz.func18,Tryz.ntmps18
  go_wp2_with (first|(have z:=f;go_at_call 47;refine(au b s p 0 E n.length G 0 0 _ O O O B).mono ?_;rintro e a ⟨rfl,aV,rfl⟩;rw[aL.out];clear f)|(go_at_call 49;refine(c7 _ _ g).mono ?_;rintro e a ⟨rfl,rfl⟩;rw[aK.out])|(have z:=l;go_at_call 51;refine(dk _ _ g).mono ?_;rintro e a ⟨rfl,rfl⟩;rw[aM.out];clear l)|(have z:=aG;go_at_call 57;refine(Tryz.strings_IndexByte ⟨oU.toArray⟩ (c:Nat) _).mono ?_;rintro e a ⟨rfl,rfl⟩;have bT:=bQ.out;clear aG)|(go_at_call 57;refine(Tryz.strings_IndexByte ⟨uT.toArray⟩ (c:Nat) _).mono ?_;rintro e a ⟨rfl,rfl⟩;have aQ:=cC.out)|(go_at_call 48;refine(iA b s p E n.length G 0 0 _ _ _ base eO (B.drewN _)).mono ?_;rintro e a ⟨rfl,bN,bR,aZ⟩))
  go_end0;exact bE.out _ _ _ _ _ _ _ d.symm bN bR aZ
 rw[aQ,if_pos rfl] at d;have cC:=U (show decide (0<=Lib.indexByte uT c.toUInt8)=true from aQ);have aA:fm (bt s p)=true:=by rw[show bt s p=_ from N];exact aQ
 have aH:=e7 (p:=fm) eQ aA;have P:=dm (p:=fm) (s:=s) (i:=p) O;obtain⟨k,aF⟩:∃ k,cn fm s (p+0)=k:=⟨_,rfl⟩;rw[show cn fm s p=k from aF] at d aH P;have bC:=h6 (s:=s) (i:=p) (k:=k) O P;have bP:=U aF;have aJ:p+(k-p)=k:=O
 clear aA aF N I
 rcases aC:pa (sub s p k) with _|_
 all_goals
  rw[aC] at d;have bI:=U aC;have aE:=U d;clear d aC;go_enter Tryz.func18,Tryz.ntmps18
  go_wp2_with (first|(have z:=f;go_at_call 47;refine(au b s p 0 E n.length G 0 0 _ O O O B).mono ?_;rintro e a ⟨rfl,aV,rfl⟩;rw[aL.out];clear f)|(go_at_call 49;refine(c7 _ _ g).mono ?_;rintro e a ⟨rfl,rfl⟩;rw[aK.out])|(have z:=l;go_at_call 51;refine(dk _ _ g).mono ?_;rintro e a ⟨rfl,rfl⟩;rw[aM.out];clear l)|(have z:=aG;go_at_call 57;refine(Tryz.strings_IndexByte ⟨oU.toArray⟩ (c:Nat) _).mono ?_;rintro e a ⟨rfl,rfl⟩;have bT:=bQ.out;clear aG)|(go_at_call 57;refine(Tryz.strings_IndexByte ⟨uT.toArray⟩ (c:Nat) _).mono ?_;rintro e a ⟨rfl,rfl⟩;have aQ:=cC.out)|(go_at_call 55;refine(r' b s p 0 E n.length G 0 0 _ O O (B.drewN _)).mono ?_;rintro e a ⟨rfl,_,rfl⟩;rw[bP.out])|(go_at_call 60;refine(ja (sub s p k) m _ (cT.out _) O).mono ?_;rintro e a ⟨rfl,rfl⟩;rw[bI.out])|(go_at_call 54;refine(jI b s p (k-p) _ n base _ bD O O (bA.drewN _) (by simpa using X)).mono ?_;rintro e a H;obtain rfl:=H.1;have aN:=U H;clear H))
  go_end0;have h:=aN.out;rw[aJ] at h;exact bH.out _ _ _ (aE.out▸h)
end Go.Proofs.YtkblonfmjlopaaaGreatDoor
