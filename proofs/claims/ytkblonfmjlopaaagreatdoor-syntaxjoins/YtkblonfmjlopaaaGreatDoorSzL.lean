/-
  atom, walked.
-/
import Derived.Test.YtkblonfmjlopaaaGreatDoorSzS2
set_option linter.all false
set_option maxRecDepth 1000000
set_option maxHeartbeats 16000000
namespace Go.Proofs.YtkblonfmjlopaaaGreatDoor
open Go Go.RowKit
theorem B_{X:Tx}{s:al}(h:ed X s=true):s.i<X.ts.length:=by
 apply dd;intro k;unfold ed ea ay at h;rw[k] at h;simp at h
section
variable {G:Gh} {f:Fs} {n:Nat}
set_option maxRecDepth 100000
set_option maxHeartbeats 16000000
theorem CI(Q:ei G)(bN:FN G 243 (bq G) bc (paren G.X f))(J:Fs)(aQ:Nat)(bJ:∀ w s r,f.mF w s=some r->jo G.X J aQ w s=some r)(S:FN G 67 (bq G) bc J.exp)(aY:AH G 12 #[.pointer (some ⟨G.bp,0,none⟩),.bool false] (J.dr false))(bQ:∀ s a fU,J.exp s=some (.ok (a,fU))->bW a)(bP:kZ G bc vh 244 J.kk)(dE:nH G.X J.kk):FN G 218 (bq G) bc (atom G.X f):=by
 intro M aJ aK aI fc w s r aO j;have aH:=Bd.start aO;have aV:=U (fun k aP=>(aO.mB k aP).2:∀ k,M k->k<w.heap.size);clear aO;go_enter Tryz.func218,Tryz.ntmps218
 go_upto_region 1 with fail
 have aH:=(aH.box (bq G) 49).box ke 87;rw[show(w.alloc (.cells (bq G) 49)).heap.size=w.heap.size+1 from ar] at aH;obtain⟨C,aZ⟩:∃ C,w.heap.size+1=C:=⟨_,rfl⟩;rw[aZ] at aH⊢;generalize (w.alloc (.cells (bq G) 49)).alloc (.cells ke 87)=W0 at aH⊢;have bF:=U aZ;have aH:=U aH;have fL:=aH.p 1;clear aZ
 by_cases aX:ed G.X s=true
 case neg=>
  have m:Hid ((eo G.X:PM Nd) s=some r):=U (by unfold atom at j;rw[if_neg aX] at j;exact j);have cA:Hid (ed G.X s=false):=U (by simpa using aX);clear j aX
  go_wp2_with (first
   |(go_at_call 219;refine(oS Q aH cA).mono ?_;rintro e fY ⟨rfl,R⟩;have fM:=R.p 1)
   |(go_at_call 13;exact ow (km Q R m)))
 have j:(if(V G.X s).kind=4 then pure (b9 1 [] (V G.X s).num 0 0 [] [] [] [] [] []) else if(V G.X s).kind=5 then pure (b9 2 [] 0 0 (V G.X s).bits [] [] [] [] [] []) else if(V G.X s).kind=6 then pure (b9 3 [] 0 (V G.X s).n 0 [] [] [] [] [] []) else if(V G.X s).kind=7 then pure (b9 4 [] 0 0 0 (V G.X s).text [] [] [] [] []) else if(V G.X s).kind=8 then(if(V G.X s).text=[40] then paren G.X f else f.mF (V G.X s).text) else pure (tC (V G.X s).text):PM Nd) {s with i:=s.i+1}=some r:=by
  unfold atom at j;rw[if_pos aX] at j;exact j
 have dU:=U (B_ aX);have cA:=U aX;clear aX
 go_upto_region 4 with(first
  |(go_at_call 219;refine(oS Q aH cA).mono ?_;rintro e fY ⟨rfl,R⟩;have fM:=R.p 1)
  |(go_at_call 63;refine(e' Q R).mono ?_;rintro e eL ⟨dJ,dA,dG,dC,rfl,cE,cB⟩))
 have D:=cB.box (lI G s dJ dA dG dC) 75;obtain⟨bZ,bR⟩:∃ bZ,eL.heap.size=bZ:=⟨_,rfl⟩;rw[bR] at D⊢;generalize eL.alloc _=fZ at D⊢;have D:=U D;have fN:=D.p 2;have c1:=D.ps.c1;have fr:=D.ps.fr;have bM:=dU.out;have bK:=Q.k0
 go_upto_region 5 with fail
 have g:=U (D.step dU);generalize fZ.setCell ⟨G.bp,1,none⟩ (.int .i64 ((s.i:Int)+1))=bX at g⊢;clear fN c1 fr bM bK fL bR;obtain⟨eF,b6,eG,eH,eI,eJ,eK⟩:=KN (g.bx _ (.head _)).2.2;have eD:=g.p 2
 by_cases dV:(V G.X s).kind=4
 ·have eU:(((V G.X s).kind:Nat):Int)=4:=O
  rw[if_pos dV] at j;have m:=U j;clear j;cases aj m;obtain⟨W,X,Y,Z,aA,aB,aC,aD,aE,aF,o,p⟩:=dy (g.bx _ (.tail _ (.head _))).2.2;have aG:=g.f 1
  go_wp2_with fail
  exact g.iu 1 (dq (IT g.ps cE fun b fG=>.inl fG) aa aa aa aa aa) bc.ok
 have eU:¬(((V G.X s).kind:Nat):Int)=4:=O
 rw[if_neg dV] at j
 by_cases dW:(V G.X s).kind=5
 ·have eV:(((V G.X s).kind:Nat):Int)=5:=O
  rw[if_pos dW] at j;have m:=U j;clear j;cases aj m;obtain⟨W,X,Y,Z,aA,aB,aC,aD,aE,aF,o,p⟩:=dy (g.bx _ (.tail _ (.head _))).2.2;have aG:=g.f 1
  go_wp2_with fail
  exact g.iu 1 (dq cv aa aa aa aa aa) bc.ok
 have eV:¬(((V G.X s).kind:Nat):Int)=5:=O
 rw[if_neg dW] at j
 by_cases dX:(V G.X s).kind=6
 ·have eX:(((V G.X s).kind:Nat):Int)=6:=O
  rw[if_pos dX] at j;have m:=U j;clear j;cases aj m;obtain⟨W,X,Y,Z,aA,aB,aC,aD,aE,aF,o,p⟩:=dy (g.bx _ (.tail _ (.head _))).2.2;have aG:=g.f 1
  go_wp2_with fail
  exact g.iu 1 (dq cv aa aa aa aa aa) bc.ok
 have eX:¬(((V G.X s).kind:Nat):Int)=6:=O
 rw[if_neg dX] at j
 by_cases dY:(V G.X s).kind=7
 ·have eY:(((V G.X s).kind:Nat):Int)=7:=O
  rw[if_pos dY] at j;have m:=U j;clear j;cases aj m;obtain⟨W,X,Y,Z,aA,aB,aC,aD,aE,aF,o,p⟩:=dy (g.bx _ (.tail _ (.head _))).2.2;have aG:=g.f 1
  go_wp2_with fail
  exact g.iu 1 (dq cv aa aa aa aa aa) bc.ok
 have eY:¬(((V G.X s).kind:Nat):Int)=7:=O
 rw[if_neg dY] at j
 by_cases dZ:(V G.X s).kind=8
 case neg=>
  have eZ:¬(((V G.X s).kind:Nat):Int)=8:=O
  rw[if_neg dZ] at j;have m:=U j;clear j;cases aj m;obtain⟨W,X,Y,Z,aA,aB,aC,aD,aE,aF,o,p⟩:=dy (g.bx _ (.tail _ (.head _))).2.2;have aG:=g.f 1
  go_wp2_with fail
  exact g.iu 1 (dq cv aa aa aa aa aa) bc.ok
 have eZ:(((V G.X s).kind:Nat):Int)=8:=O
 rw[if_pos dZ] at j
 by_cases P:(V G.X s).text=[40]
 ·rw[if_pos P] at j;have m:Hid ((paren G.X f>>=fun a=>pure a) {s with i:=s.i+1}=some r):=U ((pI _ _).trans j);clear j;rw[P] at b6
  go_wp2_with (go_at_call 243;refine oc (FN.bd bN bc.ok g m) ?_;rintro e bA ⟨nd,dI,_,rfl,I,d,x0,x1,x2,Vj,Vl,Vk,x4,x5,x6,Vv,Vx,Vw,Vy,gB,Vz,VC,VE,VD,VF,VH,VG,VI,VK,VJ,rfl,bO⟩;have eM:=U bO;clear bO;obtain⟨W,X,Y,Z,aA,aB,aC,aD,aE,aF,o,p⟩:=dy (d.bx _ (.tail _ (.head _))).2.2;have aG:=d.f 1)
  cases aj I;exact d.iu 1 (eM.out) bc.ok
 rw[if_neg P] at j;have j:=bJ _ _ _ j;unfold jo at j
 by_cases A:(V G.X s).text=[111,112]
 ·rw[if_pos A] at j;have m:Hid ((name G.X true>>=fun a=>pure (tC a)) {s with i:=s.i+1}=some r):=U j;clear j;rw[A] at b6
  go_wp2_with (go_at_call 73;refine oc (FB.bd (fo Q true) g m) ?_;rintro e bA ⟨x,dI,rfl,I,d⟩;obtain⟨W,X,Y,Z,aA,aB,aC,aD,aE,aF,o,p⟩:=dy (d.bx _ (.tail _ (.head _))).2.2;have aG:=d.f 1)
  cases aj I;exact d.iu 1 (dq cv aa aa aa aa aa) bc.ok
 rw[if_neg A] at j
 by_cases N:(V G.X s).text=[35]
 ·rw[if_pos N] at j;have m:Hid ((label G.X>>=fun a=>pure (b9 7 a 0 0 0 [] [] [] [] [] [])) {s with i:=s.i+1}=some r):=U j;clear j;rw[N] at b6
  go_wp2_with (go_at_call 145;refine oc (FB.bd (yo Q) g m) ?_;rintro e bA ⟨x,dI,rfl,I,d⟩;obtain⟨W,X,Y,Z,aA,aB,aC,aD,aE,aF,o,p⟩:=dy (d.bx _ (.tail _ (.head _))).2.2;have aG:=d.f 1)
  cases aj I;exact d.iu 1 (dq cv aa aa aa aa aa) bc.ok
 rw[if_neg N] at j
 by_cases y:(V G.X s).text=[108,101,116]
 ·rw[if_pos y] at j;have m:Hid ((J.dr false>>=fun aN=>a8 G.X [105,110]>>=fun _=>df G.X aQ [59] J.exp>>=fun l=>a8 G.X [101,110,100]>>=fun _=>PM.get>>=fun dH=>PM.set {dH with sc:=s.sc}>>=fun _=>pure (b9 13 [] 0 0 0 [] [] [lL l] [] aN [])) {s with i:=s.i+1}=some r):=U j;clear j;rw[y] at b6;have aU:Hid (gu G 241 #[.pointer (some ⟨G.bp,0,none⟩),.string ⟨[59].toArray⟩,.func (.func 67) (bq G) #[]] (df G.X aQ [59] J.exp)):=U (kf fun M aJ aK aI fc w s r aO j=>qa Q (fun _ _ _ h _=>h) 67 _ #[] (fun _ _=>rfl) [59] (lone J.exp) (FN.pE bc.ok S) aQ w s () r aO trivial j);have c3:=g.ps.c3;have c4:=g.ps.c4
  go_upto_region 23 with fail
  have d:=g.box #[.slice aJ s.sc.length aK,.slice aI s.sc.length fc] 52;obtain⟨bC,bL⟩:∃ bC,bX.heap.size=bC:=⟨_,rfl⟩;rw[bL] at d⊢;generalize bX.alloc _=bA at d⊢;have d:Hid (Bd G M aJ aK aI fc w s [] [(bC,#[.slice aJ s.sc.length aK,.slice aI s.sc.length fc]),(bZ,(lI G s dJ dA dG dC)),(C,ke),(w.heap.size,(bq G))] [] bA {s with i:=s.i+1}):=U d;have eE:=d.p 3;clear c3 c4 bL eF b6 eG eH eI eJ eK eD y A N P
  go_upto_region 24 with(go_at_call 12;refine oc (AH.bd aY d m) ?_;rintro e aR ⟨aN,bV,bG,bH,bU,dF,bI,dD,gA,rfl,aW,aM,E,B⟩;obtain⟨W,X,Y,Z,aA,aB,aC,aD,aE,aF,o,p⟩:=dy (B.bx _ (.tail _ (.tail _ (.head _)))).2.2;have aG:=B.f 2)
  have u:Hid (Bd G (Mm G bU bI) bU dF bI dD gA bV [] [(bC,#[.slice aJ s.sc.length aK,.slice aI s.sc.length fc]),(bZ,(lI G s dJ dA dG dC)),(C,#[.int .i64 13,.string ⟨#[]⟩,.bool false,.slice none 0 0,.int .i64 0,.int .u64 0,.string ⟨#[]⟩,.slice none 0 0,.slice none 0 0,.slice none 0 0,.slice bG aN.length bH,.slice none 0 0]),(w.heap.size,(bq G))] [([.sl aN],[.slice bG aN.length bH])] (aR.setCells C 0 [.int .i64 13,.string ⟨#[]⟩,.bool false,.slice none 0 0,.int .i64 0,.int .u64 0,.string ⟨#[]⟩,.slice none 0 0,.slice none 0 0,.slice none 0 0,.slice bG aN.length bH,.slice none 0 0]) bV):=U (B.store 2 [.int .i64 13,.string ⟨#[]⟩,.bool false,.slice none 0 0,.int .i64 0,.int .u64 0,.string ⟨#[]⟩,.slice none 0 0,.slice none 0 0,.slice none 0 0,.slice bG aN.length bH,.slice none 0 0]);change Code.wp _ _ _ _ (aR.setCells C 0 [.int .i64 13,.string ⟨#[]⟩,.bool false,.slice none 0 0,.int .i64 0,.int .u64 0,.string ⟨#[]⟩,.slice none 0 0,.slice none 0 0,.slice none 0 0,.slice bG aN.length bH,.slice none 0 0]);generalize aR.setCells C 0 _=dK at u⊢;have fO:=u.p 3;clear W X Y Z aA aB aC aD aE aF o p aG eE
  go_upto_region 25 with(go_at_call 66;refine(FU.bd (fi Q [105,110]) u aW).mono ?_;rintro e w8 (⟨dB,q,rfl,rfl,aP⟩|⟨s8,rfl,cF,bD⟩);(·unfold az;go_simp;exact⟨rfl,d.err aM E.1 E.2 aP,rfl⟩);have fP:=bD.p 3)
  go_upto_region 26 with(first
   |(go_at_call 241;refine(gu.pF aU bD cF).mono ?_;rintro e w9 (⟨dB,q,rfl,rfl,aP⟩|⟨l,s9,bS,bT,rfl,cD,cG,bE⟩);(·unfold az;go_simp;exact⟨rfl,d.err aM E.1 E.2 aP,rfl⟩))
   |(go_at_call 240;refine(E9 bE rfl (bE.t 0) (fun x e=>(k8 bQ cD).2 x (by rw[e];exact .head _))).mono ?_;rintro e bY ⟨_,rfl,cC,dM,dO,dP,cJ,cL,cK,dQ,dR,dS,cM,cO,cN,cP,cR,cQ,cS,cU,cT,cV,cX,cW,cY,cI,cZ,rfl,bO⟩;have aT:=U (cC.one (cs:=(kv dM dO dP cJ cL cK dQ dR dS cM cO cN cP cR cQ cS cU cT cV cX cW cY cI cZ)) 87 bO);clear bO;have fW:(bY.alloc (.cells (kv dM dO dP cJ cL cK dQ dR dS cM cO cN cP cR cQ cS cU cT cV cX cW cY cI cZ) 87)).cell? ⟨C,8,none⟩=some (.slice none 0 0):=aT.c 2 8;have fX:=aT.f 2))
  have aL:=U (aT.set 2 8 (.slice (some ⟨bY.heap.size,0,none⟩) 1 1));generalize (bY.alloc (.cells (kv dM dO dP cJ cL cK dQ dR dS cM cO cN cP cR cQ cS cU cT cV cX cW cY cI cZ) 87)).setCell ⟨C,8,none⟩ (.slice (some ⟨bY.heap.size,0,none⟩) 1 1)=wc at aL⊢;generalize bY.heap.size=ya at aL⊢;have pc:=aL.p 3;clear fW fX fP fO
  go_upto_region 27 with(go_at_call 66;refine(FU.bd (fi Q [101,110,100]) aL cG).mono ?_;rintro e dL (⟨dB,q,rfl,rfl,aP⟩|⟨fV,rfl,cH,H⟩);(·unfold az;go_simp;exact⟨rfl,d.err aM E.1 E.2 aP,rfl⟩);have fQ:=H.p 3;have eN:dL.cell? ⟨bC,0,none⟩=some (.slice aJ s.sc.length aK):=H.c 0 0;have eO:dL.cell? ⟨bC,1,none⟩=some (.slice aI s.sc.length fc):=H.c 0 1;have eP:=H.ps.c3;have eQ:=H.ps.c4;have eS:=H.ps.fr)
  have L:=U (d.back aV aM E.1 E.2 H);cases (show some (.ok (b9 13 [] 0 0 0 [] [] [lL l] [] aN [],⟨fV.i,s.sc⟩))=some r from cH.out)
  go_upto_region 28 with fail
  generalize (dL.setCell ⟨G.bp,3,none⟩ _).setCell ⟨G.bp,4,none⟩ _=we at L⊢;clear fQ eN eO eP eQ eS;obtain⟨W,X,Y,Z,aA,aB,aC,aD,aE,aF,o,p⟩:=dy (L.bx _ (.tail _ (.tail _ (.head _)))).2.2;have aG:=L.f 2
  go_wp2_with fail
  exact L.iu 2 (dq cv aa (L.t 0).hd aa (L.t 2).hd aa) bc.ok
 rw[if_neg y] at j
 by_cases T:(V G.X s).text=[91]
 ·rw[if_pos T] at j;have m:Hid ((gd G.X aQ [93] J.exp>>=fun l=>pure (fh 20 l)) {s with i:=s.i+1}=some r):=U j;clear j;rw[T] at b6;have aU:Hid (gu G 242 #[.pointer (some ⟨G.bp,0,none⟩),.string ⟨[93].toArray⟩,.func (.func 67) (bq G) #[]] (gd G.X aQ [93] J.exp)):=U (q3 fun M aJ aK aI fc w s r aO j=>ys Q (fun _ _ _ h _=>h) 67 _ #[] (fun _ _=>rfl) [93] (lone J.exp) (FN.pE bc.ok S) aQ w s () r aO trivial j)
  go_wp2_with (go_at_call 242;refine oc (gu.bd aU g m) ?_;rintro e bA ⟨l,dI,bS,bT,rfl,I,d⟩;obtain⟨W,X,Y,Z,aA,aB,aC,aD,aE,aF,o,p⟩:=dy (d.bx _ (.tail _ (.head _))).2.2;have aG:=d.f 1)
  cases aj I;exact d.iu 1 (dq cv aa (d.t 0).hd aa aa aa) bc.ok
 rw[if_neg T] at j;have m:Hid ((hF G.X aQ [125] J.kk []>>=fun r=>pure (b9 6 [] 0 0 0 [] r.2 r.1 [] [] [])) {s with i:=s.i+1}=some r):=U j;clear j;have eC:((V G.X s).text==[111,112])=false:=by simp[A]
 have fI:((V G.X s).text==[35])=false:=by simp[N]
 have eB:((V G.X s).text==[108,101,116])=false:=by simp[y]
 have fK:((V G.X s).text==[91])=false:=by simp[T]
 have fJ:((V G.X s).text==[40])=false:=by simp[P]
 clear A N y T P;have eT:bX.cell? ⟨C,0,none⟩=some (.int .i64 0):=g.c 1 0;have fA:=g.f 1
 go_upto_region 34 with fail
 have d:Hid (Bd G M aJ aK aI fc w s [] ((C,vh (.slice none 0 0))::[(w.heap.size,(bq G))]) [] (bX.setCell ⟨C,0,none⟩ (.int .i64 6)) {s with i:=s.i+1}):=U (g.drop.eu 0 (.int .i64 6));generalize bX.setCell ⟨C,0,none⟩ (.int .i64 6)=bA at d⊢;clear eT fA eF b6 eG eH eI eJ eK eD;have eE:=d.p 1
 go_upto_region 35 with(go_at_call 242;refine(zG (fun fT fH aO fF fE=>ys Q fE 244 #[] _ (fun _ _=>rfl) [125] (rV J.kk) (bP.pE d aV (.head _) (ba bF.out)) aQ bA _ LG.zero fT aO fF fH) aV dE (fun v h=>absurd (congrArg Array.size h) (by simp[vh])) d (.head _) (ba bF.out) m).mono ?_;rintro e aR (⟨dB,q,rfl,rfl,aP⟩|⟨l,ls,bV,a,c,bS,bT,rfl,aW,B⟩);(·unfold az;go_simp;exact⟨rfl,aP,rfl⟩);have B:=U (show Bd G M aJ aK aI fc w s [] ((C,#[.int .i64 6,.string ⟨#[]⟩,.bool false,.slice none 0 0,.int .i64 0,.int .u64 0,.string ⟨#[]⟩,.slice bS ls.length bT,.slice none 0 0,.slice none 0 0,.slice none 0 0,.slice none 0 0])::_) _ aR bV from B.out);have fR:aR.cell? ⟨C,8,none⟩=some (.slice none 0 0):=B.c 0 8;have fS:=B.f 0)
 have u:Hid (Bd G M aJ aK aI fc w s [] ((C,#[.int .i64 6,.string ⟨#[]⟩,.bool false,.slice none 0 0,.int .i64 0,.int .u64 0,.string ⟨#[]⟩,.slice bS ls.length bT,.slice a l.length c,.slice none 0 0,.slice none 0 0,.slice none 0 0])::_) _ (aR.setCell ⟨C,8,none⟩ (.slice a l.length c)) bV):=U (B.set 0 8 (.slice a l.length c) rfl ar);generalize aR.setCell ⟨C,8,none⟩ (.slice a l.length c)=dK at u⊢;clear fR fS;obtain⟨g0,g1,g2,g3,g4,g5,g6,g7,g8,g9,fC,fD⟩:=dy (u.bx _ (.head _)).2.2;have gf:=u.f 0;cases aj aW
 go_wp2_with fail
 exact u.iu 0 (cs:=[.int .i64 6,.string ⟨#[]⟩,.bool false,.slice none 0 0,.int .i64 0,.int .u64 0,.string ⟨#[]⟩,.slice bS ls.length bT,.slice a l.length c,.slice none 0 0,.slice none 0 0,.slice none 0 0]) (by have:=dq (kind:=6) (n:=0) (bits:=0) (name:=[]) (text:=[]) (z:=0) (ls:=ls) (kids:=l) (rules:=[]) (dr:=[]) (types:=[]) (w:=dK) (F:=Own G.B w.heap.size dK.heap.size (VM M w _)) cv (by rw[jc];exact(u.t 1).hd) (u.t 0).hd aa aa aa;rw[jc] at this;exact this) bc.ok
end
theorem nA(l:List ak):texts (strs l)=l:=by
 unfold texts strs;rw[List.map_map]
 conv=>rhs;rw[<-List.map_id l]
 exact o7 fun a _=>by simp[vS]
theorem tN{X:Tx}{e:ak}{x:PM ak}:∀ (n:Nat) (d:List ak) (u:Unit) (s:al) (l:List Nd) (j:Unit) (i:al),gy X e (lone (oi x)) n (strs d) u s=some (.ok ((l,j),i))->∃ m,l=strs m
 |0,d,u,s,l,j,i,h=>by cases h
 |n+1,d,u,s,l,j,i,h=>by
  by_cases r:ay X [e] s=true
  ·rw[mT r] at h
   rcases a_ h with⟨c,q,_,f⟩|⟨⟨a,A⟩,w,o,f⟩
   ·cases f
   unfold lone at o
   rcases a_ o with⟨c,q,_,g⟩|⟨b,y,g,t⟩
   ·cases g
   unfold oi at g
   rcases a_ g with⟨c,q,_,p⟩|⟨k,z,p,v⟩
   ·cases p
   cases aj v;cases aj t;have f:gy X e (lone (oi x)) n (strs d++[[vS k]]) () w=some (.ok ((l,j),i)):=f;rw[show strs d++[[vS k]]=strs (d++[k]) by simp[strs]] at f;exact tN n _ _ _ _ _ _ f
  ·rw[oe r] at h;cases h;exact⟨_,rfl⟩
theorem BQ{X:Tx}{n:Nat}{f:ak}{x:PM ak}{s r:al}{l:List Nd}(h:df X n f (oi x) s=some (.ok (l,r))):strs (texts l)=l:=by
 unfold df list at h
 rcases a_ h with⟨c,q,_,i⟩|⟨⟨b,u⟩,t,i,k⟩
 ·cases i
 cases aj k
 rcases a_ i with⟨c,q,_,d⟩|⟨⟨b,u⟩,t,d,o⟩
 ·cases d
 unfold lone at d
 rcases a_ d with⟨c,q,_,e⟩|⟨v,w,e,p⟩
 ·cases e
 unfold oi at e
 rcases a_ e with⟨c,q,_,j⟩|⟨a,y,j,g⟩
 ·cases j
 cases aj g;cases aj p;obtain⟨m,rfl⟩:=tN n [a] _ _ _ _ _ o;rw[nA]
theorem Jz(X:Tx)(n:Nat)(s:al):jn (vars X n) s=(if(V X s).kind=3 then(hv X>>=fun a=>pure [[vS a]]) s else(a7 X [40]>>=fun o=>if o=true then df X n [44] (oi (hv X))>>=fun l=>a8 X [41]>>=fun _=>pure l else pure []) s):=by
 unfold jn vars;rw[<-db,jy,Ni]
 split
 ·exact(db (hv X) (fun a=>pure [a]) (fun l=>pure (strs l)) s).symm
 ·refine(db (a7 X [40]) _ (fun l=>pure (strs l)) s).symm.trans ?_;show PM.bind _ _ s=PM.bind _ _ s;unfold PM.bind
  rcases a7 X [40] s with _|e|⟨b,c⟩
  ·rfl
  ·rfl
  cases b with
  |false=>rfl
  |true=>
   refine(db (df X n [44] (oi (hv X))) _ (fun l=>pure (strs l)) c).symm.trans ?_;show PM.bind _ _ c=PM.bind _ _ c;unfold PM.bind
   rcases h:df X n [44] (oi (hv X)) c with _|e|⟨b,d⟩
   ·rfl
   ·rfl
   refine(db (a8 X [41]) (fun _=>pure (texts b)) (fun l=>pure (strs l)) d).symm.trans ?_;show(a8 X [41]>>=fun _=>pure (strs (texts b))) d=_;rw[BQ h]
section
variable {G:Gh} {f:Fs} {n:Nat}
set_option maxRecDepth 100000
set_option maxHeartbeats 16000000
theorem sq(g:ei G):gu G 72 (bq G) (jn (vars G.X n)):=by
 intro M E F C fc w s r i c;have k:=U (Bd.start i);have D:=iU;rw[Jz] at c
 by_cases j:(V G.X s).kind=3
 ·rw[if_pos j] at c;have q:=U c;have B:(((V G.X s).kind:Nat):Int)=3:=O
  clear c j i;go_enter Tryz.func72,Tryz.ntmps72
  go_wp2_with (first
   |(go_at_call 63;refine(e' g k).mono ?_;rintro e z ⟨_,_,_,_,rfl,-,d⟩)
   |(go_at_call 111;refine oc (FB.bd (sM g) d q) ?_;rintro e A ⟨a,L,rfl,t,f⟩))
  go_ret;cases aj t;exact(f.one (nd:=[vS a]) (cs:=(jk a)) 9 (ej _ gO)).ru
 rw[if_neg j] at c;have B:¬(((V G.X s).kind:Nat):Int)=3:=O
 obtain⟨b,H,y,c⟩:=cx c;have x:=U y;clear y j i;cases b with
 |false=>
  cases aj c;clear c;go_enter Tryz.func72,Tryz.ntmps72
  go_wp2_with (first
   |(go_at_call 63;refine(e' g k).mono ?_;rintro e z ⟨_,_,_,_,rfl,-,d⟩)
   |(go_at_call 21;refine(bz g d x).mono ?_;rintro e A ⟨rfl,f⟩))
  go_ret;exact(f.add (cr aa gO)).ru
 |true=>
  have q:Hid ((df G.X n [44] (oi (hv G.X))>>=fun l=>a8 G.X [41]>>=fun _=>pure l) H=some r):=U c;have p:Hid (gu G 112 #[.pointer (some ⟨G.bp,0,none⟩),.string ⟨[44].toArray⟩,.func (.func 111) (bq G) #[]] (df G.X n [44] (oi (hv G.X)))):=U (kf fun M E F C fc w s r i c=>GG g (fun _ _ _ h _=>h) 111 _ #[] (fun _ _=>rfl) [44] (lone (oi (hv G.X))) (FN.pE vX.ok (FB.fn (sM g))) n w s () r i trivial c);clear c;go_enter Tryz.func72,Tryz.ntmps72
  go_wp2_with (first
   |(go_at_call 63;refine(e' g k).mono ?_;rintro e z ⟨_,_,_,_,rfl,-,d⟩)
   |(go_at_call 21;refine(bz g d x).mono ?_;rintro e A ⟨rfl,f⟩)
   |(go_at_call 112;refine oc (gu.bd p f q) ?_;rintro e Q ⟨l,N,I,J,rfl,u,m⟩)
   |(go_at_call 66;refine oc (FU.bd (fi g [41]) m u) ?_;rintro e R ⟨P,rfl,v,o⟩))
  go_ret;cases aj v;exact o.ru
theorem LH(o:ei G)(q:FN G 74 (bq G) cz f.ty):FP G 110 qU (nD G.X f):=by
 intro M E F B fc w s r L u h p v;have z:=U v;have y:=Bd.start u;have g:=U p;clear v u;go_enter Tryz.func110,Tryz.ntmps110
 go_upto_region 1 with fail
 have d:=U (y.box #[.string ⟨#[]⟩,.slice none 0 0] 148);generalize w.alloc (.cells #[.string ⟨#[]⟩,.slice none 0 0] 148)=A at d⊢;have H:=(d.q g h).p
 go_upto_region 3 with(first
  |(go_at_call 21;refine(GN o d z).mono ?_;rintro e R ⟨b,N,rfl,k,i⟩;have I:=(i.q g h).p)
  |(go_at_call 73;refine oc (FB.bd (fo o true) i k) ?_;rintro e S ⟨a,P,rfl,m,j⟩;have J:=(j.q g h).p))
 go_wp2_with (go_at_call 75;refine oc (gu.bd (zm o q) j m) ?_;rintro e x ⟨l,Q,C,D,rfl,n,c⟩;have T:x.cell? ⟨w.heap.size,0,none⟩=some (.string ⟨#[]⟩):=c.c 0 0;have W:x.cell? ⟨w.heap.size,1,none⟩=some (.slice none 0 0):=c.c 0 1;have X:=c.f 0)
 cases aj n;exact c.iu 0 (ej _ (c.t 0)) qU.ok
def JA(X:Tx)(f:Fs)(n:Nat):List Nd->PM Nd:=fun v=>name X false>>=fun a=>a8 X [61]>>=fun _=>df X n [124] (nD X f)>>=fun l=>pure [.sl v,vS a,.sl l]
theorem JB(X:Tx)(f:Fs)(n:Nat)(s:al):jA X f n s=(jn (vars X n)>>=JA X f n) s:=by
 unfold jA jn;exact db (vars X n) (fun l=>pure (strs l)) (JA X f n) s
theorem xE(m:ei G)(B:FN G 74 (bq G) cz f.ty):FN G 71 (bq G) kH (jA G.X f n):=by
 intro M Z aA Y fc w s r u C;rw[JB] at C;have L:=U C;have d:=Bd.start u;clear C u;go_enter Tryz.func71,Tryz.ntmps71
 go_upto_region 1 with fail
 have d:=(d.box (bq G) 49).box #[.slice none 0 0,.string ⟨#[]⟩,.slice none 0 0] 92;rw[show(w.alloc (.cells (bq G) 49)).heap.size=w.heap.size+1 from ar] at d;obtain⟨q,o⟩:∃ q,w.heap.size+1=q:=⟨_,rfl⟩;rw[o] at d⊢;generalize (w.alloc (.cells (bq G) 49)).alloc (.cells #[.slice none 0 0,.string ⟨#[]⟩,.slice none 0 0] 92)=X at d⊢;have d:=U d;have aB:=d.p 1;clear o
 go_upto_region 2 with(go_at_call 72;refine oc (gu.bd (sq m) d L) ?_;rintro e aL ⟨v,T,F,H,rfl,i,k⟩;have aC:=k.p 1)
 have i:Hid ((name G.X false>>=fun a=>a8 G.X [61]>>=fun _=>df G.X n [124] (nD G.X f)>>=fun l=>pure [.sl v,vS a,.sl l]) T=some r):=i
 go_upto_region 3 with(go_at_call 73;refine oc (FB.bd (fo m false) k i) ?_;rintro e I ⟨a,aI,rfl,y,x⟩)
 have c:=x.box #[.slice F v.length H,.string ⟨a.toArray⟩,.slice none 0 0] 92;generalize I.heap.size=p at c⊢;generalize I.alloc (.cells #[.slice F v.length H,.string ⟨a.toArray⟩,.slice none 0 0] 92)=aM at c⊢;have aD:=c.p 2;have c:=U c
 go_upto_region 5 with(first
  |(go_at_call 66;refine oc (FU.bd (fi m [61]) c y) ?_;rintro e W ⟨aJ,rfl,z,g⟩;have aE:=g.p 2)
  |(go_at_call 109;refine oc (EM (fun S Q u P N=>Gd m N 110 #[] _ (fun _ _=>rfl) [124] (lone (nD G.X f)) ((LH m B).pE qU.ok g (.tail _ (.tail _ (.head _)))) n W _ () S u P Q) g (.tail _ (.tail _ (.head _))) z) ?_;rintro e J ⟨l,aK,D,E,rfl,A,h⟩;have R:J.cell? ⟨p,2,none⟩=some (.slice none 0 0):=h.c 0 2;have aH:=h.f 0))
 have b:=U (h.set 0 2 (.slice D l.length E));generalize J.setCell ⟨p,2,none⟩ (.slice D l.length E)=j at b⊢;have aF:j.cell? ⟨p,0,none⟩=some (.slice F v.length H):=b.c 0 0;have aG:j.cell? ⟨p,1,none⟩=some (.string ⟨a.toArray⟩):=b.c 0 1;have R:j.cell? ⟨p,2,none⟩=some (.slice D l.length E):=b.c 0 2;have aN:j.cell? ⟨q,0,none⟩=some (.slice none 0 0):=b.c 1 0;have aO:j.cell? ⟨q,1,none⟩=some (.string ⟨#[]⟩):=b.c 1 1;have aP:j.cell? ⟨q,2,none⟩=some (.slice none 0 0):=b.c 1 2;have aQ:=b.f 1
 go_wp2_with fail
 cases aj A;exact b.iu 1 (cr (b.t 1).hd (ej _ (b.t 0))) kH.ok
end
section
variable {G:Gh} {f:Fs} {n:Nat}
set_option maxRecDepth 100000
set_option maxHeartbeats 16000000
theorem vj(E:ei G)(eS:n<=1000000)(bG:FN G 74 (bq G) cz f.ty):gu G 77 (bq G) (jN G.X f n):=by
 intro M aM aN aJ fc w s r dY i;have dS:Hid (gq G.X f n n [] s=some r):=U i;have dQ:=U ((Bd.start dY).tz 6);clear i dY;go_enter Tryz.func77,Tryz.ntmps77
 go_wp2_with fail
 go_loopg [3] n (fun gk eF wr=>∃ dJ l a c js,eF=.slice a l.length c/\Hid (gq G.X f n gk l dJ=some r)/\Hid (∀ q,q∈js->q.2=#[])/\Hid (l.length+gk<=n)/\Hid (Bd G M aM aN aJ fc w s [(6,l,a,c)] js [] wr dJ))
 case atStart=>exact⟨s,[],none,0,[],rfl,dS,U ar,U ar,dQ⟩
 case round=>
  clear dQ dS;obtain⟨dJ,l,a,c,js,rfl,bV,dC,cX,cC⟩:=hrel;cases gk with
  |zero=>exact absurd bV.out (by intro h;cases h)
  |succ m=>
  have i:=bV.out;unfold gq at i;obtain⟨b,eT,I,i⟩:=cx i;have dR:=U I;clear I bV;cases b with
  |true=>
   cases aj i;clear i
   go_wp2_with (go_at_call 21;refine(bz E cC dR).mono ?_;rintro e dO ⟨rfl,aV⟩)
   go_ret;exact(Bd.nM (fx:=[]) aV dC ar).ru
  |false=>
   have bX:=U i;clear i
   go_upto_block 2 with(go_at_call 21;refine(bz E cC dR).mono ?_;rintro e dO ⟨rfl,aV⟩)
   have S:=aV.box #[.int .i64 0,.string ⟨#[]⟩,.slice none 0 0,.string ⟨#[]⟩,.slice none 0 0,.slice none 0 0] 94;generalize dO.heap.size=o at S⊢;generalize dO.alloc _=eU at S⊢;have S:=U S
   go_cut [4] from 8 to 64 (fun eI eK=>∃ (nd:Nd) (cS:al) (bL:Int) (bM:ByteArray) (aX:Option Addr) (aZ aY:Nat) (bN:ByteArray) (b6:Option Addr) (bC bA:Nat) (bD:Option Addr) (bF bE:Nat),eI=.pointer (some ⟨o,0,none⟩)/\Hid (gq G.X f n m (l++[nd]) cS=some r)/\Hid (Bd G M aM aN aJ fc w s [(6,l,a,c)] ((o,#[.int .i64 bL,.string bM,.slice aX aZ aY,.string bN,.slice b6 bC bA,.slice bD bF bE])::js) [(nd,[.int .i64 bL,.string bM,.slice aX aZ aY,.string bN,.slice b6 bC bA,.slice bD bF bE])] eK cS))
   case first=>
    obtain⟨b,eB,I,i⟩:=cx bX;have cE:=U I;clear I bX;cases b with
    |true=>
     have R:Hid (gq G.X f n m l eB=some r):=U i;clear i
     go_wp2_with (go_at_call 21;refine(bz E S cE).mono ?_;rintro e eJ ⟨rfl,aW⟩)
     go_roundg m
     case measure=>omega
     case rel=>exact⟨eB,l,a,c,js,rfl,R,dC,U (ba cX.out),U aW.drop⟩
    |false=>
     have R:=U i;clear i
     go_upto_region 6 with(go_at_call 21;refine(bz E S cE).mono ?_;rintro e eJ ⟨rfl,aW⟩)
     obtain⟨b,eH,I,i⟩:=cx R;have cF:=U I;clear I;cases b with
     |true=>
      have T:Hid ((name G.X true>>=fun a=>a8 G.X [58]>>=fun _=>f.ty>>=fun t=>gq G.X f n m (l++[fl 1 a (mkData [] [] []) [t]])) eH=some r):=U i;clear i R
      go_upto_region 8 with(first
       |(go_at_call 21;refine(bz E aW cF).mono ?_;rintro e dB ⟨rfl,L⟩)
       |(go_at_call 73;refine oc (FB.bd (fo E true) L T) ?_;rintro e cT ⟨x,dI,rfl,cG,aH⟩;obtain⟨W,X,Y,Z,aA,aB⟩:=zK (aH.bx _ (.head _)).2.2;have aC:=aH.f 0))
      have B:Hid (Bd G M aM aN aJ fc w s [(6,l,a,c)] ((o,#[.int .i64 1,.string ⟨x.toArray⟩,.slice none 0 0,.string ⟨#[]⟩,.slice none 0 0,.slice none 0 0])::js) [] ((cT.setCell ⟨o,0,none⟩ (.int .i64 1)).setCell ⟨o,1,none⟩ (.string ⟨x.toArray⟩)) dI):=U ((aH.eu 0 (.int .i64 1)).eu 1 (.string ⟨x.toArray⟩));generalize (cT.setCell ⟨o,0,none⟩ (.int .i64 1)).setCell ⟨o,1,none⟩ (.string ⟨x.toArray⟩)=cU at B⊢;clear W X Y Z aA aB aC
      go_wp2_with (first
       |(go_at_call 66;refine oc (FU.bd (fi E [58]) B cG) ?_;rintro e bZ ⟨bY,rfl,P,J⟩)
       |(go_at_call 74;refine oc (FN.bd bG cz.ok J P) ?_;rintro e aD ⟨t,bH,_,rfl,D,u,cW,aT,aP,aR,aQ,cJ,cL,cK,rfl,bT⟩;have k:=U (u.one (cs:=(nF cW aT aP aR aQ cJ cL cK)) 78 bT);clear bT;obtain⟨W,X,Y,Z,aA,aB⟩:=zK (k.bx _ (.head _)).2.2;have aC:=k.f 0))
      have g:Hid (Bd G M aM aN aJ fc w s [(6,l,a,c)] ((o,#[.int .i64 1,.string ⟨x.toArray⟩,.slice none 0 0,.string ⟨#[]⟩,.slice none 0 0,.slice (some ⟨aD.heap.size,0,none⟩) 1 1])::js) _ ((aD.alloc (.cells (nF cW aT aP aR aQ cJ cL cK) 78)).setCell ⟨o,5,none⟩ (.slice (some ⟨aD.heap.size,0,none⟩) 1 1)) bH):=U (k.eu 5 (.slice (some ⟨aD.heap.size,0,none⟩) 1 1));clear W X Y Z aA aB aC
      go_meet
      case rel=>exact⟨fl 1 x (mkData [] [] []) [t],bH,_,_,_,_,_,_,_,_,_,_,_,_,rfl,D,U ((g.add (nd:=fl 1 x (mkData [] [] []) [t]) (ej _ (ej _ (cr aa (ej _ (cr aa (cr (g.t 0).hd gO))))))).sub fun p aL=>by rcases List.mem_singleton.1 aL with rfl;exact .head _)⟩
     |false=>
      have T:=U i;clear i
      go_upto_region 10 with(go_at_call 21;refine(bz E aW cF).mono ?_;rintro e dB ⟨rfl,L⟩)
      obtain⟨b,cO,I,i⟩:=cx T;have bO:=U I;clear I;cases b with
      |true=>
       have H:Hid ((jn (vars G.X n)>>=fun v=>name G.X false>>=fun a=>a7 G.X [61]>>=fun dG=>(if dG=true then f.ty>>=fun t=>pure [t] else pure []:PM (List Nd))>>=fun t=>gq G.X f n m (l++[fl 2 [] [.sl v,vS a,.sl []] t])) cO=some r):=U ((db (vars G.X n) (fun l=>pure (strs l)) _ cO).symm.trans i);clear i T R
       go_upto_region 12 with(first
        |(go_at_call 21;refine(bz E L bO).mono ?_;rintro e cU ⟨rfl,B⟩)
        |(go_at_call 72;refine oc (gu.bd (sq E) B H) ?_;rintro e bZ ⟨v,bY,cA,cB,rfl,P,J⟩;obtain⟨W,X,Y,Z,aA,aB⟩:=zK (J.bx _ (.head _)).2.2;have aC:=J.f 0))
       have u:Hid (Bd G M aM aN aJ fc w s [(6,l,a,c)] ((o,#[.int .i64 2,.string ⟨#[]⟩,.slice cA v.length cB,.string ⟨#[]⟩,.slice none 0 0,.slice none 0 0])::js) _ ((bZ.setCell ⟨o,0,none⟩ (.int .i64 2)).setCell ⟨o,2,none⟩ (.slice cA v.length cB)) bY):=U ((J.eu 0 (.int .i64 2)).eu 2 (.slice cA v.length cB));generalize (bZ.setCell ⟨o,0,none⟩ (.int .i64 2)).setCell ⟨o,2,none⟩ (.slice cA v.length cB)=aD at u⊢;clear W X Y Z aA aB aC;have P:Hid ((name G.X false>>=fun a=>a7 G.X [61]>>=fun dG=>(if dG=true then f.ty>>=fun t=>pure [t] else pure []:PM (List Nd))>>=fun t=>gq G.X f n m (l++[fl 2 [] [.sl v,vS a,.sl []] t])) bY=some r):=P
       go_upto_region 13 with(go_at_call 73;refine oc (FB.bd (fo E false) u P) ?_;rintro e bJ ⟨x,bI,rfl,aF,k⟩;obtain⟨W,X,Y,Z,aA,aB⟩:=zK (k.bx _ (.head _)).2.2;have aC:=k.f 0)
       have g:Hid (Bd G M aM aN aJ fc w s [(6,l,a,c)] ((o,#[.int .i64 2,.string ⟨#[]⟩,.slice cA v.length cB,.string ⟨x.toArray⟩,.slice none 0 0,.slice none 0 0])::js) _ (bJ.setCell ⟨o,3,none⟩ (.string ⟨x.toArray⟩)) bI):=U (k.eu 3 (.string ⟨x.toArray⟩));generalize bJ.setCell ⟨o,3,none⟩ (.string ⟨x.toArray⟩)=cV at g⊢;clear W X Y Z aA aB aC;obtain⟨b,aG,I,i⟩:=cx aF;have bR:=U I;clear I aF;cases b with
       |true=>
        have Q:Hid ((f.ty>>=fun t=>gq G.X f n m (l++[fl 2 [] [.sl v,vS x,.sl []] [t]])) aG=some r):=U ((db f.ty (fun t=>pure [t]) _ aG).trans i);clear i
        go_wp2_with (first
         |(go_at_call 21;refine(bz E g bR).mono ?_;rintro e bK ⟨rfl,y⟩)
         |(go_at_call 74;refine oc (FN.bd bG cz.ok y Q) ?_;rintro e aO ⟨t,cQ,_,rfl,cH,aE,cW,aT,aP,aR,aQ,cJ,cL,cK,rfl,bT⟩;have C:=U (aE.one (cs:=(nF cW aT aP aR aQ cJ cL cK)) 78 bT);clear bT;obtain⟨W,X,Y,Z,aA,aB⟩:=zK (C.bx _ (.head _)).2.2;have aC:=C.f 0))
        have F:Hid (Bd G M aM aN aJ fc w s [(6,l,a,c)] ((o,#[.int .i64 2,.string ⟨#[]⟩,.slice cA v.length cB,.string ⟨x.toArray⟩,.slice none 0 0,.slice (some ⟨aO.heap.size,0,none⟩) 1 1])::js) _ ((aO.alloc (.cells (nF cW aT aP aR aQ cJ cL cK) 78)).setCell ⟨o,5,none⟩ (.slice (some ⟨aO.heap.size,0,none⟩) 1 1)) cQ):=U (C.eu 5 (.slice (some ⟨aO.heap.size,0,none⟩) 1 1));clear W X Y Z aA aB aC
        go_meet
        case rel=>exact⟨fl 2 [] [.sl v,vS x,.sl []] [t],cQ,_,_,_,_,_,_,_,_,_,_,_,_,rfl,cH,U ((F.add (nd:=fl 2 [] [.sl v,vS x,.sl []] [t]) (ej _ (ej _ (cr (F.t 1).hd (ej _ (cr aa (cr (F.t 0).hd gO))))))).sub fun p aL=>by rcases List.mem_singleton.1 aL with rfl;exact .head _)⟩
       |false=>
        have Q:Hid (gq G.X f n m (l++[fl 2 [] [.sl v,vS x,.sl []] []]) aG=some r):=U i;clear i
        go_wp2_with (go_at_call 21;refine(bz E g bR).mono ?_;rintro e bK ⟨rfl,y⟩)
        go_meet
        case rel=>exact⟨fl 2 [] [.sl v,vS x,.sl []] [],aG,_,_,_,_,_,_,_,_,_,_,_,_,rfl,Q,U ((y.add (nd:=fl 2 [] [.sl v,vS x,.sl []] []) (ej _ (ej _ (cr (y.t 0).hd (ej _ (cr aa (cr aa gO))))))).sub fun p aL=>by rcases List.mem_singleton.1 aL with rfl;exact .head _)⟩
      |false=>
       have H:=U i;clear i
       go_upto_region 15 with(go_at_call 21;refine(bz E L bO).mono ?_;rintro e cU ⟨rfl,B⟩)
       obtain⟨b,bH,I,i⟩:=cx H;have bP:=U I;clear I;cases b with
       |true=>
        have D:Hid ((jA G.X f n>>=fun d=>gq G.X f n m (l++[fl 3 [] d []])) bH=some r):=U i;clear i H T R
        go_wp2_with (first
         |(go_at_call 21;refine(bz E B bP).mono ?_;rintro e aD ⟨rfl,u⟩)
         |(go_at_call 71;refine oc (FN.bd (xE E bG) kH.ok u D) ?_;rintro e bJ ⟨d,bI,_,rfl,aF,k,cY,dA,cZ,aT,aP,aR,aQ,rfl,bT⟩;have eC:=U bT;clear bT;obtain⟨W,X,Y,Z,aA,aB⟩:=zK (k.bx _ (.head _)).2.2;have aC:=k.f 0))
        have g:Hid (Bd G M aM aN aJ fc w s [(6,l,a,c)] ((o,#[.int .i64 3,.string ⟨#[]⟩,.slice cY dA cZ,.string aT,.slice aP aR aQ,.slice none 0 0])::js) _ ((((bJ.setCell ⟨o,0,none⟩ (.int .i64 3)).setCell ⟨o,2,none⟩ (.slice cY dA cZ)).setCell ⟨o,3,none⟩ (.string aT)).setCell ⟨o,4,none⟩ (.slice aP aR aQ)) bI):=U ((((k.add eC).eu 0 (.int .i64 3)).eu 2 (.slice cY dA cZ)).eu 3 (.string aT) |>.eu 4 (.slice aP aR aQ));clear W X Y Z aA aB aC
        go_meet
        case rel=>exact⟨fl 3 [] d [],bI,_,_,_,_,_,_,_,_,_,_,_,_,rfl,aF,U ((g.add (nd:=fl 3 [] d []) (cs:=[.int .i64 3,.string ⟨#[]⟩,.slice cY dA cZ,.string aT,.slice aP aR aQ,.slice none 0 0]) (ej _ (ej _ (ah.app (g.t 0) (cr aa gO))))).sub fun p aL=>by rcases List.mem_singleton.1 aL with rfl;exact .head _)⟩
       |false=>
        have D:=U i;clear i
        go_upto_region 17 with(go_at_call 21;refine(bz E B bP).mono ?_;rintro e aD ⟨rfl,u⟩)
        obtain⟨b,cP,I,i⟩:=cx D;have bQ:=U I;clear I;cases b with
        |true=>
         have aI:Hid ((name G.X false>>=fun a=>qf G.X f>>=fun t=>gq G.X f n m (l++[fl 4 a (mkData [] [] []) t])) cP=some r):=U i;clear i D H T R
         go_upto_region 19 with(first
          |(go_at_call 21;refine(bz E u bQ).mono ?_;rintro e cV ⟨rfl,g⟩)
          |(go_at_call 73;refine oc (FB.bd (fo E false) g aI) ?_;rintro e bK ⟨x,aG,rfl,Q,y⟩;obtain⟨W,X,Y,Z,aA,aB⟩:=zK (y.bx _ (.head _)).2.2;have aC:=y.f 0))
         have aE:Hid (Bd G M aM aN aJ fc w s [(6,l,a,c)] ((o,#[.int .i64 4,.string ⟨x.toArray⟩,.slice none 0 0,.string ⟨#[]⟩,.slice none 0 0,.slice none 0 0])::js) [] ((bK.setCell ⟨o,0,none⟩ (.int .i64 4)).setCell ⟨o,1,none⟩ (.string ⟨x.toArray⟩)) aG):=U ((y.eu 0 (.int .i64 4)).eu 1 (.string ⟨x.toArray⟩));generalize (bK.setCell ⟨o,0,none⟩ (.int .i64 4)).setCell ⟨o,1,none⟩ (.string ⟨x.toArray⟩)=aO at aE⊢;clear W X Y Z aA aB aC
         go_wp2_with (go_at_call 75;refine oc (gu.bd (zm E bG) aE Q) ?_;rintro e dM ⟨t,cR,dK,dL,rfl,cI,C⟩;obtain⟨W,X,Y,Z,aA,aB⟩:=zK (C.bx _ (.head _)).2.2;have aC:=C.f 0)
         have F:Hid (Bd G M aM aN aJ fc w s [(6,l,a,c)] ((o,#[.int .i64 4,.string ⟨x.toArray⟩,.slice none 0 0,.string ⟨#[]⟩,.slice none 0 0,.slice dK t.length dL])::js) _ (dM.setCell ⟨o,5,none⟩ (.slice dK t.length dL)) cR):=U (C.eu 5 (.slice dK t.length dL));clear W X Y Z aA aB aC
         go_meet
         case rel=>exact⟨fl 4 x (mkData [] [] []) t,cR,_,_,_,_,_,_,_,_,_,_,_,_,rfl,cI,U ((F.add (nd:=fl 4 x (mkData [] [] []) t) (ej _ (ej _ (cr aa (ej _ (cr aa (cr (F.t 0).hd gO))))))).sub fun p aL=>by rcases List.mem_singleton.1 aL with rfl;exact .head _)⟩
        |false=>
         have aI:Hid ((eo G.X:PM (List Nd)) cP=some r):=U i;clear i D H T R
         go_wp2_with (first
          |(go_at_call 21;refine(bz E u bQ).mono ?_;rintro e cV ⟨rfl,g⟩)
          |(go_at_call 13;exact ow (km E g aI)))
   case rest=>
    obtain⟨nd,cS,bL,bM,aX,aZ,aY,bN,b6,bC,bA,bD,bF,bE,rfl,dD,bU⟩:=hcut;clear S aV bX;obtain⟨eD,dW,dX,cM,bS⟩:=Bd.push (fx:=[_]) (js:=js) (z:=Di) (cs:=#[.int .i64 bL,.string bM,.slice aX aZ aY,.string bN,.slice b6 bC bA,.slice bD bF bE]) 94 bU dC (bU.t 0) rfl O;have aU:=U (b4 dW (b4 dX cM));have cD:=U bS;obtain⟨eL,eM,eN,eO,eP,eQ⟩:=zK (bU.bx _ (.head _)).2.2;clear dW dX cM bS
    go_wp2_with (at_builtin;refine hH _ rfl _ _ 40 40 rfl 94 94 Di 6 112 Tryz.underlying40 Tryz.underlying40 Tryz.KR rfl O w.heap.size ?hb a l.length c eD (cellAt #[.int .i64 bL,.string bM,.slice aX aZ aY,.string bN,.slice b6 bC bA,.slice bD bF bE]) wc.heap.size 0 1 rfl rfl ?A ?N ?hg ?one ?hl ?h63 ?_)
    case hb=>have:=aU.2.2;simpa using this
    case A=>exact aU.1
    case N=>exact aU.2.1
    case hg=>intro j eE;have:=ij wc #[.int .i64 bL,.string bM,.slice aX aZ aY,.string bN,.slice b6 bC bA,.slice bD bF bE] 94 j eE;simpa using this
    case one=>exact ib #[.int .i64 bL,.string bM,.slice aX aZ aY,.string bN,.slice b6 bC bA,.slice bD bF bE] rfl
    case hl=>have:=cX.out;omega
    case h63=>have:=cX.out;omega
    intro dE dF eG dB aK dP dU dV dZ;obtain⟨cN,dH,L⟩:=cD.out dE dF eG dB (by rw[qp];exact aK) dP dU dV dZ;have L:Hid (Bd G M aM aN aJ fc w s [(6,l++[nd],dE,dF)] ((o,#[.int .i64 bL,.string bM,.slice aX aZ aY,.string bN,.slice b6 bC bA,.slice bD bF bE])::cN) [(nd,[.int .i64 bL,.string bM,.slice aX aZ aY,.string bN,.slice b6 bC bA,.slice bD bF bE])] dB cS):=U L;clear aK dP dU dV dZ cD aU
    go_wp2_with fail
    go_roundg m
    case measure=>omega
    case rel=>exact⟨cS,l++[nd],dE,dF,cN,ar,dD,U dH,U (by have:=cX.out;simp;omega),U (L.drop.sub fun p aL=>by cases aL)⟩
end
end Go.Proofs.YtkblonfmjlopaaaGreatDoor
