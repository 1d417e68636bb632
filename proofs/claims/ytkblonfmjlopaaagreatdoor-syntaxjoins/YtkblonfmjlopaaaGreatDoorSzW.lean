/-
  pat and patApp, walked.
-/
import Derived.Test.YtkblonfmjlopaaaGreatDoorSzM
set_option linter.all false
set_option maxRecDepth 1000000
set_option maxHeartbeats 16000000
namespace Go.Proofs.YtkblonfmjlopaaaGreatDoor
open Go Go.RowKit
variable {s:al}
section
variable {G:Gh} {f:Fs} {n:Nat}
set_option maxRecDepth 100000
set_option maxHeartbeats 16000000
theorem ku{M:Nat->Prop}{i:Option Addr}{j:Nat}{f:Option Addr}{g:Nat}{w m:World}{c:al}{k:List (Nat×List Nd×Option Addr×Nat)}{d:List (Nat×Array Value)}{l:List (Nd×List Value)}(o:ei G)(h:Bd G M i j f g w s k d l m c)(sym:Bool){b:Bool}(a:dw G.X sym c=b):Calls Tryz.prog 97 (AI G sym) m fun e n=>e=.returned (.bool b)/\Hid (Bd G M i j f g w s k d l n c):=by
 subst a;exact(oP o h.ps sym).mono fun e n ⟨p,a⟩=>⟨p,U (h.below a)⟩
theorem Bd.step2{M:Nat->Prop}{f:Option Addr}{g:Nat}{d:Option Addr}{e:Nat}{w b:World}{a:al}{k:List (Nat×List Nd×Option Addr×Nat)}{c:List (Nat×Array Value)}{ts:List (Nd×List Value)}(h:Bd G M f g d e w s k c ts b a)(l:a.i+2<=G.X.ts.length):Bd G M f g d e w s k c ts (b.setCell ⟨G.bp,1,none⟩ (.int .i64 ((a.i:Int)+2))) {a with i:=a.i+1+1}:=
 h.go (((Kn.refl G.B (Jp G) b).step h.ps rfl _).jp h.ps.mp) (h.ps.step (j:=a.i+2) O l) rfl (by show a.i<=a.i+2;omega)
theorem J1{α β:Type}{x y:PM α}{g:α->PM β}(h:∀ s r,x s=some r->y s=some r){r:Except (Nat×Nat) (β×al)}(e:(x>>=g) s=some r):(y>>=g) s=some r:=by
 rcases a_ e with⟨c,q,b,rfl⟩|⟨a,f,b,d⟩
 ·show PM.bind _ _ _=_;unfold PM.bind;rw[h _ _ b]
 ·show PM.bind _ _ _=_;unfold PM.bind;rw[h _ _ b];exact d
def zY(X:Tx)(s:al):Bool:=((V X s).kind==1&&dw X false s)&&hR X s
theorem FK(P:ei G)(cI:FN G 74 (bq G) cz f.ty)(cP:Fs)(cC:∀ w s r,f.mG w s=some r->jY cP w s=some r)(bN:FN G 65 (bq G) cy cP.pat)(eD:FN G 98 #[.pointer (some ⟨G.bp,0,none⟩),.int .i64 0,.bool false,.func (.func 99) (bq G) #[],.bool false,.func (.func 100) #[] #[]] cy (f.e8 0 false)):FN G 65 (bq G) cy (nC G.X f n):=by
 intro M cS cT cQ fc w s r dF bC;have bC:((if((V G.X s).kind=1/\dw G.X false s=true)/\hR G.X s=true then f.mG (V G.X s).text else f.e8 0 false:PM Nd)>>=fun x=>fq G.X f n x) s=some r:=bC;have cV:=U bC;have bP:=Bd.start dF;clear dF bC;go_enter Tryz.func65,Tryz.ntmps65
 go_upto_region 1 with fail
 have bP:=U (bP.box tY 82);obtain⟨aH,cG⟩:∃ aH,w.heap.size=aH:=⟨_,rfl⟩;generalize w.alloc (.cells tY 82)=fC at bP⊢;rw[cG] at bP⊢;clear cG
 go_upto_region 2 with(go_at_call 63;refine(e' P bP).mono ?_;rintro e dJ ⟨cK,cA,cJ,cB,rfl,-,bX⟩)
 have C:=bX.box (lI G s cK cA cJ cB) 75;obtain⟨L,cH⟩:∃ L,dJ.heap.size=L:=⟨_,rfl⟩;rw[cH] at C⊢;generalize dJ.alloc (.cells (lI G s cK cA cJ cB) 75)=bO at C⊢;have C:Hid (Bd G M cS cT cQ fc w s [] [(L,(lI G s cK cA cJ cB)),(aH,tY)] [] bO s):=U C;clear cH
 go_cut [55] from 4 to 55 (fun dB B=>∃ b,dB=.bool b/\Hid (zY G.X s=b)/\Hid (Bd G M cS cT cQ fc w s [] [(L,(lI G s cK cA cJ cB)),(aH,tY)] [] B s))
 case first=>
  have eE:=C.ps.il;have bF:=P.k0;have eG:IntKind.i64.wrap ((s.i:Int)+1)=(s.i:Int)+1:=gv _ O
  by_cases aN:(V G.X s).kind=1
  case neg=>
   have dY:((((V G.X s).kind:Nat):Int)==1)=false:=by simpa using (show ¬(((V G.X s).kind:Nat):Int)=1 from O)
   refine b3 (S:=fun B=>B.cell? ⟨L,0,none⟩=some (.int .i64 ((V G.X s).kind:Nat))) (T:=fun _=>false) aq ?_;have g:=U C.drew;generalize bO.drew=J at g⊢;have d:J.cell? ⟨L,0,none⟩=some (.int .i64 ((V G.X s).kind:Nat)):=g.c 0 0;refine tq 0 d ?_;refine tq 1 d ?_;refine tq 2 d ?_;refine tq 3 d ?_;refine ck 4 d ?_;refine ck 5 d ?_;refine tq 6 d ?_;refine tq 7 d ?_;refine ck 8 d ?_;refine ck 9 d ?_;refine ck 10 d ?_;refine ck 11 d ?_;refine ck 12 d ?_;refine ck 13 d ?_;refine ck 14 d ?_;refine ck 15 d ?_;refine ck 16 d ?_;refine ck 17 d ?_;refine ck 18 d ?_;refine tq 19 d ?_;refine tq 20 d ?_;refine ck 21 d ?_;refine ck 22 d ?_;refine ck 23 d ?_;refine ck 24 d ?_;refine ck 25 d ?_;refine ck 26 d ?_;refine ck 27 d ?_;refine ck 28 d ?_;refine ck 29 d ?_;refine ck 30 d ?_;refine ck 31 d ?_;refine ck 32 d ?_;refine ck 33 d ?_;refine tq 34 d ?_;refine tq 35 d ?_;refine ck 36 d ?_;refine ck 37 d ?_;refine ck 38 d ?_;refine ck 39 d ?_;refine ck 40 d ?_;refine ck 41 d ?_;refine ck 42 d ?_;refine ck 43 d ?_;refine ck 44 d ?_;refine ck 45 d ?_;refine ck 46 d ?_;refine ck 47 d ?_;refine ck 48 d ?_;refine tq 49 d ?_;refine bj aq ?_ _;clear d
   go_wp2_with fail
   go_meet
   case rel=>exact⟨false,rfl,U (by unfold zY;simp[aN]),g⟩
  have dY:((((V G.X s).kind:Nat):Int)==1)=true:=by simpa using (show(((V G.X s).kind:Nat):Int)=1 by omega)
  by_cases bT:dw G.X false s=true
  case neg=>
   have bT:dw G.X false s=false:=by simpa using bT
   have bE:=U bT;clear bT;refine b3 (S:=fun B=>B.cell? ⟨L,0,none⟩=some (.int .i64 ((V G.X s).kind:Nat))) (T:=fun _=>false) aq ?_;have g:=U C.drew;generalize bO.drew=J at g⊢;have d:J.cell? ⟨L,0,none⟩=some (.int .i64 ((V G.X s).kind:Nat)):=g.c 0 0;refine tq 0 d ?_;refine tq 1 d ?_;refine tq 2 d ?_;refine tq 3 d ?_;refine tq 4 d ?_;refine cw 5 fun K hK=>?_;go_simp;refine(ku P g false bE.out).mono ?_;rintro e F ⟨rfl,k⟩;have c:F.cell? ⟨L,0,none⟩=some (.int .i64 ((V G.X s).kind:Nat)):=k.c 0 0;refine nx hK c ?_;clear hK K;refine tq 6 c ?_;refine tq 7 c ?_;refine ck 8 c ?_;refine ck 9 c ?_;refine ck 10 c ?_;refine ck 11 c ?_;refine ck 12 c ?_;refine ck 13 c ?_;refine ck 14 c ?_;refine ck 15 c ?_;refine ck 16 c ?_;refine ck 17 c ?_;refine ck 18 c ?_;refine tq 19 c ?_;refine tq 20 c ?_;refine ck 21 c ?_;refine ck 22 c ?_;refine ck 23 c ?_;refine ck 24 c ?_;refine ck 25 c ?_;refine ck 26 c ?_;refine ck 27 c ?_;refine ck 28 c ?_;refine ck 29 c ?_;refine ck 30 c ?_;refine ck 31 c ?_;refine ck 32 c ?_;refine ck 33 c ?_;refine tq 34 c ?_;refine tq 35 c ?_;refine ck 36 c ?_;refine ck 37 c ?_;refine ck 38 c ?_;refine ck 39 c ?_;refine ck 40 c ?_;refine ck 41 c ?_;refine ck 42 c ?_;refine ck 43 c ?_;refine ck 44 c ?_;refine ck 45 c ?_;refine ck 46 c ?_;refine ck 47 c ?_;refine ck 48 c ?_;refine tq 49 c ?_;refine bj aq ?_ _;clear d c
   go_wp2_with fail
   go_meet
   case rel=>exact⟨false,rfl,U (by unfold zY;rw[bE.out];simp),k⟩
  have bE:=U bT;clear bT
  by_cases cR:s.i+1<G.X.ts.length
  case neg=>
   have eB:decide ((s.i:Int)+1<(G.X.ts.length:Int))=false:=decide_eq_false O;have dL:=U cR;clear cR;refine b3 (S:=fun B=>B.cell? ⟨L,0,none⟩=some (.int .i64 ((V G.X s).kind:Nat))/\B.cell? ⟨G.bp,1,none⟩=some (.int .i64 (s.i:Nat))/\B.cell? ⟨G.bp,0,none⟩=some (.slice G.la G.X.ts.length G.lc)) (T:=fun _=>false) aq ?_;have g:=U C.drew;generalize bO.drew=J at g⊢;have d:J.cell? ⟨L,0,none⟩=some (.int .i64 ((V G.X s).kind:Nat))/\J.cell? ⟨G.bp,1,none⟩=some (.int .i64 (s.i:Nat))/\J.cell? ⟨G.bp,0,none⟩=some (.slice G.la G.X.ts.length G.lc):=⟨g.c 0 0,g.ps.c1,g.ps.c0⟩;refine tq 0 d ?_;refine tq 1 d ?_;refine tq 2 d ?_;refine tq 3 d ?_;refine tq 4 d ?_;refine cw 5 fun K hK=>?_;go_simp;refine(ku P g false bE.out).mono ?_;rintro e F ⟨rfl,k⟩;have c:F.cell? ⟨L,0,none⟩=some (.int .i64 ((V G.X s).kind:Nat))/\F.cell? ⟨G.bp,1,none⟩=some (.int .i64 (s.i:Nat))/\F.cell? ⟨G.bp,0,none⟩=some (.slice G.la G.X.ts.length G.lc):=⟨k.c 0 0,k.ps.c1,k.ps.c0⟩;refine nx hK c ?_;clear hK K;refine tq 6 c ?_;refine tq 7 c ?_;refine tq 8 c ?_;refine tq 9 c ?_;refine tq 10 c ?_;refine tq 11 c ?_;refine tq 12 c ?_;refine tq 13 c ?_;refine tq 14 c ?_;refine tq 15 c ?_;refine tq 16 c ?_;refine tq 17 c ?_;refine tq 18 c ?_;refine tq 19 c ?_;refine tq 20 c ?_;refine ck 21 c ?_;refine ck 22 c ?_;refine ck 23 c ?_;refine ck 24 c ?_;refine ck 25 c ?_;refine ck 26 c ?_;refine ck 27 c ?_;refine ck 28 c ?_;refine ck 29 c ?_;refine ck 30 c ?_;refine ck 31 c ?_;refine ck 32 c ?_;refine ck 33 c ?_;refine tq 34 c ?_;refine tq 35 c ?_;refine ck 36 c ?_;refine ck 37 c ?_;refine ck 38 c ?_;refine ck 39 c ?_;refine ck 40 c ?_;refine ck 41 c ?_;refine ck 42 c ?_;refine ck 43 c ?_;refine ck 44 c ?_;refine ck 45 c ?_;refine ck 46 c ?_;refine ck 47 c ?_;refine ck 48 c ?_;refine tq 49 c ?_;refine bj aq ?_ _;clear d c
   go_wp2_with fail
   go_meet
   case rel=>exact⟨false,rfl,U (by unfold zY hR;rw[j4 (ba dL.out)];simp),k⟩
  have eB:decide ((s.i:Int)+1<(G.X.ts.length:Int))=true:=decide_eq_true O;have eC:(s.i:Int)+1<(G.X.ts.length:Int):=O
  have eF:(0:Int)<=(s.i:Int)+1:=O
  obtain⟨u,cY⟩:∃ u,G.X.ts[s.i+1]?=some u:=⟨_,fv cR⟩;obtain⟨E,D,_,_,_,_,cE,_,_,_⟩:=C.ps.tok P cY;have b6:=U cY;have aP:=U cE;clear cR cY cE
  by_cases dH:u.kind=8
  case neg=>
   have dZ:(((u.kind:Nat):Int)==8)=false:=by simpa using (show ¬((u.kind:Nat):Int)=8 from O)
   refine b3 (S:=fun B=>B.cell? ⟨L,0,none⟩=some (.int .i64 ((V G.X s).kind:Nat))/\B.cell? ⟨G.bp,1,none⟩=some (.int .i64 (s.i:Nat))/\B.cell? ⟨G.bp,0,none⟩=some (.slice (some ⟨E,D,none⟩) G.X.ts.length G.lc)/\B.cell? ⟨E,D+(s.i+1)*7,none⟩=some (.int .i64 (u.kind:Nat))/\B.cell? ⟨E,D+(s.i+1)*7+1,none⟩=some (.string ⟨u.text.toArray⟩)) (T:=fun _=>false) aq ?_;have g:=U C.drew;generalize bO.drew=J at g⊢
   have d:J.cell? ⟨L,0,none⟩=some (.int .i64 ((V G.X s).kind:Nat))/\J.cell? ⟨G.bp,1,none⟩=some (.int .i64 (s.i:Nat))/\J.cell? ⟨G.bp,0,none⟩=some (.slice (some ⟨E,D,none⟩) G.X.ts.length G.lc)/\J.cell? ⟨E,D+(s.i+1)*7,none⟩=some (.int .i64 (u.kind:Nat))/\J.cell? ⟨E,D+(s.i+1)*7+1,none⟩=some (.string ⟨u.text.toArray⟩):=by
    obtain⟨a,b,_,_,_,_,e,_,⟨aV,aN,_⟩,_⟩:=g.ps.tok P b6;have c0:=g.ps.c0;rw[aP.out] at e c0;cases e;exact⟨g.c 0 0,g.ps.c1,c0,aV,aN⟩
   refine tq 0 d ?_;refine tq 1 d ?_;refine tq 2 d ?_;refine tq 3 d ?_;refine tq 4 d ?_;refine cw 5 fun K hK=>?_;go_simp;refine(ku P g false bE.out).mono ?_;rintro e F ⟨rfl,k⟩
   have c:F.cell? ⟨L,0,none⟩=some (.int .i64 ((V G.X s).kind:Nat))/\F.cell? ⟨G.bp,1,none⟩=some (.int .i64 (s.i:Nat))/\F.cell? ⟨G.bp,0,none⟩=some (.slice (some ⟨E,D,none⟩) G.X.ts.length G.lc)/\F.cell? ⟨E,D+(s.i+1)*7,none⟩=some (.int .i64 (u.kind:Nat))/\F.cell? ⟨E,D+(s.i+1)*7+1,none⟩=some (.string ⟨u.text.toArray⟩):=by
    obtain⟨a,b,_,_,_,_,e,_,⟨aV,aN,_⟩,_⟩:=k.ps.tok P b6;have c0:=k.ps.c0;rw[aP.out] at e c0;cases e;exact⟨k.c 0 0,k.ps.c1,c0,aV,aN⟩
   refine nx hK c ?_;clear hK K;refine tq 6 c ?_;refine tq 7 c ?_;refine tq 8 c ?_;refine tq 9 c ?_;refine tq 10 c ?_;refine tq 11 c ?_;refine tq 12 c ?_;refine tq 13 c ?_;refine tq 14 c ?_;refine tq 15 c ?_;refine tq 16 c ?_;refine tq 17 c ?_;refine tq 18 c ?_;refine tq 19 c ?_;refine tq 20 c ?_;refine tq 21 c ?_;refine tq 22 c ?_;refine tq 23 c ?_;refine tq 24 c ?_;refine tq 25 c ?_;refine tq 26 c ?_;refine tq 27 c ?_;refine tq 28 c ?_;refine tq 29 c ?_;refine tq 30 c ?_;refine tq 31 c ?_;refine tq 32 c ?_;refine tq 33 c ?_;refine tq 34 c ?_;refine tq 35 c ?_;refine ck 36 c ?_;refine ck 37 c ?_;refine ck 38 c ?_;refine ck 39 c ?_;refine ck 40 c ?_;refine ck 41 c ?_;refine ck 42 c ?_;refine ck 43 c ?_;refine ck 44 c ?_;refine ck 45 c ?_;refine ck 46 c ?_;refine ck 47 c ?_;refine ck 48 c ?_;refine tq 49 c ?_;refine bj aq ?_ _;clear d c
   go_wp2_with fail
   go_meet
   case rel=>exact⟨false,rfl,U (by unfold zY hR;rw[b6.out];simp[dH]),k⟩
  have dZ:(((u.kind:Nat):Int)==8)=true:=by simpa using (show((u.kind:Nat):Int)=8 by omega)
  by_cases I:u.text=[97,115]
  case neg=>
   have eH:(u.text==[97,115])=false:=by simp[I]
   have cU:=U I;clear I;refine b3 (S:=fun B=>B.cell? ⟨L,0,none⟩=some (.int .i64 ((V G.X s).kind:Nat))/\B.cell? ⟨G.bp,1,none⟩=some (.int .i64 (s.i:Nat))/\B.cell? ⟨G.bp,0,none⟩=some (.slice (some ⟨E,D,none⟩) G.X.ts.length G.lc)/\B.cell? ⟨E,D+(s.i+1)*7,none⟩=some (.int .i64 (u.kind:Nat))/\B.cell? ⟨E,D+(s.i+1)*7+1,none⟩=some (.string ⟨u.text.toArray⟩)) (T:=fun _=>false) aq ?_;have g:=U C.drew;generalize bO.drew=J at g⊢
   have d:J.cell? ⟨L,0,none⟩=some (.int .i64 ((V G.X s).kind:Nat))/\J.cell? ⟨G.bp,1,none⟩=some (.int .i64 (s.i:Nat))/\J.cell? ⟨G.bp,0,none⟩=some (.slice (some ⟨E,D,none⟩) G.X.ts.length G.lc)/\J.cell? ⟨E,D+(s.i+1)*7,none⟩=some (.int .i64 (u.kind:Nat))/\J.cell? ⟨E,D+(s.i+1)*7+1,none⟩=some (.string ⟨u.text.toArray⟩):=by
    obtain⟨a,b,_,_,_,_,e,_,⟨aV,aN,_⟩,_⟩:=g.ps.tok P b6;have c0:=g.ps.c0;rw[aP.out] at e c0;cases e;exact⟨g.c 0 0,g.ps.c1,c0,aV,aN⟩
   refine tq 0 d ?_;refine tq 1 d ?_;refine tq 2 d ?_;refine tq 3 d ?_;refine tq 4 d ?_;refine cw 5 fun K hK=>?_;go_simp;refine(ku P g false bE.out).mono ?_;rintro e F ⟨rfl,k⟩
   have c:F.cell? ⟨L,0,none⟩=some (.int .i64 ((V G.X s).kind:Nat))/\F.cell? ⟨G.bp,1,none⟩=some (.int .i64 (s.i:Nat))/\F.cell? ⟨G.bp,0,none⟩=some (.slice (some ⟨E,D,none⟩) G.X.ts.length G.lc)/\F.cell? ⟨E,D+(s.i+1)*7,none⟩=some (.int .i64 (u.kind:Nat))/\F.cell? ⟨E,D+(s.i+1)*7+1,none⟩=some (.string ⟨u.text.toArray⟩):=by
    obtain⟨a,b,_,_,_,_,e,_,⟨aV,aN,_⟩,_⟩:=k.ps.tok P b6;have c0:=k.ps.c0;rw[aP.out] at e c0;cases e;exact⟨k.c 0 0,k.ps.c1,c0,aV,aN⟩
   refine nx hK c ?_;clear hK K;refine tq 6 c ?_;refine tq 7 c ?_;refine tq 8 c ?_;refine tq 9 c ?_;refine tq 10 c ?_;refine tq 11 c ?_;refine tq 12 c ?_;refine tq 13 c ?_;refine tq 14 c ?_;refine tq 15 c ?_;refine tq 16 c ?_;refine tq 17 c ?_;refine tq 18 c ?_;refine tq 19 c ?_;refine tq 20 c ?_;refine tq 21 c ?_;refine tq 22 c ?_;refine tq 23 c ?_;refine tq 24 c ?_;refine tq 25 c ?_;refine tq 26 c ?_;refine tq 27 c ?_;refine tq 28 c ?_;refine tq 29 c ?_;refine tq 30 c ?_;refine tq 31 c ?_;refine tq 32 c ?_;refine tq 33 c ?_;refine tq 34 c ?_;refine tq 35 c ?_;refine tq 36 c ?_;refine tq 37 c ?_;refine tq 38 c ?_;refine tq 39 c ?_;refine tq 40 c ?_;refine tq 41 c ?_;refine tq 42 c ?_;refine tq 43 c ?_;refine tq 44 c ?_;refine tq 45 c ?_;refine tq 46 c ?_;refine tq 47 c ?_;refine tq 48 c ?_;refine tq 49 c ?_;refine bj aq ?_ _;clear d c
   go_wp2_with fail
   go_meet
   case rel=>exact⟨false,rfl,U (by unfold zY hR;rw[b6.out];simp[cU.out]),k⟩
  obtain⟨dI,cZ⟩:∃ dI,u.text=dI:=⟨_,rfl⟩;have bJ:Hid (u.text=[97,115]):=U I;refine b3 (S:=fun B=>B.cell? ⟨L,0,none⟩=some (.int .i64 ((V G.X s).kind:Nat))/\B.cell? ⟨G.bp,1,none⟩=some (.int .i64 (s.i:Nat))/\B.cell? ⟨G.bp,0,none⟩=some (.slice (some ⟨E,D,none⟩) G.X.ts.length G.lc)/\B.cell? ⟨E,D+(s.i+1)*7,none⟩=some (.int .i64 (u.kind:Nat))/\B.cell? ⟨E,D+(s.i+1)*7+1,none⟩=some (.string ⟨#[97,115]⟩)) (T:=fun _=>false) aq ?_;have g:=U C.drew;generalize bO.drew=J at g⊢
  have d:J.cell? ⟨L,0,none⟩=some (.int .i64 ((V G.X s).kind:Nat))/\J.cell? ⟨G.bp,1,none⟩=some (.int .i64 (s.i:Nat))/\J.cell? ⟨G.bp,0,none⟩=some (.slice (some ⟨E,D,none⟩) G.X.ts.length G.lc)/\J.cell? ⟨E,D+(s.i+1)*7,none⟩=some (.int .i64 (u.kind:Nat))/\J.cell? ⟨E,D+(s.i+1)*7+1,none⟩=some (.string ⟨#[97,115]⟩):=by
   obtain⟨a,b,_,_,_,_,e,_,⟨aV,aN,_⟩,_⟩:=g.ps.tok P b6;have c0:=g.ps.c0;rw[aP.out] at e c0;cases e;exact⟨g.c 0 0,g.ps.c1,c0,aV,by rw[aN,bJ.out]⟩
  refine tq 0 d ?_;refine tq 1 d ?_;refine tq 2 d ?_;refine tq 3 d ?_;refine tq 4 d ?_;refine cw 5 fun K hK=>?_;go_simp;refine(ku P g false bE.out).mono ?_;rintro e F ⟨rfl,k⟩
  have c:F.cell? ⟨L,0,none⟩=some (.int .i64 ((V G.X s).kind:Nat))/\F.cell? ⟨G.bp,1,none⟩=some (.int .i64 (s.i:Nat))/\F.cell? ⟨G.bp,0,none⟩=some (.slice (some ⟨E,D,none⟩) G.X.ts.length G.lc)/\F.cell? ⟨E,D+(s.i+1)*7,none⟩=some (.int .i64 (u.kind:Nat))/\F.cell? ⟨E,D+(s.i+1)*7+1,none⟩=some (.string ⟨#[97,115]⟩):=by
   obtain⟨a,b,_,_,_,_,e,_,⟨aV,aN,_⟩,_⟩:=k.ps.tok P b6;have c0:=k.ps.c0;rw[aP.out] at e c0;cases e;exact⟨k.c 0 0,k.ps.c1,c0,aV,by rw[aN,bJ.out]⟩
  refine nx hK c ?_;clear hK K;refine tq 6 c ?_;refine tq 7 c ?_;refine tq 8 c ?_;refine tq 9 c ?_;refine tq 10 c ?_;refine tq 11 c ?_;refine tq 12 c ?_;refine tq 13 c ?_;refine tq 14 c ?_;refine tq 15 c ?_;refine tq 16 c ?_;refine tq 17 c ?_;refine tq 18 c ?_;refine tq 19 c ?_;refine tq 20 c ?_;refine tq 21 c ?_;refine tq 22 c ?_;refine tq 23 c ?_;refine tq 24 c ?_;refine tq 25 c ?_;refine tq 26 c ?_;refine tq 27 c ?_;refine tq 28 c ?_;refine tq 29 c ?_;refine tq 30 c ?_;refine tq 31 c ?_;refine tq 32 c ?_;refine tq 33 c ?_;refine tq 34 c ?_;refine tq 35 c ?_;refine tq 36 c ?_;refine tq 37 c ?_;refine tq 38 c ?_;refine tq 39 c ?_;refine tq 40 c ?_;refine tq 41 c ?_;refine tq 42 c ?_;refine tq 43 c ?_;refine tq 44 c ?_;refine tq 45 c ?_;refine tq 46 c ?_;refine tq 47 c ?_;refine tq 48 c ?_;refine tq 49 c ?_;refine bj aq ?_ _;clear d c I cZ
  go_wp2_with fail
  go_meet
  case rel=>exact⟨true,rfl,U (by unfold zY hR;rw[b6.out,bE.out];simp[aN,dH,bJ.out]),k⟩
 case rest=>
  obtain⟨b,rfl,bH,H⟩:=hcut;clear C bX bP
  go_upto_if 55 with fail
  go_cut [0] from 55 to 72 (fun dB B=>∃ (bD:al) (nd:Nd) (aI:Int) (aJ:ByteArray) (aK:Bool) (W:Option Addr) (Y X:Nat) (aL:Int) (aM:ByteArray) (Z:Option Addr) (aB aA:Nat) (aC:Option Addr) (aE aD:Nat) (aF:Option Addr) (R aG:Nat),dB=.pointer (some ⟨G.bp,0,none⟩)/\Hid (fq G.X f n nd bD=some r)/\Hid (Bd G M cS cT cQ fc w s [] [(L,(lI G s cK cA cJ cB)),(aH,(qd aI aJ aK W Y X aL aM Z aB aA aC aE aD aF R aG))] [(nd,[.int .i64 aI,.string aJ,.bool aK,.slice W Y X,.int .i64 aL,.string aM,.slice Z aB aA,.slice aC aE aD,.slice aF R aG])] B bD))
  case first=>
   cases b with
   |false=>
    have bK:Hid ((f.e8 0 false>>=fun x=>fq G.X f n x) s=some r):=U (by
     have bL:=cV.out;have aX:=bH.out
     rw[if_neg (fun h=>by
      unfold zY at aX;rw[h.2,h.1.2] at aX
      simp[h.1.1] at aX)] at bL
     exact bL)
    go_wp2_with (go_at_call 98;refine oc (FN.bd eD cy.ok H bK) ?_;rintro e bG ⟨nd,eJ,_,rfl,cW,v,aI,aJ,aK,W,Y,X,aL,aM,Z,aB,aA,aC,aE,aD,aF,R,aG,rfl,aU⟩;have dM:=U aU;clear aU;obtain⟨eK,eL,eM,eN,eO,eP,eQ,eS,eT⟩:=lM (v.bx _ (.tail _ (.head _))).2.2;have eU:=v.f 1)
    have aT:=U ((v.add dM).store 1 [.int .i64 aI,.string aJ,.bool aK,.slice W Y X,.int .i64 aL,.string aM,.slice Z aB aA,.slice aC aE aD,.slice aF R aG])
    go_meet
    case rel=>exact⟨eJ,nd,aI,aJ,aK,W,Y,X,aL,aM,Z,aB,aA,aC,aE,aD,aF,R,aG,rfl,cW,aT⟩
   |true=>
    have bM:((V G.X s).kind=1/\dw G.X false s=true)/\hR G.X s=true:=by
     have aX:=bH.out;unfold zY at aX
     simpa [and_assoc] using aX
    have bY:Hid (s.i+2<=G.X.ts.length):=U (by
     have aX:=bM.2;unfold hR at aX
     rcases gr (s.i+1) G.X.ts.length with q|q
     ·omega
     ·rw[j4 q] at aX
      cases aX)
    have bK:Hid ((cP.pat>>=fun y=>fq G.X f n (c_ 8 (V G.X s).text 0 0 [] [] [y] [])) {s with i:=s.i+1+1}=some r):=U (by
     have bL:=cV.out;rw[if_pos bM] at bL;have bL:=J1 (cC _) bL;have dE:((cP.pat>>=fun y=>pure (c_ 8 (V G.X s).text 0 0 [] [] [y] []))>>=fun x=>fq G.X f n x) {s with i:=s.i+1+1}=some r:=bL;rw[<-db] at dE
     exact dE)
    clear bM;have c1:=H.ps.c1;have fr:=H.ps.fr;have cF:=bY.out;have bF:=P.k0
    go_upto_region 4 with fail
    have v:=U (H.step2 bY);generalize wc.setCell ⟨G.bp,1,none⟩ (.int .i64 ((s.i:Int)+2))=bG at v⊢;clear c1 fr cF bF;refine b3 (S:=fun B=>B.cell? ⟨L,1,none⟩=some (.string ⟨(V G.X s).text.toArray⟩)) (T:=fun j=>j==6) aq ?_;have aT:=U v.drew;generalize bG.drew=eV at aT⊢;have d:eV.cell? ⟨L,1,none⟩=some (.string ⟨(V G.X s).text.toArray⟩):=aT.c 0 1;refine tq 0 d ?_;refine tq 1 d ?_;refine tq 2 d ?_;refine cw 3 fun K hK=>?_;go_simp;refine(FN.bd bN cy.ok aT bK).mono ?_;rintro e aW (⟨dD,q,rfl,rfl,cD⟩|⟨u,dA,_,rfl,bA,A,bU,bV,eY,bQ,bS,bR,eZ,fA,dO,dQ,dP,dR,dU,dS,dV,dX,dW,rfl,aU⟩)
    ·unfold az;go_simp;exact⟨rfl,cD,rfl⟩
    refine nx hK (A.c 0 1) ?_;clear hK K d;refine cw 4 fun K hK=>?_;go_simp;have l:=U (A.one (cs:=(qd bU bV eY bQ bS bR eZ fA dO dQ dP dR dU dS dV dX dW)) 82 aU);obtain⟨I,N⟩:∃ I,aW.heap.size=I:=⟨_,rfl⟩;rw[N] at l⊢;generalize aW.alloc _=cL at l⊢;clear aU N;refine nx hK (l.c 0 1) ?_;clear hK K;refine tq 5 (l.c 0 1) ?_;refine vM 6 (KS G s I) (l.bx _ (.tail _ (.head _))) ?_;have aO:=(l.add (nd:=c_ 8 (V G.X s).text 0 0 [] [] [u] []) (cs:=(KS G s I)) (gL (kind:=8) (n:=0) (name:=(V G.X s).text) (text:=[]) (z:=0) (ls:=[]) (kids:=[u]) (types:=[]) cv aa (l.t 0).hd aa)).store 1 (KS G s I);generalize cL.setCells _ 0 _=eX at aO⊢;have bI:=U (aO.sub (wY:=[(c_ 8 (V G.X s).text 0 0 [] [] [u] [],(KS G s I))]) fun p cX=>by rcases List.mem_singleton.1 cX with rfl;exact .head _);refine bj aq ?_ _
    go_wp2_with fail
    go_meet
    case rel=>exact⟨dA,_,_,_,_,_,_,_,_,_,_,_,_,_,_,_,_,_,_,rfl,bA,bI⟩
  case rest=>
   obtain⟨bD,nd,aI,aJ,aK,W,Y,X,aL,aM,Z,aB,aA,aC,aE,aD,aF,R,aG,rfl,aQ,g⟩:=hcut;have g:=U g.drop;clear H cV bH
   go_wp2_with fail
   go_loopg [] n (fun gk wr=>∃ (bD:al) (nd:Nd) (aI:Int) (aJ:ByteArray) (aK:Bool) (W:Option Addr) (Y X:Nat) (aL:Int) (aM:ByteArray) (Z:Option Addr) (aB aA:Nat) (aC:Option Addr) (aE aD:Nat) (aF:Option Addr) (R aG:Nat),Hid (fq G.X f gk nd bD=some r)/\Hid (Bd G M cS cT cQ fc w s [] [(aH,(qd aI aJ aK W Y X aL aM Z aB aA aC aE aD aF R aG))] [(nd,[.int .i64 aI,.string aJ,.bool aK,.slice W Y X,.int .i64 aL,.string aM,.slice Z aB aA,.slice aC aE aD,.slice aF R aG])] wr bD))
   case atStart=>exact⟨bD,nd,aI,aJ,aK,W,Y,X,aL,aM,Z,aB,aA,aC,aE,aD,aF,R,aG,aQ,g⟩
   case round=>
    clear g aQ;obtain⟨bD,nd,aI,aJ,aK,W,Y,X,aL,aM,Z,aB,aA,aC,aE,aD,aF,R,aG,aQ,g⟩:=hrel;cases gk with
    |zero=>exact absurd aQ.out (by intro h;cases h)
    |succ m=>
    obtain⟨b,eI,dG,bC⟩:=cx (show(a7 G.X [58]>>=fun o=>if o=true then f.ty>>=fun t=>fq G.X f m (c_ 9 [] 0 0 [] [] [nd] [t]) else pure nd) bD=some r from aQ.out);have dC:=U dG;clear dG aQ;cases b with
    |false=>
     cases aj bC;clear bC
     go_wp2_with (go_at_call 21;refine(bz P g dC).mono ?_;rintro e F ⟨rfl,k⟩;obtain⟨eK,eL,eM,eN,eO,eP,eQ,eS,eT⟩:=lM (k.bx _ (.head _)).2.2;have eU:=k.f 0)
     exact k.iu 0 (k.t 0) cy.ok
    |true=>
     have bZ:Hid ((f.ty>>=fun t=>fq G.X f m (c_ 9 [] 0 0 [] [] [nd] [t])) eI=some r):=U bC;clear bC
     go_upto_region 7 with(go_at_call 21;refine(bz P g dC).mono ?_;rintro e F ⟨rfl,k⟩)
     refine b3 (S:=fun B=>B.cell? ⟨aH,0,none⟩=some (.int .i64 aI)/\B.cell? ⟨aH,1,none⟩=some (.string aJ)/\B.cell? ⟨aH,2,none⟩=some (.bool aK)/\B.cell? ⟨aH,3,none⟩=some (.slice W Y X)/\B.cell? ⟨aH,4,none⟩=some (.int .i64 aL)/\B.cell? ⟨aH,5,none⟩=some (.string aM)/\B.cell? ⟨aH,6,none⟩=some (.slice Z aB aA)/\B.cell? ⟨aH,7,none⟩=some (.slice aC aE aD)/\B.cell? ⟨aH,8,none⟩=some (.slice aF R aG)) (T:=fun j=>j==6) aq ?_;have H:=U k.drew;generalize F.drew=dK at H⊢;have d:=lM (H.bx _ (.head _)).2.2;refine tq 0 d ?_;refine tq 2 d ?_;refine gC (i:=1) (j:=3) aq rfl rfl (fun K hK=>?_) (fun K hK=>?_)
     focus
      go_simp;have v:=U (H.one (cs:=(qd aI aJ aK W Y X aL aM Z aB aA aC aE aD aF R aG)) 82 (H.t 0));obtain⟨I,N⟩:∃ I,dK.heap.size=I:=⟨_,rfl⟩;rw[N] at v⊢;generalize dK.alloc _=bG at v⊢;clear N;refine nx hK (lM (v.bx _ (.head _)).2.2) ?_;clear hK K;refine cw 3 fun K hK=>?_;go_simp;refine(FN.bd cI cz.ok v bZ).mono ?_;rintro e aW (⟨dD,q,rfl,rfl,cD⟩|⟨u,dA,_,rfl,bA,A,bU,bV,cM,cO,cN,bQ,bS,bR,rfl,aU⟩)
      ·unfold az;go_simp;exact⟨rfl,cD,rfl⟩
      refine nx hK (lM (A.bx _ (.head _)).2.2) ?_;clear hK K;refine cw 4 fun K hK=>?_;go_simp;have l:=U (A.one (cs:=(nF bU bV cM cO cN bQ bS bR)) 78 aU);obtain⟨aR,Q⟩:∃ aR,aW.heap.size=aR:=⟨_,rfl⟩;rw[Q] at l⊢;generalize aW.alloc _=cL at l⊢;have aY:=U (l.t 1).hd;have aZ:=U (l.t 0).hd;refine nx hK (lM (l.bx _ (.head _)).2.2) ?_;clear hK K Q aU v A
     rotate_left 1
     focus
      go_simp;refine(FN.bd cI cz.ok H bZ).mono ?_;rintro e bG (⟨dD,q,rfl,rfl,cD⟩|⟨u,dA,_,rfl,bA,v,bU,bV,cM,cO,cN,bQ,bS,bR,rfl,aU⟩)
      ·unfold az;go_simp;exact⟨rfl,cD,rfl⟩
      have v:=U (v.add aU);clear aU;refine nx hK (lM (v.bx _ (.head _)).2.2) ?_;clear hK K;refine gC (i:=1) (j:=4) aq rfl rfl (fun K hK=>?_) (fun K hK=>?_)
      focus
       go_simp;have A:=U (v.one (cs:=(qd aI aJ aK W Y X aL aM Z aB aA aC aE aD aF R aG)) 82 (v.t 1));obtain⟨I,N⟩:∃ I,bG.heap.size=I:=⟨_,rfl⟩;rw[N] at A⊢;generalize bG.alloc _=aW at A⊢;clear N;refine nx hK (lM (A.bx _ (.head _)).2.2) ?_;clear hK K;refine cw 4 fun K hK=>?_;go_simp;have l:=U (A.one (cs:=(nF bU bV cM cO cN bQ bS bR)) 78 (A.t 1));obtain⟨aR,Q⟩:∃ aR,aW.heap.size=aR:=⟨_,rfl⟩;rw[Q] at l⊢;generalize aW.alloc _=cL at l⊢;have aY:=U (l.t 1).hd;have aZ:=U (l.t 0).hd;refine nx hK (lM (l.bx _ (.head _)).2.2) ?_;clear hK K Q A
      rotate_left 1
      focus
       go_simp;have A:=U (v.one (cs:=(nF bU bV cM cO cN bQ bS bR)) 78 (v.t 0));obtain⟨aR,Q⟩:∃ aR,bG.heap.size=aR:=⟨_,rfl⟩;rw[Q] at A⊢;generalize bG.alloc _=aW at A⊢;clear Q;refine nx hK (lM (A.bx _ (.head _)).2.2) ?_;clear hK K;refine cw 1 fun K hK=>?_;go_simp;have l:=U (A.one (cs:=(qd aI aJ aK W Y X aL aM Z aB aA aC aE aD aF R aG)) 82 (A.t 2));obtain⟨I,N⟩:∃ I,aW.heap.size=I:=⟨_,rfl⟩;rw[N] at l⊢;generalize aW.alloc _=cL at l⊢;have aY:=U (l.t 0).hd;have aZ:=U (l.t 1).hd;refine nx hK (lM (l.bx _ (.head _)).2.2) ?_;clear hK K N A
     all_goals
      refine tq 5 (lM (l.bx _ (.head _)).2.2) ?_;refine vM 6 (J8 I aR) (l.bx _ (.head _)) ?_;have aO:=(l.add (nd:=c_ 9 [] 0 0 [] [] [nd] [u]) (cs:=(J8 I aR)) (gL (kind:=9) (n:=0) (name:=[]) (text:=[]) (z:=0) (ls:=[]) (kids:=[nd]) (types:=[u]) cv aa aY aZ)).store 0 (J8 I aR);generalize cL.setCells _ 0 _=eX at aO⊢;have bI:=U (aO.sub (wY:=[(c_ 9 [] 0 0 [] [] [nd] [u],(J8 I aR))]) fun p cX=>by rcases List.mem_singleton.1 cX with rfl;exact .head _);clear d aO aY aZ l H;refine bj aq ?_ _
      go_wp2_with fail
      go_roundg m
      case measure=>omega
      case rel=>exact⟨_,_,_,_,_,_,_,_,_,_,_,_,_,_,_,_,_,_,_,bA,bI⟩
end
end Go.Proofs.YtkblonfmjlopaaaGreatDoor
