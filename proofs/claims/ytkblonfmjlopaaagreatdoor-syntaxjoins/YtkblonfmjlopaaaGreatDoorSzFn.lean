/-
  A function's clauses, walked.
-/
import Derived.Test.YtkblonfmjlopaaaGreatDoorSzW
set_option linter.all false
set_option maxRecDepth 1000000
set_option maxHeartbeats 16000000
namespace Go.Proofs.YtkblonfmjlopaaaGreatDoor
open Go Go.RowKit
theorem cc.cut{w:World}{i n:Nat}{b:Array Value}(h:cc w i b)(g:i<n)(c:n<=w.heap.size):cc (iT w n) i b:=by
 have f:=iT.kn (B:=0) c (hU _);have k:=iT.size c;have e:(iT w n).heap[i]?=w.heap[i]?:=(f.gM i O (fun q=>q)).symm;exact⟨O,fun o=>(q9 (w:=w) (a:=⟨i,o,none⟩) e).trans (h.2.1 o),fun j d=>(i' (w:=w) (a:=⟨i,0+j,none⟩) e).trans (h.2.2 j d)⟩
section
variable {G:Gh} {M:Nat->Prop} {D:Option Addr} {F:Nat} {C:Option Addr} {E:Nat} {w H g l:World} {s s1:al} {c:List (Nat×List Nd×Option Addr×Nat)} {a:List (Nat×Array Value)} {ts:List (Nd×List Value)} {i d:Nat} {r o:Array Value}
structure LI(G:Gh)(M:Nat->Prop)(i d:Nat)(w l g:World):Prop where
 a:Kn G.B (MX M i d) w l
 b:g.heap.size=w.heap.size
 c:Kn G.B No g l
theorem Bd.Mb(hK:LI G M i d w l g)(h:Bd G M D F C E g s c a ts H s1)(n:cc g i r)(Q:cc g d o)(aH:¬M i)(S:¬M d)(aG:i≠d)(P:G.B<=d)(x:G.B<=w.heap.size)(j:Nat)(Y:j<o.size)(v:Value):
 ∃ u,LI G M i d w (H.setCell ⟨d,j,none⟩ v) u/\Bd G M D F C E u s c a ts (H.setCell ⟨d,j,none⟩ v) s1/\cc u i r/\cc u d (o.setIfInBounds j v):=by
 obtain⟨aE,R,aF⟩:=hK;have aC:=h.kn.size;have aD:(H.setCell ⟨d,j,none⟩ v).heap.size=H.heap.size:=by simp[World.setCell]
 have f:∀ b,b≠d->(H.setCell ⟨d,j,none⟩ v).heap[b]?=H.heap[b]?:=fun b t=>h3 _ _ _ _ t;have z:w.heap.size<=(H.setCell ⟨d,j,none⟩ v).heap.size:=O
 have aA:=n.1;have X:=Q.1;have I:=iT.size z;have c2:=iT.kn (B:=G.B) z x;have L:Kn G.B (MX M i d) w H:=Kn.qP aE R aF h.kn (fun k q=>.inl (.inl q)) x;have J:∀ p,p∈a->p.1≠d:=fun p n e=>ba (h.lo p n)
 have y:=Below.setCell (eA G.B H) (p:=⟨d,j,none⟩) P v;refine⟨iT (H.setCell ⟨d,j,none⟩ v) w.heap.size,⟨L.set (p:=⟨d,j,none⟩) P (.inr (.inl rfl)) v,I,c2⟩,⟨⟨c2.ia,fun k T _=>c2.gM k T (fun q=>q)⟩,h.ps.a6 y (fun k Z=>f k fun e=>S (by rw[<-e];exact Z)),h.sc,h.i,ba h.bl,h.nq,fun p n=>(h.bw p n).a6 (f _ (J p n)) O,fun p n=>ba (h.lo p n),h.dj,fun p n=>(h.tr p n).on (fun b t=>f b ?_) (fun b t=>t.imp id fun q=>⟨O,O,fun v=>q.2.2 (v.imp id fun m=>⟨m.1,O⟩)⟩),fun q aB=>?_⟩,?_,?_⟩
 ·rintro rfl
  rcases t with q|q
  ·omega
  ·have:=q.1;omega
 ·rcases h.rw q aB with e|⟨A,e,N,W⟩
  ·exact .inl e
  ·refine .inr ⟨A,e,N,?_⟩;have aI:g.heap.size<=A:=h.lo _ N
   have:=W.a6 (w':=H.setCell ⟨d,j,none⟩ v) (F':=Own G.B (iT (H.setCell ⟨d,j,none⟩ v) w.heap.size).heap.size (H.setCell ⟨d,j,none⟩ v).heap.size (VM M (iT (H.setCell ⟨d,j,none⟩ v) w.heap.size) a)) (fun b t=>f b (by
    rintro rfl
    rcases t with q|q
    ·omega
    ·have:=q.1;omega)) (f A O) O (fun b t=>t.imp id fun q=>⟨O,O,fun v=>q.2.2 (v.imp id fun m=>⟨m.1,O⟩)⟩) (fun q=>q.elim (fun q=>ba h.bB) fun q=>q.2.2 (.inl ⟨_,N,rfl⟩))
   rw[R] at this;rw[I];rw[I] at this;exact this
 ·exact((n.kn h.kn aH).a6 (f _ aG) O).cut O z
 ·exact((Q.kn h.kn S).lF j Y v).cut O z
end
def GR(X:Tx)(f:Fs)(k1:ak)(k2:Int)(a:ak):List Nd->PM (Nd×(ak×Int)):=fun l=>if l=[]\/¬k1=[]/\¬(l.length:Int)=k2 then eo X else a7 X [58]>>=fun o=>(if o=true then f.ty>>=fun t=>pure [t] else pure []:PM (List Nd))>>=fun t=>a8 X [61]>>=fun _=>f.exp>>=fun e=>pure (gz l (if o=true then b9 19 [] 0 0 0 [] [] [e] [] [] t else e),(a,(l.length:Int)))
theorem wE{X:Tx}{f:Fs}{n m:Nat}{l:List Nd}{s:al}(h:du X s=true):cg X f n (m+1) l s=(fp X f n>>=fun x=>cg X f n m (l++[x])) s:=by
 conv=>lhs;unfold cg
 exact if_pos h
theorem uh{X:Tx}{f:Fs}{n m:Nat}{l:List Nd}{s:al}(h:du X s=false):cg X f n (m+1) l s=(pure l:PM (List Nd)) s:=by
 conv=>lhs;unfold cg
 exact if_neg (by rw[h];simp)
theorem Bd.JC{G:Gh}{M:Nat->Prop}{D:Option Addr}{F:Nat}{C:Option Addr}{E:Nat}{w H:World}{s s1:al}{c:List (Nat×List Nd×Option Addr×Nat)}{a:List (Nat×Array Value)}{ts:List (Nd×List Value)}{b:Nat}{n aZ W R Q B A z y x f e d i k l m o q r t v g j p:Value}(h:Bd G M D F C E w s c ((b,#[n,aZ,W,R,Q,B,A,z,y,x,f,e,d])::a) ts H s1):Bd G M D F C E w s c ((b,#[n,i,k,l,m,o,q,r,t,v,g,j,p])::a) ts (H.setCells b 1 [i,k,l,m,o,q,r,t,v,g,j,p]) s1:=by
 have aG:Bd G M D F C E w s c ((b,#[n,i,W,R,Q,B,A,z,y,x,f,e,d])::a) ts (H.setCell ⟨b,1,none⟩ i) s1:=h.eu 1 i;obtain⟨aP,X⟩:∃ u,(H.setCell ⟨b,1,none⟩ i)=u:=⟨_,rfl⟩;rw[X] at aG;have aH:Bd G M D F C E w s c ((b,#[n,i,k,R,Q,B,A,z,y,x,f,e,d])::a) ts (aP.setCell ⟨b,2,none⟩ k) s1:=aG.eu 2 k;obtain⟨aQ,Y⟩:∃ u,(aP.setCell ⟨b,2,none⟩ k)=u:=⟨_,rfl⟩;rw[Y] at aH;have aI:Bd G M D F C E w s c ((b,#[n,i,k,l,Q,B,A,z,y,x,f,e,d])::a) ts (aQ.setCell ⟨b,3,none⟩ l) s1:=aH.eu 3 l;obtain⟨aR,Z⟩:∃ u,(aQ.setCell ⟨b,3,none⟩ l)=u:=⟨_,rfl⟩;rw[Z] at aI;have aJ:Bd G M D F C E w s c ((b,#[n,i,k,l,m,B,A,z,y,x,f,e,d])::a) ts (aR.setCell ⟨b,4,none⟩ m) s1:=aI.eu 4 m;obtain⟨aT,aA⟩:∃ u,(aR.setCell ⟨b,4,none⟩ m)=u:=⟨_,rfl⟩;rw[aA] at aJ;have aK:Bd G M D F C E w s c ((b,#[n,i,k,l,m,o,A,z,y,x,f,e,d])::a) ts (aT.setCell ⟨b,5,none⟩ o) s1:=aJ.eu 5 o;obtain⟨aU,aB⟩:∃ u,(aT.setCell ⟨b,5,none⟩ o)=u:=⟨_,rfl⟩;rw[aB] at aK;have aL:Bd G M D F C E w s c ((b,#[n,i,k,l,m,o,q,z,y,x,f,e,d])::a) ts (aU.setCell ⟨b,6,none⟩ q) s1:=aK.eu 6 q;obtain⟨aV,aC⟩:∃ u,(aU.setCell ⟨b,6,none⟩ q)=u:=⟨_,rfl⟩;rw[aC] at aL;have aM:Bd G M D F C E w s c ((b,#[n,i,k,l,m,o,q,r,y,x,f,e,d])::a) ts (aV.setCell ⟨b,7,none⟩ r) s1:=aL.eu 7 r;obtain⟨aW,aD⟩:∃ u,(aV.setCell ⟨b,7,none⟩ r)=u:=⟨_,rfl⟩;rw[aD] at aM;have aN:Bd G M D F C E w s c ((b,#[n,i,k,l,m,o,q,r,t,x,f,e,d])::a) ts (aW.setCell ⟨b,8,none⟩ t) s1:=aM.eu 8 t;obtain⟨aX,aE⟩:∃ u,(aW.setCell ⟨b,8,none⟩ t)=u:=⟨_,rfl⟩;rw[aE] at aN;have aO:Bd G M D F C E w s c ((b,#[n,i,k,l,m,o,q,r,t,v,f,e,d])::a) ts (aX.setCell ⟨b,9,none⟩ v) s1:=aN.eu 9 v;obtain⟨aY,aF⟩:∃ u,(aX.setCell ⟨b,9,none⟩ v)=u:=⟨_,rfl⟩;rw[aF] at aO;have L:Bd G M D F C E w s c ((b,#[n,i,k,l,m,o,q,r,t,v,g,e,d])::a) ts (aY.setCell ⟨b,10,none⟩ g) s1:=aO.eu 10 g;obtain⟨P,I⟩:∃ u,(aY.setCell ⟨b,10,none⟩ g)=u:=⟨_,rfl⟩;rw[I] at L;have N:Bd G M D F C E w s c ((b,#[n,i,k,l,m,o,q,r,t,v,g,j,d])::a) ts (P.setCell ⟨b,11,none⟩ j) s1:=L.eu 11 j;obtain⟨T,J⟩:∃ u,(P.setCell ⟨b,11,none⟩ j)=u:=⟨_,rfl⟩;rw[J] at N;have S:Bd G M D F C E w s c ((b,#[n,i,k,l,m,o,q,r,t,v,g,j,p])::a) ts (T.setCell ⟨b,12,none⟩ p) s1:=N.eu 12 p;show Bd G M D F C E w s c _ ts ((((((((((((H.setCell ⟨b,1,none⟩ i).setCell ⟨b,2,none⟩ k).setCell ⟨b,3,none⟩ l).setCell ⟨b,4,none⟩ m).setCell ⟨b,5,none⟩ o).setCell ⟨b,6,none⟩ q).setCell ⟨b,7,none⟩ r).setCell ⟨b,8,none⟩ t).setCell ⟨b,9,none⟩ v).setCell ⟨b,10,none⟩ g).setCell ⟨b,11,none⟩ j).setCell ⟨b,12,none⟩ p) s1;rw[X,Y,Z,aA,aB,aC,aD,aE,aF,I,J];exact S
theorem Kn.zM{G:Gh}{M:Nat->Prop}{w l g a:World}{i d:Nat}(hK:LI G M i d w l g)(c:Kn G.B M g a)(b:G.B<=w.heap.size):Kn G.B (MX M i d) w a:=
 Kn.qP hK.a hK.b hK.c c (fun k q=>.inl (.inl q)) b
theorem JD{α β:Type}{x y:PM α}{g:α->PM β}{s:al}(h:x s=y s):(x>>=g) s=(y>>=g) s:=by
 show PM.bind x g s=PM.bind y g s;unfold PM.bind;rw[h]
section
variable {G:Gh} {f:Fs} {n:Nat}
set_option maxRecDepth 100000
set_option maxHeartbeats 16000000
theorem zN(aN:ei G)(hn:n<=1000000)(Pc:FN G 74 (bq G) cz f.ty)(Pd:FN G 108 (bq G) cy (fp G.X f n))(dR:FN G 67 (bq G) bc f.exp)(M:Nat->Prop)(D:Option Addr)(F:Nat)(C:Option Addr)(E:Nat)(i d:Nat)
 (fU:M G.bp) (fT:∀ b eI,D=some ⟨b,eI,none⟩->M b) (fS:∀ b eI,C=some ⟨b,eI,none⟩->M b) (fX:¬M i) (fW:¬M d) (fV:i≠d):
 pM G D F C E sH 106 #[] (Cd i d) (iK G.X f n) (fun g:ak×Int=>g) (fun _=>MX M i d) (Oa G i d):=by
 rintro w s ⟨aG,cH⟩ r eV ⟨gA,fN⟩ dW;have N:=U eV.bB;have L:=U (b4 (eV.mB i (.inr (.inr rfl))) (eV.mB d (.inr (.inl rfl))));have dY:=Bd.start (eV.less (fun _ q=>.inl q) fU fT fS);have c:=U (b4 fX (b4 fW fV));have QN:Hid (∀ k,M k->k<w.heap.size):=U fun k aC=>(eV.mB k (.inl aC)).2;have X:=U gA;have Q:Hid (cc w d #[.string ⟨aG.toArray⟩,.int .i64 cH,.slice none 0 0]):=U fN;have eC:Hid (LI G M i d w w w):=U ⟨Kn.refl _ _ _,rfl,Kn.refl _ _ _⟩;have dW:(a7 G.X [111,112]>>=fun _=>PM.get>>=fun s=>if ¬aG=[]/\dw G.X true s=true/\¬(V G.X s).text=aG then eo G.X else name G.X true>>=fun a=>cg G.X f n n []>>=fun l=>if l=[]\/¬aG=[]/\¬(l.length:Int)=cH then eo G.X else a7 G.X [58]>>=fun o=>(if o=true then f.ty>>=fun t=>pure [t] else pure []:PM (List Nd))>>=fun t=>a8 G.X [61]>>=fun _=>f.exp>>=fun e=>pure (gz l (if o=true then b9 19 [] 0 0 0 [] [] [e] [] [] t else e),(a,(l.length:Int)))) s=some r:=dW;obtain⟨b0,s1,dV,dW⟩:=cx dW;have dW:(if ¬aG=[]/\dw G.X true s1=true/\¬(V G.X s1).text=aG then eo G.X else name G.X true>>=fun a=>cg G.X f n n []>>=fun l=>if l=[]\/¬aG=[]/\¬(l.length:Int)=cH then eo G.X else a7 G.X [58]>>=fun o=>(if o=true then f.ty>>=fun t=>pure [t] else pure []:PM (List Nd))>>=fun t=>a8 G.X [61]>>=fun _=>f.exp>>=fun e=>pure (gz l (if o=true then b9 19 [] 0 0 0 [] [] [e] [] [] t else e),(a,(l.length:Int)))) s1=some r:=dW;have HT:=U dV;have HX:=U dW;have HN:=U hn;clear dW dV eV gA fN fU fT fS fX fW fV hn;show Calls Tryz.prog 106 (Cd i d) w _;go_enter Tryz.func106,Tryz.ntmps106
 go_upto_region 1 with fail
 have dY:=U (dY.box Mo 105);obtain⟨A,gB⟩:∃ A,w.heap.size=A:=⟨_,rfl⟩;generalize w.alloc _=W0 at dY⊢;rw[gB] at dY⊢;clear gB;have p0:=(dY.q X c.1).p
 go_upto_region 3 with(go_at_call 21;refine(bz aN dY HT).mono ?_;rintro e H ⟨rfl,aU⟩;have f0:H.cell? ⟨d,0,none⟩=some (.string ⟨aG.toArray⟩):=(aU.q Q c.2.1).2.2 0 (show 0<3 from O))
 clear p0
 go_cut [3,23] from 5 to 23 (fun tf tv aH=>∃ b,tf=.bool aG.isEmpty/\tv=.bool b/\Hid (b=true↔(¬aG=[]/\dw G.X true s1=true/\¬(V G.X s1).text=aG))/\Hid (Bd G M D F C E w s [] [(A,Mo)] [] aH s1))
 case first=>
  rcases aG with _|⟨y,aT⟩
  ·refine b3 (S:=fun aH=>aH.cell? ⟨i,0,none⟩=some (.pointer (some ⟨G.bp,0,none⟩))/\aH.cell? ⟨d,0,none⟩=some (.string ⟨([]:ak).toArray⟩)) (T:=fun _=>false) aq ?_;have I:=U aU.drew;generalize H.drew=cI at I⊢;clear f0;have p:cI.cell? ⟨i,0,none⟩=some (.pointer (some ⟨G.bp,0,none⟩))/\cI.cell? ⟨d,0,none⟩=some (.string ⟨([]:ak).toArray⟩):=⟨(I.q X c.1).p,(I.q Q c.2.1).2.2 0 (show 0<3 from O)⟩;refine tq 0 p ?_;refine tq 1 p ?_;refine tq 2 p ?_;refine ck 3 p ?_;refine ck 4 p ?_;refine tq 5 p ?_;refine tq 6 p ?_;refine ck 7 p ?_;refine ck 8 p ?_;refine ck 9 p ?_;refine ck 10 p ?_;refine ck 11 p ?_;refine ck 12 p ?_;refine tq 13 p ?_;refine bj aq ?_ _;clear p
   go_wp2_with fail
   go_meet
   case rel=>exact⟨false,rfl,rfl,U ar,I⟩
  ·by_cases dU:dw G.X true s1=true
   case neg=>
    have dU:dw G.X true s1=false:=by simpa using dU
    have eE:=U dU;clear dU;refine b3 (S:=fun aH=>aH.cell? ⟨i,0,none⟩=some (.pointer (some ⟨G.bp,0,none⟩))/\aH.cell? ⟨d,0,none⟩=some (.string ⟨(y::aT).toArray⟩)) (T:=fun _=>false) aq ?_;have I:=U aU.drew;generalize H.drew=cI at I⊢;clear f0;have p:cI.cell? ⟨i,0,none⟩=some (.pointer (some ⟨G.bp,0,none⟩))/\cI.cell? ⟨d,0,none⟩=some (.string ⟨(y::aT).toArray⟩):=⟨(I.q X c.1).p,(I.q Q c.2.1).2.2 0 (show 0<3 from O)⟩;refine tq 0 p ?_;refine tq 1 p ?_;refine tq 2 p ?_;refine tq 3 p ?_;refine cw 4 fun K hK=>?_;go_simp;refine(ku aN I true eE.out).mono ?_;rintro e dX ⟨rfl,aA⟩;have v:dX.cell? ⟨i,0,none⟩=some (.pointer (some ⟨G.bp,0,none⟩))/\dX.cell? ⟨d,0,none⟩=some (.string ⟨(y::aT).toArray⟩):=⟨(aA.q X c.1).p,(aA.q Q c.2.1).2.2 0 (show 0<3 from O)⟩;refine nx hK v ?_;clear hK K;refine tq 5 v ?_;refine tq 6 v ?_;refine ck 7 v ?_;refine ck 8 v ?_;refine ck 9 v ?_;refine ck 10 v ?_;refine ck 11 v ?_;refine ck 12 v ?_;refine tq 13 v ?_;refine bj aq ?_ _;clear p v
    go_wp2_with fail
    go_meet
    case rel=>exact⟨false,rfl,rfl,U (by rw[eE.out];simp),aA⟩
   have eE:=U dU;clear dU
   by_cases dV:(V G.X s1).text=y::aT
   case neg=>
    have QO:((V G.X s1).text==y::aT)=false:=by simp[dV]
    have dF:=U dV;clear dV;refine b3 (S:=fun aH=>aH.cell? ⟨i,0,none⟩=some (.pointer (some ⟨G.bp,0,none⟩))/\aH.cell? ⟨d,0,none⟩=some (.string ⟨(y::aT).toArray⟩)) (T:=fun _=>false) aq ?_;have I:=U aU.drew;generalize H.drew=cI at I⊢;clear f0;have p:cI.cell? ⟨i,0,none⟩=some (.pointer (some ⟨G.bp,0,none⟩))/\cI.cell? ⟨d,0,none⟩=some (.string ⟨(y::aT).toArray⟩):=⟨(I.q X c.1).p,(I.q Q c.2.1).2.2 0 (show 0<3 from O)⟩;refine tq 0 p ?_;refine tq 1 p ?_;refine tq 2 p ?_;refine tq 3 p ?_;refine cw 4 fun K hK=>?_;go_simp;refine(ku aN I true eE.out).mono ?_;rintro e dX ⟨rfl,aA⟩;have v:dX.cell? ⟨i,0,none⟩=some (.pointer (some ⟨G.bp,0,none⟩))/\dX.cell? ⟨d,0,none⟩=some (.string ⟨(y::aT).toArray⟩):=⟨(aA.q X c.1).p,(aA.q Q c.2.1).2.2 0 (show 0<3 from O)⟩;refine nx hK v ?_;clear hK K;refine tq 5 v ?_;refine tq 6 v ?_;refine tq 7 v ?_;refine tq 10 v ?_;refine tq 11 v ?_;refine cw 8 fun K hK=>?_;go_simp;refine(e' aN aA).mono ?_;rintro e w4 ⟨sg,am,nm,cm,rfl,-,R⟩;have aB:w4.cell? ⟨i,0,none⟩=some (.pointer (some ⟨G.bp,0,none⟩))/\w4.cell? ⟨d,0,none⟩=some (.string ⟨(y::aT).toArray⟩):=⟨(R.q X c.1).p,(R.q Q c.2.1).2.2 0 (show 0<3 from O)⟩;refine nx hK aB ?_;clear hK K;have eG:=tF;refine tq 9 aB ?_;refine tq 12 aB ?_;refine tq 13 aB ?_;clear eG;refine bj aq ?_ _;clear p v aB
    go_wp2_with fail
    go_meet
    case rel=>exact⟨true,rfl,rfl,U (by rw[eE.out];simp[dF.out]),R⟩
   have dF:=U dV;clear dV;refine b3 (S:=fun aH=>aH.cell? ⟨i,0,none⟩=some (.pointer (some ⟨G.bp,0,none⟩))/\aH.cell? ⟨d,0,none⟩=some (.string ⟨(y::aT).toArray⟩)) (T:=fun _=>false) aq ?_;have I:=U aU.drew;generalize H.drew=cI at I⊢;clear f0;have p:cI.cell? ⟨i,0,none⟩=some (.pointer (some ⟨G.bp,0,none⟩))/\cI.cell? ⟨d,0,none⟩=some (.string ⟨(y::aT).toArray⟩):=⟨(I.q X c.1).p,(I.q Q c.2.1).2.2 0 (show 0<3 from O)⟩;refine tq 0 p ?_;refine tq 1 p ?_;refine tq 2 p ?_;refine tq 3 p ?_;refine cw 4 fun K hK=>?_;go_simp;refine(ku aN I true eE.out).mono ?_;rintro e dX ⟨rfl,aA⟩;have v:dX.cell? ⟨i,0,none⟩=some (.pointer (some ⟨G.bp,0,none⟩))/\dX.cell? ⟨d,0,none⟩=some (.string ⟨(y::aT).toArray⟩):=⟨(aA.q X c.1).p,(aA.q Q c.2.1).2.2 0 (show 0<3 from O)⟩;refine nx hK v ?_;clear hK K;refine tq 5 v ?_;refine tq 6 v ?_;refine tq 7 v ?_;refine tq 10 v ?_;refine tq 11 v ?_;refine cw 8 fun K hK=>?_;go_simp;refine(e' aN aA).mono ?_;unfold lI;rw[dF.out];rintro e w4 ⟨sg,am,nm,cm,rfl,-,R⟩;have aB:w4.cell? ⟨i,0,none⟩=some (.pointer (some ⟨G.bp,0,none⟩))/\w4.cell? ⟨d,0,none⟩=some (.string ⟨(y::aT).toArray⟩):=⟨(R.q X c.1).p,(R.q Q c.2.1).2.2 0 (show 0<3 from O)⟩;refine nx hK aB ?_;clear hK K;have eG:=tF;refine tq 9 aB ?_;refine tq 12 aB ?_;refine tq 13 aB ?_;clear eG;refine bj aq ?_ _;clear p v aB
   go_wp2_with fail
   go_meet
   case rel=>exact⟨false,rfl,rfl,U (by rw[eE.out];simp[dF.out]),R⟩
 case rest=>
  obtain⟨bb,rfl,rfl,HC,R⟩:=hcut;clear aU dY;have p4:=(R.q X c.1).p;cases bb with
  |true=>
   have dG:Hid ((eo G.X:PM (Nd×(ak×Int))) s1=some r):=U (by have:=HX.out;rw[if_pos (HC.1 rfl)] at this;exact this);clear HX
   go_wp2_with (go_at_call 13;refine(km aN R dG).mono ?_;rintro e w5 ⟨dP,q,rfl,rfl,aC⟩;(unfold az;go_simp;exact⟨rfl,Kn.zM eC aC N,rfl⟩))
  |false=>
  have dG:Hid ((name G.X true>>=fun a=>cg G.X f n n []>>=GR G.X f aG cH a) s1=some r):=U (by have:=HX.out;rw[if_neg (fun h=>by have:=HC.2 h;cases this)] at this;exact this);clear HX HC
  go_wp2_with (go_at_call 73;refine(FB.bd (fo aN true) R dG).mono ?_;rintro e w5 (⟨dP,q,rfl,rfl,aC⟩|⟨a,s5,rfl,fG,cY⟩);(·unfold az;go_simp;exact⟨rfl,Kn.zM eC aC N,rfl⟩);have f5:w5.cell? ⟨d,0,none⟩=some (.string ⟨aG.toArray⟩):=(cY.q Q c.2.1).2.2 0 (show 0<3 from O);have ff:=(cY.q Q c.2.1).2.1)
  obtain⟨bQ,fP,fJ,fY,fL⟩:=cY.Mb eC X Q c.1 c.2.1 c.2.2 L.2.1 N 0 ar (.string ⟨a.toArray⟩);have dE:=U fP;have dZ:=U (fJ.tz 9);have aI:=U fY;have dD:Hid (cc bQ d #[.string ⟨a.toArray⟩,.int .i64 cH,.slice none 0 0]):=U fL;clear fP fJ fY fL f5 ff p4;generalize w5.setCell ⟨d,0,none⟩ (.string ⟨a.toArray⟩)=w6 at dE dZ⊢
  go_loopg [] n (fun gk wr=>∃ cS l Y Z js,Hid ((cg G.X f n gk l>>=GR G.X f aG cH a) cS=some r)/\Hid (∀ q,q∈js->q.2=#[])/\Hid (l.length+gk<=n)/\Hid (Bd G M D F C E bQ s [(9,l,Y,Z)] ((A,#[.slice Y l.length Z,.int .i64 0,.string ⟨#[]⟩,.bool false,.slice none 0 0,.int .i64 0,.int .u64 0,.string ⟨#[]⟩,.slice none 0 0,.slice none 0 0,.slice none 0 0,.slice none 0 0,.slice none 0 0])::js) [] wr cS))
  case atStart=>exact⟨s5,[],none,0,[],fG,U ar,U ar,dZ⟩
  case round=>
   clear dZ fG cY R dG;obtain⟨cS,l,Y,Z,js,cE,fD,eD,cZ⟩:=hrel;have p7:=(cZ.q aI c.1).p;cases gk with
   |zero=>exact absurd cE.out (by intro h;cases h)
   |succ m=>
   by_cases dQ:du G.X cS=true
   ·have aX:Hid ((fp G.X f n>>=fun x=>cg G.X f n m (l++[x])>>=GR G.X f aG cH a) cS=some r):=U (by
     have:=cE.out;rw[JD (y:=fp G.X f n>>=fun x=>cg G.X f n m (l++[x])) (wE dQ),<-db] at this
     exact this)
    have HA:=U dQ;clear dQ cE
    go_upto_region 7 with(go_at_call 107;refine(mP aN cZ HA).mono ?_;rintro e w8 ⟨rfl,dA⟩)
    refine b3 (S:=fun aH=>aH.cell? ⟨i,0,none⟩=some (.pointer (some ⟨G.bp,0,none⟩))/\aH.cell? ⟨A,0,none⟩=some (.slice Y l.length Z)) (T:=fun j=>j==7) aq ?_;have W:=U dA.drew;generalize w8.drew=w9 at W⊢;have p:w9.cell? ⟨i,0,none⟩=some (.pointer (some ⟨G.bp,0,none⟩))/\w9.cell? ⟨A,0,none⟩=some (.slice Y l.length Z):=⟨(W.q aI c.1).p,W.c 0 0⟩;refine tq 0 p ?_;refine tq 1 p ?_;refine tq 2 p ?_;refine cw 3 fun K hK=>?_;go_simp;refine(FN.bd Pd cy.ok W aX).mono ?_;rintro e eX (⟨dP,q,rfl,rfl,aC⟩|⟨u,sa,_,rfl,Pe,aK,cB,cC,cU,bY,cA,bZ,cV,cW,cJ,cL,cK,cM,cO,cN,cP,cR,cQ,rfl,cG⟩)
    ·unfold az;go_simp;exact⟨rfl,Kn.zM dE aC N,rfl⟩
    have aK:=U (aK.add cG);clear cG;refine nx hK ⟨(aK.q aI c.1).p,aK.c 0 0⟩ ?_;clear hK K;refine cw 4 fun K hK=>?_;go_simp
    have v:(eX.alloc (.cells (qd cB cC cU bY cA bZ cV cW cJ cL cK cM cO cN cP cR cQ) 82)).cell? ⟨i,0,none⟩=some (.pointer (some ⟨G.bp,0,none⟩))/\(eX.alloc (.cells (qd cB cC cU bY cA bZ cV cW cJ cL cK cM cO cN cP cR cQ) 82)).cell? ⟨A,0,none⟩=some (.slice Y l.length Z):=by
     have h:=aK.below (ab eX (.cells (qd cB cC cU bY cA bZ cV cW cJ cL cK cM cO cN cP cR cQ) 82));exact⟨(h.q aI c.1).p,h.c 0 0⟩
    refine nx hK v ?_;clear hK K;obtain⟨hh,hA,hN,fR,dS⟩:=Bd.push (fx:=[_]) (js:=js) (z:=xU) (cs:=(qd cB cC cU bY cA bZ cV cW cJ cL cK cM cO cN cP cR cQ)) 82 aK fD (aK.t 0) rfl O;have cX:=U (b4 hA (b4 hN fR));have fC:=U dS;clear hA hN fR dS;refine cw 5 fun K hK=>?_;rw[if_pos (by rfl)];refine hO (eX.alloc (.cells (qd cB cC cU bY cA bZ cV cW cJ cL cK cM cO cN cP cR cQ) 82)) (some 36) rfl _ _ 34 34 rfl 82 82 xU 9 152 Tryz.underlying34 Tryz.underlying34 Tryz.oJ rfl O bQ.heap.size cX.2.2 Y l.length Z hh (cellAt (qd cB cC cU bY cA bZ cV cW cJ cL cK cM cO cN cP cR cQ)) eX.heap.size 0 1 (by rfl) (by rfl) cX.1 cX.2.1 (fun j hj=>by have:=ij eX (qd cB cC cU bY cA bZ cV cW cJ cL cK cM cO cN cP cR cQ) 82 j hj;simpa using this) (ib (qd cB cC cU bY cA bZ cV cW cJ cL cK cM cO cN cP cR cQ) rfl) (lQ eD.out HN.out) (lQ eD.out HN.out) ?_;intro dM dO rr wb aF A5 N5 b5 kq;obtain⟨eH,fO,aD⟩:=fC.out dM dO rr wb (by rw[qp];first|exact aF|(rw[qp] at aF;exact aF)) A5 N5 b5 kq
    have aD:Hid (Bd G M D F C E bQ s [(9,l++[u],dM,dO)] ((A,#[.slice Y l.length Z,.int .i64 0,.string ⟨#[]⟩,.bool false,.slice none 0 0,.int .i64 0,.int .u64 0,.string ⟨#[]⟩,.slice none 0 0,.slice none 0 0,.slice none 0 0,.slice none 0 0,.slice none 0 0])::eH) [(u,[.int .i64 cB,.string cC,.bool cU,.slice bY cA bZ,.int .i64 cV,.string cW,.slice cJ cL cK,.slice cM cO cN,.slice cP cR cQ])] wb sa):=U aD;have Pf:=U fO;clear aF A5 N5 b5 kq fC cX fO W p v;refine nx hK ⟨(aD.q aI c.1).p,aD.c 0 0⟩ ?_;clear hK K;refine tq 6 ⟨(aD.q aI c.1).p,aD.c 0 0⟩ ?_;refine cw 7 fun K hK=>?_;have e0:wb.cell? ⟨A,0,none⟩=some (.slice Y l.length Z):=aD.c 0 0;have ef:=aD.f 0;go_simp;have eY:Hid (Bd G M D F C E bQ s [(9,l++[u],dM,dO)] ((A,#[.slice dM (l.length+1) dO,.int .i64 0,.string ⟨#[]⟩,.bool false,.slice none 0 0,.int .i64 0,.int .u64 0,.string ⟨#[]⟩,.slice none 0 0,.slice none 0 0,.slice none 0 0,.slice none 0 0,.slice none 0 0])::eH) [(u,[.int .i64 cB,.string cC,.bool cU,.slice bY cA bZ,.int .i64 cV,.string cW,.slice cJ cL cK,.slice cM cO cN,.slice cP cR cQ])] (wb.setCell ⟨A,0,none⟩ (.slice dM (l.length+1) dO)) sa):=U (aD.eu 0 (.slice dM (l.length+1) dO));generalize wb.setCell ⟨A,0,none⟩ (.slice dM (l.length+1) dO)=QP at eY⊢;refine oZ hK ?_;clear hK K e0 ef;refine bj aq ?_ _;clear p7
    go_wp2_with fail
    go_roundg m
    case measure=>omega
    case rel=>exact⟨sa,l++[u],dM,dO,eH,Pe,Pf,U (by have:=eD.out;simp;omega),U (by rw[iQ,List.length_singleton];exact eY.tl)⟩
   ·have dQ:du G.X cS=false:=by simpa using dQ
    have aX:Hid (GR G.X f aG cH a l cS=some r):=U (by
     have:=cE.out;rw[JD (y:=pure l) (uh dQ)] at this
     exact this)
    have HA:=U dQ;clear dQ cE;have dA:=cZ;clear cZ
    go_upto_region 8 with(go_at_call 107;refine(mP aN dA HA).mono ?_;rintro e w9 ⟨rfl,W⟩)
    clear p7
    go_cut [53] from 38 to 53 (fun tv aH=>∃ b,tv=.bool b/\Hid (b=true↔(l=[]\/¬aG=[]/\¬(l.length:Int)=cH))/\Hid (Bd G M D F C E bQ s [(9,l,Y,Z)] ((A,#[.slice Y l.length Z,.int .i64 0,.string ⟨#[]⟩,.bool false,.slice none 0 0,.int .i64 0,.int .u64 0,.string ⟨#[]⟩,.slice none 0 0,.slice none 0 0,.slice none 0 0,.slice none 0 0,.slice none 0 0])::js) [] aH cS))
    case first=>
     have r0:w9.cell? ⟨A,0,none⟩=some (.slice Y l.length Z):=W.c 0 0;have f1:w9.cell? ⟨d,1,none⟩=some (.int .i64 cH):=(W.q dD c.2.1).2.2 1 (show 1<3 from O)
     rcases l with _|⟨u,l⟩
     ·go_upto_region 9 with fail
      go_meet
      case rel=>exact⟨true,rfl,U ar,W⟩
     ·rcases aG with _|⟨y,aT⟩
      ·go_upto_region 9 with fail
       go_meet
       case rel=>exact⟨false,rfl,U ar,W⟩
      ·go_upto_region 9 with fail
       go_meet
       case rel=>exact⟨_,rfl,U (by have:¬((l.length:Int)+1=0):=by omega
                                   simp[this]),W⟩
    case rest=>
     obtain⟨b2,rfl,eB,aL⟩:=hcut;clear W dA;have pd:=(aL.q aI c.1).p;cases b2 with
     |true=>
      have Pg:Hid ((eo G.X:PM (Nd×(ak×Int))) cS=some r):=U (by have:=aX.out;unfold GR at this;rw[if_pos (eB.1 rfl)] at this;exact this);clear aX
      go_wp2_with (go_at_call 13;refine(km aN aL Pg).mono ?_;rintro e w5 ⟨dP,q,rfl,rfl,aC⟩;(unfold az;go_simp;exact⟨rfl,Kn.zM dE aC N,rfl⟩))
     |false=>
     have fH:Hid ((a7 G.X [58]>>=fun o=>(if o=true then f.ty>>=fun t=>pure [t] else pure []:PM (List Nd))>>=fun t=>a8 G.X [61]>>=fun _=>f.exp>>=fun e=>pure (gz l (if o=true then b9 19 [] 0 0 0 [] [] [e] [] [] t else e),(a,(l.length:Int)))) cS=some r):=U (by have:=aX.out;unfold GR at this;rw[if_neg (fun h=>by have:=eB.2 h;cases this)] at this;exact this);clear aX eB;have rd:wc.cell? ⟨A,0,none⟩=some (.slice Y l.length Z):=aL.c 0 0;have ff:=(aL.q dD c.2.1).2.1;have cf:wc.cell? ⟨d,1,none⟩=some (.int .i64 cH):=(aL.q dD c.2.1).2.2 1 (show 1<3 from O)
     go_upto_region 12 with fail
     obtain⟨dK,fQ,fK,fZ,fM⟩:=aL.Mb dE aI dD c.1 c.2.1 c.2.2 L.2.1 N 1 ar (.int .i64 (l.length:Int));have J:=U fQ;have dB:=U (Bd.nM (fx:=[_]) fK fD (by intro q hq;rcases List.mem_singleton.1 hq with rfl;simp))
     have aJ:=U fZ;have fA:Hid (cc dK d #[.string ⟨a.toArray⟩,.int .i64 (l.length:Int),.slice none 0 0]):=U fM;clear fQ fK fZ fM cf ff rd pd;generalize wc.setCell ⟨d,1,none⟩ (.int .i64 (l.length:Int))=we at J dB⊢;have pe:=(dB.q aJ c.1).p;obtain⟨o,sf,On,Oo⟩:=cx fH;have fF:=U On;have dH:=U Oo;clear On Oo fH aL;cases o with
     |false=>
      have aR:Hid ((a8 G.X [61]>>=fun _=>f.exp>>=fun e=>pure (gz l e,(a,(l.length:Int)))) sf=some r):=dH;clear dH
      go_upto_region 15 with(first
       |(go_at_call 21;refine(bz aN dB fF).mono ?_;rintro e wf ⟨rfl,aV⟩;have pf:=(aV.q aJ c.1).p)
       |(go_at_call 66;refine(FU.bd (fi aN [61]) aV aR).mono ?_;rintro e wg (⟨dP,q,rfl,rfl,aC⟩|⟨sg,rfl,dI,aW⟩);(·unfold az;go_simp;exact⟨rfl,Kn.zM J aC N,rfl⟩);have pg:=(aW.q aJ c.1).p))
      go_upto_region 16 with(go_at_call 67;refine(FN.bd dR bc.ok aW dI).mono ?_;rintro e wh (⟨dP,q,rfl,rfl,aC⟩|⟨nd,sh,_,rfl,cF,aE,bR,bS,bT,bI,bK,bJ,bU,bV,bX,bL,bN,bM,bO,aY,bP,aZ,bA,b6,bC,bE,bD,bF,bH,bG,rfl,cG⟩);(·unfold az;go_simp;exact⟨rfl,Kn.zM J aC N,rfl⟩);have fE:=U cG;clear cG;obtain⟨eJ,eK,eL,eM,eN,eO,eP,eQ,eS,eT,aO,aP,aQ⟩:=xW (aE.bx _ (.head _)).2.2;have eU:=aE.f 0)
      have P:Hid (Bd G M D F C E dK s [] [(A,#[.slice Y l.length Z,.int .i64 bR,.string bS,.bool bT,.slice bI bK bJ,.int .i64 bU,.int .u64 bV,.string bX,.slice bL bN bM,.slice bO aY bP,.slice aZ bA b6,.slice bC bE bD,.slice bF bH bG])] [(nd,(ot bR bS bT bI bK bJ bU bV bX bL bN bM bO aY bP aZ bA b6 bC bE bD bF bH bG)),([.sl l],[.slice Y l.length Z])] ((((((((((((wh.setCell ⟨A,1,none⟩ (.int .i64 bR)).setCell ⟨A,2,none⟩ (.string bS)).setCell ⟨A,3,none⟩ (.bool bT)).setCell ⟨A,4,none⟩ (.slice bI bK bJ)).setCell ⟨A,5,none⟩ (.int .i64 bU)).setCell ⟨A,6,none⟩ (.int .u64 bV)).setCell ⟨A,7,none⟩ (.string bX)).setCell ⟨A,8,none⟩ (.slice bL bN bM)).setCell ⟨A,9,none⟩ (.slice bO aY bP)).setCell ⟨A,10,none⟩ (.slice aZ bA b6)).setCell ⟨A,11,none⟩ (.slice bC bE bD)).setCell ⟨A,12,none⟩ (.slice bF bH bG)) sh):=U (aE.add fE).JC;generalize World.setCell _ _ _=cT at P⊢;have eF:=U (aj cF);clear cF aE eJ eK eL eM eN eO eP eQ eS eT aO aP aQ eU fE;obtain⟨eJ,eK,eL,eM,eN,eO,eP,eQ,eS,eT,aO,aP,aQ⟩:=xW (P.bx _ (.head _)).2.2;have eU:=P.f 0
      go_wp2_with fail
      cases eF.out;have B:=(P.add (nd:=gz l (nd)) (cs:=[.slice Y l.length Z,.int .i64 bR,.string bS,.bool bT,.slice bI bK bJ,.int .i64 bU,.int .u64 bV,.string bX,.slice bL bN bM,.slice bO aY bP,.slice aZ bA b6,.slice bC bE bD,.slice bF bH bG]) (cr ((P.t 1).hd) (P.t 0))).store 0 [.slice Y l.length Z,.int .i64 bR,.string bS,.bool bT,.slice bI bK bJ,.int .i64 bU,.int .u64 bV,.string bX,.slice bL bN bM,.slice bO aY bP,.slice aZ bA b6,.slice bC bE bD,.slice bF bH bG];change bodyPost _ _ _ _ _ (cT.setCells A 0 [.slice Y l.length Z,.int .i64 bR,.string bS,.bool bT,.slice bI bK bJ,.int .i64 bU,.int .u64 bV,.string bX,.slice bL bN bM,.slice bO aY bP,.slice aZ bA b6,.slice bC bE bD,.slice bF bH bG]);generalize cT.setCells A 0 _=wz at B⊢;refine oI (B.bx _ (.head _)) ⟨Kn.qP J.a J.b J.c B.kn (fun k q=>.inl (.inl q)) N,B.sc,B.i,a,(l.length:Int),_,rfl,rfl,B.ps.more (fun _ q=>.inl q) (fun k aC=>?_),⟨B.q aJ c.1,B.q fA c.2.1⟩,fun _ q=>.inl q,_,_,_,_,_,_,_,_,_,_,_,_,_,_,_,_,_,_,_,_,_,_,_,_,_,_,_,rfl,(B.t 0).on (Kb.refl _ _) fun b hb=>hb.imp id fun q=>⟨lQ q.1 J.b,q.2.1,?_⟩⟩
      ·have dU:=B.kn.size;have h2:=J.b
       rcases aC with q|rfl|rfl
       ·exact B.ps.mB k q
       ·exact⟨L.2.1,ba L.2.2⟩
       ·exact⟨L.1.1,ba L.1.2⟩
      ·have h2:=J.b;rintro(m|rfl|rfl)
       ·exact q.2.2 (.inr ⟨m,q.1⟩)
       ·have:=L.2.2;have:=q.1;omega
       ·have:=L.1.2;have:=q.1;omega
     |true=>
      have aR:Hid ((f.ty>>=fun u=>pure [u]>>=fun t=>a8 G.X [61]>>=fun _=>f.exp>>=fun e=>pure (gz l (b9 19 [] 0 0 0 [] [] [e] [] [] t),(a,(l.length:Int)))) sf=some r):=U (by rw[db];exact dH.out);clear dH
      go_upto_region 13 with(go_at_call 21;refine(bz aN dB fF).mono ?_;rintro e wf ⟨rfl,aV⟩;have pf:=(aV.q aJ c.1).p)
      go_upto_region 14 with(go_at_call 74;refine(FN.bd Pc cz.ok aV aR).mono ?_;rintro e wt (⟨dP,q,rfl,rfl,aC⟩|⟨u,st,_,rfl,fI,eZ,cB,cC,Yd,Yf,Ye,bY,cA,bZ,rfl,cG⟩);(·unfold az;go_simp;exact⟨rfl,Kn.zM J aC N,rfl⟩))
      have cD:=U (eZ.one (cs:=(nF cB cC Yd Yf Ye bY cA bZ)) 78 cG);obtain⟨dJ,aa0⟩:∃ dJ,wt.heap.size=dJ:=⟨_,rfl⟩;rw[aa0] at cD⊢;generalize wt.alloc _=wu at cD⊢;clear aa0 cG pe pf eZ aV;have pu:=(cD.q aJ c.1).p;have dL:Hid ((a8 G.X [61]>>=fun _=>f.exp>>=fun e=>pure (gz l (b9 19 [] 0 0 0 [] [] [e] [] [] [u]),(a,(l.length:Int)))) st=some r):=fI;clear fI
      go_upto_region 16 with(first
       |(go_at_call 66;refine(FU.bd (fi aN [61]) cD dL).mono ?_;rintro e wg (⟨dP,q,rfl,rfl,aC⟩|⟨sg,rfl,dI,aW⟩);(·unfold az;go_simp;exact⟨rfl,Kn.zM J aC N,rfl⟩);have pg:=(aW.q aJ c.1).p)
       |(go_at_call 67;refine(FN.bd dR bc.ok aW dI).mono ?_;rintro e wh (⟨dP,q,rfl,rfl,aC⟩|⟨nd,sh,_,rfl,cF,aE,bR,bS,bT,bI,bK,bJ,bU,bV,bX,bL,bN,bM,bO,aY,bP,aZ,bA,b6,bC,bE,bD,bF,bH,bG,rfl,cG⟩);(·unfold az;go_simp;exact⟨rfl,Kn.zM J aC N,rfl⟩);have fE:=U cG;clear cG;obtain⟨eJ,eK,eL,eM,eN,eO,eP,eQ,eS,eT,aO,aP,aQ⟩:=xW (aE.bx _ (.head _)).2.2;have eU:=aE.f 0))
      have P:Hid (Bd G M D F C E dK s [] [(A,#[.slice Y l.length Z,.int .i64 bR,.string bS,.bool bT,.slice bI bK bJ,.int .i64 bU,.int .u64 bV,.string bX,.slice bL bN bM,.slice bO aY bP,.slice aZ bA b6,.slice bC bE bD,.slice bF bH bG])] [(nd,(ot bR bS bT bI bK bJ bU bV bX bL bN bM bO aY bP aZ bA b6 bC bE bD bF bH bG)),([.sl [u]],[.slice (some ⟨dJ,0,none⟩) 1 1]),([.sl l],[.slice Y l.length Z])] ((((((((((((wh.setCell ⟨A,1,none⟩ (.int .i64 bR)).setCell ⟨A,2,none⟩ (.string bS)).setCell ⟨A,3,none⟩ (.bool bT)).setCell ⟨A,4,none⟩ (.slice bI bK bJ)).setCell ⟨A,5,none⟩ (.int .i64 bU)).setCell ⟨A,6,none⟩ (.int .u64 bV)).setCell ⟨A,7,none⟩ (.string bX)).setCell ⟨A,8,none⟩ (.slice bL bN bM)).setCell ⟨A,9,none⟩ (.slice bO aY bP)).setCell ⟨A,10,none⟩ (.slice aZ bA b6)).setCell ⟨A,11,none⟩ (.slice bC bE bD)).setCell ⟨A,12,none⟩ (.slice bF bH bG)) sh):=U (aE.add fE).JC;generalize World.setCell _ _ _=cT at P⊢;have eF:=U (aj cF);clear cF aE eJ eK eL eM eN eO eP eQ eS eT aO aP aQ eU fE pg pu aW dI cD dL aR;obtain⟨eJ,eK,eL,eM,eN,eO,eP,eQ,eS,eT,aO,aP,aQ⟩:=xW (P.bx _ (.head _)).2.2;have eU:=P.f 0;have dC:=U (P.one (cs:=(kv bR bS bT bI bK bJ bU bV bX bL bN bM bO aY bP aZ bA b6 bC bE bD bF bH bG)) 87 (P.t 0));obtain⟨Ph,Pj,Pk,Pl,Pm,Pn,Po,v20,v21,Pp,Pq,v24,Pr⟩:=xW (dC.bx _ (.head _)).2.2;have vg:=dC.f 0
      go_upto_region 18 with fail
      have aM:Hid (Bd G M D F C E dK s [] [(A,#[.slice Y l.length Z,.int .i64 19,.string ⟨#[]⟩,.bool false,.slice none 0 0,.int .i64 0,.int .u64 0,.string ⟨#[]⟩,.slice none 0 0,.slice (some ⟨cT.heap.size,0,none⟩) 1 1,.slice none 0 0,.slice none 0 0,.slice (some ⟨dJ,0,none⟩) 1 1])] [([.sl [nd]],[.slice (some ⟨cT.heap.size,0,none⟩) 1 1]),(nd,(ot bR bS bT bI bK bJ bU bV bX bL bN bM bO aY bP aZ bA b6 bC bE bD bF bH bG)),([.sl [u]],[.slice (some ⟨dJ,0,none⟩) 1 1]),([.sl l],[.slice Y l.length Z])] (((((((((((((cT.alloc (.cells (kv bR bS bT bI bK bJ bU bV bX bL bN bM bO aY bP aZ bA b6 bC bE bD bF bH bG) 87)).setCell ⟨A,1,none⟩ (.int .i64 19)).setCell ⟨A,2,none⟩ (.string ⟨#[]⟩)).setCell ⟨A,3,none⟩ (.bool false)).setCell ⟨A,4,none⟩ (.slice none 0 0)).setCell ⟨A,5,none⟩ (.int .i64 0)).setCell ⟨A,6,none⟩ (.int .u64 0)).setCell ⟨A,7,none⟩ (.string ⟨#[]⟩)).setCell ⟨A,8,none⟩ (.slice none 0 0)).setCell ⟨A,9,none⟩ (.slice (some ⟨cT.heap.size,0,none⟩) 1 1)).setCell ⟨A,10,none⟩ (.slice none 0 0)).setCell ⟨A,11,none⟩ (.slice none 0 0)).setCell ⟨A,12,none⟩ (.slice (some ⟨dJ,0,none⟩) 1 1)) sh):=U dC.JC;generalize World.setCell _ _ _=wk at aM⊢;clear eJ eK eL eM eN eO eP eQ eS eT aO aP aQ eU Ph Pj Pk Pl Pm Pn Po v20 v21 Pp Pq v24 Pr vg dC P;obtain⟨eJ,eK,eL,eM,eN,eO,eP,eQ,eS,eT,aO,aP,aQ⟩:=xW (aM.bx _ (.head _)).2.2;have eU:=aM.f 0
      go_wp2_with fail
      cases eF.out;have B:=(aM.add (nd:=gz l (b9 19 [] 0 0 0 [] [] [nd] [] [] [u])) (cs:=[.slice Y l.length Z,.int .i64 19,.string ⟨#[]⟩,.bool false,.slice none 0 0,.int .i64 0,.int .u64 0,.string ⟨#[]⟩,.slice none 0 0,.slice (some ⟨cT.heap.size,0,none⟩) 1 1,.slice none 0 0,.slice none 0 0,.slice (some ⟨dJ,0,none⟩) 1 1]) (cr ((aM.t 3).hd) (dq (kind:=19) (name:=[]) (z:=0) (n:=0) (bits:=0) (text:=[]) (ls:=[]) (kids:=[nd]) (rules:=[]) (dr:=[]) (types:=[u]) cv aa (aM.t 0).hd aa aa (aM.t 2).hd))).store 0 [.slice Y l.length Z,.int .i64 19,.string ⟨#[]⟩,.bool false,.slice none 0 0,.int .i64 0,.int .u64 0,.string ⟨#[]⟩,.slice none 0 0,.slice (some ⟨cT.heap.size,0,none⟩) 1 1,.slice none 0 0,.slice none 0 0,.slice (some ⟨dJ,0,none⟩) 1 1];change bodyPost _ _ _ _ _ (wk.setCells A 0 [.slice Y l.length Z,.int .i64 19,.string ⟨#[]⟩,.bool false,.slice none 0 0,.int .i64 0,.int .u64 0,.string ⟨#[]⟩,.slice none 0 0,.slice (some ⟨cT.heap.size,0,none⟩) 1 1,.slice none 0 0,.slice none 0 0,.slice (some ⟨dJ,0,none⟩) 1 1]);generalize wk.setCells A 0 _=wz at B⊢;refine oI (B.bx _ (.head _)) ⟨Kn.qP J.a J.b J.c B.kn (fun k q=>.inl (.inl q)) N,B.sc,B.i,a,(l.length:Int),_,rfl,rfl,B.ps.more (fun _ q=>.inl q) (fun k aC=>?_),⟨B.q aJ c.1,B.q fA c.2.1⟩,fun _ q=>.inl q,_,_,_,_,_,_,_,_,_,_,_,_,_,_,_,_,_,_,_,_,_,_,_,_,_,_,_,rfl,(B.t 0).on (Kb.refl _ _) fun b hb=>hb.imp id fun q=>⟨lQ q.1 J.b,q.2.1,?_⟩⟩
      ·have dU:=B.kn.size;have h2:=J.b
       rcases aC with q|rfl|rfl
       ·exact B.ps.mB k q
       ·exact⟨L.2.1,ba L.2.2⟩
       ·exact⟨L.1.1,ba L.1.2⟩
      ·have h2:=J.b;rintro(m|rfl|rfl)
       ·exact q.2.2 (.inr ⟨m,q.1⟩)
       ·have:=L.2.2;have:=q.1;omega
       ·have:=L.1.2;have:=q.1;omega
end
section
variable {G:Gh} {f:Fs} {n:Nat}
theorem FJ(bG:ei G)(cE:n<=1000000)(bO:FN G 74 (bq G) cz f.ty)(bI:FN G 108 (bq G) cy (fp G.X f n))(aN:FN G 67 (bq G) bc f.exp):FN G 69 (bq G) oK (lH G.X f n):=by
 intro M D F C E w s r bH S;have hB:=bH.bB;have t:=U bH;unfold lH at S;have bT:=U S;clear S bH;go_enter Tryz.func69,Tryz.ntmps69
 go_upto_region 1 with fail
 have T:pK G M D F C E uG w (w.alloc (.cells (bq G) 49)).heap.size s ((w.alloc (.cells (bq G) 49)).alloc (.cells uG 45)) s:=pK.KP t (ab w _) 45;have bD:=(cc.new w (bq G) 49).bl (ab _ (.cells uG 45));rw[show(w.alloc (.cells (bq G) 49)).heap.size=w.heap.size+1 from ar] at T;obtain⟨Y,R⟩:∃ Y,w.heap.size+1=Y:=⟨_,rfl⟩;rw[R] at T⊢;generalize (w.alloc (.cells (bq G) 49)).alloc (.cells uG 45)=W at T bD⊢
 go_upto_region 2 with fail
 have aI:=T.below (ab W (.cells uG 45));have aH:=bD.bl (ab W (.cells uG 45));have Z:=cc.new W uG 45;have P:Y<W.heap.size:=T.lt;obtain⟨d,aO⟩:∃ d,W.heap.size=d:=⟨_,rfl⟩;rw[aO] at Z P⊢;generalize W.alloc (.cells uG 45)=aJ at aI aH Z⊢;have i:=U aI;have aC:=U aH;have I:=U Z;have x:=U (b4 R P);have aB:Hid (¬M w.heap.size):=U (fun q=>ba ((t.mB _ q).2));have L:Hid (¬M d):=U (fun q=>ba ((t.mB _ q).2))
 have aD:Hid (PS G (MX M w.heap.size d) D F C E aJ s):=U (aI.ps.more (fun _ q=>.inl q) (fun k B=>by
  have z:=aH.1;have N:=Z.1
  rcases B with q|rfl|rfl
  ·exact aI.ps.mB k q
  ·exact⟨O,N⟩
  ·exact⟨hB,z⟩))
 have aA:=U (zN bG cE bO bI aN M D F C E w.heap.size d t.mp (fun b o e=>(t.mn b o e).1) (fun b o e=>(t.mf b o e).1) aB L O);have cM:aJ.cell? ⟨w.heap.size,0,none⟩=some (.pointer (some ⟨G.bp,0,none⟩)):=aH.2.2 0 (show 0<1 from O);clear T bD aI aH Z R P aO;have S:=bT.out;clear bT
 have aU:oX G (fun _:ak×Int=>MX M w.heap.size d) (Oa G w.heap.size d):=fun H bY g X B=>by
  have aQ:∀ k,k<H.heap.size->bY.heap[k]?=H.heap[k]?->k<bY.heap.size:=fun k z N=>by
   rw[D9 z] at N;exact(Array.getElem?_eq_some_iff.1 N).1
  have bE:=B w.heap.size (.inr (.inr rfl)) (fun e=>aB.out (by rw[e];exact t.mp));have bF:=B d (.inr (.inl rfl)) (fun e=>L.out (by rw[e];exact t.mp))
  exact⟨⟨aQ _ X.1.1 bE,fun o=>(q9 (w:=H) (a:=⟨w.heap.size,o,none⟩) bE).trans (X.1.2.1 o),fun j bL=>(i' (w:=H) (a:=⟨w.heap.size,0+j,none⟩) bE).trans (X.1.2.2 j bL)⟩,
   ⟨aQ _ X.2.1 bF,fun o=>(q9 (w:=H) (a:=⟨d,o,none⟩) bF).trans (X.2.2.1 o),fun j bL=>(i' (w:=H) (a:=⟨d,0+j,none⟩) bF).trans (X.2.2.2 j bL)⟩⟩
 have aG:=U aU;clear aU
 rcases a_ S with⟨c,q,z,rfl⟩|⟨⟨l,bP,bQ⟩,s1,z,N⟩
 ·have aX:=U z;clear S z
  go_wp2_with (go_at_call 105;refine(rM bG aG 106 #[] #[.pointer (some ⟨w.heap.size,0,none⟩),.pointer (some ⟨d,0,none⟩)] (fun _ _=>rfl) [124] (iK G.X f n) aA n _ s ([],0) _ aD.out ⟨aC.out,I.out⟩ aX).mono ?_;rintro e m ⟨B,rfl⟩;unfold az)
  go_simp
  exact⟨rfl,i.kn.trans B (fun k bM bN=>by
   have:=x.out
   rcases bN with q|rfl|rfl
   ·exact q
   ·omega
   ·omega),rfl⟩
 ·obtain rfl:=aj N;have aX:=U z;clear S z N
  go_upto_region 3 with(go_at_call 105;refine(rM bG aG 106 #[] #[.pointer (some ⟨w.heap.size,0,none⟩),.pointer (some ⟨d,0,none⟩)] (fun _ _=>rfl) [124] (iK G.X f n) aA n _ s ([],0) _ aD.out ⟨aC.out,I.out⟩ aX).mono ?_;rintro e m ⟨B,aT,bV,cL,cN,rfl,bK,aK,A,_,_,u,v,rfl,aP⟩;obtain rfl:=bK;have J:=U B;have aZ:=U aK;have b6:=U A;have aY:=U aP;have aF:=U (b4 aT bV);have bZ:m.cell? ⟨d,2,none⟩=some (.slice none 0 0):=A.2.2.2 2 (show 2<3 from O);have cA:=A.2.2.1;clear B aT bV aK A aP)
  have y:pK G M D F C E uG w Y s m s1:=⟨i.kn.trans J (fun k bM bN=>by
   have:=x.out
   rcases bN with q|rfl|rfl
   ·exact q
   ·omega
   ·omega),aZ.less (fun _ q=>.inl q) t.mp (fun b o e=>(t.mn b o e).1) (fun b o e=>(t.mf b o e).1),aF.1.trans i.sc,fy i.mono aF.2,i.res.kn J (fun q=>by
   have:=x.out
   rcases q with q|rfl|rfl
   ·exact i.nm q
   ·omega
   ·omega),i.lo,i.hB,i.mw⟩
  have aR:=x.out;have Q:∀ b,b≠d->(m.setCell ⟨d,2,none⟩ (.slice u l.length v)).heap[b]?=m.heap[b]?:=fun b aL=>h3 _ _ _ _ aL;have aV:(m.setCell ⟨d,2,none⟩ (.slice u l.length v)).heap.size=m.heap.size:=by simp[World.setCell]
  have aM:Below d m (m.setCell ⟨d,2,none⟩ (.slice u l.length v)):=Below.setCell (eA _ _) (p:=⟨d,2,none⟩) (aw _) _;have aW:pK G M D F C E uG w Y s (m.setCell ⟨d,2,none⟩ (.slice u l.length v)) s1:=⟨y.kn.low aM O O,y.ps.set (p:=⟨d,2,none⟩) (by show G.B<=d;omega) L _,y.sc,y.mono,y.res.a6 (Q _ O) O,y.lo,y.hB,y.mw⟩;have bR:cc (m.setCell ⟨d,2,none⟩ (.slice u l.length v)) d #[.string ⟨bP.toArray⟩,.int .i64 bQ,.slice u l.length v]:=by simpa using b6.2.lF 2 ar (.slice u l.length v)
  have bC:aJ.heap.size<=m.heap.size:=J.size;have bJ:d<aJ.heap.size:=I.1;have bU:b8 (m.setCell ⟨d,2,none⟩ (.slice u l.length v)) (Own G.B aJ.heap.size m.heap.size (MX M w.heap.size d)) (.sl l) [.slice u l.length v]:=b8.on aY (fun b aL=>Q b (fun e=>by rcases aL with q|q;omega;have:=q.1;omega)) (fun _ h=>h);have bA:=IV aW (by rfl) (show ah _ _ (mkFun bP bQ l) [.string ⟨bP.toArray⟩,.int .i64 bQ,.slice u l.length v] from ej _ (ej _ (cr bU gO))) (fun b aL=>aL.imp id fun q=>⟨ba q.1,by rw[aV];exact q.2.1,ba q.1⟩);obtain⟨cB,cC,cD⟩:=NS bR.2.2;have bX:=aW.res.2.2;have cJ:=aW.res.2.1;obtain⟨cG,cH,cI⟩:=NS bX;have bS:=U bA.2;have aE:=U bA.1;have cF:¬Y=d:=O
  clear bX bA bU bR y aW Q aV aM aR bC bJ bZ cA;generalize m.setCell ⟨d,2,none⟩ (.slice u l.length v)=cK at bS aE cB cC cD cG cH cI cJ⊢
  go_wp2_with fail
  refine NT aE (by intros;simp[results,Tryz.results69,go_sem, *]) rfl bS.out
end
end Go.Proofs.YtkblonfmjlopaaaGreatDoor
