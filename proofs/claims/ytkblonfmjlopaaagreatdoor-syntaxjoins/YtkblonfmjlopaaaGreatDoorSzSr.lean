/-
  The reference's Same, walked, on single nodes: data, functions.
-/
import Derived.Test.YtkblonfmjlopaaaGreatDoorSzSn
set_option linter.all false
set_option maxRecDepth 1000000
set_option maxHeartbeats 16000000
namespace Go.Proofs.YtkblonfmjlopaaaGreatDoor
open Go Go.RowKit
variable {c1:List Value}{b o:Nat}{w:World}
theorem Jx{v:List ak}{m:ak}{c:List Nd}(h:∀ cN∈c,∃ n a,cN=qS n a/\jR 46 a):oj 41 (mkData v m c):=by
 intro w F aV aW bJ bK aM;obtain⟨Q,W,_,rfl,q,z⟩:=bJ.ls;obtain⟨_,rfl,s⟩:=q.v;obtain⟨R,X,_,rfl,t,A⟩:=s.ls;obtain rfl:=t.nl;obtain⟨S,Y,_,rfl,u,B⟩:=bK.ls;obtain⟨_,rfl,x⟩:=u.v;obtain⟨T,Z,_,rfl,y,C⟩:=x.ls;obtain rfl:=y.nl;have aY:∀ r∈c,gn r=2:=fun r cL=>by obtain⟨_,_,rfl,_⟩:=h r cL;rfl
 obtain⟨cK,cR,m1,bE⟩:=A.rw aY aM;obtain⟨_,cS,m2,bF⟩:=C.rw aY aM;have bT:=U h;have bD:=U aM;have aN:=U bE;have aO:=U bF;have aP:=U z;have aQ:=U B;clear h aY bE bF z A B C aM bJ bK q s t u x y;unfold rY;go_enter Tryz.func41,Tryz.ntmps41
 go_upto_region 1 with fail
 obtain⟨aL,bI,aF,aZ,b6⟩:=BL w [.slice Q (strs v).length W,.string ⟨(m).toArray⟩,.slice R (c).length X] [.slice S (strs v).length Y,.string ⟨(m).toArray⟩,.slice T (c).length Z] 92;have I:=U aF;have d:=U aZ;have f:=U b6;have j:=U (eA aL.heap.size aL);rw[bI];clear bI aF aZ b6;generalize (⟨(m).toArray⟩:ByteArray)=cT at d f⊢;have bU:=d.out _ j.out 1 _ rfl;have bV:=f.out _ j.out 1 _ rfl;have bX:=d.out _ j.out 2 _ rfl;have bY:=f.out _ j.out 2 _ rfl
 go_wp2_with fail
 go_loopg [5] c.length (fun g cM wr=>∃ i:Nat,cM=.int .i64 (i:Nat)/\g+i=c.length/\Hid (Below aL.heap.size aL wr))
 case atStart=>exact⟨0,rfl,O,j⟩
 case round=>
 obtain⟨i,rfl,cJ,M⟩:=hrel;have aK:=U (ax I M);have bZ:=d.out _ M.out 2 _ rfl;have cA:=f.out _ M.out 2 _ rfl
 by_cases bL:i<c.length
 ·have aX:(i:Int)<(c.length:Int):=O
  have k:=fv bL;obtain⟨cQ,bR,aG,bM⟩:=bT.out _ (lk bL);rw[aG] at k;obtain⟨bG,bN,aV,rfl,bP,bA⟩:=aN.out i _ k;obtain⟨bH,bO,aW,rfl,bQ,bC⟩:=aO.out i _ k;obtain⟨_,rfl,D⟩:=bP.v;obtain⟨aA,aC,_,rfl,aH,G⟩:=D.ls;obtain⟨_,rfl,E⟩:=bQ.v;obtain⟨aB,aD,_,rfl,aI,H⟩:=E.ls;have aU:=U bM;have aR:=U G;have aT:=U H;have J:=U bA;have L:=U bC;clear bP bQ bA bC k aG bM D aH E aI G H;generalize (⟨cQ.toArray⟩:ByteArray)=bS at J L
  go_upto_region 6 with fail
  have cB:wr.cell? ⟨bG,bN+i*2+1,none⟩=some (.slice aA bR.length aC):=J.out _ aK.out 1 _ rfl;have cC:wr.cell? ⟨bH,bO+i*2+1,none⟩=some (.slice aB bR.length aD):=L.out _ aK.out 1 _ rfl
  go_still_tail 12,aq
  change wpList _ _ _ _ _ wr.drew;have p:=U M.drew;have l:=U aK.drew;generalize wr.drew=cO at p l⊢
  go_upto_region 7 with(go_at_call 46;refine(aU.at bD.out l aR aT).mono ?_;rintro e aJ ⟨rfl,aE⟩;have b:=U (ax p aE);have o:=U (ax I b);clear aE)
  have cD:=d.out _ b.out 2 _ rfl;have cE:=f.out _ b.out 2 _ rfl;have cF:aJ.cell? ⟨bG,bN+i*2,none⟩=some (.string bS):=J.out _ o.out 0 _ rfl;have cG:aJ.cell? ⟨bH,bO+i*2,none⟩=some (.string bS):=L.out _ o.out 0 _ rfl
  go_quiet (fail)
  go_wp2_with fail
  go_roundg (gk-1)
  case measure=>omega
  case rel=>exact⟨i+1,by first|rfl|(congr 1),O,U (by(repeat (first|with_reducible refine Below.drew ?_|with_reducible refine Below.drewN ?_ _));exact b.out)⟩
 ·have aX:¬(i:Int)<(c.length:Int):=O
  have cH:=d.out _ M.out 0 _ rfl;have cI:=f.out _ M.out 0 _ rfl
  go_wp2_with (go_at_call 43;refine((om v).at bD.out aK aP aQ).mono ?_;rintro e cP ⟨rfl,aE⟩;have P:=U (ax M aE);have N:=U (ax I P);clear aE)
  refine bodyPost_ret (v:=.bool true) (by simp[results,Tryz.results41,go_sem]) rfl ⟨rfl,N.out⟩
theorem qG{x:Value}{a:List Value}(h:∀ j v,(x::a)[j]?=some v->w.cell? ⟨b,o+j,none⟩=some v):w.rangeAt b (o+1) a:=fun j v c=>by
 rw[e9,ra 1];exact h (j+1) v c
theorem MZ{n:ak}{m:Int}{c:List Nd}(h:∀ cQ∈c,∃ a e,cQ=gz a e/\gn e=12/\jR 44 a/\oj 83 e):oj 40 (mkFun n m c):=by
 intro w F aX aY bV bX aI;obtain⟨_,rfl,B⟩:=bV.v;obtain⟨_,rfl,C⟩:=B.v;obtain⟨S,W,_,rfl,D,I⟩:=C.ls;obtain rfl:=D.nl;obtain⟨_,rfl,E⟩:=bX.v;obtain⟨_,rfl,G⟩:=E.v;obtain⟨T,X,_,rfl,H,J⟩:=G.ls;obtain rfl:=H.nl;have b6:∀ r∈c,gn r=13:=fun r cO=>by obtain⟨_,_,rfl,t,_⟩:=h r cO;show wid _+gn _=13;rw[t];rfl
 obtain⟨cN,cR,m1,bG⟩:=I.rw b6 aI;obtain⟨_,cS,m2,bH⟩:=J.rw b6 aI;have cJ:=U h;have bF:=U aI;have aM:=U bG;have aN:=U bH;clear h b6 bG bH I J aI bV bX B C D E G H;unfold rY;go_enter Tryz.func40,Tryz.ntmps40
 go_upto_region 1 with fail
 obtain⟨aH,bK,aD,bA,bC⟩:=BL w [.string ⟨(n).toArray⟩,.int .i64 (m),.slice S (c).length W] [.string ⟨(n).toArray⟩,.int .i64 (m),.slice T (c).length X] 45;have P:=U aD;have j:=U bA;have k:=U bC;have f:=U (eA aH.heap.size aH);rw[bK];clear bK aD bA bC;generalize (⟨(n).toArray⟩:ByteArray)=cU at j k⊢;have cK:=j.out _ f.out 0 _ rfl;have cL:=k.out _ f.out 0 _ rfl;have bL:=j.out _ f.out 1 _ rfl;have bM:=k.out _ f.out 1 _ rfl;have bN:=j.out _ f.out 2 _ rfl;have bO:=k.out _ f.out 2 _ rfl
 go_wp2_with fail
 go_loopg [5] c.length (fun g cP wr=>∃ i:Nat,cP=.int .i64 (i:Nat)/\g+i=c.length/\Hid (Below aH.heap.size aH wr))
 case atStart=>exact⟨0,rfl,O,f⟩
 case round=>
 obtain⟨i,rfl,cM,aG⟩:=hrel;have aF:=U (ax P aG);have bP:=j.out _ aG.out 2 _ rfl;have bQ:=k.out _ aG.out 2 _ rfl
 by_cases bZ:i<c.length
 ·have aZ:(i:Int)<(c.length:Int):=O
  have y:=fv bZ;obtain⟨cI,cT,aE,t,cA,bY⟩:=cJ.out _ (lk bZ);rw[aE] at y;obtain⟨bI,cB,aX,rfl,cD,bD⟩:=aM.out i _ y;obtain⟨bJ,cC,aY,rfl,cE,bE⟩:=aN.out i _ y;obtain⟨Y,aA,aV,rfl,u,L⟩:=cD.ls;have z:=u.len.trans t;have aO:=U u;have aQ:=U L;have Q:=U bD;obtain⟨Z,aB,aW,rfl,x,M⟩:=cE.ls;have A:=x.len.trans t;have aP:=U x;have aR:=U M;have R:=U bE;have aU:=U cA;have aT:=U bY;clear cD cE bD bE y aE cA bY u x L M t;have aK:=U z;have aL:=U A;clear z A
  go_upto_region 6 with fail
  have bR:wr.cell? ⟨bI,cB+i*13,none⟩=some (.slice Y cI.length aA):=Q.out _ aF.out 0 _ rfl;have bS:wr.cell? ⟨bJ,cC+i*13,none⟩=some (.slice Z cI.length aB):=R.out _ aF.out 0 _ rfl
  go_still_tail 12,aq
  change wpList _ _ _ _ _ wr.drew;have p:=U aG.drew;have l:=U aF.drew;generalize wr.drew=cF at p l⊢
  go_upto_region 7 with(go_at_call 44;refine(aU.at bF.out l aQ aR).mono ?_;rintro e N ⟨rfl,aC⟩;have b:=U (ax p aC);have d:=U (ax P b);clear aC)
  have bT:=j.out _ b.out 2 _ rfl;have bU:=k.out _ b.out 2 _ rfl;refine wp_region_still_tail 12 aq aq ?_;simp only [List.take_succ_cons,List.take_zero,List.drop_succ_cons,List.drop_zero]
  iterate 5 still_step
  refine gD rfl 87 _ rfl bI (cB+i*13+1) rfl aV _ (qG (Q.out _ d.drew)) Tryz.underlying87 rfl (by rw[aK.out];kernel_rfl) ?_
  iterate 5 still_step
  refine gD rfl 87 _ rfl bJ (cC+i*13+1) rfl aW _ (qG (R.out _ d.drew)) Tryz.underlying87 rfl (by rw[aL.out];kernel_rfl) ?_;refine wpStill_nil ?_;change wpList _ _ _ _ _ N.drew;have q:=U b.drew;have o:=U d.drew;generalize N.drew=cG at q o⊢
  go_upto_region 8 with(go_at_call 83;refine(aT.at bF.out o aO aP).mono ?_;rintro e cH ⟨rfl,aC⟩;have s:=U (ax q aC);have aJ:=U (ax P s);clear aC)
  go_wp2_with fail
  go_roundg (gk-1)
  case measure=>omega
  case rel=>exact⟨i+1,by first|rfl|(congr 1),O,U (by(repeat (first|with_reducible refine Below.drew ?_|with_reducible refine Below.drewN ?_ _));exact s.out)⟩
 ·have aZ:¬(i:Int)<(c.length:Int):=O
  go_wp2_with fail
  refine bodyPost_ret (v:=.bool true) (by simp[results,Tryz.results40,go_sem]) rfl ⟨rfl,aF.out⟩
theorem tW{c:List Value}(h:∀ j v,(c1++c)[j]?=some v->w.cell? ⟨b,o+j,none⟩=some v):w.rangeAt b o c1:=fun j v a=>by
 refine h j v ?_
 have d:j<c1.length:=by
  rcases gr j c1.length with q|q
  ·exact q
  ·rw[j4 q] at a;cases a
 rw[lg d];exact a
theorem r5{n:Nat}{a:List Value}(h:∀ j v,(c1++a)[j]?=some v->w.cell? ⟨b,o+j,none⟩=some v)(c:c1.length=n):w.rangeAt b (o+n) a:=fun j v d=>by
 rw[e9];refine h (n+j) v ?_;rw[kC O,c,sW];exact d
theorem Me{F:Nat->Prop}{p:Nd}{a:List Value}(T:TypeId)(r:ah w F p c1)(s:ah w F p a)(i:∀ b,F b->b<w.heap.size):
 ∃ e:Nat->Prop,ey ((w.alloc (.cells c1.toArray T)).alloc (.cells a.toArray T)) e [p] (.slice (some ⟨w.heap.size,0,none⟩) 1 1)/\ey ((w.alloc (.cells c1.toArray T)).alloc (.cells a.toArray T)) e [p] (.slice (some ⟨w.heap.size+1,0,none⟩) 1 1)/\∀ b,e b->b<((w.alloc (.cells c1.toArray T)).alloc (.cells a.toArray T)).heap.size:=by
 obtain⟨d,o,f,m,n⟩:=BL w c1 a T;have t:((w.alloc (.cells c1.toArray T)).alloc (.cells a.toArray T)).heap.size=w.heap.size+2:=ar
 rw[t,o]
 have k:∀ {c:List Value} {b:Nat},ah w F p c->(b=w.heap.size\/b=w.heap.size+1)->(∀ W,Below d.heap.size d W->∀ j v,c[j]?=some v->W.cell? ⟨b,j,none⟩=some v)->ey d (fun k=>F k\/k=w.heap.size\/k=w.heap.size+1) [p] (.slice (some ⟨b,0,none⟩) 1 1):=fun{c b} h g C=>by
  refine⟨some ⟨b,0,none⟩,1,rfl,?_⟩;refine ER (cs:=c) (.inr g) (fun j l=>?_) (h.on (Kb.of f i) fun _ q=>.inl q) (aw _) (by unfold maxLen;omega);rw[fv l];exact C d (eA _ _) j _ (fv l)
 exact⟨_,k r (.inl rfl) m,k s (.inr rfl) n,fun b f=>f.elim (fun q=>gi (i b q) (Nat.le_add_right _ 2)) fun q=>q.elim (fun q=>O) fun q=>O⟩
theorem Lf{k:Int}{n:ak}{z m:Int}{dZ:ak}{ls:List ak}{a r d t:List Nd}(h:∀ nd∈r,∃ k n z m dZ ls a b e,nd=c_ k n z m dZ ls a b++e/\gn e=12/\jR 44 [c_ k n z m dZ ls a b]/\oj 83 e)(ha:jR 45 a)(hd:jR 8 d)(ht:jR 46 t):oj 83 (b9 k n z m b dZ ls a r d t):=by
 intro w F Pv Pw h1 h2 fX;obtain⟨_,rfl,bI⟩:=h1.v;obtain⟨_,rfl,bJ⟩:=bI.v;obtain⟨fJ,eO,fN,fA,_,rfl,bK,cD⟩:=bJ.bt;obtain⟨_,rfl,bL⟩:=bK.v;obtain⟨_,rfl,bM⟩:=bL.v;obtain⟨_,rfl,bN⟩:=bM.v;obtain⟨eP,fC,_,rfl,bO,cE⟩:=bN.ls;obtain⟨eQ,fD,_,rfl,bP,cF⟩:=bO.ls;obtain⟨eS,aO,_,rfl,bQ,cG⟩:=bP.ls;obtain⟨eT,fE,_,rfl,bR,cH⟩:=bQ.ls;obtain⟨dU,dW,_,rfl,aU,aW⟩:=bR.ls;obtain rfl:=aU.nl;obtain⟨_,rfl,bS⟩:=h2.v;obtain⟨_,rfl,bT⟩:=bS.v;obtain⟨fK,eU,fO,fF,_,rfl,bU,cI⟩:=bT.bt;obtain⟨_,rfl,bV⟩:=bU.v;obtain⟨_,rfl,bX⟩:=bV.v;obtain⟨_,rfl,bY⟩:=bX.v;obtain⟨eV,fG,_,rfl,bZ,cJ⟩:=bY.ls;obtain⟨eX,fH,_,rfl,cA,cK⟩:=bZ.ls;obtain⟨eY,aP,_,rfl,cB,cL⟩:=cA.ls;obtain⟨eZ,fI,_,rfl,cC,cM⟩:=cB.ls;obtain⟨dV,dX,_,rfl,aV,aX⟩:=cC.ls;obtain rfl:=aV.nl;have hs:∀ q∈r,gn q=21:=fun q hr=>by obtain⟨_,_,_,_,_,_,_,_,_,rfl,aQ,_⟩:=h q hr;rw[sR,aQ];rfl
 obtain⟨QQ,l1,m1,R1⟩:=cG.rw hs fX;obtain⟨_,l2,m2,R2⟩:=cL.rw hs fX;have HE:=U h;have aJ:=U fX;have HA:=U ha;have HD:=U hd;have HT:=U ht;have Px:=U R1;have Fj:=U R2;have dI:=U cD;have dM:=U cI;have dJ:=U cE;have dO:=U cJ;have dK:=U cF;have dP:=U cK;have dL:=U cH;have dQ:=U cM;have aZ:=U aW;have b6:=U aX;clear h ha hd ht hs R1 R2 fX h1 h2 bI bJ bK bL bM bN bO bP bQ bR aU bS bT bU bV bX bY bZ cA cB cC aV cD cE cF cG cH aW cI cJ cK cL cM aX;unfold rY;go_enter Tryz.func83,Tryz.ntmps83
 go_upto_region 1 with fail
 obtain⟨bF,e0,fL,C1,C2⟩:=BL w [.int .i64 (k),.string ⟨(n).toArray⟩,.bool fJ,.slice eO fN fA,.int .i64 (m),.int .u64 (b:Nat),.string ⟨(dZ).toArray⟩,.slice eP (strs ls).length fC,.slice eQ (a).length fD,.slice eS (r).length aO,.slice eT (d).length fE,.slice dU (t).length dW] [.int .i64 (k),.string ⟨(n).toArray⟩,.bool fK,.slice eU fO fF,.int .i64 (m),.int .u64 (b:Nat),.string ⟨(dZ).toArray⟩,.slice eV (strs ls).length fG,.slice eX (a).length fH,.slice eY (r).length aP,.slice eZ (d).length fI,.slice dV (t).length dX] 87;have x:=U fL;have f:=U C1;have l:=U C2;have aM:=U (eA bF.heap.size bF);rw[e0];clear e0 fL C1 C2;generalize (⟨(n).toArray⟩:ByteArray)=yn at f l⊢;generalize (⟨(dZ).toArray⟩:ByteArray)=yt at f l⊢;have OP:=f.out _ aM.out 2 _ rfl;have OQ:=f.out _ aM.out 3 _ rfl;have OR:=l.out _ aM.out 2 _ rfl;have OS:=l.out _ aM.out 3 _ rfl
 go_upto_region 2 with(go_at_call 84;refine(yJ aJ x dI dM).mono ?_;rintro e QR ⟨rfl,W⟩;have c:=U (ax aM W);have Qp:=U (ax x c);clear W)
 have OT:=f.out _ c.out 0 _ rfl;have OU:=l.out _ c.out 0 _ rfl;have OV:=f.out _ c.out 1 _ rfl;have OW:=l.out _ c.out 1 _ rfl;have OX:=f.out _ c.out 4 _ rfl;have OY:=l.out _ c.out 4 _ rfl;have OZ:=f.out _ c.out 5 _ rfl;have O0:=l.out _ c.out 5 _ rfl;have O1:=f.out _ c.out 6 _ rfl;have O2:=l.out _ c.out 6 _ rfl;have O3:=f.out _ c.out 9 _ rfl;have O4:=l.out _ c.out 9 _ rfl
 go_wp2_with fail
 go_loopg [6] r.length (fun g iv wr=>∃ i:Nat,iv=.int .i64 (i:Nat)/\g+i=r.length/\Hid (Below bF.heap.size bF wr))
 case atStart=>exact⟨0,rfl,O,c⟩
 case round=>
 obtain⟨i,rfl,QS,dR⟩:=hrel;have HB:=U (ax x dR);have O5:=f.out _ dR.out 9 _ rfl;have QT:=l.out _ dR.out 9 _ rfl
 by_cases hi:i<r.length
 ·have m_:(i:Int)<(r.length:Int):=O
  have bD:=fv hi;obtain⟨aC,aD,x2,aE,aF,aG,aH,aI,x8,fM,aQ,hk,he⟩:=HE.out _ (lk hi);rw[fM] at bD;obtain⟨eB,eD,Pv,rfl,q1,D1⟩:=Px.out i _ bD;obtain⟨eC,eE,Pw,rfl,q2,D2⟩:=Fj.out i _ bD;obtain⟨QU,Py,rfl,p1,e1⟩:=q1.parts;have eL:=U p1;obtain⟨_,rfl,cN⟩:=p1.v;obtain⟨_,rfl,cO⟩:=cN.v;obtain⟨o,y,s,I,_,rfl,cP,fP⟩:=cO.bt;obtain⟨_,rfl,cQ⟩:=cP.v;obtain⟨_,rfl,cR⟩:=cQ.v;obtain⟨A,J,_,rfl,cS,fQ⟩:=cR.ls;obtain⟨B,L,_,rfl,cT,fR⟩:=cS.ls;obtain⟨C,M,_,rfl,cU,fS⟩:=cT.ls;obtain rfl:=cU.nl;have bG:=e1.len.trans aQ;have eJ:=U e1;have eH:=U D1;obtain⟨QV,Pz,rfl,p2,e2⟩:=q2.parts;have eM:=U p2;obtain⟨_,rfl,cV⟩:=p2.v;obtain⟨_,rfl,cW⟩:=cV.v;obtain⟨p,D,u,N,_,rfl,cX,fT⟩:=cW.bt;obtain⟨_,rfl,cY⟩:=cX.v;obtain⟨_,rfl,cZ⟩:=cY.v;obtain⟨E,P,_,rfl,dA,fU⟩:=cZ.ls;obtain⟨G,Q,_,rfl,dB,fV⟩:=dA.ls;obtain⟨H,R,_,rfl,dC,fW⟩:=dB.ls;obtain rfl:=dC.nl;have bH:=e2.len.trans aQ;have eK:=U e2;have eI:=U D2;have eN:=U hk;have PA:=U he;clear q1 q2 D1 D2 bD fM hk he p1 p2 e1 e2 aQ cN cO cP cQ cR cS cT cU cV cW cX cY cZ dA dB dC fP fQ fR fS fT fU fV fW;have gB:=U bG;have PB:=U bH;clear bG bH;have aY:Hid (∀ eG,Below bF.heap.size bF eG->eG.cell? ⟨w.heap.size,9,none⟩=some (.slice (some ⟨eB,eD,none⟩) r.length aO)/\eG.cell? ⟨w.heap.size+1,9,none⟩=some (.slice (some ⟨eC,eE,none⟩) r.length aP)/\eG.rangeAt eB (eD+i*21) [.int .i64 aC,.string ⟨aD.toArray⟩,.bool o,.slice y s I,.int .i64 aE,.string ⟨aF.toArray⟩,.slice A (strs aG).length J,.slice B aH.length L,.slice C aI.length M]/\eG.rangeAt eC (eE+i*21) [.int .i64 aC,.string ⟨aD.toArray⟩,.bool p,.slice D u N,.int .i64 aE,.string ⟨aF.toArray⟩,.slice E (strs aG).length P,.slice G aH.length Q,.slice H aI.length R]):=U fun eG h=>⟨f.out _ h 9 _ rfl,l.out _ h 9 _ rfl,tW (eH.out _ (ax x h)),tW (eI.out _ (ax x h))⟩
  go_upto_region 7 with fail
  go_cut [7] from 67 to 81 (fun v eF=>v=.bool true/\Hid (Below bF.heap.size bF eF))
  case first=>
   refine b3 (S:=fun eF=>eF.cell? ⟨w.heap.size,9,none⟩=some (.slice (some ⟨eB,eD,none⟩) r.length aO)/\eF.cell? ⟨w.heap.size+1,9,none⟩=some (.slice (some ⟨eC,eE,none⟩) r.length aP)/\eF.rangeAt eB (eD+i*21) [.int .i64 aC,.string ⟨aD.toArray⟩,.bool o,.slice y s I,.int .i64 aE,.string ⟨aF.toArray⟩,.slice A (strs aG).length J,.slice B aH.length L,.slice C aI.length M]/\eF.rangeAt eC (eE+i*21) [.int .i64 aC,.string ⟨aD.toArray⟩,.bool p,.slice D u N,.int .i64 aE,.string ⟨aF.toArray⟩,.slice E (strs aG).length P,.slice G aH.length Q,.slice H aI.length R]) (T:=fun _=>false) aq ?_;have bA:=U dR.drew;have aA:=U HB.drew;generalize wr.drew=fY at bA aA⊢;have aK:=aY.out _ bA.out;refine tq 0 aK ?_;refine tq 1 aK ?_;refine tq 2 aK ?_;refine tq 3 aK ?_;refine tq 4 aK ?_;refine tq 5 (v:=.agg ([.int .i64 aC,.string ⟨aD.toArray⟩,.bool o,.slice y s I,.int .i64 aE,.string ⟨aF.toArray⟩,.slice A (strs aG).length J,.slice B aH.length L,.slice C aI.length M]).toArray) aK ?_ (hy:=yieldsIf_load_mid rfl 82 _ rfl eB (eD+i*21) rfl [.int .i64 aC,.string ⟨aD.toArray⟩,.bool o,.slice y s I,.int .i64 aE,.string ⟨aF.toArray⟩,.slice A (strs aG).length J,.slice B aH.length L,.slice C aI.length M] _ (fun w h=>h.2.2.1) Tryz.underlying82 rfl aq);refine tq 7 aK ?_;refine tq 8 aK ?_;refine tq 9 aK ?_;refine tq 10 aK ?_;refine tq 11 aK ?_;refine tq 12 (v:=.agg ([.int .i64 aC,.string ⟨aD.toArray⟩,.bool p,.slice D u N,.int .i64 aE,.string ⟨aF.toArray⟩,.slice E (strs aG).length P,.slice G aH.length Q,.slice H aI.length R]).toArray) aK ?_ (hy:=yieldsIf_load_mid rfl 82 _ rfl eC (eE+i*21) rfl [.int .i64 aC,.string ⟨aD.toArray⟩,.bool p,.slice D u N,.int .i64 aE,.string ⟨aF.toArray⟩,.slice E (strs aG).length P,.slice G aH.length Q,.slice H aI.length R] _ (fun w h=>h.2.2.2) Tryz.underlying82 rfl aq);have PC:=U (Me 82 (eL.on (Kb.of aA aJ) fun _ q=>q) (eM.on (Kb.of aA aJ) fun _ q=>q) fun b q=>gi (aJ.out b q) aA.size);have PD:=U (Me 82 (eM.on (Kb.of aA aJ) fun _ q=>q) (eL.on (Kb.of aA aJ) fun _ q=>q) fun b q=>gi (aJ.out b q) aA.size);refine gC (i:=6) (j:=13) aq rfl rfl (fun K hK=>?_) (fun K hK=>?_)
   ·go_simp;have aR:=ax bA (ab fY (.cells [.int .i64 aC,.string ⟨aD.toArray⟩,.bool o,.slice y s I,.int .i64 aE,.string ⟨aF.toArray⟩,.slice A (strs aG).length J,.slice B aH.length L,.slice C aI.length M].toArray 82));refine nx hK (aY.out _ aR) ?_;clear hK K;refine cw 13 fun K hK=>?_;go_simp;have aT:=ax aR (ab (fY.alloc (.cells [.int .i64 aC,.string ⟨aD.toArray⟩,.bool o,.slice y s I,.int .i64 aE,.string ⟨aF.toArray⟩,.slice A (strs aG).length J,.slice B aH.length L,.slice C aI.length M].toArray 82)) (.cells [.int .i64 aC,.string ⟨aD.toArray⟩,.bool p,.slice D u N,.int .i64 aE,.string ⟨aF.toArray⟩,.slice E (strs aG).length P,.slice G aH.length Q,.slice H aI.length R].toArray 82));refine nx hK (aY.out _ aT) ?_;clear hK K;obtain⟨fZ,i1,i2,dY⟩:=PC.out;refine cw 14 fun K hK=>?_;go_simp;refine(eN.out _ fZ _ _ i1 i2 dY).mono ?_;rintro e w2 ⟨rfl,W⟩;have aB:=ax aT W;refine nx hK (aY.out _ aB) ?_;clear hK K;refine tq 15 (aY.out _ aB) ?_;refine bj aq ?_ _
    go_wp2_with fail
    go_meet
    exact⟨rfl,U aB⟩
   ·go_simp;have aR:=ax bA (ab fY (.cells [.int .i64 aC,.string ⟨aD.toArray⟩,.bool p,.slice D u N,.int .i64 aE,.string ⟨aF.toArray⟩,.slice E (strs aG).length P,.slice G aH.length Q,.slice H aI.length R].toArray 82));refine nx hK (aY.out _ aR) ?_;clear hK K;refine cw 6 fun K hK=>?_;go_simp;have aT:=ax aR (ab (fY.alloc (.cells [.int .i64 aC,.string ⟨aD.toArray⟩,.bool p,.slice D u N,.int .i64 aE,.string ⟨aF.toArray⟩,.slice E (strs aG).length P,.slice G aH.length Q,.slice H aI.length R].toArray 82)) (.cells [.int .i64 aC,.string ⟨aD.toArray⟩,.bool o,.slice y s I,.int .i64 aE,.string ⟨aF.toArray⟩,.slice A (strs aG).length J,.slice B aH.length L,.slice C aI.length M].toArray 82));refine nx hK (aY.out _ aT) ?_;clear hK K;obtain⟨fZ,i1,i2,dY⟩:=PD.out;refine cw 14 fun K hK=>?_;go_simp;refine(eN.out _ fZ _ _ i2 i1 dY).mono ?_;rintro e w2 ⟨rfl,W⟩;have aB:=ax aT W;refine nx hK (aY.out _ aB) ?_;clear hK K;refine tq 15 (aY.out _ aB) ?_;refine bj aq ?_ _
    go_wp2_with fail
    go_meet
    exact⟨rfl,U aB⟩
  case rest=>
  obtain⟨rfl,bC⟩:=hcut;have dH:=U (ax x bC)
  go_upto_region 8 with fail
  have QW:=f.out _ bC.out 9 _ rfl;have QX:=l.out _ bC.out 9 _ rfl;refine wp_region_still_tail 12 aq aq ?_;simp only [List.take_succ_cons,List.take_zero,List.drop_succ_cons,List.drop_zero]
  iterate 5 still_step
  refine gD rfl 87 _ rfl eB (eD+i*21+9) rfl Py _ (r5 (eH.out _ dH.drew) rfl) Tryz.underlying87 rfl (by rw[gB.out];kernel_rfl) ?_
  iterate 5 still_step
  refine gD rfl 87 _ rfl eC (eE+i*21+9) rfl Pz _ (r5 (eI.out _ dH.drew) rfl) Tryz.underlying87 rfl (by rw[PB.out];kernel_rfl) ?_;refine wpStill_nil ?_;change wpList _ _ _ _ _ wc.drew;have bE:=U bC.drew;have aL:=U dH.drew;generalize wc.drew=O6 at bE aL⊢
  go_upto_region 9 with(go_at_call 83;refine(PA.at aJ.out aL eJ eK).mono ?_;rintro e Qq ⟨rfl,W⟩;have aN:=U (ax bE W);have gA:=U (ax x aN);clear W)
  go_wp2_with fail
  go_roundg (gk-1)
  case measure=>omega
  case rel=>exact⟨i+1,by first|rfl|(congr 1),O,U (by(repeat (first|with_reducible refine Below.drew ?_|with_reducible refine Below.drewN ?_ _));exact aN.out)⟩
 ·have m_:¬(i:Int)<(r.length:Int):=O
  have Of:=f.out _ dR.out 7 _ rfl;have Qr:=l.out _ dR.out 7 _ rfl
  go_wp2_with (first|(go_at_call 43;refine((om ls).at aJ.out HB dJ dO).mono ?_;rintro e Qs ⟨rfl,W⟩;have X:=U (ax dR W);have dD:=U (ax x X);clear W;have Qt:=f.out _ X.out 8 _ rfl;have Qu:=l.out _ X.out 8 _ rfl)|(go_at_call 45;refine(HA.at aJ.out dD dK dP).mono ?_;rintro e Qv ⟨rfl,W⟩;have Y:=U (ax X W);have dE:=U (ax x Y);clear W;have Oi:=f.out _ Y.out 10 _ rfl;have Oj:=l.out _ Y.out 10 _ rfl)|(go_at_call 8;refine(HD.at aJ.out dE dL dQ).mono ?_;rintro e Qw ⟨rfl,W⟩;have Z:=U (ax Y W);have dF:=U (ax x Z);clear W;have Qx:=f.out _ Z.out 11 _ rfl;have Qy:=l.out _ Z.out 11 _ rfl)|(go_at_call 46;refine(HT.at aJ.out dF aZ b6).mono ?_;rintro e Qz ⟨rfl,W⟩;have dS:=U (ax Z W);have dG:=U (ax x dS);clear W))
  refine bodyPost_ret (v:=.bool true) (by simp[results,Tryz.results83,go_sem]) rfl ⟨rfl,dG.out⟩
theorem Ld{f:A7}(bF:∀ nd∈f.l3,∃ n m c,nd=mkFun n m c/\oj 40 (mkFun n m c))(bE:∀ nd∈f.iG,∃ v m c,nd=mkData v m c/\oj 41 (mkData v m c))(bG:∀ nd∈f.sigs,∃ n a,nd=j1 n a/\jR 42 a)(hp:jR 44 f.oW)(he:jR 45 f.qz)(ht:jR 46 f.types)(hd:jR 8 f.dr)(gB:jR 42 f.specs):oj 16 (d_ f):=by
 intro w F H I h1 h2 bR;obtain⟨_,rfl,bX⟩:=h1.v;obtain⟨_,rfl,bY⟩:=bX.v;obtain⟨fA,fL,_,rfl,bZ,cR⟩:=bY.ls;obtain⟨_,rfl,cA⟩:=bZ.v;obtain⟨_,rfl,cB⟩:=cA.v;obtain⟨_,rfl,cC⟩:=cB.v;obtain⟨fC,fM,_,rfl,cD,cS⟩:=cC.ls;obtain⟨fD,fN,_,rfl,cE,cT⟩:=cD.ls;obtain⟨fE,fO,_,rfl,cF,cU⟩:=cE.ls;obtain⟨fF,fP,_,rfl,cG,cV⟩:=cF.ls;obtain⟨eE,eM,_,rfl,aB,aJ⟩:=cG.ls;obtain⟨eF,eN,_,rfl,aC,aK⟩:=aB.ls;obtain⟨eG,eO,_,rfl,aD,aL⟩:=aC.ls;obtain⟨eH,eP,_,rfl,aE,aM⟩:=aD.ls;obtain rfl:=aE.nl;obtain⟨_,rfl,cH⟩:=h2.v;obtain⟨_,rfl,cI⟩:=cH.v;obtain⟨fG,fQ,_,rfl,cJ,cW⟩:=cI.ls;obtain⟨_,rfl,cK⟩:=cJ.v;obtain⟨_,rfl,cL⟩:=cK.v;obtain⟨_,rfl,cM⟩:=cL.v;obtain⟨fH,fR,_,rfl,cN,cX⟩:=cM.ls;obtain⟨fI,fS,_,rfl,cO,cY⟩:=cN.ls;obtain⟨fJ,fT,_,rfl,cP,cZ⟩:=cO.ls;obtain⟨fK,fU,_,rfl,cQ,dA⟩:=cP.ls;obtain⟨eI,eQ,_,rfl,aF,aN⟩:=cQ.ls;obtain⟨eJ,eS,_,rfl,aG,aO⟩:=aF.ls;obtain⟨eK,eT,_,rfl,aH,aP⟩:=aG.ls;obtain⟨eL,eU,_,rfl,aI,aQ⟩:=aH.ls;obtain rfl:=aI.nl;obtain⟨QC,p8,m8,bM⟩:=cU.rw (s:=3) (fun q aA=>by obtain⟨_,_,_,rfl,_⟩:=bF q aA;rfl) bR;obtain⟨_,QD,QE,bO⟩:=cZ.rw (s:=3) (fun q aA=>by obtain⟨_,_,_,rfl,_⟩:=bF q aA;rfl) bR;obtain⟨QF,p9,m9,bN⟩:=cV.rw (s:=3) (fun q aA=>by obtain⟨_,_,_,rfl,_⟩:=bE q aA;rfl) bR;obtain⟨_,QG,QH,bP⟩:=dA.rw (s:=3) (fun q aA=>by obtain⟨_,_,_,rfl,_⟩:=bE q aA;rfl) bR;obtain⟨PK,QI,m12,X⟩:=aL.rw (s:=2) (fun q aA=>by obtain⟨_,_,rfl,_⟩:=bG q aA;rfl) bR;obtain⟨_,PO,PQ,Y⟩:=aP.rw (s:=2) (fun q aA=>by obtain⟨_,_,rfl,_⟩:=bG q aA;rfl) bR;have OL:=U bF;have OM:=U bE;have ON:=U bG;have HP:=U hp;have HE:=U he;have HT:=U ht;have HD:=U hd;have OO:=U gB;have aV:=U bR;have dR:=U bM;have dS:=U bN;have aW:=U X;have dW:=U cR;have dX:=U cS;have dY:=U cT;have aY:=U aJ;have aZ:=U aK;have b6:=U aM;have dU:=U bO;have dV:=U bP;have aX:=U Y;have dZ:=U cW;have eB:=U cX;have eC:=U cY;have bA:=U aN;have bC:=U aO;have bD:=U aQ;clear bF bE bG hp he ht hd gB bR h1 h2 bX bY bZ cA cB cC cD cE cF cG aB aC aD aE cH cI cJ cK cL cM cN cO cP cQ aF aG aH aI cR cS cT cU cV aJ aK aL aM cW cX cY cZ dA aN aO aP aQ bM bN X bO bP Y;unfold rY;go_enter Tryz.func16,Tryz.ntmps16
 go_upto_region 1 with fail
 obtain⟨bQ,e0,fZ,C1,C2⟩:=BL w [.int .i64 (f.kind),.string ⟨(f.name).toArray⟩,.slice fA (strs f.names).length fL,.int .i64 (f.n),.bool (f.right),.bool (f.qg),.slice fC (f.oW).length fM,.slice fD (f.qz).length fN,.slice fE (f.l3).length fO,.slice fF (f.iG).length fP,.slice eE (f.types).length eM,.slice eF (f.dr).length eN,.slice eG (f.sigs).length eO,.slice eH (f.specs).length eP] [.int .i64 (f.kind),.string ⟨(f.name).toArray⟩,.slice fG (strs f.names).length fQ,.int .i64 (f.n),.bool (f.right),.bool (f.qg),.slice fH (f.oW).length fR,.slice fI (f.qz).length fS,.slice fJ (f.l3).length fT,.slice fK (f.iG).length fU,.slice eI (f.types).length eQ,.slice eJ (f.dr).length eS,.slice eK (f.sigs).length eT,.slice eL (f.specs).length eU] 42;have l:=U fZ;have b:=U C1;have d:=U C2;have h:=U (eA bQ.heap.size bQ);rw[e0];clear e0 fZ C1 C2;generalize (⟨(f.name).toArray⟩:ByteArray)=yn at b d⊢;have OP:=b.out _ h.out 0 _ rfl;have OQ:=d.out _ h.out 0 _ rfl;have OR:=b.out _ h.out 1 _ rfl;have OS:=d.out _ h.out 1 _ rfl;have QJ:=b.out _ h.out 3 _ rfl;have QK:=d.out _ h.out 3 _ rfl;have QL:=b.out _ h.out 4 _ rfl;have OT:=d.out _ h.out 4 _ rfl;have OU:=b.out _ h.out 5 _ rfl;have OV:=d.out _ h.out 5 _ rfl;have OW:=b.out _ h.out 8 _ rfl;have OX:=d.out _ h.out 8 _ rfl;have OY:=b.out _ h.out 9 _ rfl;have OZ:=d.out _ h.out 9 _ rfl;have O0:=b.out _ h.out 12 _ rfl;have O1:=d.out _ h.out 12 _ rfl
 go_wp2_with fail
 go_loopg [5] f.l3.length (fun g iv wr=>∃ i:Nat,iv=.int .i64 (i:Nat)/\g+i=f.l3.length/\Hid (Below bQ.heap.size bQ wr))
 case atStart=>exact⟨0,rfl,O,h⟩
 case round=>
 obtain⟨bU,rfl,gA,E⟩:=hrel;have L:=U (ax l E);have O2:=b.out _ E.out 8 _ rfl;have O3:=d.out _ E.out 8 _ rfl
 by_cases bS:bU<f.l3.length
 ·have Z:(bU:Int)<(f.l3.length:Int):=O
  have j:=fv bS;obtain⟨x0,x1,x2,B,bT⟩:=OL.out _ (lk bS);rw[B] at j;obtain⟨eV,eY,H,rfl,aT,bH⟩:=dR.out bU _ j;obtain⟨eX,eZ,I,rfl,aU,bI⟩:=dU.out bU _ j;have z:=aT.len;have dP:=U aT;have C:=U bH;have dM:Hid (H.length=3):=U z;have A:=aU.len;have dQ:=U aU;have D:=U bI;have dO:Hid (I.length=3):=U A;have W:=U bT;clear aT aU bH bI j B bT z A
  go_upto_region 6 with fail
  have O4:=b.out _ E.out 8 _ rfl;have O5:=d.out _ E.out 8 _ rfl;refine wp_region_still_tail 10 aq aq ?_;simp only [List.take_succ_cons,List.take_zero,List.drop_succ_cons,List.drop_zero]
  iterate 4 still_step
  refine gD rfl 45 _ rfl eV (eY+bU*3) rfl H _ (C.out _ L.drew) Tryz.underlying45 rfl (by rw[dM.out];kernel_rfl) ?_
  iterate 4 still_step
  refine gD rfl 45 _ rfl eX (eZ+bU*3) rfl I _ (D.out _ L.drew) Tryz.underlying45 rfl (by rw[dO.out];kernel_rfl) ?_;refine wpStill_nil ?_;change wpList _ _ _ _ _ wr.drew;have bK:=U E.drew;have bJ:=U L.drew;generalize wr.drew=QM at bK bJ⊢
  go_upto_region 7 with(go_at_call 40;refine(W.at aV.out bJ dP dQ).mono ?_;rintro e O6 ⟨rfl,k⟩;have bL:=U (ax bK k);have O7:=U (ax l bL);clear k)
  go_wp2_with fail
  go_roundg (gk-1)
  case measure=>omega
  case rel=>exact⟨bU+1,by first|rfl|(congr 1),O,U (by(repeat (first|with_reducible refine Below.drew ?_|with_reducible refine Below.drewN ?_ _));exact bL.out)⟩
 ·have Z:¬(bU:Int)<(f.l3.length:Int):=O
  go_wp2_with fail
  go_loopg [7] f.iG.length (fun g iv wr=>∃ i:Nat,iv=.int .i64 (i:Nat)/\g+i=f.iG.length/\Hid (Below bQ.heap.size bQ wr))
  case atStart=>exact⟨0,rfl,O,E⟩
  case round=>
  obtain⟨bV,rfl,gA,G⟩:=hrel;have M:=U (ax l G);have PT:=b.out _ G.out 9 _ rfl;have PU:=d.out _ G.out 9 _ rfl
  by_cases bS:bV<f.iG.length
  ·have Z:(bV:Int)<(f.iG.length:Int):=O
   have j:=fv bS;obtain⟨x0,x1,x2,B,bT⟩:=OM.out _ (lk bS);rw[B] at j;obtain⟨eV,eY,H,rfl,aT,bH⟩:=dS.out bV _ j;obtain⟨eX,eZ,I,rfl,aU,bI⟩:=dV.out bV _ j;have z:=aT.len;have dP:=U aT;have C:=U bH;have dM:Hid (H.length=3):=U z;have A:=aU.len;have dQ:=U aU;have D:=U bI;have dO:Hid (I.length=3):=U A;have W:=U bT;clear aT aU bH bI j B bT z A
   go_upto_region 12 with fail
   have PV:=b.out _ G.out 9 _ rfl;have Of:=d.out _ G.out 9 _ rfl;refine wp_region_still_tail 10 aq aq ?_;simp only [List.take_succ_cons,List.take_zero,List.drop_succ_cons,List.drop_zero]
   iterate 4 still_step
   refine gD rfl 92 _ rfl eV (eY+bV*3) rfl H _ (C.out _ M.drew) Tryz.underlying92 rfl (by rw[dM.out];kernel_rfl) ?_
   iterate 4 still_step
   refine gD rfl 92 _ rfl eX (eZ+bV*3) rfl I _ (D.out _ M.drew) Tryz.underlying92 rfl (by rw[dO.out];kernel_rfl) ?_;refine wpStill_nil ?_;change wpList _ _ _ _ _ wr.drew;have R:=U G.drew;have N:=U M.drew;generalize wr.drew=PW at R N⊢
   go_upto_region 13 with(go_at_call 41;refine(W.at aV.out N dP dQ).mono ?_;rintro e PX ⟨rfl,k⟩;have S:=U (ax R k);have O8:=U (ax l S);clear k)
   go_wp2_with fail
   go_roundg (gk-1)
   case measure=>omega
   case rel=>exact⟨bV+1,by first|rfl|(congr 1),O,U (by(repeat (first|with_reducible refine Below.drew ?_|with_reducible refine Below.drewN ?_ _));exact S.out)⟩
  ·have Z:¬(bV:Int)<(f.iG.length:Int):=O
   go_wp2_with fail
   go_loopg [9] f.sigs.length (fun g iv wr=>∃ i:Nat,iv=.int .i64 (i:Nat)/\g+i=f.sigs.length/\Hid (Below bQ.heap.size bQ wr))
   case atStart=>exact⟨0,rfl,O,G⟩
   case round=>
   obtain⟨aR,rfl,gA,y⟩:=hrel;have J:=U (ax l y);have PY:=b.out _ y.out 12 _ rfl;have PZ:=d.out _ y.out 12 _ rfl
   by_cases bS:aR<f.sigs.length
   ·have Z:(aR:Int)<(f.sigs.length:Int):=O
    have j:=fv bS;obtain⟨x0,x1,B,bT⟩:=ON.out _ (lk bS);rw[B] at j;obtain⟨eV,eY,H,rfl,aT,bH⟩:=aW.out aR _ j;obtain⟨eX,eZ,I,rfl,aU,bI⟩:=aX.out aR _ j;obtain⟨_,rfl,dB⟩:=aT.v;obtain⟨fV,fX,_,rfl,Og,dD⟩:=dB.ls;have O9:=U dD;have C:=U bH;obtain⟨_,rfl,dC⟩:=aU.v;obtain⟨fW,fY,_,rfl,Oh,dE⟩:=dC.ls;have O_:=U dE;have D:=U bI;have W:=U bT;clear aT aU bH bI j B bT dB Og dC Oh dD dE;generalize (⟨x0.toArray⟩:ByteArray)=y0 at C D
    go_upto_region 18 with fail
    have P0:=b.out _ y.out 12 _ rfl;have Oi:=d.out _ y.out 12 _ rfl;have Oj:wr.cell? ⟨eV,eY+aR*2+1,none⟩=some (.slice fV x1.length fX):=C.out _ J.out 1 _ rfl;have P1:wr.cell? ⟨eX,eZ+aR*2+1,none⟩=some (.slice fW x1.length fY):=D.out _ J.out 1 _ rfl
    go_still_tail 12,aq
    change wpList _ _ _ _ _ wr.drew;have T:=U y.drew;have P:=U J.drew;generalize wr.drew=P2 at T P⊢
    go_upto_region 19 with(go_at_call 42;refine(W.at aV.out P O9 O_).mono ?_;rintro e dF ⟨rfl,k⟩;have o:=U (ax T k);have Q:=U (ax l o);clear k)
    have P3:=b.out _ o.out 12 _ rfl;have P4:=d.out _ o.out 12 _ rfl;have P5:dF.cell? ⟨eV,eY+aR*2,none⟩=some (.string y0):=C.out _ Q.out 0 _ rfl;have P6:dF.cell? ⟨eX,eZ+aR*2,none⟩=some (.string y0):=D.out _ Q.out 0 _ rfl
    go_quiet (fail)
    go_wp2_with fail
    go_roundg (gk-1)
    case measure=>omega
    case rel=>exact⟨aR+1,by first|rfl|(congr 1),O,U (by(repeat (first|with_reducible refine Below.drew ?_|with_reducible refine Below.drewN ?_ _));exact o.out)⟩
   ·have Z:¬(aR:Int)<(f.sigs.length:Int):=O
    have P7:=b.out _ y.out 2 _ rfl;have P8:=d.out _ y.out 2 _ rfl
    go_wp2_with (first|(go_at_call 43;refine((om f.names).at aV.out J dW dZ).mono ?_;rintro e P9 ⟨rfl,k⟩;have p:=U (ax y k);have dG:=U (ax l p);clear k;have P_:=b.out _ p.out 6 _ rfl;have Qa:=d.out _ p.out 6 _ rfl)|(go_at_call 44;refine(HP.at aV.out dG dX eB).mono ?_;rintro e Qb ⟨rfl,k⟩;have r:=U (ax p k);have dH:=U (ax l r);clear k;have Qc:=b.out _ r.out 7 _ rfl;have Qd:=d.out _ r.out 7 _ rfl)|(go_at_call 45;refine(HE.at aV.out dH dY eC).mono ?_;rintro e Qe ⟨rfl,k⟩;have t:=U (ax r k);have dI:=U (ax l t);clear k;have Qf:=b.out _ t.out 10 _ rfl;have Qg:=d.out _ t.out 10 _ rfl)|(go_at_call 46;refine(HT.at aV.out dI aY bA).mono ?_;rintro e Qh ⟨rfl,k⟩;have u:=U (ax t k);have dJ:=U (ax l u);clear k;have Qi:=b.out _ u.out 11 _ rfl;have Qj:=d.out _ u.out 11 _ rfl)|(go_at_call 8;refine(HD.at aV.out dJ aZ bC).mono ?_;rintro e Qk ⟨rfl,k⟩;have x:=U (ax u k);have dK:=U (ax l x);clear k;have Ql:=b.out _ x.out 13 _ rfl;have Qm:=d.out _ x.out 13 _ rfl)|(go_at_call 42;refine(OO.at aV.out dK b6 bD).mono ?_;rintro e Qn ⟨rfl,k⟩;have eD:=U (ax x k);have dL:=U (ax l eD);clear k))
    refine bodyPost_ret (v:=.bool true) (by simp[results,Tryz.results16,go_sem]) rfl ⟨rfl,dL.out⟩
def O':Kd->Nd->Prop
 |.ty,nd=>∃ k n a ls,nd=ho k n a ls/\jR 46 a
 |.pat,nd=>∃ k n z m tx ls a b,nd=c_ k n z m tx ls a b/\jR 44 a/\jR 46 b
 |.exp,nd=>∃ k n z m b tx ls a r d t,nd=b9 k n z m b tx ls a r d t/\oj 83 (b9 k n z m b tx ls a r d t)
 |.jV,nd=>∃ k n z m tx ls a b e,nd=c_ k n z m tx ls a b++e/\gn e=12/\jR 44 [c_ k n z m tx ls a b]/\oj 83 e
 |.clause,nd=>∃ a e,nd=gz a e/\gn e=12/\jR 44 a/\oj 83 e
 |.fn,nd=>∃ n m c,nd=mkFun n m c/\oj 40 (mkFun n m c)
 |.o3,nd=>∃ n a,nd=qS n a/\jR 46 a
 |.data,nd=>∃ v m c,nd=mkData v m c/\oj 41 (mkData v m c)
 |.sig,nd=>∃ n a,nd=j1 n a/\jR 42 a
 |.spec,nd=>∃ k n v m c t,nd=fl k n (mkData v m c) t/\oj 41 (mkData v m c)/\jR 46 t
 |.dec,nd=>∃ f,nd=d_ f/\oj 16 (d_ f)
theorem GJ{k:Kd}{j:Nd}(h:Wf k j):O' k j:=by
 induction h with
 |ty _ c=>exact⟨_,_,_,_,rfl,sS _ c⟩
 |pat _ _ a b=>exact⟨_,_,_,_,_,_,_,_,rfl,uz _ a,sS _ b⟩
 |exp _ _ _ _ a b g i=>exact⟨_,_,_,_,_,_,_,_,_,_,_,rfl,Lf b (BM _ a) (wy _ g) (sS _ i)⟩
 |jV _ _ a b=>
  obtain⟨_,_,_,_,_,_,_,_,rfl,e,f⟩:=a;obtain⟨_,_,_,_,_,_,_,_,_,_,_,rfl,d⟩:=b;refine⟨_,_,_,_,_,_,_,_,_,rfl,rfl,uz _ fun j q=>?_,d⟩
  rcases List.mem_singleton.1 q with rfl
  exact⟨_,_,_,_,_,_,_,_,rfl,e,f⟩
 |clause _ _ a b=>
  obtain⟨_,_,_,_,_,_,_,_,_,_,_,rfl,d⟩:=b;exact⟨_,_,rfl,rfl,uz _ a,d⟩
 |fn _ c=>exact⟨_,_,_,rfl,MZ c⟩
 |o3 _ c=>exact⟨_,_,rfl,sS _ c⟩
 |data _ c=>exact⟨_,_,_,rfl,Jx c⟩
 |sig _ c=>exact⟨_,_,rfl,BN _ c⟩
 |spec _ _ a b=>
  obtain⟨_,_,_,rfl,d⟩:=a;exact⟨_,_,_,_,_,_,rfl,d,sS _ b⟩
 |dec _ _ _ _ _ _ _ _ e f d l m n o p=>exact⟨_,rfl,Ld d l o (uz _ e) (BM _ f) (sS _ m) (wy _ n) (BN _ p)⟩
theorem DF{l:List Nd}(h:∀ x,x∈l->Wf .dec x):jR 8 l:=wy _ fun x a=>GJ (h x a)
end Go.Proofs.YtkblonfmjlopaaaGreatDoor
