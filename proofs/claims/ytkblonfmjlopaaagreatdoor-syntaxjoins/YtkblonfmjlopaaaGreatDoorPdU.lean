/-
  The library's decimal: shift to the right, walked.
-/
import Derived.Test.YtkblonfmjlopaaaGreatDoorPdL
set_option linter.all false
set_option maxRecDepth 1000000
set_option maxHeartbeats 16000000
namespace Go.Proofs.YtkblonfmjlopaaaGreatDoor
open Go Go.RowKit
variable {f:Bool}{N b k a x:Nat}{cs:Nat->ByteArray}{cd:Nat->Nat}{S:Sd}{w:World}
theorem Kz(N k:Nat):((N:Int)/2^k)=((N/2^k:Nat):Int):=by push_cast;rfl
theorem NA(h:N<2^k):((N:Int)/2^k==0)=true:=by
 rw[Kz,Nat.div_eq_of_lt h];rfl
theorem NB(h:2^k<=N):((N:Int)/2^k==0)=false:=by
 have:=Nat.div_pos h (je (n:=k) (show 0<2 from O));rw[Kz];generalize N/2^k=q at*;simp;omega
theorem xL{P:Nat}(a:P=2^k)(c:k<=60)(d:N<18446744073709551616):bits BinOp.and IntKind.u64 (N:Int) ((P:Int)-1)=((N%P:Nat):Int):=by
 have b:2^k<=2^60:=nV O c;have e:0<2^k:=je O;have h:=bits_and_u64_nat N (P-1) O O;rw[a,Nat.and_two_pow_sub_one_eq_mod,<-a] at h;rw[show((P:Int)-1)=((P-1:Nat):Int) by omega];exact h
theorem CX(b:Nat)(D:Nat->Nat)(c k R J:Nat)(aH:Int)(f E:Bool)(w:World)
 (M:k<=60) (cU:gG ⟨D,c,aH,E⟩) (cW:FY k ⟨D,c,aH,E⟩ R J) (h:Dc w b D c aH f E):
 Calls Tryz.prog 247 #[.pointer (some ⟨b,0,none⟩),.int .u64 (k:Nat)] w fun e u=>e=.returned (.tuple #[])/\
  Dw w b u (rE D (ext D c) k R J) (iF (rE D (ext D c) k R J) (min J 800)) (IntKind.i64.wrap (aH-IntKind.i64.wrap ((R:Nat)-1))) f (rT (ext D c) k R E J):=by
 obtain⟨aT,cT,b6,aD⟩:=cU;obtain⟨dQ,dR,bR,bJ,bF,cX,cY,z,bS⟩:=cW;dsimp only at aT cT b6 aD bR bJ bF cX cY z bS;have bV:=fun m=>n8 b6 m
 have cK:0<J:=by
  rcases J with _|J
  ·have dP:0<(2:Nat)^k:=je O;rw[rn] at z;omega
  ·omega
 have aZ:=U bV;have bA:=U b6;have bC:=U aD;have X:=U bR;have W:=U bJ;have aJ:=U bF;have cB:=U z;have bE:=U bS;have bD:=U h;have aB:=h.n;have fr:=h.fr;clear bV b6 aD bR bJ bF z bS h;obtain⟨r,x⟩:∃ d,IntKind.i64.wrap (aH-IntKind.i64.wrap ((R:Nat)-1))=d:=⟨_,rfl⟩;rw[x];have bG:IntKind.i64.wrap ((R:Int)-1)=(R:Int)-1:=gv _ O;rw[bG] at x;have S:wrap64 (aH-((R:Int)-1))=r:=by rw[<-Ai];exact x
 go_enter Tryz.func247,Tryz.ntmps247
 go_upto_block 0 with fail
 go_cut [4,6] from 12 to 48 (fun aF I aX=>aF=.int .i64 (R:Nat)/\I=.int .u64 (cq (ext D c) R:Nat)/\∃ q,aX=w.drewN q)
 case first=>
  go_wp2_with fail
  go_loopg [4,6] R (fun g aF I wr=>∃ j:Nat,g+j=R/\j<=c/\aF=.int .i64 (j:Nat)/\I=.int .u64 (cq (ext D c) j:Nat)/\∃ q,wr=w.drewN q)
  case atStart=>exact⟨0,rfl,O,rfl,rfl,0,rfl⟩
  case round=>
   obtain⟨j,aO,cS,rfl,rfl,q,rfl⟩:=hrel
   rcases gk with _|g
   ·obtain rfl:j=R:=O
    have n:=NB X
    go_wp2_with fail
    go_meet
    exact⟨rfl,rfl,_,rfl⟩
   ·have bL:j<R:=O
    have H:=aJ.out j bL;have n:=NA H;have aQ:2^k<=2^60:=nV O M
    by_cases cQ:j=c
    ·subst cQ
     have cL:1<=cq (ext D j) j:=by
      obtain⟨m,rfl⟩:∃ m,j=1+m:=⟨j-1,O⟩;have dI:=(jt (D:=ext D (1+m)) (a:=1) (j:=m) (aZ.out _)).1
      have bH:1<=cq (ext D (1+m)) 1:=by
       have dM:=bA.out 0 O;have dO:=bC.out;simp[cq,p6 aT];omega
      have dJ:=jX (10^m) bH;have dK:0<10^m:=je O;omega
     have cZ:((cq (ext D j) j:Int)==0)=false:=b1
     go_wp2_with fail
     go_loopg [4,6] (g+1) (fun g aF I wr=>∃ i:Nat,g+i=R/\j<=i/\aF=.int .i64 (i:Nat)/\I=.int .u64 (cq (ext D j) i:Nat)/\∃ q,wr=w.drewN q)
     case atStart=>exact⟨j,O,Nat.le_refl _,rfl,rfl,_,rfl⟩
     case round=>
      obtain⟨i,cP,bM,rfl,rfl,q,rfl⟩:=hrel;clear n cZ
      rcases gk with _|bH
      ·obtain rfl:i=R:=O
       have n:=NB X
       go_wp2_with fail
       go_meet
       exact⟨rfl,rfl,_,rfl⟩
      ·have bK:i<R:=O
       have H:=aJ.out i bK;have n:=NA H
       have Q:cq (ext D j) (i+1)=cq (ext D j) i*10:=by
        rw[cq,rv bM];omega
       have cE:IntKind.u64.wrap ((cq (ext D j) i:Int)*10)=(cq (ext D j) (i+1):Nat):=by rw[gN _ O];omega
       have bU:R<=61:=O
       have dA:=U Q;clear Q
       go_wp2_with fail
       go_roundg bH
       case measure=>omega
       case rel=>exact⟨i+1,O,O,by first|rfl|exact congrArg (Value.int .i64) O,rfl,_,rfl⟩
    ·have aP:j<c:=O
     have c2:=bD.arr j O;have cN:=bA.out j aP;obtain⟨t,G⟩:∃ t,D j=t+48:=⟨D j-48,O⟩
     have Q:cq (ext D c) (j+1)=cq (ext D c) j*10+t:=by
      rw[cq,p6 aP];omega
     rw[G] at c2;have bQ:t<=9:=O
     have bX:¬(c:Int)<=(j:Int):=O
     have aE:(j:Int)<800:=O
     obtain⟨N,v⟩:∃ N,cq (ext D c) j=N:=⟨_,rfl⟩;obtain⟨Y,p⟩:∃ N,cq (ext D c) (j+1)=N:=⟨_,rfl⟩;rw[v,p] at Q;rw[v] at H n;have dC:IntKind.u64.wrap ((t:Int)+48)=(t:Int)+48:=gN _ O;have cE:IntKind.u64.wrap ((N:Int)*10)=(N:Int)*10:=gN _ O;have dD:IntKind.u64.wrap ((N:Int)*10+((t:Int)+48))=(N:Int)*10+((t:Int)+48):=gN _ O;have dE:IntKind.u64.wrap ((N:Int)*10+((t:Int)+48)-48)=(Y:Int):=by rw[gN _ O];omega
     have A:=U p;rw[v];clear v p Q G
     go_wp2_with fail
     go_roundg g
     case measure=>omega
     case rel=>exact⟨j+1,O,O,by first|rfl|exact congrArg (Value.int .i64) O,by rw[A.out],_,rfl⟩
 case rest=>
 obtain⟨rfl,rfl,q,rfl⟩:=hcut;have aC:=bD.p;have aQ:2^k<=2^60:=nV O M;have cV:0<2^k:=je O;obtain⟨P,bI⟩:∃ P,P=2^k:=⟨_,rfl⟩;have aA:(2:Int)^k=(P:Int):=by rw[bI];push_cast;rfl
 have m1:IntKind.u64.wrap ((2:Int)^k)=(P:Int):=by rw[aA];exact gN _ O
 have m2:IntKind.u64.wrap ((P:Int)-1)=(P:Int)-1:=gN _ O;have aY:=U bI;have cA:=U aA;have bT:P<=2^60:=O
 have aM:0<P:=O
 clear bI aA
 go_upto_block 4 with fail
 go_cut [5,6] from 61 to 96 (fun aG I aX=>aG=.int .i64 ((c-R:Nat):Int)/\I=.int .u64 (rn (ext D c) k R (c-R):Nat)/\Dw w b aX (rE D (ext D c) k R (c-R)) c r f (rT (ext D c) k R E (c-R)))
 case first=>
  clear m1 m2 x S bG aB aC fr
  go_wp2_with fail
  go_loopg [4,5,6] (c-R) (fun g aF aG I wr=>∃ j:Nat,g+j=c-R/\aF=.int .i64 ((R+j:Nat):Int)/\aG=.int .i64 (j:Nat)/\I=.int .u64 (rn (ext D c) k R j:Nat)/\Dw w b wr (rE D (ext D c) k R j) c r f (rT (ext D c) k R E j))
  case atStart=>exact⟨0,O,congrArg (Value.int .i64) O,rfl,rfl,(bD.a6 (dN _ _ q)).pC rfl,(dN b w q).setCell (Nat.le_refl b) _⟩
  case round=>
   obtain⟨j,aO,rfl,rfl,rfl,o⟩:=hrel;have l:=o.dc;have cD:=l.n;have aL:=l.fr
   rcases gk with _|g
   ·obtain rfl:j=c-R:=O
    have cO:¬((R+(c-R):Nat):Int)<(c:Int):=O
    go_wp2_with fail
    go_meet
    exact⟨rfl,rfl,o⟩
   ·have H:((R+j:Nat):Int)<(c:Int):=O
    have bY:(R:Int)+(j:Int)<(c:Int):=O
    have c2:=l.arr (R+j) O;rw[zc O] at c2;have cN:=bA.out (R+j) O;obtain⟨t,G⟩:∃ t,D (R+j)=t+48:=⟨D (R+j)-48,O⟩;rw[G] at c2;have bQ:t<=9:=O
    have cC:=l.arr j O;have aE:(j:Int)<800:=O
    have cM:(R:Int)+(j:Int)<800:=O
    have Z:=CT aZ W j;obtain⟨N,v⟩:∃ N,rn (ext D c) k R j=N:=⟨_,rfl⟩;obtain⟨Y,p⟩:∃ N,rn (ext D c) k R (j+1)=N:=⟨_,rfl⟩;obtain⟨n,B⟩:∃ q,N/2^k=q:=⟨_,rfl⟩;obtain⟨C,s⟩:∃ m,N%P=m:=⟨_,rfl⟩;rw[v] at Z
    have Q:Y=C*10+t:=by
     rw[<-p,rn,v,<-s,aY.out];rw[p6 (show R+j<c from O),G];omega
    have bP:n<=9:=by
     have:N/2^k<10:=sY O;omega
    have aR:C<P:=by rw[<-s];exact sZ _ aM
    have cF:(N:Int)/2^k=(n:Int):=by rw[Kz,B]
    have cG:bits BinOp.and IntKind.u64 (N:Int) ((P:Int)-1)=(C:Int):=by rw[xL aY.out M O,s]
    have cH:IntKind.u64.wrap ((n:Int)+48)=(n:Int)+48:=gN _ O;have cI:((n:Int)+48)%256=(n:Int)+48:=O
    have cJ:IntKind.u64.wrap ((C:Int)*10)=(C:Int)*10:=gN _ O;have dF:IntKind.u64.wrap ((t:Int)+48)=(t:Int)+48:=gN _ O;have dG:IntKind.u64.wrap ((C:Int)*10+((t:Int)+48))=(C:Int)*10+((t:Int)+48):=gN _ O;have dH:IntKind.u64.wrap ((C:Int)*10+((t:Int)+48)-48)=(Y:Int):=by rw[gN _ O];omega
    have A:=U p
    have L:Hid (∀ u,Dw w b u (if j<800 then jG (rE D (ext D c) k R j) j (n+48) else rE D (ext D c) k R j) c r f (if j<800 then rT (ext D c) k R E j else if 0<n then true else rT (ext D c) k R E j)->Dw w b u (rE D (ext D c) k R (j+1)) c r f (rT (ext D c) k R E (j+1))):=U (by
     intro u F;unfold rE rT;rw[v,B]
     exact F)
    have y:=U (fun u=>by have:=L.out u;rw[if_pos (show j<800 from O),if_pos (show j<800 from O)] at this;exact this);rw[v];clear L v p B s Q G
    go_wp2_with fail
    go_roundg g
    case measure=>omega
    case rel=>exact⟨j+1,O,congrArg (Value.int .i64) O,congrArg (Value.int .i64) O,by rw[A.out],y.out _ ⟨l.xI O O,o.bl.setCell (Nat.le_refl _) _⟩⟩
 case rest=>
 obtain⟨rfl,rfl,aN⟩:=hcut
 go_upto_block 6 with fail
 go_cut [5] from 97 to 123 (fun aG aX=>aG=.int .i64 ((min J 800:Nat):Int)/\Dw w b aX (rE D (ext D c) k R J) c r f (rT (ext D c) k R E J))
 case first=>
  clear x S bG aB aC fr
  go_wp2_with fail
  go_loopg [5,6] (J-(c-R)) (fun g aG I wr=>∃ j:Nat,g+j=J/\c-R<=j/\aG=.int .i64 ((min j 800:Nat):Int)/\I=.int .u64 (rn (ext D c) k R j:Nat)/\Dw w b wr (rE D (ext D c) k R j) c r f (rT (ext D c) k R E j))
  case atStart=>exact⟨c-R,O,Nat.le_refl _,congrArg (Value.int .i64) O,rfl,aN⟩
  case round=>
   obtain⟨j,aO,cR,rfl,rfl,o⟩:=hrel;have l:=o.dc;have dB:=l.t;have aL:=l.fr
   rcases gk with _|g
   ·obtain rfl:j=J:=O
    rw[cB.out]
    go_wp2_with fail
    go_meet
    exact⟨rfl,o⟩
   ·have bN:=bE.out j O O;have Z:=CT aZ W j;obtain⟨N,v⟩:∃ N,rn (ext D c) k R j=N:=⟨_,rfl⟩;obtain⟨Y,p⟩:∃ N,rn (ext D c) k R (j+1)=N:=⟨_,rfl⟩;obtain⟨n,B⟩:∃ q,N/2^k=q:=⟨_,rfl⟩;obtain⟨C,s⟩:∃ m,N%P=m:=⟨_,rfl⟩;rw[v] at Z
    have Q:Y=C*10+0:=by
     rw[<-p,rn,v,<-s,aY.out];rw[rv (show c<=R+j from O)]
    have bP:n<=9:=by
     have:N/2^k<10:=sY O;omega
    have aR:C<P:=by rw[<-s];exact sZ _ aM
    have cF:(N:Int)/2^k=(n:Int):=by rw[Kz,B]
    have cG:bits BinOp.and IntKind.u64 (N:Int) ((P:Int)-1)=(C:Int):=by rw[xL aY.out M O,s]
    have cH:IntKind.u64.wrap ((n:Int)+48)=(n:Int)+48:=gN _ O;have cI:((n:Int)+48)%256=(n:Int)+48:=O
    have cJ:IntKind.u64.wrap ((C:Int)*10)=(C:Int)*10:=gN _ O;have A:=U p
    have L:Hid (∀ u,Dw w b u (if j<800 then jG (rE D (ext D c) k R j) j (n+48) else rE D (ext D c) k R j) c r f (if j<800 then rT (ext D c) k R E j else if 0<n then true else rT (ext D c) k R E j)->Dw w b u (rE D (ext D c) k R (j+1)) c r f (rT (ext D c) k R E (j+1))):=U (by
     intro u F;unfold rE rT;rw[v,B]
     exact F)
    rw[v] at bN;have dL:(0:Int)<N:=O
    rw[v];have aV:(C:Int)*10=(Y:Int):=O
    have T:=U aV;clear v p B s Q aV
    by_cases aI:j<800
    ·have y:=U (fun u=>by have:=L.out u;rw[if_pos aI,if_pos aI] at this;exact this);clear L;have aK:min j 800=j:=O
     rw[aK];clear aK;have aE:(j:Int)<800:=O
     have cC:=l.arr j O
     go_wp2_with fail
     go_roundg g
     case measure=>omega
     case rel=>exact⟨j+1,O,O,congrArg (Value.int .i64) O,by rw[T.out,A.out],y.out _ ⟨l.xI O O,o.bl.setCell (Nat.le_refl _) _⟩⟩
    ·have aK:min j 800=800:=O
     rw[aK];clear aK;have aE:¬(j:Int)<800:=O
     by_cases aU:0<n
     ·have y:=U (fun u=>by have:=L.out u;rw[if_neg aI,if_neg aI,if_pos aU] at this;exact this);clear L;have bO:(0:Int)<n:=O
      go_wp2_with fail
      go_roundg g
      case measure=>omega
      case rel=>exact⟨j+1,O,O,congrArg (Value.int .i64) O,by rw[T.out,A.out],y.out _ ⟨l.EC true,o.bl.setCell (Nat.le_refl _) _⟩⟩
     ·have y:=U (fun u=>by have:=L.out u;rw[if_neg aI,if_neg aI,if_neg aU] at this;exact this);clear L;have bO:¬(0:Int)<n:=O
      go_wp2_with fail
      go_roundg g
      case measure=>omega
      case rel=>exact⟨j+1,O,O,congrArg (Value.int .i64) O,by rw[T.out,A.out],y.out _ ⟨l,o.bl⟩⟩
 case rest=>
 obtain⟨rfl,o⟩:=hcut;have l:=o.dc;have cD:=l.n;have aL:=l.fr
 have aW:rE D (ext D c) k R J 0≠48:=by
  rw[zf aZ.out W.out cK];have:0<cq (ext D c) R/2^k:=Nat.div_pos X (je O);omega
 have bZ:=mH aW (min J 800) O;clear aB aC fr
 go_wp2_with fail
 refine(qN b (rE D (ext D c) k R J) (min J 800) r f (rT (ext D c) k R E J) _ O ?_).mono ?_
 ·exact l.pA rfl
 ·rintro e u ⟨rfl,F⟩;rw[if_neg O] at F
  go_wp2_with fail
  go_end0;refine⟨rfl,?_⟩;exact Dw.trans ⟨l.pA rfl,o.bl.setCell (aw _) _⟩ F
structure Tb(cd:Nat->Nat)(cs:Nat->ByteArray)(x a b:Nat)(w:World):Prop where
 lo:16<b
 lx:x<b
 g0:w.cell? ⟨16,0,none⟩=some (.slice (some ⟨x,a,none⟩) 61 61)
 g1:∀ k,k<=60->w.cell? ⟨x,a+k*2,none⟩=some (.int .i64 (cd k:Nat))
 g2:∀ k,k<=60->w.cell? ⟨x,a+k*2+1,none⟩=some (.string (cs k))
theorem Tb.a6{w':World}(h:Tb cd cs x a b w)(k:Below b w w'):Tb cd cs x a b w':=by
 obtain⟨e,c,f,g,j⟩:=h;refine⟨e,c,?_,fun i d=>?_,fun i d=>?_⟩
 ·rw[k.cell (by simpa using e)];exact f
 ·rw[k.cell (by simpa using c)];exact g i d
 ·rw[k.cell (by simpa using c)];exact j i d
abbrev zi(w:World)(b:Nat)(S:Sd)(f:Bool):Prop:=Dc w b S.D S.nd S.dp f S.tr
abbrev sy(w:World)(b:Nat)(w':World)(S:Sd)(f:Bool):Prop:=Dw w b w' S.D S.nd S.dp f S.tr
theorem ED(l:kG cd cs)(j:Tb cd cs x a b w)(g:1<=k)(c:k<=60)(d:gG S)(h:zi w b S f):
 Calls Tryz.prog 246 #[.pointer (some ⟨b,0,none⟩),.int .u64 (k:Nat)] w fun e m=>e=.returned (.tuple #[])/\sy w b m (shl cd cs k S) f:=by
 have i:=l k g c;have n:=i.len;have o:=i.pos;exact FZ b S.D S.nd k (cd k) (xJ cd cs k S) S.dp f S.tr (cs k) x a w d.pos d.le d.dg d.top g c O O i.zb (qO l g c d) rfl h j.g0 (j.g1 k c) (j.g2 k c)
theorem AT(a:k<=60)(c:gG S)(h:zi w b S f):
 Calls Tryz.prog 247 #[.pointer (some ⟨b,0,none⟩),.int .u64 (k:Nat)] w fun e d=>e=.returned (.tuple #[])/\sy w b d (shr k S) f:=by
 obtain⟨R,J,r,e⟩:=sx k c;rw[e];exact CX b S.D S.nd k R J S.dp f S.tr w a c r h
theorem mI(k:Int)(Q:-9223372036854775808<=k/\k<=9223372036854775807)(P:kG cd cs)(R:Tb cd cs x a b w)(n:gG S)(h:zi w b S f):
 Calls Tryz.prog 234 #[.pointer (some ⟨b,0,none⟩),.int .i64 k] w fun e D=>e=.returned (.tuple #[])/\sy w b D (nK cd cs k S) f:=by
 obtain⟨T,s⟩:∃ T,nK cd cs k S=T:=⟨_,rfl⟩;rw[s];have N:=h.n;have C:((S.nd:Int)==0)=false:=by have:=n.pos;simp;omega
 have E:=U P;have L:=U n;have M:=U R;have F:=U h;unfold nK at s;clear P n R h;go_enter Tryz.func234,Tryz.ntmps234
 rcases Eh k 0 with q|rfl|q
 ·rw[if_neg O,if_pos q] at s;have z:=U s;clear s;obtain⟨m,rfl⟩:∃ m:Nat,k=-(m:Int):=⟨(-k).toNat,O⟩;have B:(-(-(m:Int))).toNat=m:=O
  rw[B] at z;clear B;have H:¬(0:Int)< -(m:Int):=O
  have y:0<m:=O
  have r:m<=9223372036854775808:=O
  clear Q q
  go_wp2_with fail
  clear C N H
  go_loopg [1] m (fun g J wr=>J=.int .i64 (-(g:Int))/\0<g/\g<=9223372036854775808/\∃ t,gG t/\Hid (CW g t=T)/\sy w b wr t f)
  case atStart=>exact⟨rfl,y,r,S,L.out,z,F.out,Below.refl _ _⟩
  case round=>
   obtain⟨rfl,G,A,t,n,o,u⟩:=hrel;have c:=o.out;rw[CW] at c;clear o
   by_cases p:60<gk
   ·rw[if_pos p] at c;have o:=U c;have j:=U n;have d:=U u;clear c n u;have v:-(gk:Int)< -60:=O
    go_wp2_with fail
    refine(AT (k:=60) O j d.dc).mono ?_;rintro e D ⟨rfl,i⟩;have l:=U i;clear i
    go_wp2_with fail
    go_roundg (gk-60)
    case measure=>omega
    case rel=>exact⟨congrArg (Value.int .i64) O,O,O,_,zh j,o,Dw.trans d l⟩
   ·rw[if_neg p] at c;have o:=U c;have j:=U n;have d:=U u;clear c n u;have v:¬-(gk:Int)< -60:=O
    have I:IntKind.u64.wrap (gk:Int)=(gk:Int):=gN _ O
    go_wp2_with fail
    refine(AT (k:=gk) O j d.dc).mono ?_;rintro e D ⟨rfl,i⟩;have l:=U i;clear i
    go_wp2_with fail
    go_end0;refine⟨rfl,?_⟩;have:=Dw.trans d l
    rwa [o.out] at this
 ·rw[if_neg O,if_neg O] at s;subst s
  go_wp2_with fail
  go_end0;exact⟨rfl,F.out,eA _ _⟩
 ·rw[if_pos q] at s;have z:=U s;clear s;obtain⟨m,rfl⟩:∃ m:Nat,k=(m:Int):=⟨k.toNat,O⟩;have B:(m:Int).toNat=m:=O
  rw[B] at z;clear B;have y:0<m:=O
  have r:m<=9223372036854775807:=O
  clear Q
  go_wp2_with fail
  clear C N q
  go_loopg [1] m (fun g J wr=>J=.int .i64 (g:Int)/\0<g/\g<=9223372036854775807/\∃ t,gG t/\Hid (CV cd cs g t=T)/\sy w b wr t f)
  case atStart=>exact⟨rfl,y,r,S,L.out,z,F.out,Below.refl _ _⟩
  case round=>
   obtain⟨rfl,G,A,t,n,o,u⟩:=hrel;have c:=o.out;rw[CV] at c;clear o
   by_cases p:60<gk
   ·rw[if_pos p] at c;have o:=U c;have j:=U n;have d:=U u;clear c n u;have v:(60:Int)<gk:=O
    go_wp2_with fail
    refine(ED (k:=60) E (M.a6 d.bl) O O j d.dc).mono ?_;rintro e D ⟨rfl,i⟩;have l:=U i;clear i
    go_wp2_with fail
    go_roundg (gk-60)
    case measure=>omega
    case rel=>exact⟨congrArg (Value.int .i64) O,O,O,_,uu E O O j,o,Dw.trans d l⟩
   ·rw[if_neg p] at c;have o:=U c;have j:=U n;have d:=U u;clear c n u;have v:¬(60:Int)<gk:=O
    have I:IntKind.u64.wrap (gk:Int)=(gk:Int):=gN _ O
    go_wp2_with fail
    refine(ED (k:=gk) E (M.a6 d.bl) O O j d.dc).mono ?_;rintro e D ⟨rfl,i⟩;have l:=U i;clear i
    go_wp2_with fail
    go_end0;refine⟨rfl,?_⟩;have:=Dw.trans d l
    rwa [o.out] at this
def RC(s:ByteArray):Prop:=∀ i,i<s.size->bt s i=45\/bt s i=46\/bt s i=101\/(48<=bt s i/\bt s i<=57)
theorem F0{c:Nat}(h:c=45\/c=46\/c=101\/(48<=c/\c<=57)):bits BinOp.or IntKind.u8 (c:Int) 32=(c:Int):=by
 have a:c=45\/c=46\/c=101\/c=48\/c=49\/c=50\/c=51\/c=52\/c=53\/c=54\/c=55\/c=56\/c=57:=O
 rcases a with rfl|rfl|rfl|rfl|rfl|rfl|rfl|rfl|rfl|rfl|rfl|rfl|rfl<;>decide
theorem jv{c:Nat}(h:c=45\/c=46\/c=101\/(48<=c/\c<=57))(w:World):Calls Tryz.prog 224 #[.int .u8 (c:Nat)] w fun e a=>e=.returned (.int .u8 (c:Nat))/\a=w:=by
 have b:=F0 h;go_enter Tryz.func224,Tryz.ntmps224
 go_wp2_with fail
 go_ret;exact⟨rfl,rfl⟩
def kT(s:ByteArray):Nat->Nat->Nat->Nat×Nat
 |0,i,e=>(i,e)
 |k+1,i,e=>if 48<=bt s i/\bt s i<=57 then kT s k (i+1) (if e<10000 then e*10+(bt s i-48) else e) else(i,e)
structure Ms where
 bad:Bool
 i:Nat
 D:Nat->Nat
 nd:Nat
 dp:Int
 dot:Bool
 kI:Bool
def mJ(s:ByteArray):Nat->Ms->Ms
 |0,m=>m
 |k+1,m=>
  if bt s m.i=46 then(if m.dot then{m with bad:=true} else mJ s k {m with i:=m.i+1,dp:=(m.nd:Nat),dot:=true})
  else if 48<=bt s m.i/\bt s m.i<=57 then
   (if bt s m.i=48/\m.nd=0 then mJ s k {m with i:=m.i+1,dp:=wrap64 (m.dp-1),kI:=true}
   else mJ s k {m with i:=m.i+1,D:=jG m.D m.nd (bt s m.i),nd:=m.nd+1,kI:=true})
  else m
def LW(s:ByteArray)(m:Ms):Int:=if m.dot then m.dp else(m.nd:Nat)
def Iy(s:ByteArray)(j:Nat)(sg:Int)(D:Nat->Nat)(nd:Nat)(dp:Int):Bool×Sd:=
 (decide ((kT s (s.size-j) j 0).1=s.size),⟨D,nd,wrap64 (dp+wrap64 (((kT s (s.size-j) j 0).2:Nat)*sg)),false⟩)
def Iz(s:ByteArray)(m:Ms)(p:Int):Bool×Sd:=
 if m.i<s.size/\bt s m.i=101 then
  if s.size<=m.i+1 then(false,⟨m.D,m.nd,p,false⟩) else
  if s.size<=(if bt s (m.i+1)=45 then m.i+2 else m.i+1)\/¬(48<=bt s (if bt s (m.i+1)=45 then m.i+2 else m.i+1)/\bt s (if bt s (m.i+1)=45 then m.i+2 else m.i+1)<=57) then(false,⟨m.D,m.nd,p,false⟩)
  else Iy s (if bt s (m.i+1)=45 then m.i+2 else m.i+1) (if bt s (m.i+1)=45 then-1 else 1) m.D m.nd p
 else(decide (m.i=s.size),⟨m.D,m.nd,p,false⟩)
def rz(s:ByteArray):Bool×Sd:=
 if s.size=0 then(false,⟨fun _=>0,0,0,false⟩) else
 let m:=mJ s (s.size-(if bt s 0=45 then 1 else 0)) ⟨false,if bt s 0=45 then 1 else 0,fun _=>0,0,0,false,false⟩
 if m.bad\/m.kI=false then(false,⟨m.D,m.nd,m.dp,false⟩) else Iz s m (LW s m)
structure CY(S:Sd):Prop where
 le:S.nd<=800
 dg:ir S.D S.nd
 top:0<S.nd->S.D 0≠48
theorem CY.NC{D:Nat->Nat}{a:Nat}{p:Int}{b:Bool}(h:CY ⟨D,a,p,b⟩)(c:Int):CY ⟨D,a,c,b⟩:=⟨h.le,h.dg,h.top⟩
theorem CZ(s:ByteArray)(cU:RC s)(dS:s.size<=200)(b:Nat)(f dO:Bool)(w:World)(h:Dc w b (fun _=>0) 0 0 f dO):
 Calls Tryz.prog 204 #[.pointer (some ⟨b,0,none⟩),.string s] w fun e bG=>e=.returned (.bool (rz s).1)/\CY (rz s).2/\Below b w bG/\((rz s).1=true->sy w b bG (rz s).2 (decide (bt s 0=45))):=by
 obtain⟨R,H⟩:∃ R,rz s=R:=⟨_,rfl⟩;rw[H];obtain⟨dQ,dR⟩:=R;dsimp only;have cR:=U h;have bH:=U cU;have fr:=h.fr;have bD:=h.n;have P:=h.p;have dF:=h.g;have dG:=h.t;unfold rz at H;clear h cU
 by_cases bE:s.size=0
 ·rw[if_pos bE] at H;obtain⟨rfl,rfl⟩:=hD H
  have cJ:s=ByteArray.empty:=by
   rcases s with⟨⟨l⟩⟩
   cases l with
   |nil=>rfl
   |cons a l=>simp[ByteArray.size] at bE
  have dP:=U bE;clear H bE;go_enter Tryz.func204,Tryz.ntmps204
  go_wp2_with fail
  go_ret;exact⟨rfl,⟨ar,fun i J=>absurd J ar,fun J=>absurd J ar⟩,((eA b w).setCell (p:=⟨b,802,none⟩) (aw b) _).setCell (p:=⟨b,803,none⟩) (aw b) _,fun B=>by simp at B⟩
 rw[if_neg bE] at H;have cB:0<s.size:=O
 clear bE;obtain⟨aF,aH⟩:∃ aF:Nat,(if bt s 0=45 then 1 else 0)=aF:=⟨_,rfl⟩;rw[aH] at H;have cX:aF<=1:=by rw[<-aH];split<;>omega
 obtain⟨M,cE⟩:∃ M,mJ s (s.size-aF) ⟨false,aF,fun _=>0,0,0,false,false⟩=M:=⟨_,rfl⟩;rw[cE] at H;dsimp only at H;have dD:=U cE;have aV:=U H;have bK:=U aH;obtain⟨N,aC⟩:∃ x,decide (bt s 0=45)=x:=⟨_,rfl⟩;rw[aC];have bJ:=U aC;clear cE H aH aC;have t:∀ w,(Instr.index 9 (.string s) (.int .i64 0)).run Tryz.prog w=.ok (.int .u8 (bt s 0:Nat)) w:=fun w=>f' Tryz.underlying9 cB rfl;obtain⟨z,aI⟩:∃ z,bt s 0=z:=⟨_,rfl⟩;have bP:=bH.out 0 cB;rw[aI] at t bP;have bS:=U aI;clear aI;have cJ:¬s=ByteArray.empty:=by intro e;subst e;exact absurd cB bh
 go_enter Tryz.func204,Tryz.ntmps204
 go_upto_block 0 with fail
 go_cut [5] from 23 to 33 (fun aD aK=>aD=.int .i64 (aF:Nat)/\Dw w b aK (fun _=>0) 0 0 N false)
 case first=>
  by_cases y:z=45
  ·subst y;have W:aF=1:=by have:=bK.out;rw[if_pos bS.out] at this;exact this.symm
   have X:N=true:=by rw[<-bJ.out,show bt s 0=45 from bS.out];rfl
   subst W X
   go_wp2_with fail
   go_meet
   exact⟨rfl,((cR.Iv false).EC false).Iv true,(((eA b w).setCell (aw b) _).setCell (aw b) _).setCell (aw b) _⟩
  ·have W:aF=0:=by have:=bK.out;rw[if_neg (by rw[bS.out];exact y)] at this;exact this.symm
   have X:N=false:=by rw[<-bJ.out,show bt s 0=z from bS.out];simpa using y
   subst W X;have cN:((z:Int)==43)=false:=b1
   have cO:((z:Int)==45)=false:=b1
   go_wp2_with fail
   go_meet
   exact⟨rfl,(cR.Iv false).EC false,((eA b w).setCell (aw b) _).setCell (aw b) _⟩
 case rest=>
 obtain⟨rfl,bO⟩:=hcut;have bX:=U bO;clear bO fr bD P dF dG t bP
 go_upto_block 1 with fail
 go_cut [5,6,7] from 34 to 116 (fun aD bY cA aK=>aD=.int .i64 (M.i:Nat)/\bY=.bool M.dot/\cA=.bool M.kI/\M.bad=false/\M.i<=s.size/\CY ⟨M.D,M.nd,M.dp,false⟩/\Dw w b aK M.D M.nd M.dp N false)
 case first=>
  go_wp2_with fail
  go_loopg [5,6,7] (s.size-aF) (fun g aD bY cA wr=>∃ i D nd dp dot kI,aD=.int .i64 (i:Nat)/\bY=.bool dot/\cA=.bool kI/\g+i=s.size/\nd<=i/\Hid (mJ s g ⟨false,i,D,nd,dp,dot,kI⟩=M)/\Hid (ir D nd)/\Hid (0<nd->D 0≠48)/\Hid (Dw w b wr D nd dp N false))
  case atStart=>exact⟨aF,fun _=>0,0,0,false,false,rfl,rfl,rfl,O,O,dD,U (fun i J=>absurd J O),U (fun J=>absurd J O),bX⟩
  case round=>
   obtain⟨i,D,nd,dp,dot,kI,rfl,rfl,rfl,cG,dL,aE,u,v,A⟩:=hrel;have Z:=A.dc;have bD:=Z.n;have P:=Z.p;have fr:=Z.fr;have S:=U Z;clear Z
   rcases gk with _|g
   ·obtain rfl:i=s.size:=O
    have k:=aE.out;rw[mJ] at k;subst k
    go_wp2_with fail
    go_meet
    exact⟨rfl,rfl,rfl,by first|rfl|trivial,aw _,⟨by show nd<=800;omega,u.out,v.out⟩,A.out⟩
   ·have C:i<s.size:=O
    have t:∀ w,(Instr.index 9 (.string s) (.int .i64 (i:Int))).run Tryz.prog w=.ok (.int .u8 (bt s i:Nat)) w:=fun w=>f' Tryz.underlying9 C rfl;have k:=aE.out;rw[mJ] at k;dsimp only at k;have m:=bH.out i C;obtain⟨c,I⟩:∃ c,bt s i=c:=⟨_,rfl⟩;rw[I] at t k m;have aU:=U I;clear I aE
    by_cases F:c=46
    ·subst F;rw[if_pos rfl] at k;cases dot
     ·rw[if_neg ar] at k;have aE:=U k;clear k m
      go_wp2_with fail
      go_roundg g
      case measure=>omega
      case rel=>exact⟨i+1,D,nd,(nd:Nat),true,kI,congrArg (Value.int .i64) O,rfl,rfl,O,O,aE,u,v,U ⟨S.pC rfl,A.bl.setCell (Nat.le_refl b) _⟩⟩
     ·rw[if_pos rfl] at k;subst k;have H:=aV.out;rw[if_pos (.inl rfl)] at H;obtain⟨rfl,rfl⟩:=hD H;clear H m
      go_wp2_with fail
      go_ret;exact⟨rfl,⟨by show nd<=800;omega,u.out,v.out⟩,A.bl⟩
    ·rw[if_neg F] at k
     by_cases Q:48<=c/\c<=57
     ·rw[if_pos Q] at k;have bC:((c:Int)==95)=false:=b1
      have cP:((c:Int)==46)=false:=b1
      have aJ:(48:Int)<=c:=O
      have bF:(c:Int)<=57:=O
      by_cases aI:c=48/\nd=0
      ·rw[if_pos aI] at k;obtain⟨rfl,rfl⟩:=aI;have aE:=U k;clear k m Q F;have dE:wr.cell? ⟨b,800,none⟩=some (.int .i64 0):=bD;clear bD
       go_wp2_with fail
       go_roundg g
       case measure=>omega
       case rel=>exact⟨i+1,D,0,wrap64 (dp-1),dot,true,congrArg (Value.int .i64) O,rfl,rfl,O,O,aE,u,v,U ⟨S.pC rfl,A.bl.setCell (Nat.le_refl b) _⟩⟩
      ·rw[if_neg aI] at k
       have aA:ir (jG D nd c) (nd+1):=by
        intro j bM
        by_cases e:j=nd
        ·subst e;rw[oH];exact Q
        ·rw[l8 e];exact u.out j O
       have L:0<nd+1->jG D nd c 0≠48:=by
        intro _
        by_cases e:nd=0
        ·subst e;rw[oH];omega
        ·rw[l8 O];exact v.out O
       have aL:=U aA;have T:=U L;have aE:=U k;have dK:(nd:Int)<800:=O
       have aZ:nd<800:=O
       have c2:=S.arr nd aZ
       by_cases aG:c=48
       ·have dJ:((nd:Int)==0)=false:=b1
        have cQ:((c:Int)==48)=true:=by simp[aG]
        have dA:=U aG;clear k m Q F aI aA L aG
        go_wp2_with fail
        go_region
        go_wp2_with fail
        go_roundg g
        case measure=>omega
        case rel=>exact⟨i+1,jG D nd c,nd+1,dp,dot,true,congrArg (Value.int .i64) O,rfl,rfl,O,O,aE,aL,T,U ⟨((S.a6 (dN _ _ _)).xI aZ rfl).pA O,((A.bl.trans (dN _ _ _)).setCell (p:=⟨b,nd,none⟩) (Nat.le_refl b) _).setCell (p:=⟨b,800,none⟩) (Nat.le_refl b) _⟩⟩
       ·have cQ:((c:Int)==48)=false:=b1
        clear k m Q F aI aA L aG
        go_wp2_with fail
        go_region
        go_wp2_with fail
        go_roundg g
        case measure=>omega
        case rel=>exact⟨i+1,jG D nd c,nd+1,dp,dot,true,congrArg (Value.int .i64) O,rfl,rfl,O,O,aE,aL,T,U ⟨((S.a6 (dN _ _ _)).xI aZ rfl).pA O,((A.bl.trans (dN _ _ _)).setCell (p:=⟨b,nd,none⟩) (Nat.le_refl b) _).setCell (p:=⟨b,800,none⟩) (Nat.le_refl b) _⟩⟩
     ·rw[if_neg Q] at k;subst k;have bC:((c:Int)==95)=false:=b1
      have cP:((c:Int)==46)=false:=b1
      by_cases cW:48<=c
      ·have aJ:(48:Int)<=c:=O
       have bF:¬(c:Int)<=57:=O
       clear m Q F
       go_wp2_with fail
       go_meet
       exact⟨rfl,rfl,rfl,by first|rfl|trivial,by show i<=s.size;omega,⟨by show nd<=800;omega,u.out,v.out⟩,A.out⟩
      ·have aJ:¬(48:Int)<=c:=O
       clear m Q F
       go_wp2_with fail
       go_meet
       exact⟨rfl,rfl,rfl,by first|rfl|trivial,by show i<=s.size;omega,⟨by show nd<=800;omega,u.out,v.out⟩,A.out⟩
 case rest=>
 obtain⟨rfl,rfl,rfl,aN,cF,G,E⟩:=hcut;obtain⟨bad,i,D,nd,dp,dot,kI⟩:=M;dsimp only at aN cF G E aV⊢;subst aN;have n:=aV.out;rw[LW] at n;dsimp only at n;cases kI
 ·rw[if_pos (.inr rfl)] at n;obtain⟨rfl,rfl⟩:=hD n;have r:=U G;have d:=U E;clear n G E
  go_wp2_with fail
  go_ret
  first|exact⟨rfl,r.out,d.bl⟩|exact⟨rfl,r.out,d.bl,fun B=>by simp at B⟩
 rw[if_neg ar] at n;obtain⟨q,aR⟩:∃ q:Int,(if dot=true then dp else(nd:Nat))=q:=⟨_,rfl⟩;rw[aR] at n;have aV:=U n;have bT:=U aR;have bD:=E.dc.n;have P:=E.dc.p;have fr:=E.dc.fr;have aW:=U E;have r:Hid (CY ⟨D,nd,q,false⟩):=U ⟨G.le,G.dg,G.top⟩;clear n aR E G
 go_upto_if 120 with fail
 go_cut [] from 120 to 127 (fun aK=>Dw w b aK D nd q N false)
 case first=>
  cases dot
  ·have aR:((nd:Nat):Int)=q:=bT.out;have bT:=U aR;clear aR
   go_wp2_with fail
   go_meet
   exact⟨aW.dc.pC bT,aW.bl.setCell (aw b) _⟩
  ·have aR:dp=q:=bT.out;subst aR
   go_wp2_with fail
   go_meet
   exact aW.out
 case rest=>
 have d:Hid (Dw w b wc D nd q N false):=U hcut;clear hcut bD P fr;have cV:i<=200:=O
 have n:=aV.out;unfold Iz at n;dsimp only at n
 by_cases aM:i<s.size/\bt s i=101
 ·rw[if_pos aM] at n;obtain⟨cD,aX⟩:=aM;have t:∀ w,(Instr.index 9 (.string s) (.int .i64 (i:Int))).run Tryz.prog w=.ok (.int .u8 (bt s i:Nat)) w:=fun w=>f' Tryz.underlying9 cD rfl;rw[aX] at t;have dC:=U aX;clear aX
  by_cases bN:s.size<=i+1
  ·rw[if_pos bN] at n;obtain⟨rfl,rfl⟩:=hD n;have aB:(s.size:Int)<=(i:Int)+1:=O
   clear n
   go_wp2_with (refine(jv (c:=101) O _).mono ?_;rintro e bG ⟨rfl,rfl⟩)
   go_ret
   first|exact⟨rfl,r.out,d.bl⟩|exact⟨rfl,r.out,d.bl,fun B=>by simp at B⟩
  rw[if_neg bN] at n;have aQ:i+1<s.size:=O
  have aB:¬(s.size:Int)<=(i:Int)+1:=O
  have aP:∀ w,(Instr.index 9 (.string s) (.int .i64 ((i:Int)+1))).run Tryz.prog w=.ok (.int .u8 (bt s (i+1):Nat)) w:=fun w=>f' Tryz.underlying9 aQ O;obtain⟨P,aY⟩:∃ P,bt s (i+1)=P:=⟨_,rfl⟩;have Y:=bH.out (i+1) aQ;rw[aY] at aP Y n;have dB:=U aY;obtain⟨j,bM⟩:∃ j,(if P=45 then i+2 else i+1)=j:=⟨_,rfl⟩;obtain⟨bQ,bA⟩:∃ bQ:Int,(if P=45 then-1 else 1)=bQ:=⟨_,rfl⟩;rw[bM,bA] at n;have cS:=U bM;have bL:=U bA;have dI:i+1<=j/\j<=i+2:=by rw[<-bM];split<;>omega
  have aV:=U n;clear aY bM bA n
  go_upto_block 4 with(refine(jv (c:=101) O _).mono ?_;rintro e bG ⟨rfl,rfl⟩)
  go_cut [5,8] from 148 to 155 (fun aD dM aK=>aD=.int .i64 (j:Nat)/\dM=.int .i64 bQ/\aK=bG)
  case first=>
   by_cases y:P=45
   ·subst y;have W:i+2=j:=cS.out;have X:(-1:Int)=bQ:=bL.out;subst W X
    go_wp2_with fail
    go_meet
    exact⟨congrArg (Value.int .i64) O,rfl,rfl⟩
   ·have W:i+1=j:=by have:=cS.out;rwa [if_neg y] at this
    have X:(1:Int)=bQ:=by have:=bL.out;rwa [if_neg y] at this
    subst W X;have cN:((P:Int)==43)=false:=b1
    have cO:((P:Int)==45)=false:=b1
    have cZ:=U y;clear y Y
    go_wp2_with fail
    go_meet
    exact⟨congrArg (Value.int .i64) O,rfl,rfl⟩
  case rest=>
  obtain⟨rfl,rfl,rfl⟩:=hcut;clear t aP Y aB;have n:=aV.out
  by_cases cI:s.size<=j
  ·rw[if_pos (.inl cI)] at n;obtain⟨rfl,rfl⟩:=hD n;have aB:(s.size:Int)<=(j:Int):=O
   clear n
   go_wp2_with fail
   go_ret
   first|exact⟨rfl,r.out,d.bl⟩|exact⟨rfl,r.out,d.bl,fun B=>by simp at B⟩
  have cH:j<s.size:=O
  have aB:¬(s.size:Int)<=(j:Int):=O
  have t:∀ w,(Instr.index 9 (.string s) (.int .i64 (j:Int))).run Tryz.prog w=.ok (.int .u8 (bt s j:Nat)) w:=fun w=>f' Tryz.underlying9 cH rfl;obtain⟨c,I⟩:∃ c,bt s j=c:=⟨_,rfl⟩;rw[I] at t n;have aU:=U I;clear I
  by_cases u:48<=c/\c<=57
  ·rw[if_neg O] at n;rw[Iy] at n;obtain⟨W,X⟩:=hD n;obtain⟨aT,bR,aO⟩:∃ aT bR,kT s (s.size-j) j 0=(aT,bR):=⟨_,_,rfl⟩;rw[aO] at W X;dsimp only at W X;subst W X;have bU:=U aO;have aJ:(48:Int)<=c:=O
   have bF:(c:Int)<=57:=O
   have cL:¬(c:Int)<48:=O
   have cM:¬(57:Int)<c:=O
   clear n aO u
   go_upto_block 5 with fail
   clear aJ bF cL cM t aB
   go_cut [5,9] from 172 to 209 (fun aD bZ aK=>aD=.int .i64 (aT:Nat)/\bZ=.int .i64 (bR:Nat)/\bR<=100009/\aT<=s.size/\aK=wc)
   case first=>
    go_wp2_with fail
    go_loopg [5,9] (s.size-j) (fun g aD bZ wr=>∃ i e:Nat,aD=.int .i64 (i:Nat)/\bZ=.int .i64 (e:Nat)/\g+i=s.size/\e<=100009/\Hid (kT s g i e=(aT,bR))/\wr=wc)
    case atStart=>exact⟨j,0,rfl,rfl,O,O,bU,rfl⟩
    case round=>
     obtain⟨i,e,rfl,rfl,cG,aO,B,rfl⟩:=hrel
     rcases gk with _|g
     ·obtain rfl:i=s.size:=O
      have o:=B.out;rw[kT] at o;obtain⟨rfl,rfl⟩:=hD o;clear o
      go_wp2_with fail
      go_meet
      exact⟨rfl,rfl,aO,aw _,rfl⟩
     ·have C:i<s.size:=O
      have t:∀ w,(Instr.index 9 (.string s) (.int .i64 (i:Int))).run Tryz.prog w=.ok (.int .u8 (bt s i:Nat)) w:=fun w=>f' Tryz.underlying9 C rfl;have o:=B.out;rw[kT] at o;have m:=bH.out i C;obtain⟨c,I⟩:∃ c,bt s i=c:=⟨_,rfl⟩;rw[I] at t o m;have aU:=U I;clear I B
      by_cases Q:48<=c/\c<=57
      ·rw[if_pos Q] at o;have aJ:(48:Int)<=c:=O
       have bF:(c:Int)<=57:=O
       have bC:((c:Int)==95)=false:=b1
       by_cases cT:e<10000
       ·rw[if_pos cT] at o;have B:=U o;have cC:(e:Int)<10000:=O
        clear o m
        go_wp2_with fail
        go_roundg g
        case measure=>omega
        case rel=>exact⟨i+1,e*10+(c-48),congrArg (Value.int .i64) O,congrArg (Value.int .i64) O,O,O,B,rfl⟩
       ·rw[if_neg cT] at o;have B:=U o;have cC:¬(e:Int)<10000:=O
        clear o m
        go_wp2_with fail
        go_roundg g
        case measure=>omega
        case rel=>exact⟨i+1,e,congrArg (Value.int .i64) O,rfl,O,aO,B,rfl⟩
      ·rw[if_neg Q] at o;obtain⟨rfl,rfl⟩:=hD o;clear o;have bC:((c:Int)==95)=false:=b1
       by_cases cW:48<=c
       ·have aJ:(48:Int)<=c:=O
        have bF:¬(c:Int)<=57:=O
        clear m Q
        go_wp2_with fail
        go_meet
        exact⟨rfl,rfl,aO,O,rfl⟩
       ·have aJ:¬(48:Int)<=c:=O
        clear m Q
        go_wp2_with fail
        go_meet
        exact⟨rfl,rfl,aO,O,rfl⟩
   case rest=>
   obtain⟨rfl,rfl,cK,dH,rfl⟩:=hcut;have P:=d.dc.p;have fr:=d.dc.fr
   by_cases J:aT=s.size
   ·have b6:((aT:Int) != (s.size:Int))=false:=b1
    have bI:=U J;clear J
    go_wp2_with fail
    go_ret;exact⟨congrArg (fun x=>Ending.returned (Value.bool x)) (decide_eq_true bI.out).symm,r.NC _,d.bl.setCell (p:=⟨b,801,none⟩) (aw b) _,fun _=>⟨d.dc.pC rfl,d.bl.setCell (p:=⟨b,801,none⟩) (aw b) _⟩⟩
   ·have b6:((aT:Int) != (s.size:Int))=true:=b1
    have bI:=U J;clear J
    go_wp2_with fail
    go_ret;exact⟨congrArg (fun x=>Ending.returned (Value.bool x)) (decide_eq_false bI.out).symm,r.NC _,d.bl.setCell (p:=⟨b,801,none⟩) (aw b) _,fun _=>⟨d.dc.pC rfl,d.bl.setCell (p:=⟨b,801,none⟩) (aw b) _⟩⟩
  ·rw[if_pos (.inr u)] at n;obtain⟨rfl,rfl⟩:=hD n;clear n
   by_cases cW:48<=c
   ·have aJ:¬(c:Int)<48:=O
    have bF:(57:Int)<(c:Int):=O
    clear u
    go_wp2_with fail
    go_ret
    first|exact⟨rfl,r.out,d.bl⟩|exact⟨rfl,r.out,d.bl,fun B=>by simp at B⟩
   ·have aJ:(c:Int)<48:=O
    clear u
    go_wp2_with fail
    go_ret
    first|exact⟨rfl,r.out,d.bl⟩|exact⟨rfl,r.out,d.bl,fun B=>by simp at B⟩
 ·rw[if_neg aM] at n;obtain⟨rfl,rfl⟩:=hD n
  by_cases C:i<s.size
  ·have m:=bH.out i C;have t:∀ w,(Instr.index 9 (.string s) (.int .i64 (i:Int))).run Tryz.prog w=.ok (.int .u8 (bt s i:Nat)) w:=fun w=>f' Tryz.underlying9 C rfl;obtain⟨c,I⟩:∃ c,bt s i=c:=⟨_,rfl⟩;rw[I] at t m aM;have cY:((c:Int)==101)=false:=b1
   have aU:=U I;have bV:=U m;have bU:=U aM;have b6:((i:Int) != (s.size:Int))=true:=b1
   clear m I aM n
   go_wp2_with (refine(jv bV _).mono ?_;rintro e bG ⟨rfl,rfl⟩)
   go_ret;exact⟨congrArg (fun x=>Ending.returned (Value.bool x)) (decide_eq_false O).symm,r.out,d.bl,fun _=>d.out⟩
  ·have bU:=U aM;have J:i=s.size:=O
   have b6:((i:Int) != (s.size:Int))=false:=b1
   have bI:=U J;clear aM J n
   go_wp2_with fail
   go_ret;exact⟨congrArg (fun x=>Ending.returned (Value.bool x)) (decide_eq_true bI.out).symm,r.out,d.bl,fun _=>d.out⟩
theorem ND(a:Nat):((a:Int)%2 != 0)=decide (a%2=1):=by
 rw[yN];simp;omega
theorem MD(S:Sd)(z:gG S)(n:Int):∃ r:Bool,∀ w b f,zi w b S f->
 Calls Tryz.prog 248 #[.pointer (some ⟨b,0,none⟩),.int .i64 n] w fun e N=>e=.returned (.bool r)/\∃ q,N=w.drewN q:=by
 have L:=z.le
 rcases Int.lt_or_le n 0 with I|I
 ·refine⟨false,fun w b f h=>?_⟩;go_enter Tryz.func248,Tryz.ntmps248
  go_wp2_with fail
  go_ret;exact⟨rfl,0,rfl⟩
 ·obtain⟨i,rfl⟩:∃ i:Nat,n=(i:Int):=⟨n.toNat,O⟩;have J:¬(i:Int)<0:=O
  by_cases D:S.nd<=i
  ·refine⟨false,fun w b f h=>?_⟩;have l:=h.n;go_enter Tryz.func248,Tryz.ntmps248
   go_wp2_with fail
   go_ret;exact⟨rfl,0,rfl⟩
  ·have H:i<S.nd:=O
   have y:¬(S.nd:Int)<=(i:Int):=O
   have G:(i:Int)<800:=O
   have s:=z.dg
   by_cases d:S.D i=53
   ·have C:((S.D i:Int)==53)=true:=by simp[d]
    by_cases o:i+1=S.nd
    ·have v:((i:Int)+1==(S.nd:Int))=true:=b1
     have u:=U d;have A:=U o;clear d o
     rcases a:S.tr with _|_
     ·by_cases t:i=0
      ·subst t;refine⟨false,fun w b f h=>?_⟩;have l:=h.n;have c2:=h.arr 0 O;have m:=h.t;rw[a] at m;have k:=U a;have p:((0:Nat):Int)=0:=rfl;rw[p] at v;clear a;go_enter Tryz.func248,Tryz.ntmps248
       go_wp2_with fail
       go_ret;exact⟨rfl,0,rfl⟩
      ·have E:(0:Int)<(i:Int):=O
       have F:(i:Int)-1<800:=O
       obtain⟨j,rfl⟩:∃ j,i=j+1:=⟨i-1,O⟩;have W:=s j O;obtain⟨c,g⟩:∃ c,S.D j=c+48:=⟨S.D j-48,O⟩;refine⟨decide (c%2≠0),fun w b f h=>?_⟩;have l:=h.n;have B:=h.arr j O;rw[g] at B;have M:c<=9:=O
       have Q:((c:Int)+48-48)%256=(c:Int):=O
       have R:(c:Int)%256=(c:Int):=O
       have P:=U g;clear g;have c2:=h.arr (j+1) O;have m:=h.t;rw[a] at m;have k:=U a;clear a;go_enter Tryz.func248,Tryz.ntmps248
       go_wp2_with fail
       go_ret;exact⟨congrArg (fun x=>Ending.returned (Value.bool x)) (ND c),0,rfl⟩
     ·refine⟨true,fun w b f h=>?_⟩;have l:=h.n;have c2:=h.arr i O;have m:=h.t;rw[a] at m;have k:=U a;clear a;go_enter Tryz.func248,Tryz.ntmps248
      go_wp2_with fail
      go_ret;exact⟨rfl,0,rfl⟩
    ·have v:((i:Int)+1==(S.nd:Int))=false:=b1
     refine⟨true,fun w b f h=>?_⟩;have l:=h.n;have c2:=h.arr i O;have T:(53:Int)<=(S.D i:Int):=O
     have u:=U d;have A:=U o;clear d o;go_enter Tryz.func248,Tryz.ntmps248
     go_wp2_with fail
     go_ret;exact⟨rfl,0,rfl⟩
   ·have C:((S.D i:Int)==53)=false:=b1
    refine⟨decide (53<=S.D i),fun w b f h=>?_⟩;have l:=h.n;have c2:=h.arr i O;have u:=U d;clear d;go_enter Tryz.func248,Tryz.ntmps248
    go_wp2_with fail
    go_ret;exact⟨by first|rfl|(congr 2;simp;omega),0,rfl⟩
def rI(D:Nat->Nat)(nd:Nat):Nat->Int
 |0=>0
 |i+1=>if i<nd then IntKind.u64.wrap (IntKind.u64.wrap (rI D nd i*10)+((D i-48:Nat):Int)) else IntKind.u64.wrap (rI D nd i*10)
theorem EE(S:Sd)(A:gG S):∃ r:Int,∀ w b f,zi w b S f->
 Calls Tryz.prog 235 (t_ b) w fun e I=>e=.returned (.int .u64 r)/\∃ q,I=w.drewN q:=by
 have T:=A.le
 rcases Int.lt_or_le 20 S.dp with Q|Q
 ·refine⟨18446744073709551615,fun w b f h=>?_⟩;have L:=h.p;go_enter Tryz.func235,Tryz.ntmps235
  go_wp2_with fail
  go_ret;exact⟨rfl,0,rfl⟩
 ·obtain⟨r,H⟩:=MD S A S.dp;obtain⟨m,F⟩:∃ m:Nat,S.dp.toNat=m:=⟨_,rfl⟩;obtain⟨D,a,dp,aC⟩:=S;obtain⟨W,le,E,X⟩:=A;dsimp only at*;obtain⟨R,j⟩:∃ R:Int,(if r then IntKind.u64.wrap (rI D a m+1) else rI D a m)=R:=⟨_,rfl⟩;refine⟨R,fun w b f h=>?_⟩;have Z:=h.n;have L:=h.p;have fr:=h.fr;have J:=U H;have B:=U j;have C:=U h;have t:=U E;have l:=U F;have G:m<=20:=O
  clear H j h E F;have M:¬(20:Int)<dp:=O
  go_enter Tryz.func235,Tryz.ntmps235
  go_upto_block 0 with fail
  go_cut [3,4] from 10 to 36 (fun p s Y=>p=.int .i64 ((min m a:Nat):Int)/\s=.int .u64 (rI D a (min m a))/\Y=w)
  case first=>
   go_wp2_with fail
   go_loopg [3,4] (min m a) (fun g p s wr=>∃ i:Nat,g+i=min m a/\p=.int .i64 (i:Nat)/\s=.int .u64 (rI D a i)/\wr=w)
   case atStart=>exact⟨0,O,rfl,rfl,rfl⟩
   case round=>
    obtain⟨i,y,rfl,rfl,rfl⟩:=hrel
    rcases gk with _|g
    ·obtain rfl:i=min m a:=O
     obtain⟨i,n⟩:∃ i,min m a=i:=⟨_,rfl⟩;rw[n]
     by_cases P:m<=a
     ·have c:¬(i:Int)<dp:=ba l.out
      go_wp2_with fail
      go_meet
      exact⟨by rw[n],by rw[n],rfl⟩
     ·have c:(i:Int)<dp:=ba l.out
      have z:¬(i:Int)<a:=O
      go_wp2_with fail
      go_meet
      exact⟨by rw[n],by rw[n],rfl⟩
    ·have c:(i:Int)<dp:=ba l.out
     have z:(i:Int)<a:=O
     have d:i<a:=O
     have c2:=C.arr i O;have aB:=t.out i d;have aA:((D i:Int)-48)%256=((D i-48:Nat):Int):=O
     have o:rI D a (i+1)=IntKind.u64.wrap (IntKind.u64.wrap (rI D a i*10)+((D i-48:Nat):Int)):=by rw[rI,if_pos d]
     have u:=U o;clear o
     go_wp2_with fail
     go_roundg g
     case measure=>omega
     case rel=>exact⟨i+1,O,congrArg (Value.int .i64) O,by rw[u.out,show((D i-48:Nat):Int)=(D i:Int)-48 by omega],rfl⟩
  case rest=>
  obtain⟨rfl,rfl,rfl⟩:=hcut
  go_wp2_with fail
  go_loopg [3,4] (m-min m a) (fun g p s wr=>∃ i:Nat,g+i=m/\min m a<=i/\p=.int .i64 (i:Nat)/\s=.int .u64 (rI D a i)/\wr=wc)
  case atStart=>exact⟨min m a,O,Nat.le_refl _,rfl,rfl,rfl⟩
  case round=>
   obtain⟨i,y,N,rfl,rfl,rfl⟩:=hrel
   rcases gk with _|g
   ·obtain rfl:i=m:=O
    have c:¬(i:Int)<dp:=ba l.out
    have v:=J.out _ b f C
    go_wp2_with fail
    refine v.mono ?_;rintro e I ⟨rfl,q,rfl⟩;cases r
    ·have j:rI D a i=R:=B.out;have k:=U j;clear j
     go_wp2_with fail
     go_ret;exact⟨congrArg (fun x=>Ending.returned (Value.int .u64 x)) k.out,q,rfl⟩
    ·have j:IntKind.u64.wrap (rI D a i+1)=R:=B.out;have k:=U j;clear j
     go_wp2_with fail
     go_ret;exact⟨congrArg (fun x=>Ending.returned (Value.int .u64 x)) k.out,q,rfl⟩
   ·have c:(i:Int)<dp:=ba l.out
    have d:¬i<a:=O
    have o:rI D a (i+1)=IntKind.u64.wrap (rI D a i*10):=by rw[rI,if_neg d]
    have u:=U o;clear o
    go_wp2_with fail
    go_roundg g
    case measure=>omega
    case rel=>exact⟨i+1,O,O,congrArg (Value.int .i64) O,by rw[u.out],rfl⟩
end Go.Proofs.YtkblonfmjlopaaaGreatDoor
