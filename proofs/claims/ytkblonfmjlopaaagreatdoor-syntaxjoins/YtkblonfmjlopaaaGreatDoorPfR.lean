/-
  The library's exact reading of a real.
-/
import Derived.Test.YtkblonfmjlopaaaGreatDoorPfK
set_option linter.all false
set_option maxRecDepth 1000000
set_option maxHeartbeats 16000000
namespace Go.Proofs.YtkblonfmjlopaaaGreatDoor
open Go Go.RowKit
variable {x:Nat}
section
set_option maxRecDepth 100000
set_option maxHeartbeats 1000000
structure Te(pf:Nat->Nat)(z off:Nat)(w:World):Prop where
 f0:w.cell? ⟨10,0,none⟩=some (.int .u64 52)
 g0:w.cell? ⟨13,0,none⟩=some (.slice (some ⟨z,off,none⟩) 23 23)
 gg:∀ i,i<23->w.cell? ⟨z,off+i,none⟩=some (.float .f64 (pf i))
theorem Te.a6{b:Nat->Nat}{z a B:Nat}{w w':World}(h:Te b z a w)(k:Below B w w')(j:15<B)(g:z<B):Te b z a w':=by
 obtain⟨c,d,e⟩:=h;refine⟨?_,?_,fun i f=>?_⟩
 ·rw[k.cell b1];exact c
 ·rw[k.cell b1];exact d
 ·rw[k.cell (by simpa using g)];exact e i f
def NN(x:Nat):Prop:=x%9223372036854775808<=9218868437227405312
theorem vw(a:Bool){r:Nat}(h:r<=9218868437227405312):NN (Ieee.double.word a r):=by
 unfold NN Ieee.Format.word;have e:Ieee.double.signWeight=9223372036854775808:=bh
 rw[e]
 split<;>omega
theorem vx:Ieee.double.infRung=9218868437227405312:=bh
theorem zj(a:Bool)(m:Nat)(q:Int):NN (Ieee.double.write (.number a m q)):=by
 show NN (Ieee.double.nearest a m q);unfold Ieee.Format.nearest;dsimp only
 split
 ·exact vw a O
 ·refine vw a ?_;rw[vx];exact Nat.min_le_right _ _
theorem EG(a:Bool):NN (Ieee.double.write (.infinity a)):=vw a (by rw[vx];omega)
theorem AX(h:NN x)(s:Bool)(f:Nat):Ieee.double.read x≠.nan s f:=by
 unfold Ieee.Format.read;have e:Ieee.double.signWeight=9223372036854775808:=bh
 rw[e,vx];unfold NN at h;dsimp only
 split
 ·simp
 ·split
  ·simp
  ·rw[if_pos O];simp
theorem KC(h:NN x):NN (Op.negFloat .f64 x):=by
 unfold NN at*;have e:Op.negFloat .f64 x=x ^^^ 2^63:=rfl;rw[e,show(9223372036854775808:Nat)=2^63 by decide,Nat.xor_mod_two_pow,Nat.mod_self,Nat.xor_zero];rw[show(9223372036854775808:Nat)=2^63 by decide] at h;exact h
def NZ(x:Nat):Prop:=∃ s n j,Ieee.double.read x=.number s n j/\n≠0
theorem zk{y:Nat}(d:NN x)(e:NZ y):∃ r,floatBits .mul .f64 x y=some r/\NN r:=by
 obtain⟨t,n,j,c,b⟩:=e;show ∃ r,((Ieee.double.read x).product (Ieee.double.read y)).map Ieee.double.write=some r/\NN r;rw[c];cases a:Ieee.double.read x with
 |number s m i=>exact⟨_,rfl,zj _ _ _⟩
 |infinity s=>exact⟨_,by simp only [Ieee.Datum.product,if_neg b];rfl,EG _⟩
 |nan s f=>exact absurd a (AX d s f)
theorem KD{y:Nat}(d:NN x)(e:NZ y):∃ r,floatBits .quo .f64 x y=some r/\NN r:=by
 obtain⟨t,n,j,c,b⟩:=e;show ∃ r,((Ieee.double.read x).quotient _ (Ieee.double.read y)).map Ieee.double.write=some r/\NN r;rw[c];cases a:Ieee.double.read x with
 |number s m i=>exact⟨_,by simp only [Ieee.Datum.quotient,if_neg b];rfl,zj _ _ _⟩
 |infinity s=>exact⟨_,rfl,EG _⟩
 |nan s f=>exact absurd a (AX d s f)
theorem EH(n:Int):NN (floatOfInt .f64 n):=zj _ _ _
theorem ec(w:World)(A:Nat):(Op.unary .neg (.float .f64 A)).run Tryz.prog w=.ok (.float .f64 (Op.negFloat .f64 A)) w:=rfl
theorem F3(q:Nat->Nat)(z G:Nat)(v:∀ i,i<23->NZ (q i))(d:Nat)(p:Int)(l:Bool):∃ f ok,∀ w,Te q z G w->
 Calls Tryz.prog 208 #[.int .u64 (d:Nat),.int .i64 p,.bool l] w fun x W=>x=.returned (.tuple #[.float .f64 f,.bool ok])/\W=w:=by
 by_cases s:d/2^52=0
 ·have N:((d:Int)/4503599627370496==0)=true:=by
   have:(d:Int)/4503599627370496=((d/2^52:Nat):Int):=O
   rw[this,s];rfl
  have M:=U s;clear s;obtain⟨F,A⟩:∃ F,(if l=true then Op.negFloat .f64 (floatOfInt .f64 (d:Int)) else floatOfInt .f64 (d:Int))=F:=⟨_,rfl⟩
  have B:NN F:=by
   rw[<-A];split
   ·exact KC (EH _)
   ·exact EH _
  have g:=U A;clear A
  rcases Eh p 0 with J|rfl|J
  ·by_cases y:-22<=p
   ·obtain⟨i,rfl⟩:∃ i:Nat,p=-(i:Int):=⟨(-p).toNat,O⟩;obtain⟨r,n,o⟩:=KD B (v i O);have I:=fun w=>run_float_arith (P:=Tryz.prog) w .quo 158 .f64 F (q i) r n;have T:-(i:Int)<0:=J;have t:(-(i:Int)==0)=false:=b1
    have E:¬(0:Int)< -(i:Int):=O
    have m:(i:Int)<23:=O
    clear n;refine⟨r,true,fun w e=>?_⟩;have f0:=e.f0;have g0:=e.g0;have gg:=e.gg i O;clear e;go_enter Tryz.func208,Tryz.ntmps208
    go_upto_if 15 with fail
    go_cut [6] from 12 to 17 (fun h k=>h=.float .f64 F/\k=w)
    case first=>
     cases l
     ·have a:floatOfInt .f64 (d:Int)=F:=by have c:=g.out;rw[if_neg ar] at c;exact c
      have b:=U a;clear a
      go_wp2_with fail
      go_meet
      exact⟨by first|rfl|rw[b.out],rfl⟩
     ·have a:Op.negFloat .f64 (floatOfInt .f64 (d:Int))=F:=by have c:=g.out;rw[if_pos rfl] at c;exact c
      have j:∀ w,(Op.unary .neg (.float .f64 (floatOfInt .f64 (d:Int)))).run Tryz.prog w=.ok (.float .f64 F) w:=fun w=>by rw[<-a];exact ec w _
      have b:=U a;clear a
      go_wp2_with fail
      go_meet
      exact⟨by first|rfl|rw[b.out],rfl⟩
    case rest=>
    obtain⟨rfl,rfl⟩:=hcut
    go_wp2_with fail
    go_ret2
    exact⟨rfl,rfl⟩
   ·have t:(p==0)=false:=b1
    have E:¬(0:Int)<p:=O
    refine⟨F,false,fun w e=>?_⟩;have f0:=e.f0;have g0:=e.g0;clear e;go_enter Tryz.func208,Tryz.ntmps208
    go_upto_if 15 with fail
    go_cut [6] from 12 to 17 (fun h k=>h=.float .f64 F/\k=w)
    case first=>
     cases l
     ·have a:floatOfInt .f64 (d:Int)=F:=by have c:=g.out;rw[if_neg ar] at c;exact c
      have b:=U a;clear a
      go_wp2_with fail
      go_meet
      exact⟨by first|rfl|rw[b.out],rfl⟩
     ·have a:Op.negFloat .f64 (floatOfInt .f64 (d:Int))=F:=by have c:=g.out;rw[if_pos rfl] at c;exact c
      have j:∀ w,(Op.unary .neg (.float .f64 (floatOfInt .f64 (d:Int)))).run Tryz.prog w=.ok (.float .f64 F) w:=fun w=>by rw[<-a];exact ec w _
      have b:=U a;clear a
      go_wp2_with fail
      go_meet
      exact⟨by first|rfl|rw[b.out],rfl⟩
    case rest=>
    obtain⟨rfl,rfl⟩:=hcut
    go_wp2_with fail
    go_ret2
    exact⟨rfl,rfl⟩
  ·skip
   refine⟨F,true,fun w e=>?_⟩;have f0:=e.f0;have g0:=e.g0;clear e;go_enter Tryz.func208,Tryz.ntmps208
   go_upto_if 15 with fail
   go_cut [6] from 12 to 17 (fun h k=>h=.float .f64 F/\k=w)
   case first=>
    cases l
    ·have a:floatOfInt .f64 (d:Int)=F:=by have c:=g.out;rw[if_neg ar] at c;exact c
     have b:=U a;clear a
     go_wp2_with fail
     go_meet
     exact⟨by first|rfl|rw[b.out],rfl⟩
    ·have a:Op.negFloat .f64 (floatOfInt .f64 (d:Int))=F:=by have c:=g.out;rw[if_pos rfl] at c;exact c
     have j:∀ w,(Op.unary .neg (.float .f64 (floatOfInt .f64 (d:Int)))).run Tryz.prog w=.ok (.float .f64 F) w:=fun w=>by rw[<-a];exact ec w _
     have b:=U a;clear a
     go_wp2_with fail
     go_meet
     exact⟨by first|rfl|rw[b.out],rfl⟩
   case rest=>
   obtain⟨rfl,rfl⟩:=hcut
   go_wp2_with fail
   go_ret2
   exact⟨rfl,rfl⟩
  ·have t:(p==0)=false:=b1
   by_cases Q:p<=37
   ·by_cases y:22<p
    ·obtain⟨i,rfl⟩:∃ i:Nat,p=(i:Int)+22:=⟨(p-22).toNat,O⟩;obtain⟨r,n,o⟩:=zk B (v i O);have I:=fun w=>run_float_arith (P:=Tryz.prog) w .mul 158 .f64 F (q i) r n;obtain⟨L,u,_⟩:=zk o (v 22 O);have R:=fun w=>run_float_arith (P:=Tryz.prog) w .mul 158 .f64 r (q 22) L u;have m:(i:Int)<23:=O
     clear n u
     rcases C:(FloatKind.f64.format.order r 4831355200913801216==some Ordering.gt) with _|_
     ·rcases D:(FloatKind.f64.format.order r 14054727237768577024==some Ordering.lt) with _|_
      ·skip
       refine⟨L,true,fun w e=>?_⟩;have f0:=e.f0;have g0:=e.g0;have gg:=e.gg i O;have H:=e.gg 22 O;clear e;go_enter Tryz.func208,Tryz.ntmps208
       go_upto_if 15 with fail
       go_cut [6] from 12 to 17 (fun h k=>h=.float .f64 F/\k=w)
       case first=>
        cases l
        ·have a:floatOfInt .f64 (d:Int)=F:=by have c:=g.out;rw[if_neg ar] at c;exact c
         have b:=U a;clear a
         go_wp2_with fail
         go_meet
         exact⟨by first|rfl|rw[b.out],rfl⟩
        ·have a:Op.negFloat .f64 (floatOfInt .f64 (d:Int))=F:=by have c:=g.out;rw[if_pos rfl] at c;exact c
         have j:∀ w,(Op.unary .neg (.float .f64 (floatOfInt .f64 (d:Int)))).run Tryz.prog w=.ok (.float .f64 F) w:=fun w=>by rw[<-a];exact ec w _
         have b:=U a;clear a
         go_wp2_with fail
         go_meet
         exact⟨by first|rfl|rw[b.out],rfl⟩
       case rest=>
       obtain⟨rfl,rfl⟩:=hcut
       go_wp2_with fail
       go_ret2
       exact⟨rfl,rfl⟩
      ·skip
       refine⟨r,false,fun w e=>?_⟩;have f0:=e.f0;have g0:=e.g0;have gg:=e.gg i O;clear e;go_enter Tryz.func208,Tryz.ntmps208
       go_upto_if 15 with fail
       go_cut [6] from 12 to 17 (fun h k=>h=.float .f64 F/\k=w)
       case first=>
        cases l
        ·have a:floatOfInt .f64 (d:Int)=F:=by have c:=g.out;rw[if_neg ar] at c;exact c
         have b:=U a;clear a
         go_wp2_with fail
         go_meet
         exact⟨by first|rfl|rw[b.out],rfl⟩
        ·have a:Op.negFloat .f64 (floatOfInt .f64 (d:Int))=F:=by have c:=g.out;rw[if_pos rfl] at c;exact c
         have j:∀ w,(Op.unary .neg (.float .f64 (floatOfInt .f64 (d:Int)))).run Tryz.prog w=.ok (.float .f64 F) w:=fun w=>by rw[<-a];exact ec w _
         have b:=U a;clear a
         go_wp2_with fail
         go_meet
         exact⟨by first|rfl|rw[b.out],rfl⟩
       case rest=>
       obtain⟨rfl,rfl⟩:=hcut
       go_wp2_with fail
       go_ret2
       exact⟨rfl,rfl⟩
     ·skip
      refine⟨r,false,fun w e=>?_⟩;have f0:=e.f0;have g0:=e.g0;have gg:=e.gg i O;clear e;go_enter Tryz.func208,Tryz.ntmps208
      go_upto_if 15 with fail
      go_cut [6] from 12 to 17 (fun h k=>h=.float .f64 F/\k=w)
      case first=>
       cases l
       ·have a:floatOfInt .f64 (d:Int)=F:=by have c:=g.out;rw[if_neg ar] at c;exact c
        have b:=U a;clear a
        go_wp2_with fail
        go_meet
        exact⟨by first|rfl|rw[b.out],rfl⟩
       ·have a:Op.negFloat .f64 (floatOfInt .f64 (d:Int))=F:=by have c:=g.out;rw[if_pos rfl] at c;exact c
        have j:∀ w,(Op.unary .neg (.float .f64 (floatOfInt .f64 (d:Int)))).run Tryz.prog w=.ok (.float .f64 F) w:=fun w=>by rw[<-a];exact ec w _
        have b:=U a;clear a
        go_wp2_with fail
        go_meet
        exact⟨by first|rfl|rw[b.out],rfl⟩
      case rest=>
      obtain⟨rfl,rfl⟩:=hcut
      go_wp2_with fail
      go_ret2
      exact⟨rfl,rfl⟩
    ·obtain⟨i,rfl⟩:∃ i:Nat,p=(i:Int):=⟨p.toNat,O⟩;obtain⟨r,n,o⟩:=zk B (v i O);have I:=fun w=>run_float_arith (P:=Tryz.prog) w .mul 158 .f64 F (q i) r n;have m:(i:Int)<23:=O
     clear n
     rcases C:(FloatKind.f64.format.order F 4831355200913801216==some Ordering.gt) with _|_
     ·rcases D:(FloatKind.f64.format.order F 14054727237768577024==some Ordering.lt) with _|_
      ·skip
       refine⟨r,true,fun w e=>?_⟩;have f0:=e.f0;have g0:=e.g0;have gg:=e.gg i O;clear e;go_enter Tryz.func208,Tryz.ntmps208
       go_upto_if 15 with fail
       go_cut [6] from 12 to 17 (fun h k=>h=.float .f64 F/\k=w)
       case first=>
        cases l
        ·have a:floatOfInt .f64 (d:Int)=F:=by have c:=g.out;rw[if_neg ar] at c;exact c
         have b:=U a;clear a
         go_wp2_with fail
         go_meet
         exact⟨by first|rfl|rw[b.out],rfl⟩
        ·have a:Op.negFloat .f64 (floatOfInt .f64 (d:Int))=F:=by have c:=g.out;rw[if_pos rfl] at c;exact c
         have j:∀ w,(Op.unary .neg (.float .f64 (floatOfInt .f64 (d:Int)))).run Tryz.prog w=.ok (.float .f64 F) w:=fun w=>by rw[<-a];exact ec w _
         have b:=U a;clear a
         go_wp2_with fail
         go_meet
         exact⟨by first|rfl|rw[b.out],rfl⟩
       case rest=>
       obtain⟨rfl,rfl⟩:=hcut
       go_wp2_with fail
       go_ret2
       exact⟨rfl,rfl⟩
      ·skip
       refine⟨F,false,fun w e=>?_⟩;have f0:=e.f0;have g0:=e.g0;have gg:=e.gg i O;clear e;go_enter Tryz.func208,Tryz.ntmps208
       go_upto_if 15 with fail
       go_cut [6] from 12 to 17 (fun h k=>h=.float .f64 F/\k=w)
       case first=>
        cases l
        ·have a:floatOfInt .f64 (d:Int)=F:=by have c:=g.out;rw[if_neg ar] at c;exact c
         have b:=U a;clear a
         go_wp2_with fail
         go_meet
         exact⟨by first|rfl|rw[b.out],rfl⟩
        ·have a:Op.negFloat .f64 (floatOfInt .f64 (d:Int))=F:=by have c:=g.out;rw[if_pos rfl] at c;exact c
         have j:∀ w,(Op.unary .neg (.float .f64 (floatOfInt .f64 (d:Int)))).run Tryz.prog w=.ok (.float .f64 F) w:=fun w=>by rw[<-a];exact ec w _
         have b:=U a;clear a
         go_wp2_with fail
         go_meet
         exact⟨by first|rfl|rw[b.out],rfl⟩
       case rest=>
       obtain⟨rfl,rfl⟩:=hcut
       go_wp2_with fail
       go_ret2
       exact⟨rfl,rfl⟩
     ·skip
      refine⟨F,false,fun w e=>?_⟩;have f0:=e.f0;have g0:=e.g0;have gg:=e.gg i O;clear e;go_enter Tryz.func208,Tryz.ntmps208
      go_upto_if 15 with fail
      go_cut [6] from 12 to 17 (fun h k=>h=.float .f64 F/\k=w)
      case first=>
       cases l
       ·have a:floatOfInt .f64 (d:Int)=F:=by have c:=g.out;rw[if_neg ar] at c;exact c
        have b:=U a;clear a
        go_wp2_with fail
        go_meet
        exact⟨by first|rfl|rw[b.out],rfl⟩
       ·have a:Op.negFloat .f64 (floatOfInt .f64 (d:Int))=F:=by have c:=g.out;rw[if_pos rfl] at c;exact c
        have j:∀ w,(Op.unary .neg (.float .f64 (floatOfInt .f64 (d:Int)))).run Tryz.prog w=.ok (.float .f64 F) w:=fun w=>by rw[<-a];exact ec w _
        have b:=U a;clear a
        go_wp2_with fail
        go_meet
        exact⟨by first|rfl|rw[b.out],rfl⟩
      case rest=>
      obtain⟨rfl,rfl⟩:=hcut
      go_wp2_with fail
      go_ret2
      exact⟨rfl,rfl⟩
   ·have S:¬p<0:=O
    refine⟨F,false,fun w e=>?_⟩;have f0:=e.f0;have g0:=e.g0;clear e;go_enter Tryz.func208,Tryz.ntmps208
    go_upto_if 15 with fail
    go_cut [6] from 12 to 17 (fun h k=>h=.float .f64 F/\k=w)
    case first=>
     cases l
     ·have a:floatOfInt .f64 (d:Int)=F:=by have c:=g.out;rw[if_neg ar] at c;exact c
      have b:=U a;clear a
      go_wp2_with fail
      go_meet
      exact⟨by first|rfl|rw[b.out],rfl⟩
     ·have a:Op.negFloat .f64 (floatOfInt .f64 (d:Int))=F:=by have c:=g.out;rw[if_pos rfl] at c;exact c
      have j:∀ w,(Op.unary .neg (.float .f64 (floatOfInt .f64 (d:Int)))).run Tryz.prog w=.ok (.float .f64 F) w:=fun w=>by rw[<-a];exact ec w _
      have b:=U a;clear a
      go_wp2_with fail
      go_meet
      exact⟨by first|rfl|rw[b.out],rfl⟩
    case rest=>
    obtain⟨rfl,rfl⟩:=hcut
    go_wp2_with fail
    go_ret2
    exact⟨rfl,rfl⟩
 ·have N:((d:Int)/4503599627370496==0)=false:=by
   have:(d:Int)/4503599627370496=((d/2^52:Nat):Int):=O
   rw[this];simp;omega
  have M:=U s;clear s;refine⟨0,false,fun w e=>?_⟩;have f0:=e.f0;clear e;go_enter Tryz.func208,Tryz.ntmps208
  go_wp2_with fail
  go_ret2
  exact⟨rfl,rfl⟩
end
theorem ft{j:Func}{a b c d e f g:Tmp}(h:j.results=#[.tmp a,.tmp b,.tmp c,.tmp d,.tmp e,.tmp f,.tmp g])(i:Array Value)(P:Program)(w:World):
 (results j i).run P w=.ok (.tuple #[i.getD a undef,i.getD b undef,i.getD c undef,i.getD d undef,i.getD e undef,i.getD f undef,i.getD g undef]) w:=by
 simp[results,h]
structure Rs where
 i:Nat
 dot:Bool
 kI:Bool
 nd:Nat
 nm:Nat
 dp:Int
 m:Nat
 tr:Bool
def rB(s:ByteArray):Nat->Rs->Rs
 |0,r=>r
 |k+1,r=>
  if bt s r.i=46 then(if r.dot then r else rB s k {r with i:=r.i+1,dp:=(r.nd:Nat),dot:=true})
  else if 48<=bt s r.i/\bt s r.i<=57 then
   (if bt s r.i=48/\r.nd=0 then rB s k {r with i:=r.i+1,dp:=r.dp-1,kI:=true}
   else if r.nm<19 then rB s k {r with i:=r.i+1,nd:=r.nd+1,nm:=r.nm+1,m:=r.m*10+(bt s r.i-48),kI:=true}
   else rB s k {r with i:=r.i+1,nd:=r.nd+1,tr:=if bt s r.i=48 then r.tr else true,kI:=true})
  else r
structure Rr where
 m:Nat
 e:Int
 tr:Bool
 i:Nat
 ok:Bool
def MH(s:ByteArray)(r:Rs)(j:Nat)(sn:Int)(p:Int):Rr:=
 ⟨r.m,if r.m=0 then 0 else wrap64 (wrap64 (p+wrap64 (((kT s (s.size-j) j 0).2:Nat)*sn))-(r.nm:Nat)),r.tr,(kT s (s.size-j) j 0).1,true⟩
def C3(s:ByteArray)(r:Rs)(p:Int):Rr:=
 if r.i<s.size/\bt s r.i=101 then
  if s.size<=r.i+1 then⟨r.m,0,r.tr,r.i+1,false⟩ else
  if s.size<=(if bt s (r.i+1)=45 then r.i+2 else r.i+1)\/¬(48<=bt s (if bt s (r.i+1)=45 then r.i+2 else r.i+1)/\bt s (if bt s (r.i+1)=45 then r.i+2 else r.i+1)<=57) then⟨r.m,0,r.tr,if bt s (r.i+1)=45 then r.i+2 else r.i+1,false⟩
  else MH s r (if bt s (r.i+1)=45 then r.i+2 else r.i+1) (if bt s (r.i+1)=45 then-1 else 1) p
 else⟨r.m,if r.m=0 then 0 else p-(r.nm:Nat),r.tr,r.i,true⟩
def ud(s:ByteArray):Rr:=
 if s.size=0 then⟨0,0,false,0,false⟩ else
 let r:=rB s (s.size-(if bt s 0=45 then 1 else 0)) ⟨if bt s 0=45 then 1 else 0,false,false,0,0,0,0,false⟩
 if r.kI=false then⟨r.m,0,r.tr,r.i,false⟩ else C3 s r (if r.dot then r.dp else(r.nd:Nat))
theorem F4(s:ByteArray)(dH:RC s)(eM:s.size<=200)(w:World):
 Calls Tryz.prog 198 #[.string s] w fun e aZ=>e=.returned (.tuple #[.int .u64 ((ud s).m:Nat),.int .i64 (ud s).e,.bool (decide (bt s 0=45)),.bool (ud s).tr,.bool false,.int .i64 ((ud s).i:Nat),.bool (ud s).ok])/\aZ=w:=by
 obtain⟨R,W⟩:∃ R,ud s=R:=⟨_,rfl⟩;rw[W];obtain⟨eF,eG,eH,eI,eJ⟩:=R;dsimp only;have b6:=U dH;unfold ud at W;clear dH
 by_cases bI:s.size=0
 ·rw[if_pos bI] at W;injection W with u p y A B;subst u p y A B
  have bR:s=ByteArray.empty:=by
   rcases s with⟨⟨l⟩⟩
   cases l with
   |nil=>rfl
   |cons a l=>simp[ByteArray.size] at bI
  subst bR;have bM:(decide (bt ByteArray.empty 0=45))=false:=bh
  rw[bM];clear bI bM;go_enter Tryz.func198,Tryz.ntmps198
  go_wp2_with fail
  go_step3
  go_wp2_with fail
  (try rw[im])
  refine bodyPost_ret (ft rfl _ _ _) rfl ?_;exact⟨rfl,rfl⟩
 rw[if_neg bI] at W;have cI:0<s.size:=O
 clear bI;obtain⟨r,aC⟩:∃ r:Nat,(if bt s 0=45 then 1 else 0)=r:=⟨_,rfl⟩;rw[aC] at W;have dM:r<=1:=by rw[<-aC];split<;>omega
 obtain⟨M,cM⟩:∃ M,rB s (s.size-r) ⟨r,false,false,0,0,0,0,false⟩=M:=⟨_,rfl⟩;rw[cM] at W;dsimp only at W;have dU:=U cM;have aF:=U W;have bG:=U aC;obtain⟨aX,N⟩:∃ x,decide (bt s 0=45)=x:=⟨_,rfl⟩;rw[N];have bF:=U N;clear cM W aC N;have k:∀ w,(Instr.index 9 (.string s) (.int .i64 0)).run Tryz.prog w=.ok (.int .u8 (bt s 0:Nat)) w:=fun w=>f' Tryz.underlying9 cI rfl;obtain⟨z,P⟩:∃ z,bt s 0=z:=⟨_,rfl⟩;have bS:=b6.out 0 cI;rw[P] at k bS;have cA:=U P;clear P;have bR:¬s=ByteArray.empty:=by intro e;subst e;exact absurd cI bh
 go_enter Tryz.func198,Tryz.ntmps198
 go_wp2_with fail
 go_step3
 go_upto_block 0 with fail
 go_cut [7,4] from 28 to 35 (fun Q bV S=>Q=.int .i64 (r:Nat)/\bV=.bool aX/\S=w)
 case first=>
  by_cases t:z=45
  ·subst t;have aH:r=1:=by have:=bG.out;rw[if_pos cA.out] at this;exact this.symm
   have aI:aX=true:=by rw[<-bF.out,show bt s 0=45 from cA.out];rfl
   subst aH aI
   go_wp2_with fail
   go_meet
   exact⟨rfl,rfl,rfl⟩
  ·have aH:r=0:=by have:=bG.out;rw[if_neg (by rw[cA.out];exact t)] at this;exact this.symm
   have aI:aX=false:=by rw[<-bF.out,show bt s 0=z from cA.out];simpa using t
   subst aH aI;have dB:((z:Int)==43)=false:=b1
   have dC:((z:Int)==45)=false:=b1
   go_wp2_with fail
   go_meet
   exact⟨rfl,rfl,rfl⟩
 case rest=>
 obtain⟨rfl,rfl,rfl⟩:=hcut;clear k bS
 go_upto_region 12 with fail
 go_cut [54] from 36 to 54 (fun v S=>v=.bool false/\S=wc)
 case first=>
  by_cases eL:r+2<s.size
  ·have cJ:(r:Int)+2<s.size:=O
   have k:∀ w,(Instr.index 9 (.string s) (.int .i64 (r:Int))).run Tryz.prog w=.ok (.int .u8 (bt s r:Nat)) w:=fun w=>f' Tryz.underlying9 O rfl;have bN:∀ w,(Instr.index 9 (.string s) (.int .i64 ((r:Int)+1))).run Tryz.prog w=.ok (.int .u8 (bt s (r+1):Nat)) w:=fun w=>f' Tryz.underlying9 O O;have aT:=b6.out (r+1) O;obtain⟨T,H⟩:∃ c,bt s r=c:=⟨_,rfl⟩;obtain⟨c2,aK⟩:∃ c,bt s (r+1)=c:=⟨_,rfl⟩;rw[H] at k;rw[aK] at bN aT;have dP:((c2:Int)==120)=false:=b1
   have cE:=U aT;clear H aT aK
   by_cases h:T=48
   ·subst h
    go_wp2_with (refine(jv cE _).mono ?_;rintro e aZ ⟨rfl,rfl⟩)
    go_meet
    exact⟨rfl,rfl⟩
   ·have aE:((T:Int)==48)=false:=b1
    have bC:=U h;clear h
    go_wp2_with fail
    go_meet
    exact⟨rfl,rfl⟩
  ·have cJ:¬(r:Int)+2<s.size:=O
   go_wp2_with fail
   go_meet
   exact⟨rfl,rfl⟩
 case rest=>
 obtain⟨rfl,rfl⟩:=hcut
 go_upto_block 1 with fail
 go_step3
 go_upto_block 1 with fail
 go_cut [2,5,7,9,13,14,15,16,17,18] from 57 to 138 (fun mv dE Q aY cF cH bV cY bX _ S=>mv=.int .u64 (M.m:Nat)/\dE=.bool M.tr/\Q=.int .i64 (M.i:Nat)/\cF=.bool M.dot/\cH=.bool M.kI/\bV=.int .i64 (M.nd:Nat)/\cY=.int .i64 (M.nm:Nat)/\bX=.int .i64 M.dp/\M.i<=s.size/\M.nd<=200/\M.nm<=19/\(-200<=M.dp/\M.dp<=200)/\aY=.bool false/\S=wc)
 case first=>
  go_wp2_with fail
  go_loopg [2,5,7,9,13,14,15,16,17,18] (s.size-r) (fun g mv dE Q aY cF cH bV cY bX _ wr=>∃ i dot kI nd nm dp m tr,mv=.int .u64 ((m:Nat):Int)/\dE=.bool tr/\Q=.int .i64 ((i:Nat):Int)/\cF=.bool dot/\cH=.bool kI/\bV=.int .i64 ((nd:Nat):Int)/\cY=.int .i64 ((nm:Nat):Int)/\bX=.int .i64 dp/\g+i=s.size/\nd<=i/\nm<=19/\(-(i:Int)<=dp/\dp<=i)/\Hid (m<10^nm)/\Hid (rB s g ⟨i,dot,kI,nd,nm,dp,m,tr⟩=M)/\aY=.bool false/\wr=wc)
  case atStart=>exact⟨r,false,false,0,0,0,0,false,rfl,rfl,rfl,rfl,rfl,rfl,rfl,rfl,O,O,O,O,U bh,dU,rfl,rfl⟩
  case round=>
   obtain⟨i,dot,kI,nd,nm,dp,m,tr,rfl,rfl,rfl,rfl,rfl,rfl,rfl,rfl,cR,eB,cV,dX,D,G,rfl,rfl⟩:=hrel;have X:nd<=200:=O
   have Y:nm<=19:=cV;have Z:-200<=dp/\dp<=200:=O
   rcases gk with _|g
   ·obtain rfl:i=s.size:=O
    have b:=G.out;rw[rB] at b;subst b
    go_wp2_with fail
    go_meet
    exact⟨rfl,rfl,rfl,rfl,rfl,rfl,rfl,rfl,aw _,X,Y,Z,rfl,rfl⟩
   ·have C:i<s.size:=O
    have k:∀ w,(Instr.index 9 (.string s) (.int .i64 (i:Int))).run Tryz.prog w=.ok (.int .u8 (bt s i:Nat)) w:=fun w=>f' Tryz.underlying9 C rfl;have b:=G.out;rw[rB] at b;dsimp only at b;have d:=b6.out i C;obtain⟨c,F⟩:∃ c,bt s i=c:=⟨_,rfl⟩;rw[F] at k b d;have aQ:=U F;clear F G
    by_cases E:c=46
    ·subst E;rw[if_pos rfl] at b;cases dot
     ·rw[if_neg ar] at b;have G:=U b;clear b d
      go_wp2_with fail
      go_roundg g
      case measure=>omega
      case rel=>exact⟨i+1,true,kI,nd,nm,(nd:Nat),m,tr,rfl,rfl,congrArg (Value.int .i64) O,rfl,rfl,rfl,rfl,rfl,O,O,O,O,D,G,rfl,rfl⟩
     ·rw[if_pos rfl] at b;subst b;clear d
      go_wp2_with fail
      go_meet
      exact⟨rfl,rfl,rfl,rfl,rfl,rfl,rfl,rfl,by show i<=s.size;omega,X,Y,Z,rfl,rfl⟩
    ·rw[if_neg E] at b
     by_cases I:48<=c/\c<=57
     ·rw[if_pos I] at b;have aW:((c:Int)==95)=false:=b1
      have dD:((c:Int)==46)=false:=b1
      have aD:(48:Int)<=c:=O
      have bA:(c:Int)<=57:=O
      by_cases P:c=48/\nd=0
      ·rw[if_pos P] at b;obtain⟨rfl,rfl⟩:=P;have G:=U b;clear b d I E
       go_wp2_with fail
       go_roundg g
       case measure=>omega
       case rel=>exact⟨i+1,dot,true,0,nm,dp-1,m,tr,rfl,rfl,congrArg (Value.int .i64) O,rfl,rfl,rfl,rfl,rfl,O,O,O,O,D,G,rfl,rfl⟩
      ·rw[if_neg P] at b
       by_cases bJ:nm<19
       ·rw[if_pos bJ] at b;have G:=U b;have bK:(nm:Int)<19:=O
        have bQ:=D.out;have aP:10^nm<=10^18:=nV O O;have aO:m*10+(c-48)<10^(nm+1):=by rw[qu];omega
        have aG:=U aO;have dL:m<1000000000000000000:=O
        have aH:((c:Int)-48)%256=(c:Int)-48:=O
        have dW:IntKind.u64.wrap ((c:Int)-48)=(c:Int)-48:=gN _ O;have aI:IntKind.u64.wrap ((m:Int)*10)=(m:Int)*10:=gN _ O;have eK:IntKind.u64.wrap ((m:Int)*10+((c:Int)-48))=((m*10+(c-48):Nat):Int):=by rw[gN _ O];omega
        have dV:=U bQ;have eE:=U aP;clear bQ aP aO b d I E
        by_cases h:c=48
        ·have cU:((nd:Int)==0)=false:=b1
         have aE:((c:Int)==48)=true:=by simp[h]
         have bC:=U h;clear h P
         go_wp2_with fail
         go_roundg g
         case measure=>omega
         case rel=>exact⟨i+1,dot,true,nd+1,nm+1,dp,m*10+(c-48),tr,by first|rfl|exact congrArg (Value.int .u64) O,rfl,congrArg (Value.int .i64) O,rfl,rfl,congrArg (Value.int .i64) O,congrArg (Value.int .i64) O,rfl,O,O,O,O,aG,G,rfl,rfl⟩
        ·have aE:((c:Int)==48)=false:=b1
         clear h P
         go_wp2_with fail
         go_roundg g
         case measure=>omega
         case rel=>exact⟨i+1,dot,true,nd+1,nm+1,dp,m*10+(c-48),tr,by first|rfl|exact congrArg (Value.int .u64) O,rfl,congrArg (Value.int .i64) O,rfl,rfl,congrArg (Value.int .i64) O,congrArg (Value.int .i64) O,rfl,O,O,O,O,aG,G,rfl,rfl⟩
       ·rw[if_neg bJ] at b;have bK:¬(nm:Int)<19:=O
        clear d I E
        by_cases h:c=48
        ·have cU:((nd:Int)==0)=false:=b1
         have aE:((c:Int)==48)=true:=by simp[h]
         have bU:((c:Int) != 48)=false:=by simp[h]
         rw[if_pos h] at b;have G:=U b;have bC:=U h;clear h P b
         go_wp2_with fail
         go_roundg g
         case measure=>omega
         case rel=>exact⟨i+1,dot,true,nd+1,nm,dp,m,tr,rfl,rfl,congrArg (Value.int .i64) O,rfl,rfl,congrArg (Value.int .i64) O,rfl,rfl,O,O,O,O,D,G,rfl,rfl⟩
        ·have aE:((c:Int)==48)=false:=b1
         have bU:((c:Int) != 48)=true:=b1
         rw[if_neg h] at b;have G:=U b;clear h P b
         go_wp2_with fail
         go_roundg g
         case measure=>omega
         case rel=>exact⟨i+1,dot,true,nd+1,nm,dp,m,true,rfl,rfl,congrArg (Value.int .i64) O,rfl,rfl,congrArg (Value.int .i64) O,rfl,rfl,O,O,O,O,D,G,rfl,rfl⟩
     ·rw[if_neg I] at b;subst b;have aW:((c:Int)==95)=false:=b1
      have dD:((c:Int)==46)=false:=b1
      by_cases dK:48<=c
      ·have aD:(48:Int)<=c:=O
       have bA:¬(c:Int)<=57:=O
       clear d I E
       go_wp2_with fail
       go_meet
       exact⟨rfl,rfl,rfl,rfl,rfl,rfl,rfl,rfl,by show i<=s.size;omega,X,Y,Z,rfl,rfl⟩
      ·have aD:¬(48:Int)<=c:=O
       clear d I E
       go_wp2_with fail
       go_meet
       exact⟨rfl,rfl,rfl,rfl,rfl,rfl,rfl,rfl,by show i<=s.size;omega,X,Y,Z,rfl,rfl⟩
 case rest=>
 obtain⟨rfl,rfl,rfl,rfl,rfl,rfl,rfl,rfl,cN,cP,cO,cQ,rfl,rfl⟩:=hcut;obtain⟨i,dot,kI,nd,nm,dp,m,tr⟩:=M;dsimp only at cN cP cO cQ aF⊢;have f:=aF.out;cases kI
 ·rw[if_pos rfl] at f;injection f with u p y A B;subst u p y A B
  go_wp2_with fail
  (try rw[im])
  refine bodyPost_ret (ft rfl _ _ _) rfl ?_;exact⟨rfl,rfl⟩
 rw[if_neg ar] at f;obtain⟨q,aB⟩:∃ q:Int,(if dot=true then dp else(nd:Nat))=q:=⟨_,rfl⟩;rw[aB] at f;have cW:-200<=q/\q<=200:=by rw[<-aB];split<;>omega
 have aF:=U f;have cB:=U aB;clear f aB
 go_upto_if 142 with fail
 go_cut [17] from 142 to 143 (fun bX S=>bX=.int .i64 q/\S=wc)
 case first=>
  cases dot
  ·have aB:((nd:Nat):Int)=q:=by have bL:=cB.out;rw[if_neg ar] at bL;exact bL
   have cB:=U aB;clear aB
   go_wp2_with fail
   go_meet
   exact⟨by rw[cB.out],rfl⟩
  ·have aB:dp=q:=by have bL:=cB.out;rw[if_pos rfl] at bL;exact bL
   subst aB
   go_wp2_with fail
   go_meet
   exact⟨rfl,rfl⟩
 case rest=>
 obtain⟨rfl,rfl⟩:=hcut;have dJ:i<=200:=O
 have f:=aF.out;unfold C3 at f;dsimp only at f
 by_cases aJ:i<s.size/\bt s i=101
 ·rw[if_pos aJ] at f;obtain⟨cL,aR⟩:=aJ;have k:∀ w,(Instr.index 9 (.string s) (.int .i64 (i:Int))).run Tryz.prog w=.ok (.int .u8 (bt s i:Nat)) w:=fun w=>f' Tryz.underlying9 cL rfl;rw[aR] at k;have dS:=U aR;clear aR
  by_cases bO:s.size<=i+1
  ·rw[if_pos bO] at f;injection f with u p y A B;subst u p y A B;have L:(s.size:Int)<=(i:Int)+1:=O
   go_wp2_with (refine(jv (c:=101) O _).mono ?_;rintro e aZ ⟨rfl,rfl⟩)
   (try rw[im])
   refine bodyPost_ret (ft rfl _ _ _) rfl ?_;exact⟨rfl,rfl⟩
  rw[if_neg bO] at f;have aN:i+1<s.size:=O
  have L:¬(s.size:Int)<=(i:Int)+1:=O
  have aM:∀ w,(Instr.index 9 (.string s) (.int .i64 ((i:Int)+1))).run Tryz.prog w=.ok (.int .u8 (bt s (i+1):Nat)) w:=fun w=>f' Tryz.underlying9 aN O;obtain⟨T,H⟩:∃ T,bt s (i+1)=T:=⟨_,rfl⟩;have J:=b6.out (i+1) aN;rw[H] at aM J f;have dR:=U H;obtain⟨j,cC⟩:∃ j,(if T=45 then i+2 else i+1)=j:=⟨_,rfl⟩;obtain⟨bY,aU⟩:∃ bY:Int,(if T=45 then-1 else 1)=bY:=⟨_,rfl⟩;rw[cC,aU] at f;have dF:=U cC;have bH:=U aU;have dZ:i+1<=j/\j<=i+2:=by rw[<-cC];split<;>omega
  have aF:=U f;clear H cC aU f
  go_upto_block 4 with(refine(jv (c:=101) O _).mono ?_;rintro e aZ ⟨rfl,rfl⟩)
  go_cut [7,19] from 171 to 178 (fun Q eC S=>Q=.int .i64 (j:Nat)/\eC=.int .i64 bY/\S=aZ)
  case first=>
   by_cases t:T=45
   ·subst t;have aH:i+2=j:=dF.out;have aI:(-1:Int)=bY:=bH.out;subst aH aI
    go_wp2_with fail
    go_meet
    exact⟨congrArg (Value.int .i64) O,rfl,rfl⟩
   ·have aH:i+1=j:=by have:=dF.out;rwa [if_neg t] at this
    have aI:(1:Int)=bY:=by have:=bH.out;rwa [if_neg t] at this
    subst aH aI;have dB:((T:Int)==43)=false:=b1
    have dC:((T:Int)==45)=false:=b1
    have dQ:=U t;clear t J
    go_wp2_with fail
    go_meet
    exact⟨congrArg (Value.int .i64) O,rfl,rfl⟩
  case rest=>
  obtain⟨rfl,rfl,rfl⟩:=hcut;clear k aM J L;have f:=aF.out
  by_cases cT:s.size<=j
  ·rw[if_pos (.inl cT)] at f;injection f with u p y A B;subst u p y A B;have L:(s.size:Int)<=(j:Int):=O
   go_wp2_with fail
   (try rw[im])
   refine bodyPost_ret (ft rfl _ _ _) rfl ?_;exact⟨rfl,rfl⟩
  have cS:j<s.size:=O
  have L:¬(s.size:Int)<=(j:Int):=O
  have k:∀ w,(Instr.index 9 (.string s) (.int .i64 (j:Int))).run Tryz.prog w=.ok (.int .u8 (bt s j:Nat)) w:=fun w=>f' Tryz.underlying9 cS rfl;obtain⟨c,F⟩:∃ c,bt s j=c:=⟨_,rfl⟩;rw[F] at k f;have aQ:=U F;clear F
  by_cases aA:48<=c/\c<=57
  ·rw[if_neg O] at f;rw[MH] at f;dsimp only at f;obtain⟨bT,bZ,aL⟩:∃ bT bZ,kT s (s.size-j) j 0=(bT,bZ):=⟨_,_,rfl⟩;rw[aL] at f;dsimp only at f;have cD:=U aL;have aF:=U f;have aD:(48:Int)<=c:=O
   have bA:(c:Int)<=57:=O
   have cZ:¬(c:Int)<48:=O
   have dA:¬(57:Int)<c:=O
   clear aL aA f
   go_upto_block 5 with fail
   clear aD bA cZ dA k L
   go_cut [7,9,20] from 195 to 232 (fun Q aY cG S=>Q=.int .i64 (bT:Nat)/\aY=.bool false/\cG=.int .i64 (bZ:Nat)/\bZ<=100009/\bT<=s.size/\S=wc)
   case first=>
    go_wp2_with fail
    go_loopg [7,9,20] (s.size-j) (fun g Q aY cG wr=>∃ i e:Nat,Q=.int .i64 (i:Nat)/\aY=.bool false/\cG=.int .i64 (e:Nat)/\g+i=s.size/\e<=100009/\Hid (kT s g i e=(bT,bZ))/\wr=wc)
    case atStart=>exact⟨j,0,rfl,rfl,rfl,O,O,cD,rfl⟩
    case round=>
     obtain⟨i,e,rfl,rfl,rfl,cR,aL,aV,rfl⟩:=hrel
     rcases gk with _|g
     ·obtain rfl:i=s.size:=O
      have n:=aV.out;rw[kT] at n;obtain⟨rfl,rfl⟩:=hD n;clear n
      go_wp2_with fail
      go_meet
      exact⟨rfl,rfl,rfl,aL,aw _,rfl⟩
     ·have C:i<s.size:=O
      have k:∀ w,(Instr.index 9 (.string s) (.int .i64 (i:Int))).run Tryz.prog w=.ok (.int .u8 (bt s i:Nat)) w:=fun w=>f' Tryz.underlying9 C rfl;have n:=aV.out;rw[kT] at n;have d:=b6.out i C;obtain⟨c,F⟩:∃ c,bt s i=c:=⟨_,rfl⟩;rw[F] at k n d;have aQ:=U F;clear F aV
      by_cases I:48<=c/\c<=57
      ·rw[if_pos I] at n;have aD:(48:Int)<=c:=O
       have bA:(c:Int)<=57:=O
       have aW:((c:Int)==95)=false:=b1
       by_cases dG:e<10000
       ·rw[if_pos dG] at n;have aV:=U n;have cK:(e:Int)<10000:=O
        clear n d
        go_wp2_with fail
        go_roundg g
        case measure=>omega
        case rel=>exact⟨i+1,e*10+(c-48),congrArg (Value.int .i64) O,rfl,congrArg (Value.int .i64) O,O,O,aV,rfl⟩
       ·rw[if_neg dG] at n;have aV:=U n;have cK:¬(e:Int)<10000:=O
        clear n d
        go_wp2_with fail
        go_roundg g
        case measure=>omega
        case rel=>exact⟨i+1,e,congrArg (Value.int .i64) O,rfl,rfl,O,aL,aV,rfl⟩
      ·rw[if_neg I] at n;obtain⟨rfl,rfl⟩:=hD n;clear n;have aW:((c:Int)==95)=false:=b1
       by_cases dK:48<=c
       ·have aD:(48:Int)<=c:=O
        have bA:¬(c:Int)<=57:=O
        clear d I
        go_wp2_with fail
        go_meet
        exact⟨rfl,rfl,rfl,aL,O,rfl⟩
       ·have aD:¬(48:Int)<=c:=O
        clear d I
        go_wp2_with fail
        go_meet
        exact⟨rfl,rfl,rfl,aL,O,rfl⟩
   case rest=>
   obtain⟨rfl,rfl,rfl,cX,dY,rfl⟩:=hcut;have f:=aF.out;injection f with u p y A B
   by_cases o:m=0
   ·subst o;rw[if_pos rfl] at p;subst u p y A B
    go_wp2_with (fail)
    (try rw[im])
    refine bodyPost_ret (ft rfl _ _ _) rfl ?_;exact⟨rfl,rfl⟩
   ·have bP:((m:Int) != 0)=true:=b1
    rw[if_neg o] at p;subst u p y A B;have bD:=U o;clear o
    go_wp2_with (fail)
    (try rw[im])
    refine bodyPost_ret (ft rfl _ _ _) rfl ?_;exact⟨rfl,rfl⟩
  ·rw[if_pos (.inr aA)] at f;injection f with u p y A B;subst u p y A B
   by_cases dK:48<=c
   ·have aD:¬(c:Int)<48:=O
    have bA:(57:Int)<(c:Int):=O
    clear aA
    go_wp2_with fail
    (try rw[im])
    refine bodyPost_ret (ft rfl _ _ _) rfl ?_;exact⟨rfl,rfl⟩
   ·have aD:(c:Int)<48:=O
    clear aA
    go_wp2_with fail
    (try rw[im])
    refine bodyPost_ret (ft rfl _ _ _) rfl ?_;exact⟨rfl,rfl⟩
 ·rw[if_neg aJ] at f;injection f with u p y A B
  by_cases C:i<s.size
  ·have d:=b6.out i C;have k:∀ w,(Instr.index 9 (.string s) (.int .i64 (i:Int))).run Tryz.prog w=.ok (.int .u8 (bt s i:Nat)) w:=fun w=>f' Tryz.underlying9 C rfl;obtain⟨c,F⟩:∃ c,bt s i=c:=⟨_,rfl⟩;rw[F] at k d aJ;have dO:((c:Int)==101)=false:=b1
   have aQ:=U F;have bE:=U d;have cD:=U aJ;clear d F aJ
   by_cases o:m=0
   ·subst o;rw[if_pos rfl] at p;subst u p y A B
    go_wp2_with (refine(jv bE _).mono ?_;rintro e aZ ⟨rfl,rfl⟩)
    (try rw[im])
    refine bodyPost_ret (ft rfl _ _ _) rfl ?_;exact⟨rfl,rfl⟩
   ·have bP:((m:Int) != 0)=true:=b1
    rw[if_neg o] at p;subst u p y A B;have bD:=U o;clear o
    go_wp2_with (refine(jv bE _).mono ?_;rintro e aZ ⟨rfl,rfl⟩)
    (try rw[im])
    refine bodyPost_ret (ft rfl _ _ _) rfl ?_;exact⟨rfl,rfl⟩
  ·have cD:=U aJ;have dI:i=s.size:=O
   have eD:=U dI;clear aJ dI
   by_cases o:m=0
   ·subst o;rw[if_pos rfl] at p;subst u p y A B
    go_wp2_with (fail)
    (try rw[im])
    refine bodyPost_ret (ft rfl _ _ _) rfl ?_;exact⟨rfl,rfl⟩
   ·have bP:((m:Int) != 0)=true:=b1
    rw[if_neg o] at p;subst u p y A B;have bD:=U o;clear o
    go_wp2_with (fail)
    (try rw[im])
    refine bodyPost_ret (ft rfl _ _ _) rfl ?_;exact⟨rfl,rfl⟩
end Go.Proofs.YtkblonfmjlopaaaGreatDoor
