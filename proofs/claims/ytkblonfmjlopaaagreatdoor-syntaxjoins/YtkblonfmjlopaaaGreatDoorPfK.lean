/-
  The library's decimal: a float's bits, walked.
-/
import Derived.Test.YtkblonfmjlopaaaGreatDoorPdU
set_option linter.all false
set_option maxRecDepth 1000000
set_option maxHeartbeats 16000000
namespace Go.Proofs.YtkblonfmjlopaaaGreatDoor
open Go Go.RowKit
variable {b:Nat}{cs:Nat->ByteArray}{cd:Nat->Nat}{S:Sd}
theorem ai{B:Nat}{a w:World}(h:Below B a w)(n:Nat):Below B a (w.drewN n):=h.trans ⟨rfl,rfl,rfl,aw _,fun _ _=>rfl⟩
def Exit.to(l:Nat)(X:Act->World->Prop)(Q:Exit->Act->World->Prop):Exit->Act->World->Prop
 |.goto l',a,w=>(l'=l/\X a w)\/(l'≠l/\Q (.goto l') a w)
 |e,a,w=>Q e a w
section
variable {Q:Exit->Act->World->Prop} {a:Act} {w:World} {l:Nat} {X:Act->World->Prop}
@[go_sem] theorem Exit.iy:Exit.to l X Q .ret a w=Q .ret a w:=rfl
theorem Exit.lG(h:X a w):Exit.to l X Q (.goto l) a w:=.inl ⟨rfl,h⟩
theorem Exit.pD{b:Nat}(c:b≠l)(h:Q (.goto b) a w):Exit.to l X Q (.goto b) a w:=.inr ⟨c,h⟩
end
theorem kJ{P:Program}{a:Act}{w:World}{Q:Exit->Act->World->Prop}{c v p:Code}(y q:Nat)(F:y≠q)(C:findLabel c y=some v)(D:findLabel c q=some p)
 (first:c.wp P (Exit.to y (fun a w=>v.wp P (Exit.to q (fun a w=>p.wp P (Exit.noGoto Q) a w) (Exit.noGoto Q)) a w) (Exit.to q (fun a w=>p.wp P (Exit.noGoto Q) a w) (Exit.noGoto Q))) a w):(Code.scope c).wp P Q a w:=by
 intro b k cs;have B:gotoIn y (.inScope c::k)=some (.code v::.inScope c::k):=by simp[gotoIn,C]
 have z:gotoIn q (.inScope c::k)=some (.code p::.inScope c::k):=by simp[gotoIn,D]
 have A:∀ a w,p.wp P (Exit.noGoto Q) a w->∃ e r x,Q e r x/\Arrives P (Go.lone (b.at a (.code p::.inScope c::k)) cs w) b k cs e r x:=by
  intro a w h;obtain⟨e,f,g,j,d⟩:=h b (.inScope c::k) cs;cases e with
  |normal=>exact⟨.normal,f,g,j,Steps.trans d (.one step_inScope)⟩
  |exit id=>exact⟨.exit id,f,g,j,fun u t=>d u (by simp[exitTo,t])⟩
  |goto l'=>exact j.elim
  |ret=>exact⟨_,f,g,j,d⟩
  |panic ch=>exact⟨_,f,g,j,d⟩
  |outgrown=>exact⟨_,f,g,j,d⟩
 have E:∀ a w,v.wp P (Exit.to q (fun a w=>p.wp P (Exit.noGoto Q) a w) (Exit.noGoto Q)) a w->∃ e r x,Q e r x/\Arrives P (Go.lone (b.at a (.code v::.inScope c::k)) cs w) b k cs e r x:=by
  intro a w h;obtain⟨e,f,g,j,d⟩:=h b (.inScope c::k) cs;cases e with
  |normal=>exact⟨.normal,f,g,j,Steps.trans d (.one step_inScope)⟩
  |exit id=>exact⟨.exit id,f,g,j,fun u t=>d u (by simp[exitTo,t])⟩
  |goto l'=>
   rcases j with⟨rfl,s⟩|⟨_,j⟩
   ·obtain⟨n,m,o,l,i⟩:=A _ _ s;exact⟨n,m,o,l,.of_steps (d _ z) i⟩
   ·exact j.elim
  |ret=>exact⟨_,f,g,j,d⟩
  |panic ch=>exact⟨_,f,g,j,d⟩
  |outgrown=>exact⟨_,f,g,j,d⟩
 obtain⟨e,f,g,j,d⟩:=first b (.inScope c::k) cs;cases e with
 |normal=>exact⟨.normal,f,g,j,.head step_scope (Steps.trans d (.one step_inScope))⟩
 |exit id=>exact⟨.exit id,f,g,j,fun u t=>.head step_scope (d u (by simp[exitTo,t]))⟩
 |goto l'=>
  rcases j with⟨rfl,s⟩|⟨_,⟨rfl,s⟩|⟨_,j⟩⟩
  ·obtain⟨n,m,o,l,i⟩:=E _ _ s;exact⟨n,m,o,l,.of_steps (.head step_scope (d _ B)) i⟩
  ·obtain⟨n,m,o,l,i⟩:=A _ _ s;exact⟨n,m,o,l,.of_steps (.head step_scope (d _ z)) i⟩
  ·exact j.elim
 |ret=>exact⟨_,f,g,j,.of_steps (.one step_scope) d⟩
 |panic ch=>exact⟨_,f,g,j,.of_steps (.one step_scope) d⟩
 |outgrown=>exact⟨_,f,g,j,.of_steps (.one step_scope) d⟩
def hV(i:Nat):Nat:=([1,3,6,9,13,16,19,23,26]:List Nat).getD i 27
theorem rA(i:Nat):1<=hV i/\hV i<=27/\(0<i->3<=hV i):=by
 rcases gr i 9 with h|h
 ·rcases i with _|_|_|_|_|_|_|_|_|i<;>first|decide|omega
 ·have:hV i=27:=by unfold hV;rw[xc,j4 (by simpa using h)];rfl
  omega
structure Tf(cd:Nat->Nat)(cs:Nat->ByteArray)(x off y oV b:Nat)(w:World):Prop where
 tb:Tb cd cs x off b w
 ly:y<b
 f0:w.cell? ⟨10,0,none⟩=some (.int .u64 52)
 f1:w.cell? ⟨10,1,none⟩=some (.int .u64 11)
 f2:w.cell? ⟨10,2,none⟩=some (.int .i64 (-1023))
 p0:w.cell? ⟨12,0,none⟩=some (.slice (some ⟨y,oV,none⟩) 9 9)
 pp:∀ i,i<9->w.cell? ⟨y,oV+i,none⟩=some (.int .i64 (hV i:Nat))
theorem Tf.a6{x c y a:Nat}{w w':World}(h:Tf cd cs x c y a b w)(k:Below b w w'):Tf cd cs x c y a b w':=by
 obtain⟨d,e,f,g,j,l,m⟩:=h;have o:=d.lo;refine⟨d.a6 k,e,?_,?_,?_,?_,fun i n=>?_⟩
 ·rw[k.cell b1];exact f
 ·rw[k.cell b1];exact g
 ·rw[k.cell b1];exact j
 ·rw[k.cell b1];exact l
 ·rw[k.cell (by simpa using e)];exact m i n
noncomputable def AU(S:Sd):Int:=open Classical in if h:gG S then Classical.choose (EE S h) else 0
theorem F2(a:gG S){w:World}{c:Bool}(h:zi w b S c):
 Calls Tryz.prog 235 (t_ b) w fun e d=>e=.returned (.int .u64 (AU S))/\∃ q,d=w.drewN q:=by
 unfold AU;rw[dif_pos a];exact Ad (EE S a) w b c h
theorem Dw.dn{w f:World}{c:Nat}{D:Nat->Nat}{a:Int}{d e:Bool}(h:Dw w b f D c a d e)(q:Nat):Dw w b (f.drewN q) D c a d e:=⟨h.dc.a6 (dN _ _ _),h.bl.trans (dN _ _ _)⟩
theorem NF(n:Int):-9223372036854775808<=wrap64 n/\wrap64 n<=9223372036854775807:=by unfold wrap64;omega
def m1(S:Sd):Nat:=if 0<S.dp then(2*S.dp+(if 56<=S.D 0 then 1 else 0)).toNat else 0
def c2(S:Sd):Prop:=S.dp<0\/(S.dp=0/\S.D 0<53)
instance (S:Sd):Decidable (c2 S):=by unfold c2;infer_instance
def m2(S:Sd):Nat:=if c2 S then(20*(-S.dp)+(58-(S.D 0:Int))).toNat+1 else 0
noncomputable def uc(cd:Nat->Nat)(cs:Nat->ByteArray):Nat->Sd->Int->Sd×Int
 |0,S,e=>(S,e)
 |f+1,S,e=>if 0<S.dp then uc cd cs f (nK cd cs (-(hV S.dp.toNat:Int)) S) (wrap64 (e+(hV S.dp.toNat:Nat))) else(S,e)
noncomputable def AV(cd:Nat->Nat)(cs:Nat->ByteArray):Nat->Sd->Int->Sd×Int
 |0,S,e=>(S,e)
 |f+1,S,e=>if c2 S then AV cd cs f (nK cd cs (hV (-S.dp).toNat:Nat) S) (wrap64 (e-(hV (-S.dp).toNat:Nat))) else(S,e)
theorem ME(d:gG S)(b:0<S.dp)(i:S.dp<=310):
 m1 (nK cd cs (-(hV S.dp.toNat:Int)) S)<m1 S/\(nK cd cs (-(hV S.dp.toNat:Int)) S).dp<=310/\-330<=(nK cd cs (-(hV S.dp.toNat:Int)) S).dp:=by
 have e:=rA S.dp.toNat;have a:=e.2.2 O;generalize hV S.dp.toNat=n at*
 have c:nK cd cs (-(n:Int)) S=shr n S:=by
  unfold nK;rw[if_neg O,if_pos O,show(-(-(n:Int))).toNat=n by omega,CW,if_neg O]
 rw[c];obtain⟨f,g,h⟩:=Kw (k:=n) a O d b O;refine⟨?_,O,O⟩;unfold m1;rw[if_pos b]
 split
 ·omega
 ·split<;>omega
theorem MF(e:kG cd cs)(a:gG S)(d:c2 S)(r:-330<=S.dp):
 m2 (nK cd cs (hV (-S.dp).toNat:Nat) S)<m2 S/\-330<=(nK cd cs (hV (-S.dp).toNat:Nat) S).dp:=by
 have f:=rA (-S.dp).toNat;generalize hV (-S.dp).toNat=n at*
 have l:nK cd cs (n:Int) S=shl cd cs n S:=by
  unfold nK;rw[if_pos O,show((n:Int)).toNat=n by omega,CV,if_neg O]
 rw[l];have s:S.dp<=0:=by unfold c2 at d;omega
 obtain⟨c,o,i,j⟩:=Kv (k:=n) e f.1 O a;rw[gv _ O] at i;have g:=uu (k:=n) e f.1 O a;have p:=a.dg 0 a.pos;have q:=g.dg 0 g.pos;generalize shl cd cs n S=h at*;refine⟨?_,O⟩;unfold m2;rw[if_pos d]
 split
 ·rename_i b;have m:h.dp<=0:=by unfold c2 at b;omega
  rcases c with _|c
  ·have:=j rfl;omega
  ·omega
 ·omega
def jw(m E:Int)(ng:Bool):Int:=
 if ng then bits BinOp.or IntKind.u64 (bits BinOp.or IntKind.u64 (bits BinOp.and IntKind.u64 m 4503599627370495) (IntKind.u64.wrap (IntKind.u64.wrap (bits BinOp.and IntKind.i64 E 2047)*4503599627370496))) 9223372036854775808
 else bits BinOp.or IntKind.u64 (bits BinOp.and IntKind.u64 m 4503599627370495) (IntKind.u64.wrap (IntKind.u64.wrap (bits BinOp.and IntKind.i64 E 2047)*4503599627370496))
def IA(m e:Int)(ng:Bool):Int×Bool:=if bits BinOp.and IntKind.u64 m 4503599627370496=0 then(jw m 0 ng,false) else(jw m (wrap64 (e+1023)) ng,false)
noncomputable def KA(cd:Nat->Nat)(cs:Nat->ByteArray)(S:Sd)(e:Int)(ng:Bool):Int×Bool:=
 if 2047<=wrap64 (e+1023) then(jw 0 2047 ng,true) else
 if AU (nK cd cs 53 S)=9007199254740992 then(if 2047<=wrap64 (wrap64 (e+1)+1023) then(jw 0 2047 ng,true) else IA 4503599627370496 (wrap64 (e+1)) ng) else IA (AU (nK cd cs 53 S)) e ng
noncomputable def NG(cd:Nat->Nat)(cs:Nat->ByteArray)(S:Sd)(e:Int)(ng:Bool):Int×Bool:=
 if e< -1022 then KA cd cs (nK cd cs (wrap64 (-(wrap64 (-1022-e)))) S) (wrap64 (e+wrap64 (-1022-e))) ng else KA cd cs S e ng
noncomputable def vr(cd:Nat->Nat)(cs:Nat->ByteArray)(S:Sd)(ng:Bool):Int×Bool:=
 if 310<S.dp then(jw 0 2047 ng,true) else if S.dp< -330 then(jw 0 0 ng,false) else
 NG cd cs (AV cd cs (m2 (uc cd cs (m1 S) S 0).1) (uc cd cs (m1 S) S 0).1 (uc cd cs (m1 S) S 0).2).1 (wrap64 ((AV cd cs (m2 (uc cd cs (m1 S) S 0).1) (uc cd cs (m1 S) S 0).1 (uc cd cs (m1 S) S 0).2).2-1)) ng
theorem KB(cd:Nat->Nat)(cs:Nat->ByteArray)(x cQ y aG b:Nat)(S:Sd)(A:Bool)(w:World)(cU:kG cd cs)(J:Tf cd cs x cQ y aG b w)(aB:gG S)(h:zi w b S A):
 Calls Tryz.prog 205 #[.pointer (some ⟨b,0,none⟩),.pointer (some ⟨10,0,none⟩)] w fun e aW=>e=.returned (.tuple #[.int .u64 (vr cd cs S A).1,.bool (vr cd cs S A).2])/\Below b w aW:=by
 obtain⟨R,r⟩:∃ R,vr cd cs S A=R:=⟨_,rfl⟩;rw[r];obtain⟨dA,dB⟩:=R;have cS:=h.n;have Y:=h.p;have bE:=h.g;have f0:=J.f0;have f1:=J.f1;have f2:=J.f2;have bI:((S.nd:Int)==0)=false:=by have:=aB.pos;simp;omega
 have cX:=U h;have cY:=U aB;have bC:=U J;have L:=U cU;unfold vr at r;clear h aB J cU
 by_cases aE:310<S.dp
 ·rw[if_pos aE] at r;have n:=U r;clear r;go_enter Tryz.func205,Tryz.ntmps205
  go_wp2_with fail
  apply kJ 1 0 bh rfl rfl
  go_wp2_with fail
  go_step3
  go_wp2_with fail
  refine Exit.lG ?_
  go_wp2_with fail
  go_quiet (fail)
  go_wp2_with fail
  go_step3
  go_wp2_with fail
  go_quiet (fail)
  cases A
  ·go_wp2_with fail
   (try rw[Exit.iy]);(try rw[im])
   go_ret2
   have a:=n.out;unfold jw at a;rw[if_neg ar] at a;obtain⟨rfl,rfl⟩:=hD a
   first|exact⟨rfl,ai (eA _ _) _⟩|exact⟨rfl,ai (ai (eA _ _) _) _⟩|exact⟨rfl,ai (ai (ai (eA _ _) _) _) _⟩
  ·go_wp2_with fail
   go_quiet (fail)
   go_wp2_with fail
   (try rw[Exit.iy]);(try rw[im])
   go_ret2
   have a:=n.out;unfold jw at a;rw[if_pos rfl] at a;obtain⟨rfl,rfl⟩:=hD a
   first|exact⟨rfl,ai (eA _ _) _⟩|exact⟨rfl,ai (ai (eA _ _) _) _⟩|exact⟨rfl,ai (ai (ai (eA _ _) _) _) _⟩
 rw[if_neg aE] at r
 by_cases aF:S.dp< -330
 ·rw[if_pos aF] at r;have n:=U r;clear r;go_enter Tryz.func205,Tryz.ntmps205
  go_wp2_with fail
  apply kJ 1 0 bh rfl rfl
  go_wp2_with fail
  go_step3
  go_wp2_with fail
  refine Exit.pD bh (Exit.lG ?_)
  go_wp2_with fail
  go_quiet (fail)
  cases A
  ·go_wp2_with fail
   (try rw[Exit.iy]);(try rw[im])
   go_ret2
   have a:=n.out;unfold jw at a;rw[if_neg ar] at a;obtain⟨rfl,rfl⟩:=hD a
   first|exact⟨rfl,ai (eA _ _) _⟩|exact⟨rfl,ai (ai (eA _ _) _) _⟩|exact⟨rfl,ai (ai (ai (eA _ _) _) _) _⟩
  ·go_wp2_with fail
   go_quiet (fail)
   go_wp2_with fail
   (try rw[Exit.iy]);(try rw[im])
   go_ret2
   have a:=n.out;unfold jw at a;rw[if_pos rfl] at a;obtain⟨rfl,rfl⟩:=hD a
   first|exact⟨rfl,ai (eA _ _) _⟩|exact⟨rfl,ai (ai (eA _ _) _) _⟩|exact⟨rfl,ai (ai (ai (eA _ _) _) _) _⟩
 rw[if_neg aF] at r;obtain⟨M,bS,aN⟩:∃ M dE,uc cd cs (m1 S) S 0=(M,dE):=⟨_,_,rfl⟩;rw[aN] at r;dsimp only at r;obtain⟨aD,bT,aO⟩:∃ aD dF,AV cd cs (m2 M) M bS=(aD,dF):=⟨_,_,rfl⟩;rw[aO] at r;dsimp only at r;have cA:=U aO;have bZ:=U aN;have n:=U r;clear aN aO r;have aK:S.dp<=310:=O
 have aL:-330<=S.dp:=O
 go_enter Tryz.func205,Tryz.ntmps205
 go_wp2_with fail
 apply kJ 1 0 bh rfl rfl
 go_upto_block 0 with fail
 go_cut [6] from 35 to 60 (fun aA bR=>aA=.int .i64 bS/\gG M/\-330<=M.dp/\sy w b bR M A)
 case first=>
  clear cS Y bE f0 f1 f2 bI
  go_wp2_with fail
  go_loopg [6] (m1 S) (fun g aA wr=>∃ l e,aA=.int .i64 e/\m1 l<=g/\gG l/\l.dp<=310/\-330<=l.dp/\Hid (uc cd cs g l e=(M,bS))/\sy w b wr l A)
  case atStart=>exact⟨S,0,rfl,Nat.le_refl _,cY.out,aK,aL,bZ,cX.out,Below.refl _ _⟩
  case round=>
   obtain⟨l,e,rfl,D,aB,dG,cJ,t,X⟩:=hrel;have Y:=X.dc.p;have H:=U X;have p:=U aB;have J:=bC.a6 X.bl;clear X aB
   by_cases z:0<l.dp
   ·rcases gk with _|g
    ·exfalso;unfold m1 at D;rw[if_pos z] at D
     split at D<;>omega
    ·have aP:=ME (cd:=cd) (cs:=cs) p z dG;have E:=uv (k:=(-(hV l.dp.toNat:Int))) L p;have i:=t.out;rw[uc,if_pos z] at i;have t:=U i;clear i;obtain⟨d,C⟩:∃ d:Nat,l.dp=(d:Int):=⟨l.dp.toNat,O⟩;have P:l.dp.toNat=d:=O
     rw[P] at t aP E;rw[C] at Y;have cP:=rA d;have p0:=J.p0;have B:=U aP;have u:=U E;have v:=U J;have cB:=U C;have cM:d<=310:=O
     have aQ:0<d:=O
     clear aP E J C P
     by_cases cK:9<=d
     ·have aM:(9:Int)<=(d:Int):=O
      have F:hV d=27:=by unfold hV;rw[xc,j4 (by simpa using cK)];rfl
      rw[F] at t B u;have cD:=U F;clear F cP
      go_wp2_with fail
      go_quiet (fail)
      go_wp2_with fail
      refine(mI (-27) O L (v.tb.a6 (dN _ _ _)) p (H.dc.a6 (dN _ _ _))).mono ?_;rintro aI aW ⟨rfl,j⟩;have q:=U j;clear j
      go_wp2_with fail
      go_roundg g
      case measure=>omega
      case rel=>exact⟨_,_,rfl,ba B.out,u.out,B.2.1,B.2.2,t,Dw.trans (H.dn _) q⟩
     ·have aM:¬(9:Int)<=(d:Int):=O
      have cL:(d:Int)<9:=O
      have cH:(0:Int)<=(d:Int):=O
      have pp:=v.pp d O
      go_wp2_with fail
      go_quiet (fail)
      go_wp2_with fail
      go_quiet (fail)
      go_wp2_with fail
      refine(mI (-(hV d:Int)) O L (v.tb.a6 (dN _ _ _)) p (H.dc.a6 (dN _ _ _))).mono ?_;rintro aI aW ⟨rfl,j⟩;have q:=U j;clear j
      go_wp2_with fail
      go_roundg g
      case measure=>omega
      case rel=>exact⟨_,_,rfl,ba B.out,u.out,B.2.1,B.2.2,t,Dw.trans (H.dn _) q⟩
   ·have i:=t.out
    have Q:(l,e)=(M,bS):=by
     rcases gk with _|g
     ·rw[uc] at i;exact i
     ·rw[uc,if_neg z] at i;exact i
    obtain⟨rfl,rfl⟩:=hD Q;clear i Q t
    go_wp2_with fail
    go_meet
    exact⟨rfl,p.out,cJ,H.out⟩
 case rest=>
 obtain⟨rfl,bK,aU,bO⟩:=hcut;have cC:=U bK;have cG:=U bO;clear bK bO cS Y bE f0 f1 f2 bI
 go_upto_block 2 with fail
 go_cut [6] from 61 to 102 (fun aA bR=>aA=.int .i64 bT/\gG aD/\sy w b bR aD A)
 case first=>
  go_wp2_with fail
  go_loopg [6] (m2 M) (fun g aA wr=>∃ l e,aA=.int .i64 e/\m2 l<=g/\gG l/\-330<=l.dp/\Hid (AV cd cs g l e=(aD,bT))/\sy w b wr l A)
  case atStart=>exact⟨M,bS,rfl,Nat.le_refl _,cC.out,aU,cA,cG.out⟩
  case round=>
   obtain⟨l,e,rfl,D,aB,cJ,t,X⟩:=hrel;have Y:=X.dc.p;have dD:=X.dc.arr 0 O;have H:=U X;have p:=U aB;have J:=bC.a6 X.bl;clear X aB
   by_cases z:c2 l
   ·rcases gk with _|g
    ·exfalso;unfold m2 at D;rw[if_pos z] at D;omega
    ·have aP:=MF (cd:=cd) (cs:=cs) L p z cJ;have E:=uv (k:=(hV (-l.dp).toNat:Int)) L p;have i:=t.out;rw[AV,if_pos z] at i;have t:=U i;clear i;have cO:l.dp<=0:=by unfold c2 at z;omega
     obtain⟨d,C⟩:∃ d:Nat,l.dp=-(d:Int):=⟨(-l.dp).toNat,O⟩;have P:(-l.dp).toNat=d:=O
     have N:d=0->(l.D 0:Int)<53:=by unfold c2 at z;omega
     rw[P] at t aP E;rw[C] at Y;have cP:=rA d;have p0:=J.p0;have B:=U aP;have u:=U E;have v:=U J;have cB:=U C;have cN:d<=330:=O
     have cW:=U z;clear aP E J C P z cO
     by_cases cK:9<=d
     ·have aM:(9:Int)<=(d:Int):=O
      have bJ:-(d:Int)<0:=O
      have F:hV d=27:=by unfold hV;rw[xc,j4 (by simpa using cK)];rfl
      rw[F] at t B u;have cD:=U F;clear F cP N
      go_wp2_with fail
      go_quiet (fail)
      go_wp2_with fail
      refine(mI (27) O L (v.tb.a6 (dN _ _ _)) p (H.dc.a6 (dN _ _ _))).mono ?_;rintro aI aW ⟨rfl,j⟩;have q:=U j;clear j
      go_wp2_with fail
      go_roundg g
      case measure=>omega
      case rel=>exact⟨_,_,rfl,ba B.out,u.out,B.2,t,Dw.trans (H.dn _) q⟩
     ·have aM:¬(9:Int)<=(d:Int):=O
      have cL:(d:Int)<9:=O
      have cH:(0:Int)<=(d:Int):=O
      have pp:=v.pp d O
      by_cases aQ:d=0
      ·have cT:=N aQ;subst aQ;have dC:wr.cell? ⟨b,801,none⟩=some (.int .i64 0):=Y;have dJ:wr.cell? ⟨y,aG,none⟩=some (.int .i64 (hV 0:Nat)):=pp;clear Y N pp
       go_wp2_with fail
       go_quiet (fail)
       go_wp2_with fail
       go_quiet (fail)
       go_wp2_with fail
       refine(mI ((hV 0:Nat)) O L (v.tb.a6 (dN _ _ _)) p (H.dc.a6 (dN _ _ _))).mono ?_;rintro aI aW ⟨rfl,j⟩;have q:=U j;clear j
       go_wp2_with fail
       go_roundg g
       case measure=>omega
       case rel=>exact⟨_,_,rfl,ba B.out,u.out,B.2,t,Dw.trans (H.dn _) q⟩
      ·have bJ:-(d:Int)<0:=O
       clear N
       go_wp2_with fail
       go_quiet (fail)
       go_wp2_with fail
       go_quiet (fail)
       go_wp2_with fail
       refine(mI ((hV d:Nat)) O L (v.tb.a6 (dN _ _ _)) p (H.dc.a6 (dN _ _ _))).mono ?_;rintro aI aW ⟨rfl,j⟩;have q:=U j;clear j
       go_wp2_with fail
       go_roundg g
       case measure=>omega
       case rel=>exact⟨_,_,rfl,ba B.out,u.out,B.2,t,Dw.trans (H.dn _) q⟩
   ·have i:=t.out
    have Q:(l,e)=(aD,bT):=by
     rcases gk with _|g
     ·rw[AV] at i;exact i
     ·rw[AV,if_neg z] at i;exact i
    obtain⟨rfl,rfl⟩:=hD Q;clear i Q t;have cI:¬l.dp<0:=by unfold c2 at z;omega
    have aJ:l.dp=0->¬(l.D 0:Int)<53:=by unfold c2 at z;omega
    have cW:=U z;clear z
    by_cases bQ:l.dp=0
    ·have N:=aJ bQ;rw[bQ] at Y;have dL:=U bQ;clear bQ aJ cI
     go_wp2_with fail
     go_meet
     exact⟨rfl,p.out,H.out⟩
    ·have dI:(l.dp==0)=false:=by simpa using bQ
     clear aJ
     go_wp2_with fail
     go_meet
     exact⟨rfl,p.out,H.out⟩
 case rest=>
 obtain⟨rfl,bL,j⟩:=hcut;have aH:=U bL;have q:=U j;have aV:=bC.a6 j.bl;have f2:=aV.f2;obtain⟨Z,aR⟩:∃ e,wrap64 (bT-1)=e:=⟨_,rfl⟩;rw[aR] at n;obtain⟨aX,aY,o⟩:∃ aX aY,(if Z< -1022 then(nK cd cs (wrap64 (-(wrap64 (-1022-Z)))) aD,wrap64 (Z+wrap64 (-1022-Z))) else(aD,Z))=(aX,aY):=⟨_,_,rfl⟩
 have r:KA cd cs aX aY A=(dA,dB):=by
  have:=n.out;unfold NG at this
  by_cases c:Z< -1022
  ·rw[if_pos c] at this o;obtain⟨rfl,rfl⟩:=hD o;exact this
  ·rw[if_neg c] at this o;obtain⟨rfl,rfl⟩:=hD o;exact this
 have bY:=U r;have b6:=U o;have cE:=U aV;have bX:=U aR;clear r o n bL j aV aR
 go_upto_if 111 with fail
 rw[show wrap64 (bT-1)=Z from bX.out]
 go_cut [6,10] from 111 to 125 (fun aA _ bR=>aA=.int .i64 aY/\gG aX/\sy w b bR aX A)
 case first=>
  by_cases c:Z< -1022
  ·have o:=b6.out;rw[if_pos c] at o;obtain⟨bF,bG⟩:=hD o;have aZ:=U bF;have bV:=U bG;clear bF bG o
   go_wp2_with fail
   refine(mI (wrap64 (-wrap64 (-1022-Z))) (NF _) L cE.tb aH q.dc).mono ?_;rintro aI aW ⟨rfl,G⟩;have s:=U G;clear G
   go_wp2_with fail
   go_meet
   exact⟨by rw[bV.out],aZ.out▸uv L aH,aZ.out▸Dw.trans q s⟩
  ·have o:=b6.out;rw[if_neg c] at o;obtain⟨bF,bG⟩:=hD o;have aZ:=U bF;have bV:=U bG;clear bF bG o
   go_wp2_with fail
   go_meet
   exact⟨by rw[bV.out],aZ.out▸aH.out,aZ.out▸q.out⟩
 case rest=>
 obtain⟨rfl,bM,G⟩:=hcut;have bA:=U bM;have s:=U G;have T:=bC.a6 G.bl;have bE:=G.dc.g;clear f2;have f0:=T.f0;have f1:=T.f1;have f2:=T.f2;have cF:=U T;clear bM G T;have r:=bY.out;unfold KA at r
 by_cases cV:2047<=wrap64 (aY+1023)
 ·rw[if_pos cV] at r;have n:=U r;clear r
  go_wp2_with fail
  go_quiet (fail)
  go_wp2_with fail
  go_step3
  go_wp2_with fail
  refine Exit.lG ?_
  go_wp2_with fail
  go_quiet (fail)
  go_wp2_with fail
  go_step3
  go_wp2_with fail
  go_quiet (fail)
  cases A
  ·go_wp2_with fail
   (try rw[Exit.iy]);(try rw[im])
   go_ret2
   have a:=n.out;unfold jw at a;rw[if_neg ar] at a;obtain⟨rfl,rfl⟩:=hD a
   first|exact⟨rfl,ai (s.bl) _⟩|exact⟨rfl,ai (ai (s.bl) _) _⟩|exact⟨rfl,ai (ai (ai (s.bl) _) _) _⟩
  ·go_wp2_with fail
   go_quiet (fail)
   go_wp2_with fail
   (try rw[Exit.iy]);(try rw[im])
   go_ret2
   have a:=n.out;unfold jw at a;rw[if_pos rfl] at a;obtain⟨rfl,rfl⟩:=hD a
   first|exact⟨rfl,ai (s.bl) _⟩|exact⟨rfl,ai (ai (s.bl) _) _⟩|exact⟨rfl,ai (ai (ai (s.bl) _) _) _⟩
 ·rw[if_neg cV] at r;have n:=U r;clear r
  go_wp2_with fail
  go_quiet (fail)
  go_wp2_with fail
  refine(mI 53 O L (cF.tb.a6 (dN _ _ _)) bA (s.dc.a6 (dN _ _ _))).mono ?_;rintro aI dO ⟨rfl,bP⟩;have W:=Dw.trans (s.dn _) bP;have aT:=uv (k:=53) L bA;have bD:=F2 aT W.dc;have aC:=bC.a6 W.bl;clear f0 f1 f2 bE;have bE:=W.dc.g;have f0:=aC.f0;have f1:=aC.f1;have f2:=aC.f2;have f:=U W;have cZ:=U aT;have bU:=U bD;clear bP W aT bD aC
  go_wp2_with fail
  refine bU.mono ?_;rintro aI dP ⟨rfl,dM,rfl⟩;have a:=n.out;obtain⟨m,D⟩:∃ m,AU (nK cd cs 53 aX)=m:=⟨_,rfl⟩;rw[D] at a⊢;clear D
  by_cases D:m=9007199254740992
  ·subst D;rw[if_pos rfl] at a
   by_cases bN:2047<=wrap64 (wrap64 (aY+1)+1023)
   ·rw[if_pos bN] at a;have n:=U a;clear a
    go_wp2_with fail
    go_quiet (fail)
    go_wp2_with fail
    go_step3
    go_wp2_with fail
    refine Exit.lG ?_
    go_wp2_with fail
    go_quiet (fail)
    go_wp2_with fail
    go_step3
    go_wp2_with fail
    go_quiet (fail)
    cases A
    ·go_wp2_with fail
     (try rw[Exit.iy]);(try rw[im])
     go_ret2
     have a:=n.out;unfold jw at a;rw[if_neg ar] at a;obtain⟨rfl,rfl⟩:=hD a
     first|exact⟨rfl,ai (f.bl) _⟩|exact⟨rfl,ai (ai (f.bl) _) _⟩|exact⟨rfl,ai (ai (ai (f.bl) _) _) _⟩
    ·go_wp2_with fail
     go_quiet (fail)
     go_wp2_with fail
     (try rw[Exit.iy]);(try rw[im])
     go_ret2
     have a:=n.out;unfold jw at a;rw[if_pos rfl] at a;obtain⟨rfl,rfl⟩:=hD a
     first|exact⟨rfl,ai (f.bl) _⟩|exact⟨rfl,ai (ai (f.bl) _) _⟩|exact⟨rfl,ai (ai (ai (f.bl) _) _) _⟩
   ·rw[if_neg bN] at a;have n:=U a;clear a
    go_wp2_with fail
    go_quiet (fail)
    by_cases I:bits BinOp.and IntKind.u64 (4503599627370496) 4503599627370496=0
    ·exact absurd I bh
    ·have bH:(bits BinOp.and IntKind.u64 (4503599627370496) 4503599627370496==0)=false:=by simpa using I
     have a:=n.out;unfold IA at a;rw[if_neg I] at a;have n:=U a;have cR:=U I;clear I a
     go_wp2_with fail
     go_step3
     go_wp2_with fail
     refine Exit.pD bh (Exit.lG ?_)
     go_wp2_with fail
     go_quiet (fail)
     cases A
     ·go_wp2_with fail
      (try rw[Exit.iy]);(try rw[im])
      go_ret2
      have a:=n.out;unfold jw at a;rw[if_neg ar] at a;obtain⟨rfl,rfl⟩:=hD a
      first|exact⟨rfl,ai (f.bl) _⟩|exact⟨rfl,ai (ai (f.bl) _) _⟩|exact⟨rfl,ai (ai (ai (f.bl) _) _) _⟩
     ·go_wp2_with fail
      go_quiet (fail)
      go_wp2_with fail
      (try rw[Exit.iy]);(try rw[im])
      go_ret2
      have a:=n.out;unfold jw at a;rw[if_pos rfl] at a;obtain⟨rfl,rfl⟩:=hD a
      first|exact⟨rfl,ai (f.bl) _⟩|exact⟨rfl,ai (ai (f.bl) _) _⟩|exact⟨rfl,ai (ai (ai (f.bl) _) _) _⟩
  ·rw[if_neg D] at a;have n:=U a;clear a;have dH:(m==9007199254740992)=false:=by simpa using D
   have dK:=U D;clear D
   by_cases I:bits BinOp.and IntKind.u64 (m) 4503599627370496=0
   ·have bH:(bits BinOp.and IntKind.u64 (m) 4503599627370496==0)=true:=by rw[I];rfl
    have a:=n.out;unfold IA at a;rw[if_pos I] at a;have n:=U a;have cR:=U I;clear I a
    go_wp2_with fail
    go_step3
    go_wp2_with fail
    refine Exit.pD bh (Exit.lG ?_)
    go_wp2_with fail
    go_quiet (fail)
    cases A
    ·go_wp2_with fail
     (try rw[Exit.iy]);(try rw[im])
     go_ret2
     have a:=n.out;unfold jw at a;rw[if_neg ar] at a;obtain⟨rfl,rfl⟩:=hD a
     first|exact⟨rfl,ai (f.bl) _⟩|exact⟨rfl,ai (ai (f.bl) _) _⟩|exact⟨rfl,ai (ai (ai (f.bl) _) _) _⟩
    ·go_wp2_with fail
     go_quiet (fail)
     go_wp2_with fail
     (try rw[Exit.iy]);(try rw[im])
     go_ret2
     have a:=n.out;unfold jw at a;rw[if_pos rfl] at a;obtain⟨rfl,rfl⟩:=hD a
     first|exact⟨rfl,ai (f.bl) _⟩|exact⟨rfl,ai (ai (f.bl) _) _⟩|exact⟨rfl,ai (ai (ai (f.bl) _) _) _⟩
   ·have bH:(bits BinOp.and IntKind.u64 (m) 4503599627370496==0)=false:=by simpa using I
    have a:=n.out;unfold IA at a;rw[if_neg I] at a;have n:=U a;have cR:=U I;clear I a
    go_wp2_with fail
    go_step3
    go_wp2_with fail
    refine Exit.pD bh (Exit.lG ?_)
    go_wp2_with fail
    go_quiet (fail)
    cases A
    ·go_wp2_with fail
     (try rw[Exit.iy]);(try rw[im])
     go_ret2
     have a:=n.out;unfold jw at a;rw[if_neg ar] at a;obtain⟨rfl,rfl⟩:=hD a
     first|exact⟨rfl,ai (f.bl) _⟩|exact⟨rfl,ai (ai (f.bl) _) _⟩|exact⟨rfl,ai (ai (ai (f.bl) _) _) _⟩
    ·go_wp2_with fail
     go_quiet (fail)
     go_wp2_with fail
     (try rw[Exit.iy]);(try rw[im])
     go_ret2
     have a:=n.out;unfold jw at a;rw[if_pos rfl] at a;obtain⟨rfl,rfl⟩:=hD a
     first|exact⟨rfl,ai (f.bl) _⟩|exact⟨rfl,ai (ai (f.bl) _) _⟩|exact⟨rfl,ai (ai (ai (f.bl) _) _) _⟩
end Go.Proofs.YtkblonfmjlopaaaGreatDoor
namespace Go.Proofs.YtkblonfmjlopaaaGreatDoor
set_option linter.all false
set_option maxRecDepth 100000
set_option maxHeartbeats 2000000
open Go Go.RowKit
theorem mg(x:Int)(w:World):(callFunc 207 #[.int .u64 x]).run Tryz.prog w=.ok (.value (.float .f64 x.toNat)) w:=by
 rw[run_callFunc_extern Tryz.func207 aq aq aq (e:=Extern.MathFloatBits.float64frombits) aq]
 rfl
theorem MG(S:Int):∃ k:Nat,k<64/\bits .and .i64 S 63=(k:Int):=by
 have h:(BitVec.ofInt 64 S &&& BitVec.ofInt 64 63).toNat<=63:=by
  rw[BitVec.toNat_and];exact fy Nat.and_le_right bh
 refine⟨_,Nat.lt_succ_of_le h,?_⟩;show IntKind.i64.wrap (((BitVec.ofInt 64 S &&& BitVec.ofInt 64 63).toNat:Nat):Int)=_;exact gv _ O
theorem vt(b:Bool)(w:World):Calls Tryz.prog 206 #[.bool b] w fun e a=>e=.returned (.int .u64 (if b then 1 else 0))/\a=w:=by
 go_enter Tryz.func206,Tryz.ntmps206;cases b
 ·go_wp2_with fail
  go_ret;exact⟨rfl,rfl⟩
 ·go_wp2_with fail
  go_ret;exact⟨rfl,rfl⟩
theorem IB(e:Int)(b:-1000<=e/\e<=1000)(w:World):Calls Tryz.prog 227 #[.int .i64 e] w fun x a=>x=.returned (.int .i64 (e*108853/2^15))/\a=w:=by
 go_enter Tryz.func227,Tryz.ntmps227
 go_wp2_with fail
 go_ret;exact⟨rfl,rfl⟩
theorem vu(w:World):Calls Tryz.prog 231 #[.int .u64 9007199254740992] w fun x a=>x=.returned (.int .u64 36028797018963966)/\a=w:=by
 go_enter Tryz.func231,Tryz.ntmps231
 go_wp2_with fail
 go_ret;exact⟨rfl,rfl⟩
theorem xM(x:Int):∃ r:Int,∀ w,Calls Tryz.prog 233 #[.int .u64 x] w fun e a=>e=.returned (.int .u64 r)/\a=w:=by
 apply re;intro w;go_enter Tryz.func233,Tryz.ntmps233
 go_wp2_with fail
 go_ret;exact⟨rfl,rfl⟩
theorem vv(x e:Int)(f:-1074<=e/\e<=100000):∃ r a,(a=.nilIface\/a=.iface 231 (.int .i64 1))/\∀ w,Calls Tryz.prog 236 #[.int .u64 x,.int .i64 e] w fun o g=>o=.returned (.tuple #[.float .f64 r,a])/\g=w:=by
 by_cases h:bits BinOp.and IntKind.u64 x 4503599627370496=0
 ·have c:(bits BinOp.and IntKind.u64 x 4503599627370496==0)=true:=by rw[h];rfl
  have H:=U h;clear h;refine⟨x.toNat,.nilIface,.inl rfl,fun w=>?_⟩;go_enter Tryz.func236,Tryz.ntmps236
  go_wp2_with (rw[mg])
  go_ret2
  exact⟨rfl,rfl⟩
 ·have c:(bits BinOp.and IntKind.u64 x 4503599627370496==0)=false:=by simpa using h
  have H:=U h;clear h
  by_cases b:972<=e
  ·refine⟨(bits BinOp.or IntKind.u64 (bits BinOp.and IntKind.u64 x 9223372036854775808) 9218868437227405312).toNat,.iface 231 (.int .i64 1),.inr rfl,fun w=>?_⟩;go_enter Tryz.func236,Tryz.ntmps236
   go_wp2_with (rw[mg])
   go_ret2
   exact⟨rfl,rfl⟩
  ·obtain⟨n,rfl⟩:∃ n:Nat,e=(n:Int)-1075:=⟨(e+1075).toNat,O⟩;have m:0<n/\n<2047:=O
   have i:(1075:Int)+((n:Int)-1075)=(n:Int):=O
   have j:IntKind.u64.wrap (n:Int)=(n:Int):=gN _ O;obtain⟨N,d⟩:∃ N:Nat,n*4503599627370496=N:=⟨_,rfl⟩;have k:IntKind.u64.wrap ((n:Int)*4503599627370496)=(N:Int):=by rw[gN _ O];omega
   have l:¬(972:Int)<=(n:Int)-1075:=b;clear d f b;refine⟨(bits BinOp.or IntKind.u64 (bits BinOp.andNot IntKind.u64 x 4503599627370496) (N:Int)).toNat,.nilIface,.inl rfl,fun w=>?_⟩;go_enter Tryz.func236,Tryz.ntmps236
   go_upto_if 12 with fail
   go_wp2_with (rw[mg])
   go_ret2
   exact⟨rfl,rfl⟩
structure Tp(ph pl:Nat->Nat)(w:World):Prop where
 lh:∀ k,ph k<18446744073709551616
 ll:∀ k,pl k<18446744073709551616
 ch:∀ k,k<696->w.cell? ⟨15,k*2,none⟩=some (.int .u64 (ph k:Nat))
 cl:∀ k,k<696->w.cell? ⟨15,k*2+1,none⟩=some (.int .u64 (pl k:Nat))
theorem Tp.a6{c d:Nat->Nat}{B:Nat}{w w':World}(h:Tp c d w)(k:Below B w w')(b:15<B):Tp c d w':=by
 obtain⟨e,f,g,j⟩:=h;refine⟨e,f,fun i a=>?_,fun i a=>?_⟩
 ·rw[k.cell (by simpa using b)];exact g i a
 ·rw[k.cell (by simpa using b)];exact j i a
theorem nL(l m:Nat->Nat)(b k:Nat)(e a:Int)(w:World)(i:k<696)(t:-100000<=e/\e<=100000)(u:-100000<=a/\a<=100000)(j:Tp l m w)(s:15<b)
 (c:∃ v,w.cell? ⟨b,0,none⟩=some v) (d:∃ v,w.cell? ⟨b,1,none⟩=some v) (f:∃ v,w.cell? ⟨b,2,none⟩=some v) (r:∀ o,w.frozen? ⟨b,o,none⟩=false):
 Calls Tryz.prog 228 #[.pointer (some ⟨b,0,none⟩),.int .i64 e,.int .i64 ((k:Int)-348),.int .i64 a] w fun x q=>x=.returned (.tuple #[])/\
  q=((w.setCell ⟨b,0,none⟩ (.int .u64 (l k:Nat))).setCell ⟨b,1,none⟩ (.int .u64 (m k:Nat))).setCell ⟨b,2,none⟩ (.int .i64 (-(e+a+3))):=by
 obtain⟨y,c⟩:=c;obtain⟨z,d⟩:=d;obtain⟨A,f⟩:=f;have ch:=j.ch k i;have cl:=j.cl k i;have n:(k:Int)-348- -348=(k:Int):=O
 have p:(k:Int)<696:=O
 have g:¬b=12:=O
 have h:¬12=b:=O
 go_enter Tryz.func228,Tryz.ntmps228
 go_wp2_with fail
 go_end0;exact⟨rfl,rfl⟩
theorem AW(n:Int):0<=IntKind.u64.wrap n/\IntKind.u64.wrap n<18446744073709551616:=by rw[IntKind.wrap_u64];omega
theorem C0(x g l:Nat)(S:Int)(D:x<18446744073709551616)(M:g<18446744073709551616)(N:l<18446744073709551616):∃ r:Int,∀ w b,w.cell? ⟨b,0,none⟩=some (.int .u64 (g:Nat))->w.cell? ⟨b,1,none⟩=some (.int .u64 (l:Nat))->w.cell? ⟨b,2,none⟩=some (.int .i64 S)->
 Calls Tryz.prog 229 #[.int .u64 (x:Nat),.pointer (some ⟨b,0,none⟩)] w fun e a=>e=.returned (.int .u64 r)/\∃ q,a=w.drewN q:=by
 obtain⟨s,T,J⟩:=MG S;obtain⟨H,B⟩:∃ H:Nat,x*g/18446744073709551616=H:=⟨_,rfl⟩;obtain⟨m1,c⟩:∃ H:Nat,x*g%18446744073709551616=H:=⟨_,rfl⟩;obtain⟨L,C⟩:∃ H:Nat,x*l/18446744073709551616=H:=⟨_,rfl⟩;have o:=fun w=>Tryz.bits_Mul64 x g D M w;have p:=fun w=>Tryz.bits_Mul64 x l D N w;rw[B,c] at o;rw[C] at p;have h:=U o;have i:=U p;clear o p B C;have P:(0:Int)<=(s:Int):=O
 have Q:(s:Int)<64:=O
 have I:x*g%18446744073709551616<18446744073709551616:=sZ _ O;rw[c] at I;clear c
 by_cases f:IntKind.u64.wrap ((H:Int)/2^s*2^s)=(H:Int)
 ·have y:(IntKind.u64.wrap ((H:Int)/2^s*2^s) != (H:Int))=false:=by simpa using f
  have E:=U f;clear f;obtain⟨m2,d⟩:∃ H:Nat,x*l%18446744073709551616=H:=⟨_,rfl⟩;rw[d] at i;have R:m2<18446744073709551616:=by rw[<-d];exact sZ _ O
  clear d;obtain⟨u,j⟩:∃ t:Int,(if decide (m1<L)=true then(1:Int) else 0)=t:=⟨_,rfl⟩
  have z:∀ w,Calls Tryz.prog 206 #[.bool (decide (m1<L))] w fun e a=>e=.returned (.int .u64 u)/\a=w:=fun w=>by
   have:=vt (decide (m1<L)) w
   rwa [j] at this
  have m:=U z;clear z j;obtain⟨v,k⟩:∃ t:Int,(if decide ((1:Int)<IntKind.u64.wrap ((m1:Int)-(L:Int)))=true then(1:Int) else 0)=t:=⟨_,rfl⟩
  have A:∀ w,Calls Tryz.prog 206 #[.bool (decide ((1:Int)<IntKind.u64.wrap ((m1:Int)-(L:Int))))] w fun e a=>e=.returned (.int .u64 v)/\a=w:=fun w=>by
   have:=vt (decide ((1:Int)<IntKind.u64.wrap ((m1:Int)-(L:Int)))) w
   rwa [k] at this
  have n:=U A;clear A k;apply re;intro w b F G c2;go_enter Tryz.func229,Tryz.ntmps229
  go_upto_region 5 with(go_at_call 245;refine(h.out _).mono ?_;rintro e a ⟨rfl,rfl⟩)
  go_upto_region 6 with(go_at_call 245;refine(i.out _).mono ?_;rintro e a ⟨rfl,rfl⟩)
  go_upto_region 7 with(go_at_call 206;refine(m.out _).mono ?_;rintro e a ⟨rfl,rfl⟩)
  go_quiet ((refine(n.out _).mono ?_;rintro e a ⟨rfl,rfl⟩;exact⟨rfl,_,rfl⟩))
  go_wp2_with fail
  go_ret;exact⟨rfl,_,rfl⟩
 ·have y:(IntKind.u64.wrap ((H:Int)/2^s*2^s) != (H:Int))=true:=by simpa using f
  have E:=U f;clear f;apply re;intro w b F G c2;go_enter Tryz.func229,Tryz.ntmps229
  go_wp2_with (go_at_call 245;refine(h.out _).mono ?_;rintro e a ⟨rfl,rfl⟩)
  go_ret;exact⟨rfl,0,rfl⟩
end Go.Proofs.YtkblonfmjlopaaaGreatDoor
namespace Go.Proofs.YtkblonfmjlopaaaGreatDoor
set_option linter.all false
open Go Go.RowKit
set_option maxRecDepth 100000
set_option maxHeartbeats 4000000
theorem tu(v y:Nat->Nat)(d k:Nat)(aG:Int)(aZ:0<d/\d<18446744073709551616)(bL:3<=k/\k<=658)(aR:∀ k,v k<18446744073709551616)(aT:∀ k,y k<18446744073709551616):∃ f Q,(Q=.nilIface\/Q=.iface 231 (.int .i64 1))/\∀ w,15<w.heap.size->Tp v y w->
 Calls Tryz.prog 209 #[.int .u64 (d:Nat),.int .i64 ((k:Int)-348),.int .u64 aG] w fun x a=>x=.returned (.tuple #[.float .f64 f,Q])/\Below w.heap.size w a:=by
 obtain⟨B,aP⟩:∃ B:Nat,Lib.bitLen d=B:=⟨_,rfl⟩
 have bF:1<=B/\B<=64:=by
  rw[<-aP];exact⟨(Lib.bitLenAux_bounds 64 d aZ.2 O).1,Lib.bitLen_le d 64 O aZ.2⟩
 have P:=fun w=>Tryz.bits_Len64 (d:Int) w O O;rw[show((d:Int)).toNat=d by omega,aP] at P;have aI:=U P;clear P aP;obtain⟨h,aF⟩:∃ h:Int,((k:Int)-348)*108853/2^15=h:=⟨_,rfl⟩;have b6:-1200<=h/\h<=1100:=O
 have aL:=fun w=>IB ((k:Int)-348) O w;rw[aF] at aL;have L:=U aL;clear aL aF;obtain⟨E,aX⟩:∃ E:Int,min 1074 ((53:Int)-B-h)=E:=⟨_,rfl⟩;have bG:-1200<=E/\E<=1074:=O
 have aH:=U aX;have bH:-E<=1200:=O
 have bI:-1074<=-E:=O
 obtain⟨m,bM⟩:∃ m:Nat,B+m=64:=⟨64-B,O⟩;have bK:(64:Int)-(B:Int)=(m:Int):=O
 have bA:m<=63:=O
 obtain⟨S,aY⟩:∃ S:Int,-(E-(m:Int)+h+3)=S:=⟨_,rfl⟩;have aV:=U aY;obtain⟨X,bJ⟩:∃ X:Nat,IntKind.u64.wrap ((d:Int)*2^m)=(X:Int):=⟨(IntKind.u64.wrap ((d:Int)*2^m)).toNat,ba (AW ((d:Int)*2^m))⟩;have aQ:X<18446744073709551616:=ba (AW ((d:Int)*2^m))
 have j:64<=S->64<=-(E-(m:Int)+h+3):=O
 have l:¬64<=S->¬64<=-(E-(m:Int)+h+3):=O
 clear aX aY
 by_cases aC:64<=S
 ·clear bJ;have aD:=j aC;clear j l;refine⟨(bits BinOp.or IntKind.u64 aG 0).toNat,.nilIface,.inl rfl,fun w I H=>?_⟩;have aA:=U H;clear H;go_enter Tryz.func209,Tryz.ntmps209
  go_upto_region 5 with(first|(go_at_call 226;refine(aI.out _).mono ?_;rintro e a ⟨rfl,rfl⟩)|(go_at_call 227;refine(L.out _).mono ?_;rintro e a ⟨rfl,rfl⟩))
  rw[aH.out];generalize b:a.alloc (Obj.cells #[Value.int IntKind.u64 0,Value.int IntKind.u64 0,Value.int IntKind.i64 0] 309)=g;have n:Below a.heap.size a g:=by rw[<-b];exact(eA _ _).alloc (aw _) _
  have A:g.cell? ⟨a.heap.size,0,none⟩=some (.int .u64 0):=by rw[<-b];simp
  have C:g.cell? ⟨a.heap.size,1,none⟩=some (.int .u64 0):=by rw[<-b];simp
  have D:g.cell? ⟨a.heap.size,2,none⟩=some (.int .i64 0):=by rw[<-b];simp
  have T:∀ o,g.frozen? ⟨a.heap.size,o,none⟩=false:=by intro o;rw[<-b];simp
  have G:=nL v y a.heap.size k (E-m) h g O O O (aA.a6 n I) I ⟨_,A⟩ ⟨_,C⟩ ⟨_,D⟩ T;have i:=U G;have Z:=U n;have aB:=U b;clear G n b
  go_upto_region 6 with(go_at_call 228;refine i.mono ?_;rintro e bD ⟨rfl,rfl⟩)
  go_wp2_with (rw[mg])
  go_ret2
  exact⟨rfl,((Z.setCell (p:=⟨a.heap.size,0,none⟩) (aw _) _).setCell (p:=⟨a.heap.size,1,none⟩) (aw _) _).setCell (p:=⟨a.heap.size,2,none⟩) (aw _) _⟩
 ·obtain⟨r,bC⟩:=C0 X (v k) (y k) S aQ (aR k) (aT k);have aW:=U bC;clear bC;have aD:=l aC;clear j l
  by_cases W:36028797018963966<=r
  ·
   obtain⟨aU,t⟩:=xM (bits BinOp.or IntKind.u64 (r/2) (bits BinOp.and IntKind.u64 r 1));obtain⟨f,Q,R,aE⟩:=vv (bits BinOp.or IntKind.u64 aG aU) (-(E-1)) O;have N:=U t;have aK:=U aE;clear t aE
   have Y:∀ w,Calls Tryz.prog 230 #[.bool (decide (36028797018963966<=r))] w fun e a=>e=.returned (.int .i64 1)/\a=w:=fun w=>by
    have:=Tryz.internal_strconv_bool2_int (decide (36028797018963966<=r)) w
    simpa [W] using this
   have J:=U Y;clear Y;have bE:=U W;clear W;refine⟨f,Q,R,fun w I H=>?_⟩;have aA:=U H;clear H;go_enter Tryz.func209,Tryz.ntmps209
   go_upto_region 5 with(first|(go_at_call 226;refine(aI.out _).mono ?_;rintro e a ⟨rfl,rfl⟩)|(go_at_call 227;refine(L.out _).mono ?_;rintro e a ⟨rfl,rfl⟩))
   rw[aH.out];generalize b:a.alloc (Obj.cells #[Value.int IntKind.u64 0,Value.int IntKind.u64 0,Value.int IntKind.i64 0] 309)=g;have n:Below a.heap.size a g:=by rw[<-b];exact(eA _ _).alloc (aw _) _
   have A:g.cell? ⟨a.heap.size,0,none⟩=some (.int .u64 0):=by rw[<-b];simp
   have C:g.cell? ⟨a.heap.size,1,none⟩=some (.int .u64 0):=by rw[<-b];simp
   have D:g.cell? ⟨a.heap.size,2,none⟩=some (.int .i64 0):=by rw[<-b];simp
   have T:∀ o,g.frozen? ⟨a.heap.size,o,none⟩=false:=by intro o;rw[<-b];simp
   have G:=nL v y a.heap.size k (E-m) h g O O O (aA.a6 n I) I ⟨_,A⟩ ⟨_,C⟩ ⟨_,D⟩ T;have i:=U G;have Z:=U n;have aB:=U b;clear G n b
   go_upto_region 6 with(go_at_call 228;refine i.mono ?_;rintro e bD ⟨rfl,rfl⟩)
   generalize c:((g.setCell ⟨a.heap.size,0,none⟩ (.int .u64 (v k:Nat))).setCell ⟨a.heap.size,1,none⟩ (.int .u64 (y k:Nat))).setCell ⟨a.heap.size,2,none⟩ (.int .i64 (-(E-(m:Int)+h+3)))=u;have aM:u.cell? ⟨a.heap.size,0,none⟩=some (.int .u64 (v k:Nat)):=by rw[<-c,eb _ _ _ _ (ev O),eb _ _ _ _ (ev O)];exact kA _ _ _ A
   have aN:u.cell? ⟨a.heap.size,1,none⟩=some (.int .u64 (y k:Nat)):=by
    rw[<-c,eb _ _ _ _ (ev O)];refine kA _ _ _ (?_:_=some (.int .u64 0));rw[eb _ _ _ _ (ev O)];exact C
   have aO:u.cell? ⟨a.heap.size,2,none⟩=some (.int .i64 (-(E-(m:Int)+h+3))):=by
    rw[<-c];refine kA _ _ _ (?_:_=some (.int .i64 0));rw[eb _ _ _ _ (ev O),eb _ _ _ _ (ev O)];exact D
   have s:Below a.heap.size a u:=by rw[<-c];exact((Z.setCell (p:=⟨a.heap.size,0,none⟩) (aw _) _).setCell (p:=⟨a.heap.size,1,none⟩) (aw _) _).setCell (p:=⟨a.heap.size,2,none⟩) (aw _) _
   have aJ:=U (aW.out u a.heap.size aM aN (by rw[aO];exact congrArg (fun z=>some (Value.int .i64 z)) aV.out));have M:=U s;clear c s A C D T
   go_upto_region 9 with(go_at_call 229;refine aJ.mono ?_;rintro e F ⟨rfl,q,rfl⟩)
   go_upto_region 12 with(first|(go_at_call 231;refine(vu _).mono ?_;rintro e F ⟨rfl,rfl⟩)|(go_at_call 230;refine(J.out _).mono ?_;rintro e F ⟨rfl,rfl⟩))
   go_wp2_with (first|(go_at_call 233;refine(N.out _).mono ?_;rintro e F ⟨rfl,rfl⟩)|(go_at_call 236;refine(aK.out _).mono ?_;rintro e F ⟨rfl,rfl⟩))
   go_ret2
   exact⟨rfl,M.trans (dN _ _ _)⟩
  ·
   obtain⟨aU,t⟩:=xM (bits BinOp.or IntKind.u64 r (bits BinOp.and IntKind.u64 r 1));obtain⟨f,Q,R,aE⟩:=vv (bits BinOp.or IntKind.u64 aG aU) (-E) O;have N:=U t;have aK:=U aE;clear t aE
   have Y:∀ w,Calls Tryz.prog 230 #[.bool (decide (36028797018963966<=r))] w fun e a=>e=.returned (.int .i64 0)/\a=w:=fun w=>by
    have:=Tryz.internal_strconv_bool2_int (decide (36028797018963966<=r)) w
    simpa [W] using this
   have J:=U Y;clear Y;have bE:=U W;clear W;refine⟨f,Q,R,fun w I H=>?_⟩;have aA:=U H;clear H;go_enter Tryz.func209,Tryz.ntmps209
   go_upto_region 5 with(first|(go_at_call 226;refine(aI.out _).mono ?_;rintro e a ⟨rfl,rfl⟩)|(go_at_call 227;refine(L.out _).mono ?_;rintro e a ⟨rfl,rfl⟩))
   rw[aH.out];generalize b:a.alloc (Obj.cells #[Value.int IntKind.u64 0,Value.int IntKind.u64 0,Value.int IntKind.i64 0] 309)=g;have n:Below a.heap.size a g:=by rw[<-b];exact(eA _ _).alloc (aw _) _
   have A:g.cell? ⟨a.heap.size,0,none⟩=some (.int .u64 0):=by rw[<-b];simp
   have C:g.cell? ⟨a.heap.size,1,none⟩=some (.int .u64 0):=by rw[<-b];simp
   have D:g.cell? ⟨a.heap.size,2,none⟩=some (.int .i64 0):=by rw[<-b];simp
   have T:∀ o,g.frozen? ⟨a.heap.size,o,none⟩=false:=by intro o;rw[<-b];simp
   have G:=nL v y a.heap.size k (E-m) h g O O O (aA.a6 n I) I ⟨_,A⟩ ⟨_,C⟩ ⟨_,D⟩ T;have i:=U G;have Z:=U n;have aB:=U b;clear G n b
   go_upto_region 6 with(go_at_call 228;refine i.mono ?_;rintro e bD ⟨rfl,rfl⟩)
   generalize c:((g.setCell ⟨a.heap.size,0,none⟩ (.int .u64 (v k:Nat))).setCell ⟨a.heap.size,1,none⟩ (.int .u64 (y k:Nat))).setCell ⟨a.heap.size,2,none⟩ (.int .i64 (-(E-(m:Int)+h+3)))=u;have aM:u.cell? ⟨a.heap.size,0,none⟩=some (.int .u64 (v k:Nat)):=by rw[<-c,eb _ _ _ _ (ev O),eb _ _ _ _ (ev O)];exact kA _ _ _ A
   have aN:u.cell? ⟨a.heap.size,1,none⟩=some (.int .u64 (y k:Nat)):=by
    rw[<-c,eb _ _ _ _ (ev O)];refine kA _ _ _ (?_:_=some (.int .u64 0));rw[eb _ _ _ _ (ev O)];exact C
   have aO:u.cell? ⟨a.heap.size,2,none⟩=some (.int .i64 (-(E-(m:Int)+h+3))):=by
    rw[<-c];refine kA _ _ _ (?_:_=some (.int .i64 0));rw[eb _ _ _ _ (ev O),eb _ _ _ _ (ev O)];exact D
   have s:Below a.heap.size a u:=by rw[<-c];exact((Z.setCell (p:=⟨a.heap.size,0,none⟩) (aw _) _).setCell (p:=⟨a.heap.size,1,none⟩) (aw _) _).setCell (p:=⟨a.heap.size,2,none⟩) (aw _) _
   have aJ:=U (aW.out u a.heap.size aM aN (by rw[aO];exact congrArg (fun z=>some (Value.int .i64 z)) aV.out));have M:=U s;clear c s A C D T
   go_upto_region 9 with(go_at_call 229;refine aJ.mono ?_;rintro e F ⟨rfl,q,rfl⟩)
   go_upto_region 12 with(first|(go_at_call 231;refine(vu _).mono ?_;rintro e F ⟨rfl,rfl⟩)|(go_at_call 230;refine(J.out _).mono ?_;rintro e F ⟨rfl,rfl⟩))
   go_wp2_with (first|(go_at_call 233;refine(N.out _).mono ?_;rintro e F ⟨rfl,rfl⟩)|(go_at_call 236;refine(aK.out _).mono ?_;rintro e F ⟨rfl,rfl⟩))
   go_ret2
   exact⟨rfl,M.trans (dN _ _ _)⟩
end Go.Proofs.YtkblonfmjlopaaaGreatDoor
