/-
  The library's special reals: none here.
-/
import Derived.Test.YtkblonfmjlopaaaGreatDoorPfR
import Derived.Test.YtkblonfmjlopaaaGreatDoorCards
import Derived.Test.YtkblonfmjlopaaaGreatDoorTie
import Derived.Lay
import Derived.Deep.DeepWitnessRowRef
import Derived.Lib.SmallJoins
set_option linter.all false
set_option maxRecDepth 1000000
set_option maxHeartbeats 16000000
namespace Go.Proofs.YtkblonfmjlopaaaGreatDoor
set_option linter.all false
open Go Go.RowKit
set_option maxRecDepth 100000
set_option maxHeartbeats 2000000
theorem JE(s p:ByteArray)(y:s.size<=200)(t:0<p.size/\p.size<=100)(b:bt p 0=105)(a:0<s.size->bt s 0=45\/bt s 0=46\/bt s 0=101\/(48<=bt s 0/\bt s 0<=57))(w:World):
 Calls Tryz.prog 221 #[.string s,.string p] w fun e v=>e=.returned (.int .i64 0)/\v=w:=by
 have d:∀ w,(Instr.index 9 (.string p) (.int .i64 0)).run Tryz.prog w=.ok (.int .u8 105) w:=fun w=>by
  have:=f' (w:=w) (k:=.i64) (z:=0) Tryz.underlying9 t.1 rfl;rw[b] at this;exact this
 obtain⟨m,i⟩:∃ m:Int,min (p.size:Int) (s.size:Int)=m:=⟨_,rfl⟩
 by_cases j:s.size=0
 ·have f:m=0:=O
  subst f;have h:=U i;have x:=U j;clear i j a d;go_enter Tryz.func221,Tryz.ntmps221
  go_upto_block 0 with fail
  rw[show min (p.size:Int) (s.size:Int)=0 from h.out]
  go_wp2_with fail
  go_loopg [6] 1 (fun k g wr=>g=.int .i64 0/\wr=w)
  case atStart=>exact⟨rfl,rfl⟩
  case round=>
   obtain⟨rfl,rfl⟩:=hrel
   go_wp2_with fail
   go_ret;exact⟨rfl,rfl⟩
 ·have f:0<m:=O
  have a:=a O;have l:∀ w,(Instr.index 9 (.string s) (.int .i64 0)).run Tryz.prog w=.ok (.int .u8 (bt s 0:Nat)) w:=fun w=>f' Tryz.underlying9 O rfl;obtain⟨c,o⟩:∃ c,bt s 0=c:=⟨_,rfl⟩;rw[o] at l a;have q:((c:Int)==105)=false:=b1
  have n:((c:Int) != 105)=true:=b1
  have h:=U i;clear i j o
  by_cases r:c<65
  ·have u:¬(65:Int)<=(c:Int):=O
   clear a;go_enter Tryz.func221,Tryz.ntmps221
   go_upto_block 0 with fail
   rw[show min (p.size:Int) (s.size:Int)=m from h.out]
   go_wp2_with fail
   go_loopg [6] 1 (fun k g wr=>g=.int .i64 0/\wr=w)
   case atStart=>exact⟨rfl,rfl⟩
   case round=>
    obtain⟨rfl,rfl⟩:=hrel
    go_wp2_with fail
    go_ret;exact⟨rfl,rfl⟩
  ·have u:(65:Int)<=(c:Int):=O
   have A:¬(c:Int)<=90:=O
   clear a;go_enter Tryz.func221,Tryz.ntmps221
   go_upto_block 0 with fail
   rw[show min (p.size:Int) (s.size:Int)=m from h.out]
   go_wp2_with fail
   go_loopg [6] 1 (fun k g wr=>g=.int .i64 0/\wr=w)
   case atStart=>exact⟨rfl,rfl⟩
   case round=>
    obtain⟨rfl,rfl⟩:=hrel
    go_wp2_with fail
    go_ret;exact⟨rfl,rfl⟩
theorem JF{s:ByteArray}(h:1<s.size):bt (s.extract 1 s.size) 0=bt s 1:=by
 have a:0<(s.extract 1 s.size).size:=by rw[uH];omega
 rw[<-ri a,<-ri h]
 congr 1
 exact ByteArray.getElem_extract ..
theorem zP(s:ByteArray)(f:RC s)(x:s.size<=200)(w:World):
 Calls Tryz.prog 197 #[.string s] w fun e m=>e=.returned (.tuple #[.float .f64 0,.int .i64 0,.bool false])/\m=w:=by
 by_cases d:s.size=0
 ·have o:((s.size:Int)==0)=true:=by simp[d]
  have u:=U d;clear d;go_enter Tryz.func197,Tryz.ntmps197
  go_wp2_with fail
  go_ret3
  exact⟨rfl,rfl⟩
 ·have o:((s.size:Int)==0)=false:=beq_eq_false_iff_ne.mpr O;have j:0<s.size:=O
  have i:∀ w,(Instr.index 9 (.string s) (.int .i64 0)).run Tryz.prog w=.ok (.int .u8 (bt s 0:Nat)) w:=fun w=>f' Tryz.underlying9 j rfl;have b:=f 0 j;obtain⟨c,g⟩:∃ c,bt s 0=c:=⟨_,rfl⟩;rw[g] at i b;have n:=U f;have v:=U g;clear f g
  by_cases a:c=45
  ·subst a;go_enter Tryz.func197,Tryz.ntmps197
   go_wp2_with fail
   refine(JE (s.extract 1 s.size) _ (by rw[uH];omega) bh bh (fun h=>?_) w).mono ?_
   ·rw[uH] at h;have e:bt (s.extract 1 s.size) 0=bt s 1:=JF O;rw[e];exact n.out 1 O
   ·rintro e m ⟨rfl,rfl⟩
    go_wp2_with fail
    go_ret3
    exact⟨rfl,rfl⟩
  ·
   have p:((c:Int)==43)=false:=b1
   have q:((c:Int)==45)=false:=b1
   have k:((c:Int)==105)=false:=b1
   have r:((c:Int)==73)=false:=b1
   have l:((c:Int)==110)=false:=b1
   have t:((c:Int)==78)=false:=b1
   clear a b;go_enter Tryz.func197,Tryz.ntmps197
   go_wp2_with fail
   go_ret3
   exact⟨rfl,rfl⟩
end Go.Proofs.YtkblonfmjlopaaaGreatDoor
namespace Go.Proofs.YtkblonfmjlopaaaGreatDoor
set_option linter.all false
open Go Go.RowKit
set_option maxRecDepth 100000
set_option maxHeartbeats 4000000
theorem pT(s:ByteArray):∀ (k:Nat) (r:Rs),r.m<10^r.nm->r.nm<=19->(rB s k r).m<10^19/\(rB s k r).i<=r.i+k
 |0,r,b,a=>by
  have:(10:Nat)^r.nm<=10^19:=nV O a;rw[rB];exact⟨O,O⟩
 |k+1,r,b,a=>by
  have e:(10:Nat)^r.nm<=10^19:=nV O a;rw[rB]
  split
  ·split
   ·exact⟨O,O⟩
   ·have:=pT s k {r with i:=r.i+1,dp:=(r.nd:Nat),dot:=true} b a;refine⟨this.1,fy this.2 ?_⟩;show r.i+1+k<=_;omega
  ·split
   ·rename_i d
    split
    ·have:=pT s k {r with i:=r.i+1,dp:=r.dp-1,kI:=true} b a;refine⟨this.1,fy this.2 ?_⟩;show r.i+1+k<=_;omega
    ·split
     ·rename_i c;have:=pT s k {r with i:=r.i+1,nd:=r.nd+1,nm:=r.nm+1,m:=r.m*10+(bt s r.i-48),kI:=true} (by show r.m*10+(bt s r.i-48)<10^(r.nm+1);rw[qu];omega) c;refine⟨this.1,fy this.2 ?_⟩;show r.i+1+k<=_;omega
     ·have:=pT s k {r with i:=r.i+1,nd:=r.nd+1,tr:=if bt s r.i=48 then r.tr else true,kI:=true} b a;refine⟨this.1,fy this.2 ?_⟩;show r.i+1+k<=_;omega
   ·exact⟨O,O⟩
theorem BU(s:ByteArray):∀ (k i e:Nat),(kT s k i e).1<=i+k
 |0,i,e=>by rw[kT];exact aw _
 |k+1,i,e=>by
  rw[kT]
  split
  ·have:=BU s k (i+1) (if e<10000 then e*10+(bt s i-48) else e);omega
  ·show i<=_;omega
theorem JG(s:ByteArray)(r:Rs)(p:Int)(h:r.i<=s.size):(C3 s r p).m=r.m/\(C3 s r p).i<=s.size+1/\((C3 s r p).ok=true->(C3 s r p).i<=s.size):=by
 unfold C3;have e:(if bt s (r.i+1)=45 then r.i+2 else r.i+1)<=r.i+2:=by split<;>omega
 generalize (if bt s (r.i+1)=45 then r.i+2 else r.i+1)=j at*;generalize (if bt s (r.i+1)=45 then(-1:Int) else 1)=f at*
 by_cases b:r.i<s.size/\bt s r.i=101
 ·rw[if_pos b]
  by_cases c:s.size<=r.i+1
  ·rw[if_pos c];exact⟨rfl,by show r.i+1<=_;omega,fun a=>by cases a⟩
  ·rw[if_neg c]
   by_cases d:s.size<=j\/¬(48<=bt s j/\bt s j<=57)
   ·rw[if_pos d];exact⟨rfl,by show j<=_;omega,fun a=>by cases a⟩
   ·rw[if_neg d];have:=BU s (s.size-j) j 0;unfold MH;refine⟨rfl,?_,fun _=>?_⟩
    ·show(kT s (s.size-j) j 0).1<=_;omega
    ·show(kT s (s.size-j) j 0).1<=_;omega
 ·rw[if_neg b];exact⟨rfl,by show r.i<=_;omega,fun _=>h⟩
theorem JH(s:ByteArray):(ud s).m<10^19/\((ud s).ok=true->(ud s).i<=s.size):=by
 unfold ud
 split
 ·exact⟨by show 0<_;decide,fun h=>by cases h⟩
 ·rename_i c;have h:=pT s (s.size-(if bt s 0=45 then 1 else 0)) ⟨if bt s 0=45 then 1 else 0,false,false,0,0,0,0,false⟩ (by show(0:Nat)<10^0;decide) (hU _);generalize rB s (s.size-(if bt s 0=45 then 1 else 0)) ⟨if bt s 0=45 then 1 else 0,false,false,0,0,0,0,false⟩=r at*
  have a:r.i<=s.size:=by
   have:=h.2;dsimp only at this
   split at this<;>omega
  dsimp only
  split
  ·exact⟨h.1,fun b=>by cases b⟩
  ·have:=JG s r (if r.dot=true then r.dp else(r.nd:Nat)) a;exact⟨by rw[this.1];exact h.1,this.2.2⟩
theorem JI(g:Nat->Nat)(i:Nat->ByteArray)(x f y a b:Nat)(D:Nat->Nat)(d:Bool)(j:Int)(k:Bool)(w:World)(c:Tf g i x f y a b w)(h:Dc w b D 0 j d k):
 Calls Tryz.prog 205 #[.pointer (some ⟨b,0,none⟩),.pointer (some ⟨10,0,none⟩)] w fun e l=>e=.returned (.tuple #[.int .u64 (jw 0 0 d),.bool false])/\Below b w l:=by
 have m:w.cell? ⟨b,800,none⟩=some (.int .i64 0):=h.n;have n:=h.g;have f0:=c.f0;have f1:=c.f1;have f2:=c.f2;unfold jw;clear c h;go_enter Tryz.func205,Tryz.ntmps205
 go_wp2_with fail
 apply kJ 1 0 bh rfl rfl
 go_wp2_with fail
 go_step3
 go_wp2_with fail
 refine Exit.pD bh (Exit.lG ?_)
 go_wp2_with fail
 go_quiet (fail)
 cases d
 ·go_wp2_with fail
  (try rw[Exit.iy]);(try rw[im])
  go_ret2
  first|exact⟨rfl,ai (eA _ _) _⟩|exact⟨rfl,ai (ai (eA _ _) _) _⟩|exact⟨rfl,ai (ai (ai (eA _ _) _) _) _⟩
 ·go_wp2_with fail
  go_quiet (fail)
  go_wp2_with fail
  (try rw[Exit.iy]);(try rw[im])
  go_ret2
  first|exact⟨rfl,ai (eA _ _) _⟩|exact⟨rfl,ai (ai (eA _ _) _) _⟩|exact⟨rfl,ai (ai (ai (eA _ _) _) _) _⟩
theorem Tb.mono{cd:Nat->Nat}{cs:Nat->ByteArray}{x a b c:Nat}{w:World}(h:Tb cd cs x a b w)(k:b<=c):Tb cd cs x a c w:=⟨ba h.lo,ba h.lx,h.g0,h.g1,h.g2⟩
theorem Tf.mono{cd:Nat->Nat}{cs:Nat->ByteArray}{x c y a b d:Nat}{w:World}(h:Tf cd cs x c y a b w)(k:b<=d):Tf cd cs x c y a d w:=⟨h.tb.mono k,ba h.ly,h.f0,h.f1,h.f2,h.p0,h.pp⟩
structure TT(cd:Nat->Nat)(cs:Nat->ByteArray)(x off y oV:Nat)(pf:Nat->Nat)(z Ay:Nat)(ph pl:Nat->Nat)(B:Nat)(w:World):Prop where
 tf:Tf cd cs x off y oV B w
 te:Te pf z Ay w
 lz:z<B
 tp:Tp ph pl w
 op:w.cell? ⟨9,0,none⟩=some (.bool true)
theorem TT.a6{cd:Nat->Nat}{cs:Nat->ByteArray}{x c y a:Nat}{d:Nat->Nat}{z b:Nat}{e f:Nat->Nat}{B:Nat}{w w':World}(h:TT cd cs x c y a d z b e f B w)(k:Below B w w'):TT cd cs x c y a d z b e f B w':=by
 have g:=h.tf.tb.lo;exact⟨h.tf.a6 k,h.te.a6 k O h.lz,h.lz,h.tp.a6 k O,by rw[k.cell b1];exact h.op⟩
theorem TT.mono{cd:Nat->Nat}{cs:Nat->ByteArray}{x c y a:Nat}{e:Nat->Nat}{z b:Nat}{f g:Nat->Nat}{B d:Nat}{w:World}(h:TT cd cs x c y a e z b f g B w)(k:B<=d):TT cd cs x c y a e z b f g d w:=⟨h.tf.mono k,h.te,ba h.lz,h.tp,h.op⟩
end Go.Proofs.YtkblonfmjlopaaaGreatDoor
namespace Go.Proofs.YtkblonfmjlopaaaGreatDoor
set_option linter.all false
open Go Go.RowKit
set_option maxRecDepth 100000
set_option maxHeartbeats 8000000
theorem RC.take{s:ByteArray}(h:RC s)(n:Nat):RC (s.extract 0 n):=by
 intro i b;have a:i<s.size:=by rw[uH] at b;omega
 have e:bt (s.extract 0 n) i=bt s i:=by
  rw[<-ri b,<-ri a]
  congr 1
  rw[ByteArray.getElem_extract];simp
 rw[e];exact h i a
theorem rZ(s:ByteArray):∀ (k:Nat) (m:Ms),ir m.D m.nd->(0<m.nd->m.D 0≠48)->
 ir (mJ s k m).D (mJ s k m).nd/\(0<(mJ s k m).nd->(mJ s k m).D 0≠48)/\(mJ s k m).nd<=m.nd+k
 |0,m,a,b=>⟨a,b,aw _⟩
 |k+1,m,a,b=>by
  unfold mJ
  split
  ·split
   ·exact⟨a,b,by show m.nd<=_;omega⟩
   ·have:=rZ s k {m with i:=m.i+1,dp:=(m.nd:Nat),dot:=true} a b;exact⟨this.1,this.2.1,fy this.2.2 (by show m.nd+k<=_;omega)⟩
  ·split
   ·rename_i d
    split
    ·have:=rZ s k {m with i:=m.i+1,dp:=wrap64 (m.dp-1),kI:=true} a b;exact⟨this.1,this.2.1,fy this.2.2 (by show m.nd+k<=_;omega)⟩
    ·rename_i f
     have:=rZ s k {m with i:=m.i+1,D:=jG m.D m.nd (bt s m.i),nd:=m.nd+1,kI:=true} (fun i c=>by
      show 48<=jG m.D m.nd (bt s m.i) i/\jG m.D m.nd (bt s m.i) i<=57;unfold jG
      split
      ·exact d
      ·exact a i (by have c:i<m.nd+1:=c;omega)) (fun _=>by
      show jG m.D m.nd (bt s m.i) 0≠48;unfold jG
      split
      ·intro e;exact f ⟨e,O⟩
      ·exact b O)
     exact⟨this.1,this.2.1,fy this.2.2 (by show m.nd+1+k<=_;omega)⟩
   ·exact⟨a,b,by show m.nd<=_;omega⟩
theorem JJ(s:ByteArray)(e:s.size<=200):CY (rz s).2:=by
 unfold rz
 split
 ·exact⟨by show 0<=800;omega,fun i b=>absurd b (Nat.not_lt_zero _),fun h=>absurd h (Nat.lt_irrefl _)⟩
 ·have h:=rZ s (s.size-(if bt s 0=45 then 1 else 0)) ⟨false,if bt s 0=45 then 1 else 0,fun _=>0,0,0,false,false⟩ (fun i b=>absurd b (Nat.not_lt_zero _)) (fun h=>absurd h (Nat.lt_irrefl _));generalize mJ s (s.size-(if bt s 0=45 then 1 else 0)) ⟨false,if bt s 0=45 then 1 else 0,fun _=>0,0,0,false,false⟩=m at h;obtain⟨c,d,a⟩:=h
  have a:m.nd<=800:=by
   have:m.nd<=0+(s.size-(if bt s 0=45 then 1 else 0)):=a;omega
  dsimp only
  split
  ·exact⟨a,c,d⟩
  ·unfold Iz Iy
   repeat' split
   all_goals exact⟨a,c,d⟩
def JK(z:Array Value):Bool:=(List.range 800).all fun i=>match z[i]? with|some (.int .u8 0)=>true|_=>false
theorem JL{z:Array Value}(h:JK z=true){i:Nat}(a:i<800):z[i]?=some (.int .u8 0):=by
 unfold JK at h;rw[qs] at h;have:=h i (List.mem_range.mpr a)
 split at this
 ·assumption
 ·cases this
theorem JM(w:World):Dc (w.alloc (.cells Tryz.zeroCells281 281)) w.heap.size (fun _=>0) 0 0 false false:=by
 refine⟨ar,fun i a=>?_,?_,?_,?_,?_,fun o=>by simp[World.frozen?_alloc_new]⟩
 ·rw[jl];exact JL aq a
 ·rw[jl];kernel_rfl
 ·rw[jl];kernel_rfl
 ·rw[jl];kernel_rfl
 ·rw[jl];kernel_rfl
theorem kM{p:Prop}(h:p:=by
 go_wp2_with (first
  |(go_at_call 204;refine(Oq.out _ _ (JM w3)).mono ?_;rintro e n ⟨rfl,c,i⟩;have b:=U (oO.trans (((ab w3 (.cells Tryz.zeroCells281 281)).trans c).mono oO.size));have g:=U (((HT.a6 oO).mono oO.size).a6 ((ab w3 (.cells Tryz.zeroCells281 281)).trans c));have f:=U i;clear c i)
  |(go_at_call 205;refine(Ps.out _ _ g.out (DG.out _ _ _ f.out)).mono ?_;rintro e l ⟨rfl,a⟩;have d:=U (b.trans (a.mono oO.size));clear a)
  |(go_at_call 205;refine(JI cd cs x off y oV _ S.D DK S.dp S.tr _ g.out (by have:=DG.out _ _ _ f.out;unfold zi at this;rw[Pt.out] at this;exact this)).mono ?_;rintro e l ⟨rfl,a⟩;have d:=U (b.trans (a.mono oO.size));clear a)
  |(go_at_call 208;refine(Pu.out _ Ot.out).mono ?_;rintro e k ⟨rfl,rfl⟩)
  |(go_at_call 209;refine(GS.out _ m_.out ql).mono ?_;rintro e m ⟨rfl,j⟩)
  |(go_at_call 197;refine(HS.out _).mono ?_;rintro e k ⟨rfl,rfl⟩)
  |(go_at_call 198;refine(HR.out _).mono ?_;rintro e k ⟨rfl,rfl⟩)
  |(go_at_call 206;refine(HB.out _).mono ?_;rintro e k ⟨rfl,rfl⟩)
  |rw[mg])
 first
 |(go_ret3
   exact⟨rfl,eA _ _⟩)
 |(go_ret3
   exact⟨rfl,j⟩)
 |(go_ret3
   exact⟨rfl,b.out⟩)
 |(go_ret3
   exact⟨rfl,d.out⟩)):p:=h
theorem CB(cd:Nat->Nat)(cs:Nat->ByteArray)(x off y oV:Nat)(aV:Nat->Nat)(z X:Nat)(aO aP:Nat->Nat)(s:ByteArray)(aM:RC s)(bD:s.size<=200)(bA:kG cd cs)(bE:∀ i,i<23->NZ (aV i))(H:∀ k,aO k<18446744073709551616)(I:∀ k,aP k<18446744073709551616):
 ∃ f n aK,(aK=.nilIface\/aK=.iface 231 (.int .i64 1)\/aK=.iface 231 (.int .i64 2))/\∀ w,TT cd cs x off y oV aV z X aO aP w.heap.size w->
   Calls Tryz.prog 179 #[.string s] w fun e P=>e=.returned (.tuple #[.float .f64 f,.int .i64 n,aK])/\Below w.heap.size w P:=by
 have G:=JH s;have aI:=fun w=>F4 s aM bD w;have aX:=fun w=>zP s aM bD w;generalize ud s=R at*;obtain⟨d,p,bP,n,ok⟩:=R;generalize decide (bt s 0=45)=aN at aI;dsimp only at aI G;obtain⟨aJ,aC⟩:∃ t:Int,(if aN=true then(1:Int) else 0)=t:=⟨_,rfl⟩
 have aW:∀ w,Calls Tryz.prog 206 #[.bool aN] w fun e P=>e=.returned (.int .u64 aJ)/\P=w:=fun w=>by
  have:=vt aN w
  rwa [aC] at this
 have HR:=U aI;have HS:=U aX;have HB:=U aW;have bF:=U aM;have bG:=U bA;have bH:=U bE;clear aI aX aW aM bA bE aC;cases ok
 ·clear G H I;apply re;refine⟨n,_,.inr (.inr rfl),fun w c=>?_⟩;clear c;go_enter Tryz.func179,Tryz.ntmps179;exact kM
 have bQ:=G.2 rfl;have aD:=G.1;clear G
 by_cases D:d=0
 ·have bJ:((d:Int)==0)=true:=by simp[D]
  have aA:=U D;clear H I D aD;apply re;refine⟨n,_,.inl rfl,fun w c=>?_⟩;have op:=c.op;clear c;go_enter Tryz.func179,Tryz.ntmps179;exact kM
 have bJ:((d:Int)==0)=false:=beq_eq_false_iff_ne.mpr O
 by_cases v:310<p
 ·have aA:=U D;clear H I D aD;apply re;refine⟨n,_,.inr (.inl rfl),fun w c=>?_⟩;have op:=c.op;clear c;go_enter Tryz.func179,Tryz.ntmps179;exact kM
 have E:=U (show p<=310 from O)
 by_cases r:p< -345
 ·have aA:=U D;have B:=U r;clear H I D aD v r;refine⟨(bits BinOp.or IntKind.u64 (IntKind.u64.wrap (aJ*9223372036854775808)) 0).toNat,n,.nilIface,.inl rfl,fun w c=>?_⟩;have op:=c.op;clear c;go_enter Tryz.func179,Tryz.ntmps179
  go_upto_region 14 with(first|(go_at_call 197;refine(HS.out _).mono ?_;rintro e u ⟨rfl,rfl⟩)|(go_at_call 198;refine(HR.out _).mono ?_;rintro e u ⟨rfl,rfl⟩)|(go_at_call 206;refine(HB.out _).mono ?_;rintro e u ⟨rfl,rfl⟩))
  have v:=E.out;have r:=B.out
  go_upto_if 16 with fail
  rw[mg]
  go_wp2_with fail
  go_ret3
  exact⟨rfl,eA _ _⟩
 have B:=U (show-345<=p by omega);obtain⟨k,Y⟩:∃ k:Nat,p=(k:Int)-348:=⟨(p+348).toNat,O⟩;have aR:3<=k/\k<=658:=O
 obtain⟨bL,aU,aH⟩:=F3 aV z X bH d p aN;obtain⟨aL,F,A,N⟩:=tu aO aP d k (IntKind.u64.wrap (aJ*9223372036854775808)) ⟨O,O⟩ aR H I;rw[<-Y] at N;have Pu:=U aH;have GS:=U N;have aA:=U (b4 D (b4 aD (b4 Y aR)));clear aH N D aD v r Y aR;cases bP
 ·clear H I;cases aU
  ·have M:F=.nilIface\/F=.iface 231 (.int .i64 1)\/F=.iface 231 (.int .i64 2):=by rcases A with h|h<;>simp[h]
   have Q:=U M;clear M A;refine⟨aL,n,F,Q.out,fun w c=>?_⟩;have op:=c.op;have Ot:=U c.te;have ql:=U c.tp;have m_:=U (show 15<w.heap.size from ba c.tf.tb.lo);clear c;go_enter Tryz.func179,Tryz.ntmps179
   go_upto_region 14 with(first|(go_at_call 197;refine(HS.out _).mono ?_;rintro e u ⟨rfl,rfl⟩)|(go_at_call 198;refine(HR.out _).mono ?_;rintro e u ⟨rfl,rfl⟩)|(go_at_call 206;refine(HB.out _).mono ?_;rintro e u ⟨rfl,rfl⟩))
   have v:=E.out;have r:=B.out
   go_upto_if 16 with fail
   exact kM
  ·have Q:=U A;clear A;refine⟨bL,n,.nilIface,.inl rfl,fun w c=>?_⟩;have op:=c.op;have Ot:=U c.te;clear c;go_enter Tryz.func179,Tryz.ntmps179
   go_upto_region 14 with(first|(go_at_call 197;refine(HS.out _).mono ?_;rintro e u ⟨rfl,rfl⟩)|(go_at_call 198;refine(HR.out _).mono ?_;rintro e u ⟨rfl,rfl⟩)|(go_at_call 206;refine(HB.out _).mono ?_;rintro e u ⟨rfl,rfl⟩))
   have v:=E.out;have r:=B.out
   go_upto_if 16 with fail
   exact kM
 have aE:d+1<18446744073709551616:=ba aA.2.1
 obtain⟨aZ,bK,aF,Z⟩:=tu aO aP (d+1) k (IntKind.u64.wrap (aJ*9223372036854775808)) ⟨O,aE⟩ aA.2.2.2 H I;have aY:IntKind.u64.wrap ((d:Int)+1)=((d+1:Nat):Int):=by rw[gN _ O];omega
 rw[<-aA.2.2.1,<-aY] at Z;have J:=U Z;clear Z aF aE aY H I;have M:F=.nilIface\/F=.iface 231 (.int .i64 1)\/F=.iface 231 (.int .i64 2):=by rcases A with h|h<;>simp[h]
 have Q:=U M;clear M A
 by_cases bC:(FloatKind.f64.format.order aL aZ==some Ordering.eq)=true
 ·refine⟨aL,n,F,Q.out,fun w c=>?_⟩;have op:=c.op;have ql:=U c.tp;have m_:=U (show 15<w.heap.size from ba c.tf.tb.lo);clear c;go_enter Tryz.func179,Tryz.ntmps179
  go_upto_region 14 with(first|(go_at_call 197;refine(HS.out _).mono ?_;rintro e u ⟨rfl,rfl⟩)|(go_at_call 198;refine(HR.out _).mono ?_;rintro e u ⟨rfl,rfl⟩)|(go_at_call 206;refine(HB.out _).mono ?_;rintro e u ⟨rfl,rfl⟩))
  have v:=E.out;have r:=B.out
  go_upto_if 16 with fail
  go_upto_region 25 with(go_at_call 209;refine(GS.out _ m_.out ql).mono ?_;rintro e T ⟨rfl,a⟩)
  have o:=a.size;have l:=U a;have q:=U (show 15<T.heap.size from ba m_.out);have C:=U (ql.a6 a m_);clear a o
  go_upto_region 26 with(go_at_call 209;refine(J.out _ q.out C).mono ?_;rintro e w3 ⟨rfl,m⟩)
  have j:=l.trans (m.mono l.size);have oO:=U j;clear m j
  go_wp2_with fail
  go_ret3
  exact⟨rfl,oO.out⟩
 have bC:(FloatKind.f64.format.order aL aZ==some Ordering.eq)=false:=by simpa using bC
 have L:=fun w b h=>CZ (s.extract 0 n) (bF.take n) (by rw[uH];omega) b false false w h;generalize decide (bt (s.extract 0 n) 0=45)=DK at L;have aB:=JJ (s.extract 0 n) (by rw[uH];omega);generalize rz (s.extract 0 n)=bI at L aB;obtain⟨g,S⟩:=bI;dsimp only at L aB;have W:∀ w b,Dc w b (fun _=>0) 0 0 false false->Calls Tryz.prog 204 #[.pointer (some ⟨b,0,none⟩),.string (s.extract 0 n)] w fun e P=>e=.returned (.bool g)/\Below b w P/\(g=true->sy w b P S DK):=fun w b h=>(L w b h).mono fun e P aQ=>⟨aQ.1,aQ.2.2.1,aQ.2.2.2⟩;have Oq:=U W;clear L W;cases g
 ·refine⟨0,n,.iface 231 (.int .i64 2),.inr (.inr rfl),fun w c=>?_⟩;have HT:=U c.tf;have op:=c.op;have ql:=U c.tp;have m_:=U (show 15<w.heap.size from ba c.tf.tb.lo);clear c;go_enter Tryz.func179,Tryz.ntmps179
  go_upto_region 14 with(first|(go_at_call 197;refine(HS.out _).mono ?_;rintro e u ⟨rfl,rfl⟩)|(go_at_call 198;refine(HR.out _).mono ?_;rintro e u ⟨rfl,rfl⟩)|(go_at_call 206;refine(HB.out _).mono ?_;rintro e u ⟨rfl,rfl⟩))
  have v:=E.out;have r:=B.out
  go_upto_if 16 with fail
  go_upto_region 25 with(go_at_call 209;refine(GS.out _ m_.out ql).mono ?_;rintro e T ⟨rfl,a⟩)
  have o:=a.size;have l:=U a;have q:=U (show 15<T.heap.size from ba m_.out);have C:=U (ql.a6 a m_);clear a o
  go_upto_region 26 with(go_at_call 209;refine(J.out _ q.out C).mono ?_;rintro e w3 ⟨rfl,m⟩)
  have j:=l.trans (m.mono l.size);have oO:=U j;clear m j;exact kM
 have DG:Hid (∀ w b P,(true=true->sy w b P S DK)->zi P b S DK):=U fun w b P h=>(h rfl).dc
 by_cases aG:S.nd=0
 ·refine⟨(jw 0 0 DK).toNat,n,.nilIface,.inl rfl,fun w c=>?_⟩;have HT:=U c.tf;have Pt:=U aG;clear aG;have op:=c.op;have ql:=U c.tp;have m_:=U (show 15<w.heap.size from ba c.tf.tb.lo);clear c;go_enter Tryz.func179,Tryz.ntmps179
  go_upto_region 14 with(first|(go_at_call 197;refine(HS.out _).mono ?_;rintro e u ⟨rfl,rfl⟩)|(go_at_call 198;refine(HR.out _).mono ?_;rintro e u ⟨rfl,rfl⟩)|(go_at_call 206;refine(HB.out _).mono ?_;rintro e u ⟨rfl,rfl⟩))
  have v:=E.out;have r:=B.out
  go_upto_if 16 with fail
  go_upto_region 25 with(go_at_call 209;refine(GS.out _ m_.out ql).mono ?_;rintro e T ⟨rfl,a⟩)
  have o:=a.size;have l:=U a;have q:=U (show 15<T.heap.size from ba m_.out);have C:=U (ql.a6 a m_);clear a o
  go_upto_region 26 with(go_at_call 209;refine(J.out _ q.out C).mono ?_;rintro e w3 ⟨rfl,m⟩)
  have j:=l.trans (m.mono l.size);have oO:=U j;clear m j;exact kM
 have aT:gG S:=⟨O,aB.le,aB.dg,aB.top O⟩;have FB:=fun w b bN bO=>KB cd cs x off y oV b S DK w bG bN aT bO;generalize vr cd cs S DK=FR at FB;obtain⟨b6,bM⟩:=FR;dsimp only at FB;have Ps:=U FB;clear FB;cases bM
 ·refine⟨b6.toNat,n,.nilIface,.inl rfl,fun w c=>?_⟩;have HT:=U c.tf;have op:=c.op;have ql:=U c.tp;have m_:=U (show 15<w.heap.size from ba c.tf.tb.lo);clear c;go_enter Tryz.func179,Tryz.ntmps179
  go_upto_region 14 with(first|(go_at_call 197;refine(HS.out _).mono ?_;rintro e u ⟨rfl,rfl⟩)|(go_at_call 198;refine(HR.out _).mono ?_;rintro e u ⟨rfl,rfl⟩)|(go_at_call 206;refine(HB.out _).mono ?_;rintro e u ⟨rfl,rfl⟩))
  have v:=E.out;have r:=B.out
  go_upto_if 16 with fail
  go_upto_region 25 with(go_at_call 209;refine(GS.out _ m_.out ql).mono ?_;rintro e T ⟨rfl,a⟩)
  have o:=a.size;have l:=U a;have q:=U (show 15<T.heap.size from ba m_.out);have C:=U (ql.a6 a m_);clear a o
  go_upto_region 26 with(go_at_call 209;refine(J.out _ q.out C).mono ?_;rintro e w3 ⟨rfl,m⟩)
  have j:=l.trans (m.mono l.size);have oO:=U j;clear m j;exact kM
 ·refine⟨b6.toNat,n,.iface 231 (.int .i64 1),.inr (.inl rfl),fun w c=>?_⟩;have HT:=U c.tf;have op:=c.op;have ql:=U c.tp;have m_:=U (show 15<w.heap.size from ba c.tf.tb.lo);clear c;go_enter Tryz.func179,Tryz.ntmps179
  go_upto_region 14 with(first|(go_at_call 197;refine(HS.out _).mono ?_;rintro e u ⟨rfl,rfl⟩)|(go_at_call 198;refine(HR.out _).mono ?_;rintro e u ⟨rfl,rfl⟩)|(go_at_call 206;refine(HB.out _).mono ?_;rintro e u ⟨rfl,rfl⟩))
  have v:=E.out;have r:=B.out
  go_upto_if 16 with fail
  go_upto_region 25 with(go_at_call 209;refine(GS.out _ m_.out ql).mono ?_;rintro e T ⟨rfl,a⟩)
  have o:=a.size;have l:=U a;have q:=U (show 15<T.heap.size from ba m_.out);have C:=U (ql.a6 a m_);clear a o
  go_upto_region 26 with(go_at_call 209;refine(J.out _ q.out C).mono ?_;rintro e w3 ⟨rfl,m⟩)
  have j:=l.trans (m.mono l.size);have oO:=U j;clear m j;exact kM
end Go.Proofs.YtkblonfmjlopaaaGreatDoor
namespace Go.Proofs.YtkblonfmjlopaaaGreatDoor
section
open Go Go.ChangeShapes Go.WideShapes Go.ChangeAt Go.RowKit Go.Joins Go.WideElems Go.Deep
theorem own:ownKnob Tryz.prog.godebug=none:=aq
noncomputable def ki(os:Os):World:=World.laidAll Tryz.prog os Rows.syntaxJoinsRow.laid
theorem GM(a:Os)(args:Array Value):laidMet Tryz.prog Rows.syntaxJoinsRow.laid ((ki a).forCall (fun _ _=>0) ⟨#[],args,[]⟩).memory:=
 laidMet_laidAll args aq aq
theorem Ou(a:Os)(args:Array Value):((ki a).forCall (fun _ _=>0) ⟨#[],args,[]⟩).variablesZipB Tryz.prog=true:=aq
theorem Nj(a:Os)(args:Array Value):(((ki a).forCall (fun _ _=>0) ⟨#[],args,[]⟩).heap.toList.drop Tryz.prog.globals.size).take ((begin Tryz.prog (fun _ _=>0) default).world.heap.size-Tryz.prog.globals.size)=
 (begin Tryz.prog (fun _ _=>0) default).world.heap.toList.drop Tryz.prog.globals.size:=aq
theorem zJ{H:Type}{enc:TypeId×Value->H}{f:FuncId}{e:Func}{s:OpenSpec}{b:List PathCond}(os:Os)(args:Array Value)
 (c:Input.okWideB Tryz.prog ((ki os).forCall (fun _ _=>0) ⟨#[],args,[]⟩) f ⟨#[],args,[]⟩=true)
 (d:s.preRow enc Tryz.prog e b false Rows.syntaxJoinsRow.laid ((ki os).forCall (fun _ _=>0) ⟨#[],args,[]⟩).memory args):
 ∃ (w:World) (a:Tape) (i:Input),w.os=os/\(w.forCall a i).Shaped Tryz.checked.prog/\i.vars=[]/\Input.okWide Tryz.checked.prog (w.forCall a i) .any w.heap.size f i/\
   s.preRow enc Tryz.checked.prog e b false Rows.syntaxJoinsRow.laid (w.forCall a i).memory i.args/\({}:Assume).holds Tryz.checked.prog (Go.lone (Frame.enter Tryz.checked.prog f i.args .normal) [] (w.forCall a i)):=
 ⟨ki os,fun _ _=>0,⟨#[],args,[]⟩,World.laidAll_os _ _ _,World.shaped_of_ZipB (Ou os args) (Nj os args),(Input.okWide_of_okWideB (base:=0) c).1,(Input.okWide_of_okWideB c).2,d,by
  simp only [Assume.holds]
  exact⟨ar,ar,ar,ar,ar⟩⟩
end
end Go.Proofs.YtkblonfmjlopaaaGreatDoor
