/-
  operand, atomic, starts.
-/
import Derived.Test.YtkblonfmjlopaaaGreatDoorSyFind2
set_option linter.all false
set_option maxRecDepth 1000000
set_option maxHeartbeats 16000000
namespace Go.Proofs.YtkblonfmjlopaaaGreatDoor
open Go Go.RowKit
variable {lo sz:Nat}
theorem uy(b:List Fx)(a:List UInt8):MI b a=(mN b a).2.2:=by
 unfold MI mN;cases j2 b a<;>rfl
section
variable {G:Gh} {M:Nat->Prop} {B:Option Addr} {y:Nat} {g:Option Addr} {u:Nat} {w:World} {s:al}
theorem wm(c:ei G)(h:PS G M B y g u w s)(a:List UInt8):
 Calls Tryz.prog 134 #[.pointer (some ⟨G.bp,3,none⟩),.string ⟨a.toArray⟩] w fun e d=>e=.returned (.tuple #[.agg #[.int .i64 (mN s.sc a).1,.bool (mN s.sc a).2.1],.bool (mN s.sc a).2.2])/\Below w.heap.size w d:=by
 have f:=h.xZ;have i:=h.zp;have j:=h.il;have k:=c.k0;obtain⟨m,b⟩:∃ m,s.sc.length=m+1:=⟨s.sc.length-1,O⟩;have c3:=h.c3;have c4:=h.c4;rw[b] at c3 c4;exact Dn G.bp 3 G.B B y g u s.sc a m w b O h.sc c3 c4
theorem mb(X:ei G)(h:PS G M B y g u w s):
 Calls Tryz.prog 141 (bq G) w fun e aM=>e=.returned (.bool (ea G.X s))/\Below w.heap.size w aM:=by
 go_enter Tryz.func141,Tryz.ntmps141
 go_wp2_with (go_at_call 63;refine(eh X h).mono ?_;rintro e d ⟨I,E,H,F,rfl,aL,c⟩;have Q:=U c;clear c aL)
 have N:=((h.new Q).alloc (.cells (lI G s I E H F) 75)).drew;have D:Below w.heap.size w (d.alloc (.cells (lI G s I E H F) 75)).drew:=(Q.alloc Q.size _).drew;have aA:(d.alloc (.cells (lI G s I E H F) 75)).drew.cell? ⟨d.heap.size,0,none⟩=some (.int .i64 ((V G.X s).kind:Nat)):=jl _ _ _ 0;have aB:(d.alloc (.cells (lI G s I E H F) 75)).drew.cell? ⟨d.heap.size,1,none⟩=some (.string ⟨(V G.X s).text.toArray⟩):=jl _ _ _ 1;have r:d.heap.size<(d.alloc (.cells (lI G s I E H F) 75)).drew.heap.size:=ar
 refine b3 (S:=fun aE=>aE.cell? ⟨d.heap.size,0,none⟩=some (.int .i64 ((V G.X s).kind:Nat))/\aE.cell? ⟨d.heap.size,1,none⟩=some (.string ⟨(V G.X s).text.toArray⟩)) (T:=fun _=>false) aq ?_;generalize (d.alloc (.cells (lI G s I E H F) 75)).drew=m at N D aA aB r⊢;have b:=b4 aA aB;refine tq 0 b ?_;refine tq 1 b ?_;refine tq 2 b ?_;refine tq 3 b ?_;refine tq 4 b ?_;refine gC (i:=5) (j:=9) aq rfl rfl (fun K hK=>?_) (fun K hK=>?_)
 ·go_simp;refine(wm X N (V G.X s).text).mono ?_;rintro e aC ⟨rfl,c⟩;have f:=b4 ((c.cell (p:=⟨d.heap.size,0,none⟩) r).trans b.1) ((c.cell (p:=⟨d.heap.size,1,none⟩) r).trans b.2);have P:=N.new c;have v:=D.trans (c.mono D.size);have t:=gi r c.size;clear c;refine nx hK f ?_;clear hK K;refine tq 6 f ?_;refine tq 7 f ?_;refine tq 8 f ?_;refine cw 9 fun K hK=>?_;go_simp;have a:=ab aC nU;have Y:=b4 ((a.cell (p:=⟨d.heap.size,0,none⟩) t).trans f.1) ((a.cell (p:=⟨d.heap.size,1,none⟩) t).trans f.2);have aI:=P.alloc nU;have Z:=v.trans (a.mono v.size);have aN:=gi t a.size;clear a;refine nx hK Y ?_;clear hK K;refine cw 10 fun K hK=>?_;go_simp;have a:=ab aC (.cells #[.int .i64 (mN s.sc (V G.X s).text).1,.bool (mN s.sc (V G.X s).text).2.1] 66);have z:=b4 ((a.cell (p:=⟨d.heap.size,0,none⟩) t).trans f.1) ((a.cell (p:=⟨d.heap.size,1,none⟩) t).trans f.2);have x:=v.trans (a.mono v.size);clear a;refine nx hK z ?_;clear hK K;refine tq 11 z ?_;refine bj aq ?_ _;obtain⟨aJ,aK⟩:=z
  by_cases k:(V G.X s).kind=1
  ·have R:(((V G.X s).kind:Int)==1)=true:=by rw[k];rfl
   have q:Hid (ea G.X s=!(mN s.sc (V G.X s).text).2.2):=U (by unfold ea;rw[uy,k];rfl);clear k
   go_wp2_with fail
   go_ret;exact⟨by rw[q.out];rfl,x⟩
  ·have R:(((V G.X s).kind:Int)==1)=false:=b1
   by_cases n:(V G.X s).kind=2
   ·have W:(((V G.X s).kind:Int)==2)=true:=by rw[n];rfl
    have q:Hid (ea G.X s=!(mN s.sc (V G.X s).text).2.2):=U (by unfold ea;rw[uy,n];rfl);clear k n
    go_wp2_with fail
    go_ret;exact⟨by rw[q.out];rfl,x⟩
   ·have W:(((V G.X s).kind:Int)==2)=false:=b1
    have J:((V G.X s).kind==1)=false:=by simpa using k
    have L:((V G.X s).kind==2)=false:=by simpa using n
    have q:Hid (ea G.X s=false):=U (by unfold ea;rw[J,L];rfl);clear k n J L
    go_wp2_with fail
    go_ret;exact⟨by rw[q.out];rfl,x⟩
 ·go_simp;have a:=ab m nU;have A:=b4 ((a.cell (p:=⟨d.heap.size,0,none⟩) r).trans b.1) ((a.cell (p:=⟨d.heap.size,1,none⟩) r).trans b.2);have P:=N.alloc nU;have v:=D.trans (a.mono D.size);have t:=gi r a.size;clear a;have aF:(m.alloc nU).cell? ⟨m.heap.size,0,none⟩=some (.int .i64 0):=jl _ _ _ 0;have aG:(m.alloc nU).cell? ⟨m.heap.size,1,none⟩=some (.bool false):=jl _ _ _ 1;have aH:∀ o,(m.alloc nU).frozen? ⟨m.heap.size,o,none⟩=false:=fun o=>o6 _ _ _ _;refine nx hK A ?_;clear hK K;refine cw 5 fun K hK=>?_;go_simp;refine(wm X P (V G.X s).text).mono ?_;rintro e aD ⟨rfl,c⟩;have l:=b4 ((c.cell (p:=⟨d.heap.size,0,none⟩) t).trans A.1) ((c.cell (p:=⟨d.heap.size,1,none⟩) t).trans A.2);have aI:=P.new c;have Z:=v.trans (c.mono v.size);have aN:=gi t c.size;have aO:=(c.cell (p:=⟨m.heap.size,0,none⟩) ar).trans aF;have aP:=(c.cell (p:=⟨m.heap.size,1,none⟩) ar).trans aG;have aQ:=fun o=>(c.frozen (p:=⟨m.heap.size,o,none⟩) ar).trans (aH o);clear aF aG aH;clear c;refine nx hK l ?_;clear hK K;refine tq 6 l ?_;refine tq 7 l ?_;refine tq 8 l ?_;refine cw 10 fun K hK=>?_;go_simp;have a:Below m.heap.size aD ((aD.setCell ⟨m.heap.size,0,none⟩ (.int .i64 (mN s.sc (V G.X s).text).1)).setCell ⟨m.heap.size,1,none⟩ (.bool (mN s.sc (V G.X s).text).2.1)):=nw (nw (eA _ _) (aw _)) (aw _);have C:=b4 ((a.cell (p:=⟨d.heap.size,0,none⟩) r).trans l.1) ((a.cell (p:=⟨d.heap.size,1,none⟩) r).trans l.2);have x:=Z.trans (a.mono D.size);clear a;refine nx hK C ?_;clear hK K;refine tq 11 C ?_;refine bj aq ?_ _;obtain⟨aJ,aK⟩:=C
  by_cases k:(V G.X s).kind=1
  ·have R:(((V G.X s).kind:Int)==1)=true:=by rw[k];rfl
   have q:Hid (ea G.X s=!(mN s.sc (V G.X s).text).2.2):=U (by unfold ea;rw[uy,k];rfl);clear k
   go_wp2_with fail
   go_ret;exact⟨by rw[q.out];rfl,x⟩
  ·have R:(((V G.X s).kind:Int)==1)=false:=b1
   by_cases n:(V G.X s).kind=2
   ·have W:(((V G.X s).kind:Int)==2)=true:=by rw[n];rfl
    have q:Hid (ea G.X s=!(mN s.sc (V G.X s).text).2.2):=U (by unfold ea;rw[uy,n];rfl);clear k n
    go_wp2_with fail
    go_ret;exact⟨by rw[q.out];rfl,x⟩
   ·have W:(((V G.X s).kind:Int)==2)=false:=b1
    have J:((V G.X s).kind==1)=false:=by simpa using k
    have L:((V G.X s).kind==2)=false:=by simpa using n
    have q:Hid (ea G.X s=false):=U (by unfold ea;rw[J,L];rfl);clear k n J L
    go_wp2_with fail
    go_ret;exact⟨by rw[q.out];rfl,x⟩
end
section
variable {G:Gh} {M:Nat->Prop} {B:Option Addr} {y:Nat} {g:Option Addr} {u:Nat} {w:World} {s:al}
theorem BB(f:ei G)(h:PS G M B y g u w s):
 Calls Tryz.prog 107 (bq G) w fun e N=>e=.returned (.bool (du G.X s))/\Below w.heap.size w N:=by
 have L:=iU
 by_cases i:(V G.X s).kind=4
 ·have H:(((V G.X s).kind:Int)==4)=true:=by rw[i];rfl
  have n:Hid (du G.X s=true):=U (by unfold du;rw[i];rfl);clear i;go_enter Tryz.func107,Tryz.ntmps107
  go_wp2_with (go_at_call 63;refine(eh f h).mono ?_;rintro e d ⟨v,q,t,r,rfl,c,a⟩;have b:=U a;clear a c)
  go_ret;exact⟨by rw[n.out];rfl,b.out⟩
 ·have H:(((V G.X s).kind:Int)==4)=false:=b1
  have A:((V G.X s).kind==4)=false:=by simpa using i
  by_cases l:(V G.X s).kind=6
  ·have I:(((V G.X s).kind:Int)==6)=true:=by rw[l];rfl
   have n:Hid (du G.X s=true):=U (by unfold du;rw[l];rfl);clear i l;go_enter Tryz.func107,Tryz.ntmps107
   go_wp2_with (go_at_call 63;refine(eh f h).mono ?_;rintro e d ⟨v,q,t,r,rfl,c,a⟩;have b:=U a;clear a c)
   go_ret;exact⟨by rw[n.out];rfl,b.out⟩
  ·have I:(((V G.X s).kind:Int)==6)=false:=b1
   have C:((V G.X s).kind==6)=false:=by simpa using l
   by_cases o:(V G.X s).kind=7
   ·have J:(((V G.X s).kind:Int)==7)=true:=by rw[o];rfl
    have n:Hid (du G.X s=true):=U (by unfold du;rw[o];rfl);clear i l o;go_enter Tryz.func107,Tryz.ntmps107
    go_wp2_with (go_at_call 63;refine(eh f h).mono ?_;rintro e d ⟨v,q,t,r,rfl,c,a⟩;have b:=U a;clear a c)
    go_ret;exact⟨by rw[n.out];rfl,b.out⟩
   ·have J:(((V G.X s).kind:Int)==7)=false:=b1
    have D:((V G.X s).kind==7)=false:=by simpa using o
    have p:Hid (du G.X s=(ea G.X s||ay G.X [[95],[40],[91],[123],[111,112]] s)):=U (by unfold du;rw[A,C,D];rfl);clear i A l C o D
    rcases k:ea G.X s with _|_
    ·have x:=U k;have z:Hid (du G.X s=ay G.X [[95],[40],[91],[123],[111,112]] s):=U (by rw[p.out,k];rfl);clear k p;go_enter Tryz.func107,Tryz.ntmps107
     go_wp2_with (first
      |(go_at_call 63;refine(eh f h).mono ?_;rintro e d ⟨v,q,t,r,rfl,c,a⟩;have b:=U a;clear a c)
      |(go_at_call 141;refine(mb f (h.new b)).mono ?_;rintro e E ⟨rfl,a⟩;rw[x.out];have j:=U (b.trans (a.mono b.size));clear a)
      |(go_at_call 22;refine(k4 f ((h.new j).alloc _) E.heap.size 5 [⟨([95]:List UInt8).toArray⟩,⟨([40]:List UInt8).toArray⟩,⟨([91]:List UInt8).toArray⟩,⟨([123]:List UInt8).toArray⟩,⟨([111,112]:List UInt8).toArray⟩] rfl O (l5.vP _ _ [⟨([95]:List UInt8).toArray⟩,⟨([40]:List UInt8).toArray⟩,⟨([91]:List UInt8).toArray⟩,⟨([123]:List UInt8).toArray⟩,⟨([111,112]:List UInt8).toArray⟩] _ _ rfl rfl)).mono ?_;rintro e P ⟨rfl,m⟩;have F:=U m;clear m))
     go_ret;refine⟨by rw[z.out];rfl,(j.alloc j.size _).trans (F.mono (by have:=j.size;simp;omega))⟩
    ·have x:=U k;have z:Hid (du G.X s=true):=U (by rw[p.out,k];rfl);clear k p;go_enter Tryz.func107,Tryz.ntmps107
     go_wp2_with (first
      |(go_at_call 63;refine(eh f h).mono ?_;rintro e d ⟨v,q,t,r,rfl,c,a⟩;have b:=U a;clear a c)
      |(go_at_call 141;refine(mb f (h.new b)).mono ?_;rintro e E ⟨rfl,a⟩;rw[x.out];have j:=U (b.trans (a.mono b.size));clear a))
     go_ret;exact⟨by rw[z.out];rfl,j.out⟩
theorem BC(f:ei G)(h:PS G M B y g u w s):
 Calls Tryz.prog 219 (bq G) w fun e R=>e=.returned (.bool (ed G.X s))/\Below w.heap.size w R:=by
 have Q:=iU
 by_cases i:(V G.X s).kind=4
 ·have J:(((V G.X s).kind:Int)==4)=true:=by rw[i];rfl
  have j:Hid (ed G.X s=true):=U (by unfold ed;rw[i];rfl);clear i;go_enter Tryz.func219,Tryz.ntmps219
  go_wp2_with (go_at_call 63;refine(eh f h).mono ?_;rintro e d ⟨v,o,t,p,rfl,c,a⟩;have b:=U a;clear a c)
  go_ret;exact⟨by rw[j.out];rfl,b.out⟩
 ·have J:(((V G.X s).kind:Int)==4)=false:=b1
  have C:((V G.X s).kind==4)=false:=by simpa using i
  by_cases k:(V G.X s).kind=5
  ·have L:(((V G.X s).kind:Int)==5)=true:=by rw[k];rfl
   have j:Hid (ed G.X s=true):=U (by unfold ed;rw[k];rfl);clear i k;go_enter Tryz.func219,Tryz.ntmps219
   go_wp2_with (go_at_call 63;refine(eh f h).mono ?_;rintro e d ⟨v,o,t,p,rfl,c,a⟩;have b:=U a;clear a c)
   go_ret;exact⟨by rw[j.out];rfl,b.out⟩
  ·have L:(((V G.X s).kind:Int)==5)=false:=b1
   have D:((V G.X s).kind==5)=false:=by simpa using k
   by_cases n:(V G.X s).kind=6
   ·have N:(((V G.X s).kind:Int)==6)=true:=by rw[n];rfl
    have j:Hid (ed G.X s=true):=U (by unfold ed;rw[n];rfl);clear i k n;go_enter Tryz.func219,Tryz.ntmps219
    go_wp2_with (go_at_call 63;refine(eh f h).mono ?_;rintro e d ⟨v,o,t,p,rfl,c,a⟩;have b:=U a;clear a c)
    go_ret;exact⟨by rw[j.out];rfl,b.out⟩
   ·have N:(((V G.X s).kind:Int)==6)=false:=b1
    have E:((V G.X s).kind==6)=false:=by simpa using n
    by_cases r:(V G.X s).kind=7
    ·have P:(((V G.X s).kind:Int)==7)=true:=by rw[r];rfl
     have j:Hid (ed G.X s=true):=U (by unfold ed;rw[r];rfl);clear i k n r;go_enter Tryz.func219,Tryz.ntmps219
     go_wp2_with (go_at_call 63;refine(eh f h).mono ?_;rintro e d ⟨v,o,t,p,rfl,c,a⟩;have b:=U a;clear a c)
     go_ret;exact⟨by rw[j.out];rfl,b.out⟩
    ·have P:(((V G.X s).kind:Int)==7)=false:=b1
     have F:((V G.X s).kind==7)=false:=by simpa using r
     have x:Hid (ed G.X s=(ea G.X s||ay G.X [[40],[91],[123],[111,112],[108,101,116],[35]] s)):=U (by unfold ed;rw[C,D,E,F];rfl);clear i C k D n E r F
     rcases m:ea G.X s with _|_
     ·have z:=U m;have A:Hid (ed G.X s=ay G.X [[40],[91],[123],[111,112],[108,101,116],[35]] s):=U (by rw[x.out,m];rfl);clear m x;go_enter Tryz.func219,Tryz.ntmps219
      go_wp2_with (first
       |(go_at_call 63;refine(eh f h).mono ?_;rintro e d ⟨v,o,t,p,rfl,c,a⟩;have b:=U a;clear a c)
       |(go_at_call 141;refine(mb f (h.new b)).mono ?_;rintro e H ⟨rfl,a⟩;rw[z.out];have l:=U (b.trans (a.mono b.size));clear a)
       |(go_at_call 22;refine(k4 f ((h.new l).alloc _) H.heap.size 6 [⟨([40]:List UInt8).toArray⟩,⟨([91]:List UInt8).toArray⟩,⟨([123]:List UInt8).toArray⟩,⟨([111,112]:List UInt8).toArray⟩,⟨([108,101,116]:List UInt8).toArray⟩,⟨([35]:List UInt8).toArray⟩] rfl O (l5.vP _ _ [⟨([40]:List UInt8).toArray⟩,⟨([91]:List UInt8).toArray⟩,⟨([123]:List UInt8).toArray⟩,⟨([111,112]:List UInt8).toArray⟩,⟨([108,101,116]:List UInt8).toArray⟩,⟨([35]:List UInt8).toArray⟩] _ _ rfl rfl)).mono ?_;rintro e S ⟨rfl,q⟩;have I:=U q;clear q))
      go_ret;refine⟨by rw[A.out];rfl,(l.alloc l.size _).trans (I.mono (by have:=l.size;simp;omega))⟩
     ·have z:=U m;have A:Hid (ed G.X s=true):=U (by rw[x.out,m];rfl);clear m x;go_enter Tryz.func219,Tryz.ntmps219
      go_wp2_with (first
       |(go_at_call 63;refine(eh f h).mono ?_;rintro e d ⟨v,o,t,p,rfl,c,a⟩;have b:=U a;clear a c)
       |(go_at_call 141;refine(mb f (h.new b)).mono ?_;rintro e H ⟨rfl,a⟩;rw[z.out];have l:=U (b.trans (a.mono b.size));clear a))
      go_ret;exact⟨by rw[A.out];rfl,l.out⟩
end
theorem LN.E1{G:Gh}{M:Nat->Prop}{B:Option Addr}{y:Nat}{g:Option Addr}{u:Nat}{s s1:al}{wr f:World}{d:List Nd}{a:Option Addr}{c:Nat}(h:LN G M B y g u lo sz s wr s1 d a c)(n:PS G M B y g u f s1)(o:f.heap.size=wr.heap.size)(l:∀ b,b<G.B\/lo<=b->f.heap[b]?=wr.heap[b]?)(m:True):LN G M B y g u lo sz s f s1 d a c:=by
 refine⟨h.sc,h.mono,n,h.lB,h.w7,ba h.lw,?_⟩
 rcases h.row with q|⟨A,e,k⟩
 ·exact .inl q
 ·have i:lo<=A:=by obtain⟨_,q,_⟩:=k;exact q
  exact .inr ⟨A,e,k.a6 (fun b j=>l b (j.imp id fun q=>q.1)) (l A (.inr i)) O (fun b j=>j.imp id fun q=>⟨q.1,O,q.2.2⟩) (fun q=>q.elim (fun q=>ba h.lB) (fun q=>q.2.2 rfl))⟩
theorem cx{α:Type}{X:Tx}{c:List UInt8}{f:Bool->PM α}{s:al}{r:Except (Nat×Nat) (α×al)}(h:(a7 X c>>=f) s=some r):∃ b s1,a7 X c s=some (.ok (b,s1))/\f b s1=some r:=by
 by_cases a:ay X [c] s=true
 ·rw[lJ a] at h;exact⟨true,_,py a,h⟩
 ·rw[jx a] at h;exact⟨false,_,pz a,h⟩
def Oa(G:Gh)(pb fk:Nat)(w:World)(g:ak×Int):Prop:=cc w pb (bq G)/\cc w fk #[.string ⟨(g.1).toArray⟩,.int .i64 g.2,.slice none 0 0]
def FB(G:Gh)(k:Nat)(args:Array Value)(x:PM ak):Prop:=∀ (M:Nat->Prop) (B:Option Addr) (y:Nat) (g:Option Addr) (u:Nat) (w:World) (s:al) (r:Except (Nat×Nat) (ak×al)),PS G M B y g u w s->x s=some r->Calls Tryz.prog k args w fun e w'=>Kn G.B M w w'/\match r with
    |.error (c,q)=>e=az c q
    |.ok (l,s')=>e=.returned (.string ⟨l.toArray⟩)/\s'.sc=s.sc/\s.i+1<=s'.i/\PS G M B y g u w' s'
def FU(G:Gh)(k:Nat)(args:Array Value)(x:PM Unit):Prop:=∀ (M:Nat->Prop) (B:Option Addr) (y:Nat) (g:Option Addr) (u:Nat) (w:World) (s:al) (r:Except (Nat×Nat) (Unit×al)),PS G M B y g u w s->x s=some r->Calls Tryz.prog k args w fun e w'=>Kn G.B M w w'/\match r with
    |.error (c,q)=>e=az c q
    |.ok (_,s')=>e=.returned (.tuple #[])/\s'.sc=s.sc/\s.i+1<=s'.i/\PS G M B y g u w' s'
theorem fo{G:Gh}(i:ei G)(b:Bool):FB G 73 (AI G b) (name G.X b):=fun M B y g u w s r c a=>by
 by_cases h:dw G.X b s=true
 ·have a:name G.X b s=some r:=a;unfold name at a;rw[if_pos h] at a;cases a;exact(xV i c b h).mono fun e k ⟨d,f,j⟩=>⟨j.jp c.mp,d,rfl,aw _,f⟩
 ·unfold name at a;rw[if_neg h,kY] at a;cases a;exact(IQ i c b h).mono fun e k ⟨d,f⟩=>⟨Kn.of f c.bB,d⟩
theorem sM{G:Gh}(f:ei G):FB G 111 (bq G) (hv G.X):=fun M B y g u w s r b a=>by
 by_cases h:(V G.X s).kind=3
 ·unfold hv at a;rw[if_pos h] at a;cases a;exact(Df f b h).mono fun e j ⟨c,d,i⟩=>⟨i.jp b.mp,c,rfl,aw _,d⟩
 ·unfold hv at a;rw[if_neg h,kY] at a;cases a;exact(F_ f b h).mono fun e j ⟨c,d⟩=>⟨Kn.of d b.bB,c⟩
theorem wo{G:Gh}(f:ei G):FB G 114 (bq G) (gR G.X):=fun M B y g u w s r b a=>by
 by_cases h:(V G.X s).kind=1
 ·unfold gR at a;rw[if_pos h] at a;cases a;exact(Ga f b h).mono fun e j ⟨c,d,i⟩=>⟨i.jp b.mp,c,rfl,aw _,d⟩
 ·unfold gR at a;rw[if_neg h,kY] at a;cases a;exact(IS f b h).mono fun e j ⟨c,d⟩=>⟨Kn.of d b.bB,c⟩
theorem fi{G:Gh}(i:ei G)(a:List UInt8):FU G 66 (vE G a) (a8 G.X a):=fun M B y g u w s r b c=>by
 by_cases h:ay G.X [a] s=true
 ·rw[Be h] at c;cases c;exact(vY i b a h).mono fun e k ⟨d,f,j⟩=>⟨j.jp b.mp,d,rfl,aw _,f⟩
 ·rw[vf h] at c;cases c;exact(yb i b a h).mono fun e k ⟨d,f⟩=>⟨Kn.of f b.bB,d⟩
def oi(x:PM ak):PM Nd:=x>>=fun a=>pure [vS a]
theorem FB.fn{G:Gh}{k:Nat}{args:Array Value}{x:PM ak}(h:FB G k args x):FN G k args vX (oi x):=fun M B y g u w s r f i=>by
 unfold oi at i
 rcases a_ i with⟨c,q,b,rfl⟩|⟨a,s1,b,d⟩
 ·exact(h M B y g u w s _ f b).mono fun e m ⟨b,d⟩=>⟨b,d⟩
 ·obtain rfl:=aj d;exact(h M B y g u w s _ f b).mono fun e m ⟨b,d,j,n,l⟩=>⟨b,j,O,l,_,d,_,rfl,ej _ gO⟩
def jn(x:PM (List ak)):PM (List Nd):=x>>=fun l=>pure (strs l)
section
variable {G:Gh} {M:Nat->Prop} {B:Option Addr} {y:Nat} {g:Option Addr} {u:Nat} {w d:World} {s s1:al}
theorem LN.one{nd:Nd}{cs:Array Value}{T:TypeId}(l:PS G M B y g u d s1)(e:s1.sc=s.sc)(hi:s.i<=s1.i)(n:G.B<=lo)(i:∀ k,M k->k<lo)(o:lo<=d.heap.size)(m:ah d (Own G.B lo d.heap.size No) nd cs.toList)(f:cs.size=sz):
 LN G M B y g u lo sz s (d.alloc (.cells cs T)) s1 [nd] (some ⟨d.heap.size,0,none⟩) 1:=by
 have a:=ab d (.cells cs T);subst f;refine⟨e,hi,l.new a,n,i,ba a.size,.inr ⟨_,rfl,?_⟩⟩
 have:=jP.one (w:=d.alloc (.cells cs T)) (F:=KT G.B lo (d.alloc (.cells cs T)).heap.size d.heap.size) (L:=lo) (A:=d.heap.size) (r:=nd) (cs:=cs.toList) o ar (fun h=>h.elim (fun h=>O) (fun h=>h.2.2 rfl)) (fun j p=>by rw[jl];simp) (fun j _=>o6 _ _ _ _)
  (ah.on m (Kb.of a fun b c=>by rcases c with q|q<;>omega) (fun b c=>c.imp id fun q=>⟨q.1,by have:=q.2.1;simp;omega,ba q.2.1⟩))
 simpa using this
theorem LN.alt{A c:Nat}{a:List Nd}(h:LN G M B y g u lo sz s d s1 a (some ⟨A,0,none⟩) c):A<d.heap.size:=by
 rcases h.row with⟨_,b,_⟩|⟨e,b,q⟩
 ·cases b
 ·cases b;obtain⟨_,_,q,_⟩:=q;exact q
theorem tM(a:ei G)(h:PS G M B y g u w s)(sym:Bool)(b:Bool)(c:dw G.X sym s=b):Calls Tryz.prog 97 (AI G sym) w fun e d=>e=.returned (.bool b)/\Below w.heap.size w d:=by
 subst c;exact oP a h sym
end
section
variable {G:Gh} {f:Fs} {n:Nat}
theorem zm(Z:ei G)(z:FN G 74 (bq G) cz f.ty):gu G 75 (bq G) (qf G.X f):=by
 intro M B y g u w s r p o;have aF:=p.bB;have aC:=U p;have aB:=fun k h=>(p.mB k h).2;unfold qf at o;obtain⟨b,s1,A,o⟩:=cx o;have C:=U (qV Z p [111,102] b s1 A);cases b with
 |false=>
  obtain rfl:=aj o;clear o A p;go_enter Tryz.func75,Tryz.ntmps75
  go_wp2_with (go_at_call 21;refine C.mono ?_;rintro e d ⟨rfl,n,h,a,l⟩;have m:=U (b4 n (b4 h (b4 a l)));clear n h a l)
  go_ret;exact⟨m.2.1,m.2.2.1,m.2.2.2,m.1,_,rfl,none,0,rfl,aa⟩
 |true=>
  rcases a_ o with⟨c,q,x,rfl⟩|⟨aG,aH,x,Q⟩
  ·have m:=U x;clear o A p x;go_enter Tryz.func75,Tryz.ntmps75
   go_wp2_with (first
    |(go_at_call 21;refine C.mono ?_;rintro e d ⟨rfl,n,h,a,l⟩;have t:=U (b4 n h);clear n h a l)
    |(go_at_call 74;refine(z M B y g u _ _ _ t.1 m).mono ?_;rintro e E ⟨h,rfl⟩;unfold az))
   go_simp;exact⟨rfl,t.2.go h,rfl⟩
  ·obtain rfl:=aj Q;have m:=U x;clear o A p x Q;go_enter Tryz.func75,Tryz.ntmps75
   go_wp2_with (first
    |(go_at_call 21;refine C.mono ?_;rintro e d ⟨rfl,n,h,a,l⟩;have t:=U (b4 n (b4 h (b4 a l)));clear n h a l)
    |(go_at_call 74;refine(z M B y g u _ _ _ t.1 m).mono ?_;rintro e E ⟨h,a,l,j,v,rfl,R,S,F,I,H,J,N,L,rfl,i⟩;have T:=U (b4 h (b4 a (b4 l (b4 j i))));clear h a l j i))
   go_ret;obtain⟨h,a,l,j,i⟩:=T.out;obtain⟨aE,P,X,Y⟩:=t.out;have aD:=h.size;have W:=P.size;have D:=ab E (.cells (nF R S F I H J N L) 78);refine⟨(P.go h).go (Kn.of D j.bB),a.trans X,fy Y l,j.new D,_,rfl,some ⟨E.heap.size,0,none⟩,1,rfl,?_⟩;refine Bf (cs:=[.int .i64 R,.string S,.slice F I H,.slice J N L]) rfl (.inr ⟨O,ar,fun q=>q⟩) (i.on (Own.kb D j.bB (aw _)) (fun b aA=>Own.up aA W ar))
theorem CM(Z:ei G)(aQ:n<=1000000):gu G 78 (bq G) (jn (names G.X n)):=by
 intro M B y g u w s r P o;have bI:=P.bB;have bQ:=U P;have X:=U aQ;have aB:=fun k x=>(P.mB k x).2;unfold jn names at o
 rcases a_ o with⟨c,q,Y,rfl⟩|⟨l,bG,Y,b6⟩
 ·rcases a_ Y with⟨aF,bN,N,e⟩|⟨a,s1,N,aG⟩
  ·cases e;have aI:=U (fo Z true M B y g u _ _ _ P N);clear o Y N P aQ;go_enter Tryz.func78,Tryz.ntmps78
   go_wp2_with (go_at_call 73;refine aI.mono ?_;rintro e d ⟨x,rfl⟩;unfold az)
   go_simp;exact⟨rfl,x,rfl⟩
  ·exfalso
   have aR:∀ (m:Nat) (f:List ak) (s:al) (e:Nat×Nat),hQ G.X m f s≠some (.error e):=by
    intro m
    induction m with
    |zero=>intro f s e h;cases h
    |succ m bL=>
     intro f s e h;unfold hQ at h;have h:(if dw G.X true s=true then(name G.X true>>=fun a=>hQ G.X m (f++[a])) else pure f:PM (List ak)) s=some (.error e):=h
     split at h
     ·rename_i F;rw[vR F] at h;exact bL _ _ _ h
     ·cases h
   exact aR _ _ _ _ aG
 ·obtain rfl:=aj b6
  rcases a_ Y with⟨aF,bN,N,e⟩|⟨a,s1,N,aG⟩
  ·cases e
  ·have aI:=U (fo Z true M B y g u _ _ _ P N);have aV:=U aG;have aM:=U aB;clear o Y N b6 aG P aQ aB;go_enter Tryz.func78,Tryz.ntmps78
   go_wp2_with (go_at_call 73;refine aI.mono ?_;rintro e d ⟨x,rfl,aC,bJ,Q⟩;have I:=U (x.go (Kn.of (ab d (m' a)) Q.bB));have E:=U (LN.one (s:=s) (sz:=1) (lo:=w.heap.size) (T:=9) (cs:=(jk a)) (nd:=[vS a]) Q aC O bI aM x.size (ej _ gO) rfl);clear x aC bJ Q)
   rw[show([[vS a]]:List Nd)=strs [a] from rfl] at E;generalize d.alloc (m' a)=bR at I E⊢
   go_loopg [3] n (fun gk bM wr=>∃ p f A c,bM=.slice (some ⟨A,0,none⟩) (strs f).length c/\Hid (hQ G.X gk f p=some (.ok (l,bG)))/\Hid (LN G M B y g u w.heap.size 1 s wr p (strs f) (some ⟨A,0,none⟩) c)/\Hid (Kn G.B M w wr)/\Hid (f.length+gk<=n+1))
   case atStart=>exact⟨s1,[a],d.heap.size,1,rfl,aV,E,I,U b1⟩
   case round=>
    clear aV E I;obtain⟨p,f,A,c,rfl,aE,R,aW,L⟩:=hrel;cases gk with
    |zero=>exact absurd aE.out (by simp[hQ,PM.none])
    |succ m=>
    have o:=aE.out;unfold hQ at o;have o:(if dw G.X true p=true then(name G.X true>>=fun a=>hQ G.X m (f++[a])) else pure f:PM (List ak)) p=some (.ok (l,bG)):=o
    by_cases F:dw G.X true p=true
    ·rw[if_pos F,vR F] at o;have aN:=U o;have aD:=U F;clear o F aE
     go_wp2_with (first
      |(go_at_call 97;refine(tM Z R.ps true true aD.out).mono ?_;rintro e aT ⟨rfl,t⟩;have i:=U (R.below t);have J:=U (aW.go (Kn.of t R.ps.bB));clear t)
      |(go_at_call 73;refine(xV Z i.ps true aD.out).mono ?_;rintro e bH ⟨rfl,bE,x⟩;have W:=U (i.go (x.jp i.ps.mp) bE rfl (h5 _));have aJ:=U (J.go (x.jp i.ps.mp));have aH:Hid (∀ C,(some ⟨A,0,none⟩:Option Addr)=some ⟨C,0,none⟩->C<aT.heap.size):=U (fun C e=>by cases e;exact i.alt);clear bE x;obtain⟨bD,bA,bC,aA,H⟩:=LN.round (z:=pJ) (T:=9) (cs:=#[.string ⟨(V G.X p).text.toArray⟩]) (nd:=[vS (V G.X p).text]) (zy:=aT.heap.size) W i.lw aH (ej _ gO) rfl O;have D:=U (b4 bA (b4 bC aA));have S:=U H;clear bA bC aA H)
      |(at_builtin;refine hH _ rfl _ _ 33 33 rfl 9 9 pJ 1 16 Tryz.underlying33 Tryz.underlying33 Tryz.sF rfl O w.heap.size D.2.2 (some ⟨A,0,none⟩) (strs f).length c bD (cellAt #[.string ⟨(V G.X p).text.toArray⟩]) bH.heap.size 0 1 rfl rfl D.1 D.2.1 ?hg ?hone (by have:=L.out;have:=X.out;simp[strs];omega) (by have:=L.out;have:=X.out;simp[strs];omega) ?_))
     case hg=>exact ij bH #[.string ⟨(V G.X p).text.toArray⟩] 9
     case hone=>
      intro j bK
      match j,bK with
      |0,_=>rfl
     intro aY aF bO bP v aU aX aZ bF;obtain⟨aO,t⟩:=S.out aY aF bO bP (by rw[qp];exact v) (by rw[lp];exact aU) (by rw[lp];exact aX) aZ (by rw[lp,lp];exact bF)
     have aP:∃ C,aY=some ⟨C,0,none⟩:=by
      rcases aO.row with⟨e,_,_⟩|⟨C,e,_⟩
      ·simp at e
      ·exact⟨C,e⟩
     obtain⟨C,rfl⟩:=aP;have aL:=U aO;have aK:=U (aJ.low t W.lB (aw _));clear aO t v aU aX aZ bF D S bD
     go_wp2_with fail
     go_roundg m
     case measure=>omega
     case rel=>exact⟨_,f++[(V G.X p).text],C,aF,by simp[strs],aN,by rw[show strs (f++[(V G.X p).text])=strs f++[[vS (V G.X p).text]] by simp[strs]];exact aL,aK,U (by have:=L.out;simp;omega)⟩
    ·rw[if_neg F] at o;have aD:Hid (dw G.X true p=false):=U (by simpa using F);cases aj o;clear o F aE
     go_wp2_with (go_at_call 97;refine(tM Z R.ps true false aD.out).mono ?_;rintro e aT ⟨rfl,t⟩;have i:=U (R.below t);have J:=U (aW.go (Kn.of t R.ps.bB));clear t)
     go_ret;exact⟨J.out,i.sc,i.mono,i.ps,_,rfl,i.fin.on (Kb.refl _ _) (fun b t=>t.imp id fun q=>⟨q.1,q.2,fun q=>q⟩)⟩
end
theorem DC{t:Tok}(h:iH t=true):t.kind=4/\∃ c l,t.text=c::l/\49<=c.toNat/\c.toNat<=57/\l.length+1<=64:=by
 unfold iH at h;simp only [Bool.and_eq_true,beq_iff_eq,decide_eq_true_eq] at h;obtain⟨⟨e,a⟩,b⟩:=h
 rcases d:t.text with _|⟨c,l⟩
 ·rw[d] at a;cases a
 ·rw[d] at a b;simp only [decide_eq_true_eq] at a;exact⟨e,c,l,rfl,a.1,a.2,by simpa using b⟩
theorem Gs{t:Tok}(h:¬iH t=true)(f:t.kind=4)(d:t.text≠[]):∃ c l,t.text=c::l/\(¬49<=c.toNat\/49<=c.toNat/\¬c.toNat<=57\/49<=c.toNat/\c.toNat<=57/\¬l.length+1<=64):=by
 rcases e:t.text with _|⟨c,l⟩
 ·exact absurd e d
 ·refine⟨c,l,rfl,?_⟩
  by_cases a:49<=c.toNat
  ·by_cases b:c.toNat<=57
   ·refine .inr (.inr ⟨a,b,fun g=>h ?_⟩);unfold iH;rw[e,f];simp[a,b];omega
   ·exact .inr (.inl ⟨a,b⟩)
  ·exact .inl a
section
variable {G:Gh} {f:Fs} {n:Nat}
theorem lP{p:Prop}(h:p:=by
 go_wp2_with (first
  |(go_at_call 73;refine HC.mono ?_;rintro e f ⟨b,rfl,c⟩;have a:=U (Hv.go b);have d:=U c;clear b c)
  |(go_at_call 73;refine HC.mono ?_;rintro e f ⟨b,rfl⟩;have a:=U (Hv.go b);clear b;unfold az))
 first
 |(go_simp
   exact⟨rfl,a.out,rfl⟩)
 |(go_ret
   exact⟨a.out,rfl,d.out⟩)):p:=h
theorem yo(p:ei G):FB G 145 #[.pointer (some ⟨G.bp,0,none⟩)] (label G.X):=by
 intro M B y g u w s r aD z;have aQ:=aD.bB;have P:=U aD;have W:=U z;clear z aD;go_enter Tryz.func145,Tryz.ntmps145
 go_upto_region 2 with(go_at_call 63;refine(eh p P).mono ?_;rintro e d ⟨T,Q,S,R,rfl,aE,aI⟩;have A:=U aI;clear aE aI)
 have f:=(P.new A).alloc (.cells #[.int .i64 ((V G.X s).kind:Nat),.string ⟨(V G.X s).text.toArray⟩,.bool T,.slice Q S R,.int .u64 ((V G.X s).bits:Nat),.int .i64 ((V G.X s).n:Nat),.int .i64 ((V G.X s).pos:Nat)] 75);have Y:Kn G.B M w (d.alloc (.cells #[.int .i64 ((V G.X s).kind:Nat),.string ⟨(V G.X s).text.toArray⟩,.bool T,.slice Q S R,.int .u64 ((V G.X s).bits:Nat),.int .i64 ((V G.X s).n:Nat),.int .i64 ((V G.X s).pos:Nat)] 75)):=Kn.of (A.trans ((ab _ _).mono A.size)) aQ;have b:=(cc.new d #[.int .i64 ((V G.X s).kind:Nat),.string ⟨(V G.X s).text.toArray⟩,.bool T,.slice Q S R,.int .u64 ((V G.X s).bits:Nat),.int .i64 ((V G.X s).n:Nat),.int .i64 ((V G.X s).pos:Nat)] 75);have L:Hid (d.heap.size≠G.bp):=U (lQ ((P.mB _ P.mp).2) A.size);generalize d.alloc (.cells #[.int .i64 ((V G.X s).kind:Nat),.string ⟨(V G.X s).text.toArray⟩,.bool T,.slice Q S R,.int .u64 ((V G.X s).bits:Nat),.int .i64 ((V G.X s).n:Nat),.int .i64 ((V G.X s).pos:Nat)] 75)=j at f Y b⊢;generalize d.heap.size=n at b L⊢;have i:=U f;have Hv:=U Y;have m:=U b;clear f Y b;have z:=W.out
 by_cases D:iH (V G.X s)=true
 ·obtain⟨aL,c,l,E,C,aO,aP⟩:=DC D;have aK:s.i<G.X.ts.length:=dd O;have aG:=U aK;unfold label at z;rw[if_pos D] at z;cases z;have o:=U E;have x:=U aL;have J:(({data:=(c::l).toArray}:ByteArray)[0]'(by simp[ByteArray.size])).toNat=c.toNat:=rfl;have aC:(49:Int)<=(c.toNat:Int):=O
  have aH:(c.toNat:Int)<=57:=O
  have aN:(l.length:Int)+1<=64:=O
  clear D aL E aK C aO aP;have f:=i.out;have b:=m.out;rw[x.out,o.out] at b;have F:j.cell? ⟨n,0,none⟩=some (.int .i64 4):=b.2.2 0 (show 0<7 from O);have v:j.cell? ⟨n,1,none⟩=some (.string ⟨(c::l).toArray⟩):=b.2.2 1 (show 1<7 from O);have c1:=f.c1;have fr:=f.fr;have aM:=aG.out;have aJ:=p.k0;clear f b
  go_upto_region 4 with fail
  have Z:=Hv.go (((Kn.refl G.B (Jp G) j).step i rfl (.int .i64 ((s.i:Int)+1))).jp i.mp);have aA:=i.step1 aG;have v:(j.setCell ⟨G.bp,1,none⟩ (.int .i64 ((s.i:Int)+1))).cell? ⟨n,1,none⟩=some (.string ⟨(c::l).toArray⟩):=by rw[eb _ _ _ _ (by intro h;simp at h;exact L.out h.symm)];exact v
  generalize j.setCell ⟨G.bp,1,none⟩ (.int .i64 ((s.i:Int)+1))=aR at Z aA v⊢;have aF:=U (b4 Z aA);clear Z aA c1 fr F
  go_wp2_with fail
  go_ret;rw[o.out];refine⟨aF.1,?_,aF.2⟩<;>first|trivial|rfl|exact aw _|(show s.i<=s.i+1;omega)|omega
 ·unfold label at z;rw[if_neg D] at z;have H:=U z;clear z
  by_cases k:(V G.X s).kind=4
  rotate_left 1
  ·have aT:¬(((V G.X s).kind:Nat):Int)=4:=O
   clear k D
   rcases r with⟨aB,q⟩|⟨a,s1⟩
   ·have f:=i.out;have b:=m.out;have F:j.cell? ⟨n,0,none⟩=some (.int .i64 ((V G.X s).kind:Nat)):=b.2.2 0 (show 0<7 from O);have v:j.cell? ⟨n,1,none⟩=some (.string ⟨(V G.X s).text.toArray⟩):=b.2.2 1 (show 1<7 from O);have HC:=U (fo p false M B y g u _ _ _ f H);clear f b;exact lP
   ·have f:=i.out;have b:=m.out;have F:j.cell? ⟨n,0,none⟩=some (.int .i64 ((V G.X s).kind:Nat)):=b.2.2 0 (show 0<7 from O);have v:j.cell? ⟨n,1,none⟩=some (.string ⟨(V G.X s).text.toArray⟩):=b.2.2 1 (show 1<7 from O);have HC:=U (fo p false M B y g u _ _ _ f H);clear f b;exact lP
  obtain⟨t,I⟩:∃ t,G.X.ts[s.i]?=some t:=⟨_,fv (dd (X:=G.X) (s:=s) O)⟩;have N:(V G.X s).text≠[]:=by rw[ko I] at k⊢;exact(p.wd _ _ I).2.2.1 k
  obtain⟨c,l,E,C⟩:=Gs D k N;clear I N
  rcases C with C|C|C
  ·have o:=U E;have x:=U k;have J:((({data:=(c::l).toArray}:ByteArray)[0]'(by simp[ByteArray.size])).toNat=c.toNat):=rfl;have aC:¬(49:Int)<=(c.toNat:Int):=O
   clear k D E C
   rcases r with⟨aB,q⟩|⟨a,s1⟩
   ·have f:=i.out;have b:=m.out;rw[x.out,o.out] at b;have F:j.cell? ⟨n,0,none⟩=some (.int .i64 4):=b.2.2 0 (show 0<7 from O);have v:j.cell? ⟨n,1,none⟩=some (.string ⟨(c::l).toArray⟩):=b.2.2 1 (show 1<7 from O);have HC:=U (fo p false M B y g u _ _ _ f H);clear f b;exact lP
   ·have f:=i.out;have b:=m.out;rw[x.out,o.out] at b;have F:j.cell? ⟨n,0,none⟩=some (.int .i64 4):=b.2.2 0 (show 0<7 from O);have v:j.cell? ⟨n,1,none⟩=some (.string ⟨(c::l).toArray⟩):=b.2.2 1 (show 1<7 from O);have HC:=U (fo p false M B y g u _ _ _ f H);clear f b;exact lP
  ·have o:=U E;have x:=U k;have J:((({data:=(c::l).toArray}:ByteArray)[0]'(by simp[ByteArray.size])).toNat=c.toNat):=rfl;have aC:(49:Int)<=(c.toNat:Int):=O
   have aH:¬(c.toNat:Int)<=57:=O
   clear k D E C
   rcases r with⟨aB,q⟩|⟨a,s1⟩
   ·have f:=i.out;have b:=m.out;rw[x.out,o.out] at b;have F:j.cell? ⟨n,0,none⟩=some (.int .i64 4):=b.2.2 0 (show 0<7 from O);have v:j.cell? ⟨n,1,none⟩=some (.string ⟨(c::l).toArray⟩):=b.2.2 1 (show 1<7 from O);have HC:=U (fo p false M B y g u _ _ _ f H);clear f b;exact lP
   ·have f:=i.out;have b:=m.out;rw[x.out,o.out] at b;have F:j.cell? ⟨n,0,none⟩=some (.int .i64 4):=b.2.2 0 (show 0<7 from O);have v:j.cell? ⟨n,1,none⟩=some (.string ⟨(c::l).toArray⟩):=b.2.2 1 (show 1<7 from O);have HC:=U (fo p false M B y g u _ _ _ f H);clear f b;exact lP
  ·have o:=U E;have x:=U k;have J:((({data:=(c::l).toArray}:ByteArray)[0]'(by simp[ByteArray.size])).toNat=c.toNat):=rfl;have aC:(49:Int)<=(c.toNat:Int):=O
   have aH:(c.toNat:Int)<=57:=O
   have aN:¬(l.length:Int)+1<=64:=O
   clear k D E C
   rcases r with⟨aB,q⟩|⟨a,s1⟩
   ·have f:=i.out;have b:=m.out;rw[x.out,o.out] at b;have F:j.cell? ⟨n,0,none⟩=some (.int .i64 4):=b.2.2 0 (show 0<7 from O);have v:j.cell? ⟨n,1,none⟩=some (.string ⟨(c::l).toArray⟩):=b.2.2 1 (show 1<7 from O);have HC:=U (fo p false M B y g u _ _ _ f H);clear f b;exact lP
   ·have f:=i.out;have b:=m.out;rw[x.out,o.out] at b;have F:j.cell? ⟨n,0,none⟩=some (.int .i64 4):=b.2.2 0 (show 0<7 from O);have v:j.cell? ⟨n,1,none⟩=some (.string ⟨(c::l).toArray⟩):=b.2.2 1 (show 1<7 from O);have HC:=U (fo p false M B y g u _ _ _ f H);clear f b;exact lP
end
end Go.Proofs.YtkblonfmjlopaaaGreatDoor
