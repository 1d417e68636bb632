/-
  What follows raise, walked.
-/
import Derived.Test.YtkblonfmjlopaaaGreatDoorRegT2
import Derived.RangeFuncBox
import Derived.OwnWalkIn
import Derived.TacticsInMore
import Derived.LoopNIn
import Derived.LoopIn
import Derived.OrdersIn
set_option linter.all false
set_option maxRecDepth 1000000
set_option maxHeartbeats 16000000
namespace Go.Proofs.YtkblonfmjlopaaaGreatDoor
open Go Go.RowKit
variable {L:Array Bool}{i m:Nat}{o p:Oper}{v:Value}
theorem rN{w:World}{s:Nat}{h:Nat->Value}:d' w none 0 0 s h:=⟨aw _,hU _,fun j a=>absurd a ar⟩
theorem rO{w:World}{B s:Nat}:dh w B none (0*s):=fun j a=>absurd a ar
theorem ib(cs:Array Value)(h:(cs.toList.all fun v=>v.oneCell')=true):∀ j,j<cs.size->(cellAt cs j).oneCell'=true:=fun j a=>by
 rw[qs] at h;unfold cellAt;rw[getElem!_pos cs j a];exact h _ ar
def KT(B lo hi A:Nat)(b:Nat):Prop:=b<B\/(lo<=b/\b<hi/\b≠A)
structure LN(G:Gh)(M:Nat->Prop)(E:Option Addr)(u:Nat)(C:Option Addr)(y:Nat)(lo sz:Nat)(s:al)(wr:World)(s1:al)(d:List Nd)(a:Option Addr)(c:Nat):Prop where
 sc:s1.sc=s.sc
 mono:s.i<=s1.i
 ps:PS G M E u C y wr s1
 lB:G.B<=lo
 w7:∀ k,M k->k<lo
 lw:lo<=wr.heap.size
 row:(d=[]/\a=none/\c=0)\/∃ A,a=some ⟨A,0,none⟩/\jP wr (KT G.B lo wr.heap.size A) lo sz A c d
section
variable {G:Gh} {M:Nat->Prop} {E:Option Addr} {u:Nat} {C:Option Addr} {y:Nat} {lo sz:Nat} {s s1 j:al} {w wr f:World} {d:List Nd} {a:Option Addr} {c:Nat}
theorem LN.go(h:LN G M E u C y lo sz s wr s1 d a c)(g:Kn G.B M wr f)(o:PS G M E u C y f j)(m:j.sc=s1.sc)(p:s1.i<=j.i):LN G M E u C y lo sz s f j d a c:=by
 refine⟨m.trans h.sc,fy h.mono p,o,h.lB,h.w7,fy h.lw g.size,?_⟩
 rcases h.row with q|⟨A,e,k⟩
 ·exact .inl q
 ·have n:lo<=A:=by obtain⟨_,q,_⟩:=k;exact q
  have i:A<wr.heap.size:=by obtain⟨_,_,q,_⟩:=k;exact q
  refine .inr ⟨A,e,k.a6 (fun b l=>?_) (g.gM A i (fun q=>ba (h.w7 _ q))) g.size (fun b l=>l.imp id fun q=>⟨q.1,ba g.size,q.2.2⟩) (fun q=>q.elim (fun q=>ba h.lB) (fun q=>q.2.2 rfl))⟩
  rcases l with q|⟨t,r,_⟩
  ·exact g.ia.block b q
  ·exact g.gM b r (fun q=>ba (h.w7 _ q))
theorem LN.below(h:LN G M E u C y lo sz s wr s1 d a c)(b:Below wr.heap.size wr f):LN G M E u C y lo sz s f s1 d a c:=
 h.go (Kn.of b h.ps.bB) (h.ps.new b) rfl (aw _)
theorem LN.fin(h:LN G M E u C y lo sz s wr s1 d a c):ey wr (fun b=>b<G.B\/(lo<=b/\b<wr.heap.size)) d (.slice a d.length c):=by
 rcases h.row with⟨rfl,rfl,rfl⟩|⟨A,rfl,g⟩
 ·exact⟨none,0,rfl,aa⟩
 ·have e:lo<=A:=by obtain⟨_,q,_⟩:=g;exact q
  have f:A<wr.heap.size:=by obtain⟨_,_,q,_⟩:=g;exact q
  exact⟨_,_,rfl,g.rep (fun b i=>i.imp id fun q=>⟨q.1,q.2.1⟩) (.inr ⟨e,f⟩)⟩
theorem LN.round{cs:Array Value}{T:TypeId}{nd:Nd}{z:Value}{zy:Nat}(h:LN G M E u C y lo sz s f s1 d a c)(bC:lo<=zy)(S:∀ A,a=some ⟨A,0,none⟩->A<zy)
 (bD:ah f (Own G.B zy f.heap.size No) nd cs.toList) (aH:cs.size=sz) (aG:0<sz):
 ∃ D,d' (f.alloc (.cells cs T)) a d.length c sz D/\dh (f.alloc (.cells cs T)) lo a (c*sz)/\lo<=(f.alloc (.cells cs T)).heap.size/\
   ∀ n B F g,(F=D/\n=a/\B=c\/F=jH z/\n=some ⟨(f.alloc (.cells cs T)).heap.size,0,none⟩/\(f.alloc (.cells cs T)).heap.size<g.heap.size/\∀ p:Addr,p.block<(f.alloc (.cells cs T)).heap.size->g.cell? p=(f.alloc (.cells cs T)).cell? p)->
     d' g n (d.length+1) B sz (c6 D (d.length*sz) sz (cellAt cs) F)->dh g lo n (B*sz)->Below lo (f.alloc (.cells cs T)) g->Kq (f.alloc (.cells cs T)) g a (d.length*sz) ((d.length+1)*sz)->
     LN G M E u C y lo sz s g s1 (d++[nd]) n B/\Below lo f g:=by
 have P:=ab f (.cells cs T);have Q:=h.below P;have x:=h.lB;have aD:=h.lw;have bG:(f.alloc (.cells cs T)).heap.size=f.heap.size+1:=ar
 have aM:ah (f.alloc (.cells cs T)) (Own G.B zy f.heap.size No) nd ((List.range sz).map (cellAt cs)):=by
  have e:((List.range sz).map (cellAt cs))=cs.toList:=by
   subst aH;apply xf
   ·simp
   ·intro i Q R;have R:i<cs.size:=by simpa using R
    simp[cellAt,R]
  rw[e];exact bD.on (Kb.of P fun b l=>by rcases l with q|q<;>omega) (fun _ h=>h)
 have J:∀ g,Below lo (f.alloc (.cells cs T)) g->PS G M E u C y g s1:=fun g m=>Q.ps.a6 (m.mono x) (fun k bA=>m.block k (h.w7 k bA));have H:∀ g,Below lo (f.alloc (.cells cs T)) g->Below lo f g:=fun g m=>(P.mono aD).trans m
 rcases Q.row with⟨rfl,rfl,rfl⟩|⟨A,rfl,aZ⟩
 ·refine⟨fun _=>.bool false,rN,rO,O,fun n B F g w L N m _=>⟨⟨h.sc,h.mono,J g m,x,h.w7,ba m.size,.inr ?_⟩,H g m⟩⟩
  rcases w with⟨_,rfl,rfl⟩|⟨bE,rfl,aC,aA⟩
  ·have:=L.le;simp at this
  ·refine⟨_,rfl,_,O,aC,fun q=>q.elim (fun q=>O) (fun q=>q.2.2 rfl),L,N,fun i r aK=>?_⟩
   have aB:i=0:=by
    have:=(List.getElem?_eq_some_iff.1 aK).1;simp at this;omega
   subst aB;have aF:r=nd:=by simpa using aK.symm
   subst aF
   have e:((List.range sz).map fun j=>c6 (fun _=>.bool false) (([]:List Nd).length*sz) sz (cellAt cs) F (0*sz+j))=(List.range sz).map (cellAt cs):=by
    apply o7;intro j aL;have aL:j<sz:=by simpa using aL
    unfold c6;simp only [List.length_nil,Nat.zero_mul,Nat.zero_add,Nat.sub_zero];rw[if_neg O,if_pos O]
   rw[e];refine ah.a6 (fun b l=>l.imp id fun q=>⟨ba q.1,ba q.2.1,ba q.2.1⟩) (fun b aI v l w=>?_) aM;rw[<-w];exact aA ⟨b,aI,none⟩ (by rcases l with q|q<;>(show b<_)<;>omega)
 ·obtain⟨D,aO,aP,aQ,aR,aT,aU⟩:=aZ;have aY:A<zy:=S A rfl;have b6:jP (f.alloc (.cells cs T)) (KT G.B lo (f.alloc (.cells cs T)).heap.size A) lo sz A c d:=⟨D,aO,aP,aQ,aR,aT,aU⟩;refine⟨D,aR,aT,O,fun n B F g w L N m bF=>⟨⟨h.sc,h.mono,J g m,x,h.w7,ba m.size,.inr ?_⟩,H g m⟩⟩;have aN:=m.size
  have X:∀ b,KT G.B lo (f.alloc (.cells cs T)).heap.size A b\/Own G.B zy f.heap.size No b->b<G.B\/(lo<=b/\b<g.heap.size/\b≠A/\n≠some ⟨b,0,none⟩):=fun b l=>by
   have I:∀ b,b<(f.alloc (.cells cs T)).heap.size->b≠A->n≠some ⟨b,0,none⟩:=fun b l Z e=>by
    rcases w with⟨_,t,_⟩|⟨_,t,_⟩
    ·rw[t] at e;simp only [Option.some.injEq,Addr.mk.injEq,and_true] at e;exact Z e.symm
    ·rw[t] at e;simp only [Option.some.injEq,Addr.mk.injEq,and_true] at e;omega
   rcases l with(q|⟨aV,aW,aX⟩)|(q|⟨aV,aW,_⟩)
   ·exact .inl q
   ·exact .inr ⟨aV,O,aX,I b aW aX⟩
   ·exact .inl q
   ·exact .inr ⟨O,O,O,I b O O⟩
  have W:∀ o,n=some ⟨o,0,none⟩->¬(o<G.B\/(lo<=o/\o<g.heap.size/\o≠A/\n≠some ⟨o,0,none⟩)):=fun o e q=>by
   rcases q with q|q
   ·rcases w with⟨_,t,_⟩|⟨_,t,_⟩
    ·rw[t] at e;simp only [Option.some.injEq,Addr.mk.injEq,and_true] at e;omega
    ·rw[t] at e;simp only [Option.some.injEq,Addr.mk.injEq,and_true] at e;omega
   ·exact q.2.2.2 e
  obtain⟨o,aJ,aE,Y⟩:=jP.push (F':=fun b=>b<G.B\/(lo<=b/\b<g.heap.size/\b≠A/\n≠some ⟨b,0,none⟩)) aG aO aP aQ aU (fun b l=>by rcases l with q|q<;>omega)
   (F1:=Own G.B zy f.heap.size No) (fun b l=>by rcases l with q|q;exact⟨O,O⟩;exact⟨O,O⟩) aM w O L N bF X W
  exact⟨o,aJ,Y.a6 (Kb.refl _ _) rfl (aw _) (fun b l=>l.imp id fun q=>⟨q.1,q.2.1,fun e=>q.2.2.2 (by rw[aJ,e])⟩) (fun q=>q.elim (fun q=>by rcases aE with r|r<;>omega) (fun q=>q.2.2 rfl))⟩
end
def MX(M:Nat->Prop)(e b:Nat):Nat->Prop:=fun k=>M k\/k=b\/k=e
section
variable {G:Gh} {M:Nat->Prop} {E:Option Addr} {u:Nat} {C:Option Addr} {y:Nat} {e b:Nat} {Z FV:Array Value} {w w3 f:World} {s s1 j:al}
theorem qV(j:ei G)(h:PS G M E u C y w s)(a:List UInt8)(b:Bool)(s1:al)(f:a7 G.X a s=some (.ok (b,s1))):
 Calls Tryz.prog 21 (vE G a) w fun e g=>e=.returned (.bool b)/\PS G M E u C y g s1/\Kn G.B M w g/\s1.sc=s.sc/\s.i<=s1.i:=by
 by_cases d:ay G.X [a] s=true
 ·rw[py d] at f;cases f;refine(kh j h a d).mono ?_;rintro e g ⟨i,c,k⟩;exact⟨i,c,k.jp h.mp,rfl,h5 _⟩
 ·rw[pz d] at f;cases f;refine(og j h a d).mono ?_;rintro e g ⟨i,c⟩;exact⟨i,h.new c,Kn.of c h.bB,rfl,aw _⟩
end
section
open Go Go.RowKit Go.Shelf
attribute [local go_sem] Oper.semAt_some
def upto{α:Type}(f:Nat->α)(k:Nat):List α:=(List.range k).map f
theorem qW{α:Type}(f:Nat->α)(k:Nat):upto f (k+1)=upto f k++[f k]:=by simp[upto,List.range_succ]
theorem zz{α:Type}(f:Nat->α)(k:Nat):(upto f k).length=k:=by simp[upto]
abbrev Ix(m:Nat):={i:Nat // i<m+1}
def dn(m:Nat)(j:Nat):Ix m:=⟨m-j,O⟩
theorem Ge(F:Fence)(n:Nat)(P:F.fn 190)(D:F.round=none)(aE:1<=n)(l h a b c m o:Nat)(E:Nat->ByteArray)(u:m<=1099511627776)(S:b<a)(w:h<a)(J G:List (Ix m)->World->Prop)
 (R:∀ pre x W,J pre W->pre.length<m+1->YieldAt F (n-1) Tryz.prog l #[.int .i64 (x.1:Int),.string (E x.1)] W fun e g=>
   (e=.returned (.bool true)/\J (pre++[x]) g/\Below a W g)\/(e=.returned (.bool false)/\G (pre++[x]) g))
 (W:World) (y:W.cell? ⟨h,0,none⟩=some (.slice (some ⟨b,c,none⟩) (m+1) o)) (X:∀ j,j<m+1->W.cell? ⟨b,c+j,none⟩=some (.string (E j))) (N:J [] W):
 CallsIn F n Tryz.prog 190 #[.func (.yield l) #[] #[],.pointer (some ⟨h,0,none⟩)] W fun e g=>(∃ v,e=.returned v)/\
  ((∃ L,L=upto (dn m) (m+1)/\J L g)\/(∃ pre,(∃ k,k<=m+1/\pre=upto (dn m) k)/\G pre g)):=by
 refine callsIn_of_wp Tryz.func190 rfl P ?_ D;simp only [Tryz.ntmps190,List.size_toArray,List.length_cons,List.length_nil,Nat.reduceAdd,Nat.reduceSub,Array.replicate_succ,Array.replicate_zero,List.push_toArray,List.append_toArray,List.nil_append,List.cons_append]
 gi_wp2
 gi_loopw [3] (fun i wr=>∃ k:Nat,k<=m+1/\i=.int .i64 ((m:Int)-(k:Int))/\J (upto (dn m) k) wr/\Below a W wr)
  (fun i _=>(intOf i+1).toNat)
 case atStart=>exact⟨0,Nat.zero_le _,ar,N,Below.refl _ _⟩
 case round=>
  obtain⟨k,aD,rfl,d,f⟩:=hrel
  by_cases C:k<m+1
  ·have A:wr.cell? ⟨b,c+(m-k),none⟩=some (.string (E (m-k))):=(f.cell (p:=⟨b,c+(m-k),none⟩) S).trans (X _ O);have T:wr.cell? ⟨h,0,none⟩=some (.slice (some ⟨b,c,none⟩) (m+1) o):=(f.cell (p:=⟨h,0,none⟩) w).trans y;obtain⟨fn,I,s,H,aA,Q⟩:=R _ (dn m k) wr d (by rw[zz];exact C);obtain⟨q,t⟩:∃ q,q=m-k:=⟨_,rfl⟩;rw[<-t] at A;simp only [dn,<-t] at aA;rw[show(m:Int)-(k:Int)=(q:Int) by omega];have Z:(q:Int)<=(m:Int):=O
   have Y:(q:Int)<(m:Int)+1:=O
   have M:=U t;have aB:=U d;clear t d
   gi_wp2
   refine Q.mono ?_;rintro e aC (⟨rfl,z,B⟩|⟨rfl,r⟩)
   ·gi_wp2
    go_roundw
    case rel=>exact⟨k+1,O,congrArg (Value.int .i64) (ba M.out),by rw[qW];exact z,f.trans B⟩
    case measure=>simp[intOf]<;>omega
   ·gi_wp2
    refine bodyPost_ret (results_none rfl _ _ _) rfl ?_;exact⟨⟨_,rfl⟩,.inr ⟨_,⟨k+1,O,(qW _ _).symm⟩,r⟩⟩
  ·obtain rfl:k=m+1:=O
   rw[show(m:Int)-((m+1:Nat):Int)=-1 by omega]
   gi_wp2
   go_end0;exact⟨⟨_,rfl⟩,.inl ⟨_,rfl,d⟩⟩
theorem I0(F:Fence)(n:Nat)(f:F.fn 168)(d:F.round=none)(a:Option Addr)(c b:Nat)(w:World):
 CallsIn F n Tryz.prog 168 #[.slice a c b] w fun e g=>e=.returned (.func (.func 190) #[] #[.pointer (some ⟨w.heap.size,0,none⟩)])/\g=w.alloc (.cells #[.slice a c b] 33):=by
 refine callsIn_of_wp Tryz.func168 rfl f ?_ d;simp only [Tryz.ntmps168,List.size_toArray,List.length_cons,List.length_nil,Nat.reduceAdd,Nat.reduceSub,Array.replicate_succ,Array.replicate_zero,List.push_toArray,List.append_toArray,List.nil_append,List.cons_append]
 gi_wp2
 go_ret;exact⟨rfl,rfl⟩
theorem Bi(F:Fence)(n:Nat)(v:F.fn 190)(q:F.round=none)(C:1<=n)(e a b d m f:Nat)(r:Nat->ByteArray)(c:m<=1099511627776)(w:World)(h:e<w.heap.size)(o:a<=w.heap.size)(z:b<a)(g:e<a)
 (A:w.cell? ⟨e,0,none⟩=some (.slice (some ⟨b,d,none⟩) (m+1) f)) (i:∀ j,j<m+1->w.cell? ⟨b,d+j,none⟩=some (.string (r j))):
 SeqStopsK F n Tryz.prog 190 (t_ e) (fun x:Ix m=>#[Value.int .i64 (x.1:Int),Value.string (r x.1)]) (Below a) (fun D=>D=upto (dn m) (m+1))
  (fun pre=>∃ k,k<=m+1/\pre=upto (dn m) k) (m+1) w:=fun l J t W s _ _ y u=>
 Ge F n v q C l e a b d m f r c z g J t y W ((s.cell (p:=⟨e,0,none⟩) h).trans A) (fun j B=>(s.cell (p:=⟨b,d+j,none⟩) (by simp only;omega)).trans (i j B)) u
def mN(sc:List Fx)(nm:List UInt8):Int×Bool×Bool:=match j2 sc nm with|none=>(0,false,false)|some g=>(g.level,g.right,decide (0<=g.level))
def mV(sc:List Fx)(i:Nat):List UInt8:=((sc[i]?).map Fx.name).getD []
theorem tG(b:List Fx)(f:Fx)(a:List UInt8):j2 (b++[f]) a=if f.name=a then some f else j2 b a:=by
 unfold j2;rw[List.reverse_append];simp only [List.reverse_cons,List.reverse_nil,List.nil_append,List.singleton_append,List.find?_cons]
 by_cases h:f.name=a
 ·simp[h]
 ·have:(f.name==a)=false:=by simpa using h
  simp[this,h]
theorem pO(a:List Fx)(c:List UInt8):∀ k,k<=a.length->(∀ i,a.length-k<=i->i<a.length->mV a i≠c)->j2 a c=j2 (a.take (a.length-k)) c
 |0,_,_=>by rw[Nat.sub_zero,Ej]
 |k+1,f,h=>by
  rw[pO a c k O (fun i e d=>h i O d)];have b:a.length-(k+1)<a.length:=O
  rw[show a.length-k=a.length-(k+1)+1 from O,List.take_succ_eq_append_getElem b,tG,if_neg];have:=h (a.length-(k+1)) (aw _) b;unfold mV at this;rw[fv b] at this;exact this
theorem Dk(a:List Fx)(d:List UInt8)(k:Nat)(f:Fx)(g:k<a.length)(h:∀ i,a.length-k<=i->i<a.length->mV a i≠d)(c:a[a.length-1-k]?=some f)(e:f.name=d):j2 a d=some f:=by
 rw[pO a d k O h];have b:a.length-1-k<a.length:=O
 rw[show a.length-k=a.length-1-k+1 from O,List.take_succ_eq_append_getElem b,tG,if_pos]
 ·rw[fv b] at c;exact c
 ·rw[fv b] at c;rw[f_ c];exact e
theorem Bj(a:List Fx)(b:List UInt8)(h:∀ i,i<a.length->mV a i≠b):j2 a b=none:=by
 rw[pO a b a.length (aw _) (fun i _ c=>h i c),qt]
 rfl
end
section
open Go
section
variable {F:Fence} {n:Nat} {P:Program} {g:Array Oper} {Q:Exit->Act->World->Prop} {l:Region.Mode} {S:World->Prop} {T:Nat->Bool}
def mW(g:Array Oper):Bool:=g.all fun o=>match o.op with|.defer _=>false|_=>true
theorem oQ(h:mW g=true){j:Nat}(d:g[j]?=some o)(a:Option Nat)(ρ:Operand->Value):o.semAt a ρ=execOp ρ o:=by
 cases a with
 |none=>rfl
 |some l=>
  refine Oper.semAt_some l ρ o fun c b=>?_;unfold mW at h;rw[Array.all_eq_true'] at h;have:=h o (Array.mem_of_getElem? d);rw[b] at this;cases this
def anyI(F:Fence)(n:Nat)(P:Program)(l:Region.Mode)(g:Array Oper)(Q:Exit->Act->World->Prop)(S:World->Prop)(T:Nat->Bool):Nat->Array Bool->Act->World->Prop
 |0,L,a,w=>Region.ready l g L=[]/\Q .normal a w
 |m+1,L,a,w=>(Region.ready l g L=[]->Q .normal a w)/\
  ∀ i∈Region.ready l g L,wpOpIn F n P g Q i (fun b v=>(T i=false->S v)/\anyI F n P l g Q S T m (L.setIfInBounds i true) b v) a w
theorem yc:∀ (m:Nat) (L:Array Bool) (a:Act) (w:World),anyI F n P l g Q S T m L a w->wpAnyIn F n P l g Q m L a w
 |0,_,_,_,h=>h
 |m+1,_,_,_,h=>⟨h.1,fun i b=>wpOpIn_mono (fun a v k=>yc m _ a v k.2) (h.2 i b)⟩
theorem rP{a:Act}(c:∀ f,F.fn f)(j:mW g=true)(d:g[i]?=some o)(l:YieldsIf P g S o v a)
 {K:Act->World->Prop} {w:World} (e:S w) (h:K (a.put o.dst v) w):wpOpIn F n P g Q i K a w:=by
 unfold wpOpIn;simp only [d]
 rcases l with⟨b,k⟩|⟨b,rfl⟩
 ·simp only [b,if_true,Oper.wpIn,oQ j d,k w e,Oper.uponIn];exact⟨fun f _=>c f,h⟩
 ·simp only [b,Bool.false_eq_true,if_false];exact⟨fun f _=>c f,h⟩
theorem w_{j:Nat}{o:Oper}(L:∀ f,F.fn f)(M:mW g=true)(N:g[j]?=some o)(B:p.apart g o=true)
 (C:∀ z b,p.op≠.select z b) (D:∀ z b,o.op≠.select z b)
 (A:∀ c a w,Q (.panic c) (a.put p.dst v) w->Q (.panic c) a w) {K:Act->World->Prop} {a:Act} {w:World}
 (m:YieldsIf P g S p v a) (h:wpOpIn F n P g Q j K (a.put p.dst v) w):
 wpOpIn F n P g Q j (fun H G=>YieldsIf P g S p v H/\K (H.put p.dst v) G) a w:=by
 obtain⟨I,q,J⟩:=Oper.apart_spec B
 have i:∀ (a:Act),YieldsIf P g S p v a->∀ u,YieldsIf P g S p v (a.put o.dst u):=fun a m u=>
  m.of_same (execOp_put p C a o.dst u J) (wanted_put p a o.dst u J)
 have s:∀ d,YieldsIf P g S p v {a with defers:=d::a.defers}:=fun d=>m.of_same rfl rfl;have t:=N;unfold wpOpIn at*;simp only [N] at h⊢;rw[wanted_put o a p.dst v I] at h
 split
 ·rename_i E;simp only [E,if_true] at h;unfold Oper.wpIn at*;refine⟨fun f _=>L f,?_⟩;have h:=h.2;rw[oQ M t,execOp_put o D a p.dst v I] at h;rw[oQ M t];generalize (execOp a.eval o).run P w=r at*;cases r with
  |ok x G=>
   cases x<;>simp only [Oper.uponIn] at h⊢
   case value u=>exact⟨i a m u,by rw[<-Act.put_comm a v u q];exact h⟩
   case skip=>exact⟨i a m _,by rw[<-Act.put_comm a v undef q];exact h⟩
   case defer d=>
    refine⟨i _ (s d) _,?_⟩;rw[<-Act.put_comm _ v undef q,<-Act.put_defers];exact h
   case enter f args=>
    refine⟨h.1,CallsIn.mono h.2 fun e y k=>?_⟩;cases e with
    |returned u=>exact⟨i a m u,by rw[<-Act.put_comm a v u q];exact k⟩
    |panicked c=>exact A _ _ _ k
    |outgrown=>exact k
   case row row args=>exact⟨h.1,RowsIn.mono h.2 fun u y k=>⟨i a m u,by rw[<-Act.put_comm a v u q];exact k⟩⟩
   case round l f tmps assign body=>
    refine⟨h.1,RoundIn.mono h.2 fun e y k=>?_⟩;cases e with
    |returned u=>exact⟨i a m u,by rw[<-Act.put_comm a v u q];exact k⟩
    |panicked c=>exact A _ _ _ k
    |outgrown=>exact k
  |halt x G=>
   cases x<;>simp only [Oper.uponIn] at h⊢
   case panic u=>exact A _ _ _ h
 ·rename_i E;simp only [E] at h;exact⟨fun f _=>L f,i a m _,by rw[<-Act.put_comm a v undef q];exact h.2⟩
theorem Bk(Z:∀ f,F.fn f)(G:mW g=true)(aC:g[i]?=some p)(A:∀ (j:Nat) (o:Oper) D b,g[j]?=some o->o.op≠.select D b)
 (aJ:∀ c a w,Q (.panic c) (a.put p.dst v) w->Q (.panic c) a w) (aO:lW l g T i=true):
 ∀ (m:Nat) (L:Array Bool) (a:Act) (w:World),
   (∀ j C,g[j]?=some C->j≠i->L.getD j true=false->(∀ e∈C.after,Region.binds l e=true->e.on≠i)->p.apart g C=true)->
   l4 l g L i=true->i∈Region.ready l g L->YieldsIf P g S p v a->S w->
   anyI F n P l g Q S T m (L.setIfInBounds i true) (a.put p.dst v) w->anyI F n P l g Q S T (m+1) L a w:=by
 intro m
 induction m with
 |zero=>
  intro L a w _ _ B X E H;refine⟨fun h=>(by rw[h] at B;cases B),fun j W=>?_⟩
  by_cases e:j=i
  ·subst e;exact rP Z G aC X E ⟨fun _=>E,H⟩
  ·have:=ready_mono W e;rw[H.1] at this;cases this
 |succ m aP=>
  intro L a w r aF B X E H;refine⟨fun h=>(by rw[h] at B;cases B),fun j W=>?_⟩
  by_cases e:j=i
  ·subst e;exact rP Z G aC X E ⟨fun _=>E,H⟩
  ·have aH:=H.2 j (ready_mono W e);obtain⟨z,C,t,y⟩:=mem_ready.1 W
   have s:∀ d∈C.after,Region.binds l d=true->d.on≠i:=fun d G aA aB=>by
    have M:=y d G aA;have aG:=(mem_ready.1 B).1;rw[aB] at M
    rcases gr i L.size with Y|Y
    ·simp[Y] at aG M;rw[aG] at M;cases M
    ·simp[Array.getElem?_eq_none Y] at M
   have aK:=tB aO aF t s (fun e aL aA=>(by have:=y e aL aA;rcases aN:L[e.on]? with _|q<;>simp[aN] at this⊢;exact this))
   have aI:=w_ Z G t (r j C t e z s) (fun D b=>A i p D b aC) (fun D b=>A j C D b t) aJ X aH
   have u:∀ k N,g[k]?=some N->k≠i->(L.setIfInBounds j true).getD k true=false->
    (∀ d∈N.after,Region.binds l d=true->d.on≠i)->p.apart g N=true:=fun k N aM aD J aE=>by
    refine r k N aM aD ?_ aE
    by_cases I:j=k
    ·subst I;exact z
    ·rw[getD_set_ne true I] at J;exact J
   refine wpOpIn_mono (fun b x R=>⟨R.2.1,aP (L.setIfInBounds j true) b x u (xQ aF (qR t s)) (ready_mono B (Ne.symm e)) R.1 (R.2.1 aK) ?_⟩) aI;rw[D_ _ _ e];exact R.2.2
theorem Dl{a:Act}{w:World}(d:∀ f,F.fn f)(o:mW g=true)(b:g[i]?=some p)
 (s:Region.noSelect g=true) (q:Region.free l g L i=true) (r:(Region.ready l g L).contains i=true) (t:lW l g T i=true) (e:l4 l g L i=true)
 (j:∀ c a w,Q (.panic c) (a.put p.dst v) w->Q (.panic c) a w) (u:YieldsIf P g S p v a) (k:S w)
 (h:anyI F n P l g Q S T m (L.setIfInBounds i true) (a.put p.dst v) w):anyI F n P l g Q S T (m+1) L a w:=
 Bk d o b (Ec s) j t m L a w (Ei b q) e (by simpa using r) u k h
theorem yd{a:Act}{w:World}(e:Region.ready l g L=[i])(q:g[i]?=some o)
 (h:∀ K:Act->World->Prop,Shut (∀ b v,(T i=false->S v)->anyI F n P l g Q S T m (L.setIfInBounds i true) b v->K b v)->if Region.wanted o (yielded g a.tmps)=true then Oper.wpIn F n P o a w K Q else(∀ f,o.about P w a.eval=some f->F.fn f)/\K (a.put o.dst undef) w):
 anyI F n P l g Q S T (m+1) L a w:=
 ⟨fun c=>(by rw[e] at c;cases c),fun j d=>by
  rw[e] at d;obtain rfl:j=i:=by simpa using d
  exact wpOpIn_step q (fun K hK=>h K (fun b v p k=>hK b v ⟨p,k⟩))⟩
theorem Dm{L:Array Bool}{a:Act}{w:World}(b:Region.ready l g L=[])(h:Q .normal a w):∀ m,anyI F n P l g Q S T m L a w
 |0=>⟨b,h⟩
 |_+1=>⟨fun _=>h,by rw[b];simp⟩
theorem Gf{c:Nat}{a:Act}{w:World}(b:P.follows .mixedOrders=true)
 (h:anyI F n P .any g Q S T g.size (Array.replicate g.size false) a w.drew):(Code.region c g true).wpIn F n P Q a w:=
 wpIn_region_any b (yc _ _ _ _ h)
end
end
section
open Go Go.RowKit Go.Shelf
theorem qi{F:Fence}{n:Nat}{P:Program}{g:Array Oper}{Q:Exit->Act->World->Prop}{l:Region.Mode}{S:World->Prop}{T:Nat->Bool}(i:Nat){d:Array Bool}{a b:Act}{w:World}(q:S w)(h:anyI F n P l g Q S T m d b w)(e:∀ f,F.fn f:=by exact fun _=>trivial)(s:mW g=true:=by kernel_rfl)
 (u:g[i]?=some p:=by rfl) (y:Region.noSelect g=true:=by kernel_rfl) (t:Region.free l g L i=true:=by kernel_rfl) (x:(Region.ready l g L).contains i=true:=by kernel_rfl) (z:lW l g T i=true:=by kernel_rfl) (k:l4 l g L i=true:=by kernel_rfl)
 (o:∀ c a w,Q (.panic c) (a.put p.dst v) w->Q (.panic c) a w:=by exact fun _ _ _ h=>h) (A:YieldsIf P g S p v a:=by refine mq ⟨by rfl,?_⟩;intro C B;obtain⟨_,_,_,_⟩:=B;go_simp;try with_reducible rfl)
 (j:L.setIfInBounds i true=d:=by(try simp only [List.setIfInBounds_toArray,List.set_cons_zero,List.set_cons_succ]);(try rfl)) (r:a.put p.dst v=b:=by(try simp only [Act.put,List.getElem_toArray,List.getElem_cons_zero,List.getElem_cons_succ,List.setIfInBounds_toArray,List.set_cons_zero,List.set_cons_succ]);(try rfl)):anyI F n P l g Q S T (m+1) L a w:=
 Dl e s u y t x z k o A q (by rw[j,r];exact h)
attribute [local go_sem] Oper.semAt_some
def N2(k:Nat)(sc:List Fx)(nm:List UInt8){m:Nat}(pre:List (Ix m))(W:World):Prop:=
 ∃ N3 last f,pre=N3++[last]/\(∀ x∈N3,mV sc x.1≠nm)/\sc[last.1]?=some f/\f.name=nm/\W.cell? ⟨k,0,none⟩=some (.int .i64 f.level)/\W.cell? ⟨k,1,none⟩=some (.bool f.right)/\W.cell? ⟨k+1,0,none⟩=some (.bool (decide (0<=f.level)))
theorem Dn(b o B:Nat)(E:Option Addr)(u:Nat)(C:Option Addr)(y:Nat)(d:List Fx)(g:List UInt8)(m:Nat)(w:World)(cV:d.length=m+1)(cM:m<=1099511627776)(aQ:wV w B E u C y d)
 (bY:w.cell? ⟨b,o,none⟩=some (.slice E (m+1) u)) (cE:w.cell? ⟨b,o+1,none⟩=some (.slice C (m+1) y)):
 Calls Tryz.prog 134 #[.pointer (some ⟨b,o,none⟩),.string ⟨g.toArray⟩] w fun e cD=>e=.returned (.tuple #[.agg #[.int .i64 (mN d g).1,.bool (mN d g).2.1],.bool (mN d g).2.2])/\Below w.heap.size w cD:=by
 obtain⟨cW,cS,aU,aT,_,_,bO⟩:=aQ;obtain⟨q,v,rfl,P⟩:=aU.addr (ba aU.le);obtain⟨F,Q,rfl,aG⟩:=aT.addr (ba aT.le)
 have aF:∀ j,j<m+1->w.cell? ⟨q,v+j,none⟩=some (.string ⟨(mV d j).toArray⟩):=fun j aE=>by
  have z:=(bO j _ (fv O)).1;rw[P j (ba aU.le),z];unfold mV;rw[fv O];rfl
 have aI:∀ j (aE:j<m+1),w.cell? ⟨F,Q+j*2,none⟩=some (.int .i64 (d[j]' O).level)/\w.cell? ⟨F,Q+j*2+1,none⟩=some (.bool (d[j]' O).right):=fun j aE=>by
  have z:=bO j _ (fv O);have aJ:=aT.le;refine⟨?_,?_⟩
  ·rw[kj j 2,aG (2*j) O,z.2.1]
  ·rw[kj j 2,e9,aG (2*j+1) O,z.2.2]
 have aP:b<w.heap.size:=kU w _ bY;have bP:q<w.heap.size:=kU w _ (aF 0 O);have bQ:F<w.heap.size:=kU w _ (aI 0 O).1;have N:Below w.heap.size w ((((w.alloc (r7 b o)).alloc (m' g)).alloc nU).alloc r9):=(((ab w _).alloc ar _).alloc b1 _).alloc b1 _;have cF:=(N.cell (p:=⟨b,o,none⟩) aP).trans bY;have bC:=U aF;have bD:=U aI;clear P aG bO aU aT aF aI;refine(callsIn_wide (n:=4)).1 ?_;refine callsIn_of_wp_marks Tryz.func134 rfl trivial ?_ rfl;simp only [Tryz.ntmps134,List.size_toArray,List.length_cons,List.length_nil,Nat.reduceAdd,Nat.reduceSub,Array.replicate_succ,Array.replicate_zero,List.push_toArray,List.append_toArray,List.nil_append,List.cons_append]
 gi_wp2_with (refine⟨trivial,?_⟩;gi_at_call 168;refine(I0 Fence.wide 3 trivial rfl _ _ _ _).mono ?_;rintro e cD ⟨rfl,rfl⟩)
 have aC:Below w.heap.size w (((((w.alloc (r7 b o)).alloc (m' g)).alloc nU).alloc r9).alloc (.cells #[.slice (some ⟨q,v,none⟩) (m+1) u] 33)):=N.alloc N.size _
 have aL:((((((w.alloc (r7 b o)).alloc (m' g)).alloc nU).alloc r9).alloc (.cells #[.slice (some ⟨q,v,none⟩) (m+1) u] 33)).cell? ⟨w.heap.size,0,none⟩=some (.pointer (some ⟨b,o,none⟩))/\(((((w.alloc (r7 b o)).alloc (m' g)).alloc nU).alloc r9).alloc (.cells #[.slice (some ⟨q,v,none⟩) (m+1) u] 33)).cell? ⟨w.heap.size+1,0,none⟩=some (.string ⟨g.toArray⟩)/\(((((w.alloc (r7 b o)).alloc (m' g)).alloc nU).alloc r9).alloc (.cells #[.slice (some ⟨q,v,none⟩) (m+1) u] 33)).cell? ⟨w.heap.size+1+1,0,none⟩=some (.int .i64 0)/\(((((w.alloc (r7 b o)).alloc (m' g)).alloc nU).alloc r9).alloc (.cells #[.slice (some ⟨q,v,none⟩) (m+1) u] 33)).cell? ⟨w.heap.size+1+1,1,none⟩=some (.bool false)/\(((((w.alloc (r7 b o)).alloc (m' g)).alloc nU).alloc r9).alloc (.cells #[.slice (some ⟨q,v,none⟩) (m+1) u] 33)).cell? ⟨w.heap.size+1+1+1,0,none⟩=some (.bool false)/\(((((w.alloc (r7 b o)).alloc (m' g)).alloc nU).alloc r9).alloc (.cells #[.slice (some ⟨q,v,none⟩) (m+1) u] 33)).frozen? ⟨w.heap.size+1+1,0,none⟩=false/\(((((w.alloc (r7 b o)).alloc (m' g)).alloc nU).alloc r9).alloc (.cells #[.slice (some ⟨q,v,none⟩) (m+1) u] 33)).frozen? ⟨w.heap.size+1+1,1,none⟩=false/\(((((w.alloc (r7 b o)).alloc (m' g)).alloc nU).alloc r9).alloc (.cells #[.slice (some ⟨q,v,none⟩) (m+1) u] 33)).frozen? ⟨w.heap.size+1+1+1,0,none⟩=false):=by
  simp[go_sem]
 have aO:(((((w.alloc (r7 b o)).alloc (m' g)).alloc nU).alloc r9).alloc (.cells #[.slice (some ⟨q,v,none⟩) (m+1) u] 33)).cell? ⟨w.heap.size+1+1+1+1,0,none⟩=some (.slice (some ⟨q,v,none⟩) (m+1) u):=by simp[go_sem]
 have bN:(((((w.alloc (r7 b o)).alloc (m' g)).alloc nU).alloc r9).alloc (.cells #[.slice (some ⟨q,v,none⟩) (m+1) u] 33)).heap.size=w.heap.size+5:=ar
 obtain⟨bE,aM⟩:∃ bE,((((w.alloc (r7 b o)).alloc (m' g)).alloc nU).alloc r9).alloc (.cells #[.slice (some ⟨q,v,none⟩) (m+1) u] 33)=bE:=⟨_,rfl⟩;rw[aM] at aC aL aO bN⊢;clear aM N cF
 refine wpIn_rangeFunc_ownG (α:=Ix m) rfl O (gf:=190) (lb:=#[.pointer (some ⟨w.heap.size+1+1+1+1,0,none⟩)]) rfl trivial (enters_of Tryz.func190 aq rfl)
  (Bi Fence.wide 3 trivial rfl O (w.heap.size+1+1+1+1) (w.heap.size+5) q v m u (fun j=>⟨(mV d j).toArray⟩) cM bE O O O ?hbn aO (fun j aE=>(aC.cell (p:=⟨q,v+j,none⟩) bP).trans (bC.out j aE))) belowK_t (belowK_b O) (eA _ _) (fun _=>rfl)
  (fun pre W=>((∀ x∈pre,mV d x.1≠g)/\W.cell? ⟨w.heap.size,0,none⟩=some (.pointer (some ⟨b,o,none⟩))/\W.cell? ⟨w.heap.size+1,0,none⟩=some (.string ⟨g.toArray⟩)/\W.cell? ⟨w.heap.size+1+1,0,none⟩=some (.int .i64 0)/\W.cell? ⟨w.heap.size+1+1,1,none⟩=some (.bool false)/\W.cell? ⟨w.heap.size+1+1+1,0,none⟩=some (.bool false)/\W.frozen? ⟨w.heap.size+1+1,0,none⟩=false/\W.frozen? ⟨w.heap.size+1+1,1,none⟩=false/\W.frozen? ⟨w.heap.size+1+1+1,0,none⟩=false)/\Below w.heap.size w W)
  (fun c pre W=>(c=.ret/\N2 (w.heap.size+1+1) d g pre W)/\Below w.heap.size w W)
  (OwnFrom.and (Own.from (fun s A B bU aQ G H=>?hI) _) (ownFrom_below (aw _) O))
  (fun c=>OwnFrom.and (Own.from (fun s A B bU aQ G H=>by obtain⟨cJ,aR,L,f,Y,bG,aK,bH,bI,bJ,bK⟩:=aQ;exact⟨cJ,aR,L,f,Y,bG,aK,bH,cell_kept bI G H,cell_kept bJ G H,cell_kept bK G H⟩) _) (ownFrom_below (aw _) O))
  ⟨⟨ar,aL⟩,aC⟩
  (fun x=>{tmps:=#[.pointer (some ⟨b,o,none⟩),.string ⟨g.toArray⟩,.pointer (some ⟨w.heap.size,0,none⟩),.pointer (some ⟨w.heap.size+1,0,none⟩),.pointer (some ⟨w.heap.size+1+1,0,none⟩),.pointer (some ⟨w.heap.size+1+1+1,0,none⟩),.int .i64 (x.1:Int),.string ⟨(mV d x.1).toArray⟩,.pointer (some ⟨b,o,none⟩),.pointer (some ⟨b,o,none⟩),.pointer (some ⟨b,o,none⟩),.slice (some ⟨q,v,none⟩) (m+1) u,.func (.func 190) #[] #[.pointer (some ⟨w.heap.size+1+1+1+1,0,none⟩)],.int .i64 (x.1:Int),.string ⟨(mV d x.1).toArray⟩,undef,undef,undef,undef,undef,undef,undef,undef,undef,undef,undef,undef,undef,undef,undef,undef,undef,undef,undef,undef],defers:=[]}) ?assign ?body ?done ?stop
 case hbn=>omega
 case hI=>
  obtain⟨cH,z,aJ,Z,aA,aB,aV,aW,aX⟩:=aQ;exact⟨cH,cell_kept z G H,cell_kept aJ G H,cell_kept Z G H,cell_kept aA G H,cell_kept aB G H,(frozen_kept Z G H).trans aV,(frozen_kept aA G H).trans aW,(frozen_kept aB G H).trans aX⟩
 case assign=>
  intro l x W K hK
  gi_wp2
  exact hK
 case body=>
  rintro l pre x W ⟨⟨aY,z,aJ,Z,aA,aB,aV,aW,aX⟩,R⟩ _;obtain⟨j,aE⟩:=x;have aG:=bD.out j aE;have aH:∀ o,W.cell? ⟨F,o,none⟩=w.cell? ⟨F,o,none⟩:=fun o=>R.cell (p:=⟨F,o,none⟩) bQ;have bF:=(R.cell (p:=⟨b,o+1,none⟩) aP).trans cE;have bV:=(aH _).trans aG.1;have bX:=(aH _).trans aG.2;clear aH aG
  by_cases P:mV d j=g
  ·have bA:=U P;have b6:=U aY;have cN:(mV d j==g)=true:=by simpa using P
   have cL:(j:Int)<(m:Int)+1:=O
   have cK:(0:Int)<=(j:Int):=O
   clear P aY
   gi_wp2
   refine Gf (S:=fun aZ=>aZ.cell? ⟨w.heap.size,0,none⟩=some (.pointer (some ⟨b,o,none⟩))/\aZ.cell? ⟨b,o+1,none⟩=some (.slice (some ⟨F,Q,none⟩) (m+1) y)/\aZ.cell? ⟨F,Q+j*2,none⟩=some (.int .i64 (d[j]' O).level)/\aZ.cell? ⟨F,Q+j*2+1,none⟩=some (.bool (d[j]' O).right)) (T:=fun cR=>false) aq ?_;have a:=b4 (z) (b4 (bF) (b4 (bV) (bX)));refine qi 0 a ?_;refine qi 1 a ?_;refine qi 2 a ?_;refine qi 3 a ?_;refine qi 4 a ?_;refine qi 5 a ?_;refine qi 6 a ?_;refine qi 7 a ?_;refine qi 8 a ?_;refine qi 9 a ?_;refine qi 10 a ?_;refine qi 11 a ?_;refine qi 12 a ?_;refine qi 13 a ?_;refine qi 14 a ?_;refine qi 15 a ?_;refine yd (i:=16) aq rfl (fun K hK=>?_);go_simp;have M:Below (w.heap.size+2) W ((W.drew.setCell ⟨w.heap.size+1+1,0,none⟩ (.int .i64 (d[j]' O).level)).setCell ⟨w.heap.size+1+1,1,none⟩ (.bool (d[j]' O).right)):=((eA _ _).drew.setCell (p:=⟨w.heap.size+1+1,0,none⟩) (by simp only;omega) _).setCell (p:=⟨w.heap.size+1+1,1,none⟩) (by simp only;omega) _;have J:=b4 ((M.cell (p:=⟨w.heap.size,0,none⟩) (by simp only;omega)).trans z) (b4 ((M.cell (p:=⟨b,o+1,none⟩) (by simp only;omega)).trans bF) (b4 ((M.cell (p:=⟨F,Q+j*2,none⟩) (by simp only;omega)).trans bV) ((M.cell (p:=⟨F,Q+j*2+1,none⟩) (by simp only;omega)).trans bX)));refine hK.out _ _ (fun _=>J) ?_;clear hK K J M
   try simp only [Act.put]
   refine yd (i:=17) aq rfl (fun K hK=>?_);go_simp;have M:Below (w.heap.size+2) W (((W.setCell ⟨w.heap.size+1+1,0,none⟩ (.int .i64 (d[j]' O).level)).setCell ⟨w.heap.size+1+1,1,none⟩ (.bool (d[j]' O).right)).setCell ⟨w.heap.size+1+1+1,0,none⟩ (.bool (decide (0<=(d[j]' O).level)))).drew:=((((eA _ _).setCell (p:=⟨w.heap.size+1+1,0,none⟩) (by simp only;omega) _).setCell (p:=⟨w.heap.size+1+1,1,none⟩) (by simp only;omega) _).setCell (p:=⟨w.heap.size+1+1+1,0,none⟩) (by simp only;omega) _).drew;have J:=b4 ((M.cell (p:=⟨w.heap.size,0,none⟩) (by simp only;omega)).trans z) (b4 ((M.cell (p:=⟨b,o+1,none⟩) (by simp only;omega)).trans bF) (b4 ((M.cell (p:=⟨F,Q+j*2,none⟩) (by simp only;omega)).trans bV) ((M.cell (p:=⟨F,Q+j*2+1,none⟩) (by simp only;omega)).trans bX)));refine hK.out _ _ (fun _=>J) ?_;clear hK K J
   try simp only [Act.put]
   refine Dm aq ?_ _
   gi_wp2
   have aK:((W.setCell ⟨w.heap.size+1+1,0,none⟩ (.int .i64 (d[j]' O).level)).setCell ⟨w.heap.size+1+1,1,none⟩ (.bool (d[j]' O).right)).cell? ⟨w.heap.size+1+1+1,0,none⟩=some (.bool false):=by
    rw[eb _ _ _ _ (by intro h;simp only [Addr.mk.injEq] at h;omega),eb _ _ _ _ (by intro h;simp only [Addr.mk.injEq] at h;omega)];exact aB
   have Y:(W.setCell ⟨w.heap.size+1+1,0,none⟩ (.int .i64 (d[j]' O).level)).cell? ⟨w.heap.size+1+1,1,none⟩=some (.bool false):=by
    rw[eb _ _ _ _ (by intro h;simp only [Addr.mk.injEq] at h;omega)];exact aA
   refine⟨?_,⟨rfl,pre,⟨j,aE⟩,_,rfl,b6.out,fv (show j<d.length from O),?_,?_,?_,?_⟩,R.trans (M.mono O)⟩
   ·refine KeepsOthers.from ?_ _;exact(((KeepsOthers.setCell _ _ _).trans (KeepsOthers.setCell _ _ _)).trans (KeepsOthers.setCell _ _ _)).trans ⟨aw _,fun _ _ h _=>h⟩
   ·have:=bA.out;unfold mV at this;rw[fv O] at this;exact this
   ·show(((W.setCell _ _).setCell _ _).setCell _ _).cell? _=_;rw[eb _ _ _ _ (by intro h;simp only [Addr.mk.injEq] at h;omega),eb _ _ _ _ (by intro h;simp only [Addr.mk.injEq] at h;omega)];exact kA _ _ _ Z
   ·show(((W.setCell _ _).setCell _ _).setCell _ _).cell? _=_;rw[eb _ _ _ _ (by intro h;simp only [Addr.mk.injEq] at h;omega)];exact kA _ _ _ Y
   ·show(((W.setCell _ _).setCell _ _).setCell _ _).cell? _=_;exact kA _ _ _ aK
  ·have b6:=U aY;have bA:=U P;have cN:(mV d j==g)=false:=by simpa using P
   clear P aY
   gi_wp2
   exact⟨KeepsFrom.refl _ _,eA _ _,⟨fun p bM=>(List.mem_append.1 bM).elim (b6.out p) (fun e=>by simp at e;subst e;exact bA.out),z,aJ,Z,aA,aB,aV,aW,aX⟩,R⟩
 case done=>
  rintro D cX W cI rfl ⟨⟨bL,z,aJ,Z,aA,aB,aV,aW,aX⟩,R⟩ hK
  gi_wp2
  have cO:(W.setCell ⟨w.heap.size+1+1,0,none⟩ (.int .i64 0)).cell? ⟨w.heap.size+1+1,1,none⟩=some (.bool false):=by
   rw[eb _ _ _ _ (by intro h;simp only [Addr.mk.injEq] at h;omega)];exact aA
  have cP:((W.setCell ⟨w.heap.size+1+1,0,none⟩ (.int .i64 0)).setCell ⟨w.heap.size+1+1,1,none⟩ (.bool false)).cell? ⟨w.heap.size+1+1+1,0,none⟩=some (.bool false):=by
   rw[eb _ _ _ _ (by intro h;simp only [Addr.mk.injEq] at h;omega),eb _ _ _ _ (by intro h;simp only [Addr.mk.injEq] at h;omega)];exact aB
  have bZ:(((W.setCell ⟨w.heap.size+1+1,0,none⟩ (.int .i64 0)).setCell ⟨w.heap.size+1+1,1,none⟩ (.bool false)).setCell ⟨w.heap.size+1+1+1,0,none⟩ (.bool false)).cell? ⟨w.heap.size+1+1,0,none⟩=some (.int .i64 0):=by
   rw[eb _ _ _ _ (by intro h;simp only [Addr.mk.injEq] at h;omega),eb _ _ _ _ (by intro h;simp only [Addr.mk.injEq] at h;omega)];exact kA _ _ _ Z
  have cA:(((W.setCell ⟨w.heap.size+1+1,0,none⟩ (.int .i64 0)).setCell ⟨w.heap.size+1+1,1,none⟩ (.bool false)).setCell ⟨w.heap.size+1+1+1,0,none⟩ (.bool false)).cell? ⟨w.heap.size+1+1,1,none⟩=some (.bool false):=by
   rw[eb _ _ _ _ (by intro h;simp only [Addr.mk.injEq] at h;omega)];exact kA _ _ _ cO
  have cB:(((W.setCell ⟨w.heap.size+1+1,0,none⟩ (.int .i64 0)).setCell ⟨w.heap.size+1+1,1,none⟩ (.bool false)).setCell ⟨w.heap.size+1+1+1,0,none⟩ (.bool false)).cell? ⟨w.heap.size+1+1+1,0,none⟩=some (.bool false):=kA _ _ _ cP;have cC:KeepsOthers W (((W.setCell ⟨w.heap.size+1+1,0,none⟩ (.int .i64 0)).setCell ⟨w.heap.size+1+1,1,none⟩ (.bool false)).setCell ⟨w.heap.size+1+1+1,0,none⟩ (.bool false)):=((KeepsOthers.setCell _ _ _).trans (KeepsOthers.setCell _ _ _)).trans (KeepsOthers.setCell _ _ _);have aN:Below w.heap.size w (((W.setCell ⟨w.heap.size+1+1,0,none⟩ (.int .i64 0)).setCell ⟨w.heap.size+1+1,1,none⟩ (.bool false)).setCell ⟨w.heap.size+1+1+1,0,none⟩ (.bool false)):=((R.setCell (p:=⟨w.heap.size+1+1,0,none⟩) (by simp only;omega) _).setCell (p:=⟨w.heap.size+1+1,1,none⟩) (by simp only;omega) _).setCell (p:=⟨w.heap.size+1+1+1,0,none⟩) (by simp only;omega) _;generalize ((W.setCell ⟨w.heap.size+1+1,0,none⟩ (.int .i64 0)).setCell ⟨w.heap.size+1+1,1,none⟩ (.bool false)).setCell ⟨w.heap.size+1+1+1,0,none⟩ (.bool false)=cQ at bZ cA cB cC aN⊢;have I:=cC.same D _ hK rfl
  have aD:mN d g=(0,false,false):=by
   unfold mN
   rw[Bj d g (fun i cT=>by
    have:=bL ⟨i,O⟩ (by
     simp only [upto,List.mem_map,List.mem_range]
     exact⟨m-i,O,by simp only [dn,Subtype.mk.injEq];omega⟩)
    exact this)]
  refine⟨ar,.inl ⟨_,_,rfl,run_takeDeferred I,?_⟩⟩;have bR:=cell_kept bZ (grownBy_putObj' _ D (.deferred none)) (fun r e=>by cases e;exact⟨_,I,rfl⟩);have bS:=cell_kept cA (grownBy_putObj' _ D (.deferred none)) (fun r e=>by cases e;exact⟨_,I,rfl⟩);have bT:=cell_kept cB (grownBy_putObj' _ D (.deferred none)) (fun r e=>by cases e;exact⟨_,I,rfl⟩);refine⟨.tuple #[.agg #[.int .i64 0,.bool false],.bool false],?_,by rw[aD],aN.trans (belowK_b (w:=w) (aw _) _ D _ _ O I rfl rfl)⟩;simp[results,Tryz.f134,go_sem,bR,bS,bT]
 case stop=>
  rintro D c pre W cI ⟨k,cU,rfl⟩ ⟨⟨rfl,aR,L,f,Y,bG,aK,bH,bI,bJ,bK⟩,R⟩ hK
  gi_wp2
  obtain⟨X,rfl⟩:∃ X,k=X+1:=by
   cases k with
   |zero=>simp[upto] at Y
   |succ X=>exact⟨X,rfl⟩
  rw[qW] at Y;obtain⟨rfl,cG⟩:=List.append_inj' Y rfl;obtain rfl:dn m X=L:=by simpa using cG
  have aD:mN d g=(f.level,f.right,decide (0<=f.level)):=by
   unfold mN
   rw[Dk d g X f O (fun i z aJ=>by
    have:=bG ⟨i,O⟩ (by
     simp only [upto,List.mem_map,List.mem_range]
     exact⟨m-i,O,by simp only [dn,Subtype.mk.injEq];omega⟩)
    exact this) (by
     have:=aK;simp only [dn] at this
     rw[show d.length-1-X=m-X from O];exact this) bH]
  refine⟨ar,.inl ⟨_,_,rfl,run_takeDeferred hK,?_⟩⟩;have bR:=cell_kept bI (grownBy_putObj' _ D (.deferred none)) (fun r e=>by cases e;exact⟨_,hK,rfl⟩);have bS:=cell_kept bJ (grownBy_putObj' _ D (.deferred none)) (fun r e=>by cases e;exact⟨_,hK,rfl⟩);have bT:=cell_kept bK (grownBy_putObj' _ D (.deferred none)) (fun r e=>by cases e;exact⟨_,hK,rfl⟩);refine⟨.tuple #[.agg #[.int .i64 f.level,.bool f.right],.bool (decide (0<=f.level))],?_,by rw[aD],R.trans (belowK_b (w:=w) (aw _) _ D _ _ O hK rfl rfl)⟩;simp[results,Tryz.f134,go_sem,bR,bS,bT]
end
end Go.Proofs.YtkblonfmjlopaaaGreatDoor
