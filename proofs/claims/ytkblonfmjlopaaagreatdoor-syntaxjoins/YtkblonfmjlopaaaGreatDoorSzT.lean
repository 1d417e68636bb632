/-
  A record under way: its labels in an array of their own, its variable; the frame of what reads one field. Plain.
-/
import Derived.Test.YtkblonfmjlopaaaGreatDoorSzB
set_option linter.all false
set_option maxRecDepth 1000000
set_option maxHeartbeats 16000000
namespace Go.Proofs.YtkblonfmjlopaaaGreatDoor
open Go Go.RowKit
variable {args:Array Value}{k:Nat}{F F':Nat->Prop}{β:Type}{v:Value}{p:Value->Array Value}{w':World}{r:Except (Nat×Nat) (β×al)}
theorem Gt{w:World}{x:ak}{cs:List Value}(h:ah w F [vS x] cs):ah w' F' [vS x] cs:=by
 unfold ah at h;obtain⟨c,c2,rfl,a,b⟩:=h;unfold vS b8 at a;unfold ah at b;subst a;subst b;exact ej _ gO
theorem jP.strs{w:World}{L A c:Nat}{ls:List ak}(h:jP w F L 1 A c (strs ls))(k:w'.heap[A]?=w.heap[A]?)(p:A<w'.heap.size)(n:¬F' A):jP w' F' L 1 A c (strs ls):=by
 obtain⟨h,j,q,s,m,l,o⟩:=h
 have f:∀ b d,(some ⟨A,0,none⟩:Option Addr)=some ⟨b,d,none⟩->w'.heap[b]?=w.heap[b]?:=fun b d e=>by
  simp only [Option.some.injEq,Addr.mk.injEq,and_true] at e;rw[<-e.1];exact k
 refine⟨h,j,p,n,m.blocks f,l.blocks f,fun i r a=>?_⟩;have:=o i r a
 obtain⟨x,t,rfl⟩:∃ x,ls[i]?=some x/\r=[vS x]:=by
  unfold Go.Proofs.YtkblonfmjlopaaaGreatDoor.strs at a;rw[qo] at a
  rcases g:ls[i]? with _|x
  ·rw[g] at a;cases a
  ·rw[g] at a;cases a;exact⟨x,rfl,rfl⟩
 exact Gt this
structure LG where
 ls:List ak
 a:Option Addr
 c:Nat
 S:Nat->Prop
def LG.zero:LG:=⟨[],none,0,fun _=>False⟩
def mc(M:Nat->Prop)(i l:Nat)(g:LG):Nat->Prop:=fun k=>M k\/k=l\/k=i\/g.S k
def MT(w:World)(lo:Nat)(g:LG):Prop:=(g.ls=[]/\g.a=none/\g.c=0)\/∃ A,g.a=some ⟨A,0,none⟩/\g.S A/\jP w (fun _=>False) lo 1 A g.c (strs g.ls)
structure ug(G:Gh)(p:Value->Array Value)(i l lo:Nat)(w:World)(g:LG):Prop where
 bp:cc w i (bq G)
 bk:cc w l (p (.slice g.a g.ls.length g.c))
 Gu:MT w lo g
 qY:∀ k,g.S k->lo<=k
theorem ug.ok{G:Gh}{M:Nat->Prop}{i l lo:Nat}(y:i≠G.bp)(x:l≠G.bp)(hb:G.bp<lo):oX G (mc M i l) (ug G p i l lo):=fun w w' g h m=>by
 have c:∀ k,k<w.heap.size->w'.heap[k]?=w.heap[k]?->k<w'.heap.size:=fun k u s=>by
  rw[D9 u] at s;exact(Array.getElem?_eq_some_iff.1 s).1
 have n:∀ (b:Nat) (cs:Array Value),cc w b cs->w'.heap[b]?=w.heap[b]?->cc w' b cs:=fun b cs h e=>
  ⟨c b h.1 e,fun o=>(q9 (w:=w) (a:=⟨b,o,none⟩) e).trans (h.2.1 o),fun j v=>(i' (w:=w) (a:=⟨b,0+j,none⟩) e).trans (h.2.2 j v)⟩
 refine⟨n _ _ h.bp (m i (.inr (.inr (.inl rfl))) y),n _ _ h.bk (m l (.inr (.inl rfl)) x),?_,h.qY⟩
 rcases h.Gu with q|⟨A,e,f,t⟩
 ·exact .inl q
 ·have r:=m A (.inr (.inr (.inr f))) (ba (h.qY A f));have d:A<w.heap.size:=by obtain⟨_,_,q,_⟩:=t;exact q
  exact .inr ⟨A,e,f,t.strs r (c A d r) (fun q=>q)⟩
structure RF(G:Gh)(M:Nat->Prop)(B:Option Addr)(D:Nat)(z:Option Addr)(C:Nat)(i l lo:Nat)(n S:Nat->Prop)(K Z:Array Value)(ls:List ak)(a:Option Addr)(c:Nat)(w:World)(s:al)(g:World)(s1:al):Prop where
 kn:Kn G.B (mc M i l ⟨[],none,0,n⟩) w g
 ln:LN G M B D z C lo 1 s g s1 (strs ls) a c
 res:cc g w.heap.size Z
 bp:cc g i (bq G)
 bk:cc g l K
 lw:lo<=w.heap.size
 pl:i<lo
 kl:l<lo
 np:¬M i
 nk:¬M l
 ne:i≠l
 kB:G.B<=l
 pB:G.B<=i
 aS:∀ A,a=some ⟨A,0,none⟩->S A
 sub:∀ k,n k->S k
 new:∀ k,S k->n k\/w.heap.size<k
 qY:∀ k,S k->lo<=k/\k<g.heap.size
 yp:¬n w.heap.size
section
variable {G:Gh} {M:Nat->Prop} {B:Option Addr} {D:Nat} {z:Option Addr} {C:Nat} {i l lo:Nat} {n S:Nat->Prop} {K Z:Array Value} {ls:List ak} {a:Option Addr} {c:Nat} {w g m o:World} {s s1 A:al}
theorem RF.sz(h:RF G M B D z C i l lo n S K Z ls a c w s g s1):w.heap.size<g.heap.size:=h.res.1
theorem RF.nm(h:RF G M B D z C i l lo n S K Z ls a c w s g s1):¬M w.heap.size:=fun q=>lQ (h.ln.w7 _ q) h.lw
theorem RF.ps(h:RF G M B D z C i l lo n S K Z ls a c w s g s1):PS G M B D z C g s1:=h.ln.ps
theorem RF.go(h:RF G M B D z C i l lo n S K Z ls a c w s g s1)(b:Kn G.B M g m)(e:PS G M B D z C m A)(d:A.sc=s1.sc)(f:s1.i<=A.i):RF G M B D z C i l lo n S K Z ls a c w s m A:=
 ⟨h.kn.go (b.more fun _ q=>.inl q),h.ln.go b e d f,h.res.kn b h.nm,h.bp.kn b h.np,h.bk.kn b h.nk,h.lw,h.pl,h.kl,h.np,h.nk,h.ne,h.kB,h.pB,h.aS,h.sub,h.new,fun k q=>⟨(h.qY k q).1,lQ ((h.qY k q).2) b.size⟩,h.yp⟩
theorem RF.below(h:RF G M B D z C i l lo n S K Z ls a c w s g s1)(b:Below g.heap.size g m):RF G M B D z C i l lo n S K Z ls a c w s m s1:=h.go (Kn.of b h.ps.bB) (h.ps.new b) rfl (aw _)
theorem RF.drew(h:RF G M B D z C i l lo n S K Z ls a c w s g s1):RF G M B D z C i l lo n S K Z ls a c w s g.drew s1:=h.below (eA _ _).drew
theorem RF.push{x:ak}{p:Option Addr}{v:Nat}(h:RF G M B D z C i l lo n S K Z ls a c w s g s1)(J:LN G M B D z C lo 1 s o s1 (strs ls++[[vS x]]) p v)(hb:Below lo g o)(b:∀ j,j<g.heap.size->(∀ d,a≠some ⟨j,d,none⟩)->o.heap[j]?=g.heap[j]?)(y:p=a\/∃ m,p=some ⟨m,0,none⟩/\g.heap.size<=m/\m<o.heap.size):
 ∃ F,RF G M B D z C i l lo n F K Z (ls++[x]) p v w s o s1:=by
 have u:=h.sz;have N:=h.lw;have f:=hb.size
 have r:∀ j,¬S j->∀ d,a≠some ⟨j,d,none⟩:=fun j L d e=>by
  rcases h.ln.row with⟨_,q,_⟩|⟨A,q,_⟩
  ·rw[q] at e;cases e
  ·have:=h.aS A q;rw[q] at e;cases e;exact L this
 have t:¬S w.heap.size:=fun q=>by
  rcases h.new _ q with q|q
  ·exact h.yp q
  ·omega
 refine⟨fun k=>S k\/p=some ⟨k,0,none⟩,⟨?_,?_,h.res.a6 (b _ u (r _ t)) f,h.bp.a6 (hb.block _ h.pl) f,h.bk.a6 (hb.block _ h.kl) f,h.lw,h.pl,h.kl,h.np,h.nk,h.ne,h.kB,h.pB,fun A e=>.inr e,fun k q=>.inl (h.sub k q),fun k q=>?_,fun k q=>?_,h.yp⟩⟩
 ·refine h.kn.trans (M':=S) ⟨hb.mono h.ln.lB,fun k E P=>b k E (r k P)⟩ (fun k E q=>?_)
  rcases h.new k q with q|q
  ·exact .inr (.inr (.inr q))
  ·omega
 ·rw[show strs (ls++[x])=strs ls++[[vS x]] by simp[strs]];exact J
 ·rcases q with q|q
  ·exact h.new k q
  ·rcases y with e|⟨m,e,H,_⟩
   ·rw[e] at q;exact h.new k (h.aS k q)
   ·rw[e] at q;cases q;exact .inr O
 ·rcases q with q|q
  ·have:=h.qY k q;exact⟨this.1,O⟩
  ·rcases y with e|⟨m,e,H,I⟩
   ·rw[e] at q;have:=h.qY k (h.aS k q);exact⟨this.1,O⟩
   ·rw[e] at q;cases q;exact⟨O,I⟩
theorem RF.Ob(h:RF G M B D z C i l lo n S K Z ls a c w s g s1)(j:Nat)(m:j<K.size)(v:Value):RF G M B D z C i l lo n S (K.setIfInBounds j v) Z ls a c w s (g.setCell ⟨l,j,none⟩ v) s1:=by
 have d:∀ b,b≠l->(g.setCell ⟨l,j,none⟩ v).heap[b]?=g.heap[b]?:=fun b f=>h3 _ _ _ _ f;have e:(g.setCell ⟨l,j,none⟩ v).heap.size=g.heap.size:=by simp[World.setCell]
 have r:=h.kl;have t:=h.lw;have o:=h.kB;exact⟨h.kn.set (p:=⟨l,j,none⟩) h.kB (.inr (.inl rfl)) v,h.ln.E1 (h.ps.set (p:=⟨l,j,none⟩) h.kB h.nk v) e (fun b f=>d b O) trivial,h.res.a6 (d _ O) O,h.bp.a6 (d _ h.ne) O,h.bk.lF j m v,h.lw,h.pl,h.kl,h.np,h.nk,h.ne,h.kB,h.pB,h.aS,h.sub,h.new,fun k q=>by rw[e];exact h.qY k q,h.yp⟩
theorem RF.store(h:RF G M B D z C i l lo n S K Z ls a c w s g s1)(d:List Value)(hl:d.length=Z.size):RF G M B D z C i l lo n S K d.toArray ls a c w s (g.setCells w.heap.size 0 d) s1/\(∀ b,b≠w.heap.size->(g.setCells w.heap.size 0 d).heap[b]?=g.heap[b]?)/\(g.setCells w.heap.size 0 d).heap.size=g.heap.size:=by
 obtain⟨v,f,j,t⟩:=h.res.store d hl;have I:=h.lw;have J:=h.pl;have F:=h.kl;have H:=h.ln.lB
 have p:¬S w.heap.size:=fun q=>by
  rcases h.new _ q with q|q
  ·exact h.yp q
  ·omega
 have u:G.B<=w.heap.size:=O
 have r:=h.ps.a6 (t.mono u) (fun k E=>f k (fun e=>h.nm (by rw[<-e];exact E)));refine⟨⟨h.kn.low t u (aw _),?_,v,h.bp.a6 (f _ O) O,h.bk.a6 (f _ O) O,h.lw,h.pl,h.kl,h.np,h.nk,h.ne,h.kB,h.pB,h.aS,h.sub,h.new,fun k q=>by rw[j];exact h.qY k q,h.yp⟩,f,j⟩;refine⟨h.ln.sc,h.ln.mono,r,h.ln.lB,h.ln.w7,by rw[j];exact h.ln.lw,?_⟩
 rcases h.ln.row with q|⟨A,e,o⟩
 ·exact .inl q
 ·have x:A≠w.heap.size:=fun q=>p (by rw[<-q];exact h.aS A e);have m:A<g.heap.size:=by obtain⟨_,_,q,_⟩:=o;exact q
  have y:lo<=A:=by obtain⟨_,q,_⟩:=o;exact q
  exact .inr ⟨A,e,o.strs (f A x) (by rw[j];exact m) (fun q=>q.elim (fun q=>O) (fun q=>q.2.2 rfl))⟩
theorem RF.start{g:LG}(d:PS G (mc M i l g) B D z C w s)(h:ug G p i l lo w g)(H:M G.bp)(F:∀ b c,B=some ⟨b,c,none⟩->M b)(y:∀ b c,z=some ⟨b,c,none⟩->M b)(L:¬M i)(J:¬M l)(I:i≠l)(N:i<lo)(o:l<lo)(E:∀ j,M j->j<lo)(x:lo<=w.heap.size)(Z:Array Value)(T:TypeId):
 RF G M B D z C i l lo g.S g.S (p (.slice g.a g.ls.length g.c)) Z g.ls g.a g.c w s (w.alloc (.cells Z T)) s:=by
 have a:=ab w (.cells Z T);have f:PS G M B D z C w s:=d.less (fun k q=>.inl q) H F y;have W:=f.bB;have n:∀ k,g.S k->k<w.heap.size:=fun k q=>(d.mB k (.inr (.inr (.inr q)))).2;have v:G.B<=lo:=fy (d.mB l (.inr (.inl rfl))).1 (Nat.le_of_lt o);refine⟨(Kn.of a W).more (M':=mc M i l ⟨[],none,0,g.S⟩) (M:=mc M i l ⟨[],none,0,g.S⟩) (fun _ q=>q),⟨rfl,aw _,f.new a,v,E,ba a.size,?_⟩,cc.new w Z T,h.bp.bl a,h.bk.bl a,x,N,o,L,J,I,(d.mB l (.inr (.inl rfl))).1,(d.mB i (.inr (.inr (.inl rfl)))).1,fun A e=>?_,fun _ q=>q,fun _ q=>.inl q,fun k q=>⟨h.qY k q,lQ (n k q) a.size⟩,fun q=>Nat.lt_irrefl _ (n _ q)⟩
 ·rcases h.Gu with⟨P,t,Q⟩|⟨A,e,m,r⟩
  ·exact .inl ⟨by rw[P];rfl,t,Q⟩
  ·have u:A<w.heap.size:=by obtain⟨_,_,q,_⟩:=r;exact q
   have S:lo<=A:=by obtain⟨_,q,_⟩:=r;exact q
   exact .inr ⟨A,e,r.strs (a.block A u) (ba a.size) (fun q=>q.elim (fun q=>O) (fun q=>q.2.2 rfl))⟩
 ·rcases h.Gu with⟨P,t,Q⟩|⟨X,R,m,r⟩
  ·rw[t] at e;cases e
  ·rw[R] at e;cases e;exact m
theorem RF.fin{I:jL}{nd:Nd}(h:RF G M B D z C i l lo n S (p (.slice a ls.length c)) Z ls a c w s g s1)(E:I g (fun b=>b<G.B\/(w.heap.size<=b/\b<g.heap.size/\¬S b)) nd v)(o:hM I):
 s1.sc=s.sc/\s.i<=s1.i/\∃ (d:LG) (t:Value),Ending.returned v=.returned t/\d.ls=ls/\PS G (mc M i l d) B D z C g s1/\ug G p i l lo g d/\(∀ j,mc M i l ⟨[],none,0,n⟩ j->mc M i l d j)/\(∀ j,mc M i l d j->mc M i l ⟨[],none,0,n⟩ j\/w.heap.size<=j)/\I g (Own G.B w.heap.size g.heap.size (mc M i l d)) nd t:=by
 have P:=h.lw;have T:=h.pl;have L:=h.kl;have J:=h.kB;have N:=h.ln.lB;have W:=h.sz;have R:=h.pB;refine⟨h.ln.sc,h.ln.mono,⟨ls,a,c,S⟩,v,rfl,rfl,h.ps.more (fun _ q=>.inl q) (fun k H=>?_),⟨h.bp,h.bk,?_,fun k q=>(h.qY k q).1⟩,fun j q=>?_,fun j q=>?_,o _ _ _ _ _ _ E (Kb.refl _ _) (fun b F=>F.imp id fun q=>⟨q.1,q.2.1,fun Q=>?_⟩)⟩
 ·rcases H with q|q|q|q
  ·exact h.ps.mB k q
  ·exact⟨O,O⟩
  ·exact⟨O,O⟩
  ·have:=h.qY k q;exact⟨O,this.2⟩
 ·rcases h.ln.row with⟨u,x,y⟩|⟨A,e,r⟩
  ·exact .inl ⟨by simpa [strs] using u,x,y⟩
  ·have f:A<g.heap.size:=by obtain⟨_,_,q,_⟩:=r;exact q
   exact .inr ⟨A,e,h.aS A e,r.strs rfl f (fun q=>q)⟩
 ·rcases q with q|q|q|q
  ·exact .inl q
  ·exact .inr (.inl q)
  ·exact .inr (.inr (.inl q))
  ·exact .inr (.inr (.inr (h.sub _ q)))
 ·rcases q with q|q|q|q
  ·exact .inl (.inl q)
  ·exact .inl (.inr (.inl q))
  ·exact .inl (.inr (.inr (.inl q)))
  ·rcases h.new _ q with q|q
   ·exact .inl (.inr (.inr (.inr q)))
   ·exact .inr O
 ·rcases Q with m|m|m|m
  ·have:=h.ln.w7 _ m;omega
  ·omega
  ·omega
  ·exact q.2.2 m
end
def VB(d:List (Nat×Array Value)):Nat->Prop:=fun k=>∃ p,p∈d/\p.1=k
def VM(M:Nat->Prop)(w:World)(d:List (Nat×Array Value)):Nat->Prop:=fun k=>VB d k\/(M k/\w.heap.size<=k)
def Bw(w:World)(p:Nat×Array Value):Prop:=p.1<w.heap.size/\(p.2≠#[]->cc w p.1 p.2)
theorem Bw.a6{w:World}{p:Nat×Array Value}(h:Bw w p)(b:w'.heap[p.1]?=w.heap[p.1]?)(a:w.heap.size<=w'.heap.size):Bw w' p:=⟨gi h.1 a,fun q=>(h.2 q).a6 b a⟩
theorem Bw.kn{w:World}{p:Nat×Array Value}{B:Nat}{M:Nat->Prop}(h:Bw w p)(a:Kn B M w w')(b:¬M p.1):Bw w' p:=h.a6 (a.gM p.1 h.1 b) a.size
def Rw(G:Gh)(M:Nat->Prop)(w:World)(d:List (Nat×Array Value))(u:World)(q:Nat×List Nd×Option Addr×Nat):Prop:=
 (q.2.1=[]/\q.2.2.1=none/\q.2.2.2=0)\/∃ A,q.2.2.1=some ⟨A,0,none⟩/\(A,#[])∈d/\jP u (Own G.B w.heap.size u.heap.size (VM M w d)) w.heap.size q.1 A q.2.2.2 q.2.1
theorem Rw.on{G:Gh}{M:Nat->Prop}{w u w2:World}{d a:List (Nat×Array Value)}{q:Nat×List Nd×Option Addr×Nat}(h:Rw G M w d u q)(k:Kb u w2 (Own G.B w.heap.size u.heap.size (VM M w d)))(i:∀ A,(A,#[])∈d->w2.heap[A]?=u.heap[A]?)(n:u.heap.size<=w2.heap.size)(g:∀ A,(A,#[])∈d->(A,#[])∈a)(l:∀ b,b<u.heap.size->VM M w a b->VM M w d b)(o:G.B<=w.heap.size):Rw G M w a w2 q:=by
 rcases h with h|⟨A,e,c,f⟩
 ·exact .inl h
 ·have j:w.heap.size<=A:=by obtain⟨_,q,_⟩:=f;exact q
  exact .inr ⟨A,e,g A c,f.a6 k (i A c) n (fun b m=>m.imp id fun q=>⟨q.1,O,fun v=>q.2.2 (l b q.2.1 v)⟩) (fun q=>q.elim (fun q=>O) fun q=>q.2.2 (.inl ⟨_,g A c,rfl⟩))⟩
structure Bd(G:Gh)(M:Nat->Prop)(B:Option Addr)(D:Nat)(z:Option Addr)(C:Nat)(w:World)(s:al)(E:List (Nat×List Nd×Option Addr×Nat))(d:List (Nat×Array Value))(ts:List (Nd×List Value))(u:World)(s1:al):Prop where
 kn:Kn G.B M w u
 ps:PS G M B D z C u s1
 sc:s1.sc=s.sc
 i:s.i<=s1.i
 bl:G.bp<w.heap.size
 nq:∀ p,p∈d->¬M p.1
 bw:∀ p,p∈d->Bw u p
 lo:∀ p,p∈d->w.heap.size<=p.1
 dj:d.Pairwise fun a b=>a.1≠b.1
 tr:∀ p,p∈ts->ah u (Own G.B w.heap.size u.heap.size (VM M w d)) p.1 p.2
 rw:∀ q,q∈E->Rw G M w d u q
section
variable {G:Gh} {M:Nat->Prop} {B:Option Addr} {D:Nat} {z:Option Addr} {C:Nat} {w u w2:World} {s s1 j:al} {d:List (Nat×Array Value)} {ts:List (Nd×List Value)} {E:List (Nat×List Nd×Option Addr×Nat)}
theorem Bd.start(a:PS G M B D z C w s):Bd G M B D z C w s [] [] [] w s:=
 ⟨Kn.refl _ _ _,a,rfl,aw _,(a.mB _ a.mp).2,fun p h=>(qq h).elim,fun p h=>(qq h).elim,fun p h=>(qq h).elim,List.Pairwise.nil,fun p h=>(qq h).elim,fun p h=>(qq h).elim⟩
theorem Bd.bB(h:Bd G M B D z C w s E d ts u s1):G.B<=w.heap.size:=lQ h.bl ((h.ps.mB _ h.ps.mp).1)
theorem Bd.xw(h:Bd G M B D z C w s E d ts u s1)(b:VB d k):w.heap.size<=k/\k<u.heap.size:=by
 obtain⟨p,a,rfl⟩:=b;exact⟨h.lo p a,(h.bw p a).1⟩
theorem Bd.nx(h:Bd G M B D z C w s E d ts u s1)(a:u.heap.size<=k):¬VM M w d k:=fun q=>q.elim (fun q=>ba ((h.xw q).2)) (fun q=>ba ((h.ps.mB _ q.1).2))
theorem Bd.go(h:Bd G M B D z C w s E d ts u s1)(a:Kn G.B M u w2)(i:PS G M B D z C w2 j)(f:j.sc=s1.sc)(k:s1.i<=j.i):Bd G M B D z C w s E d ts w2 j:=
 ⟨h.kn.go a,i,f.trans h.sc,fy h.i k,h.bl,h.nq,fun p e=>(h.bw p e).kn a (h.nq p e),h.lo,h.dj,fun p e=>(h.tr p e).on (Kb.kn a fun b c=>c.imp id fun q=>⟨q.2.1,fun m=>q.2.2 (.inr ⟨m,q.1⟩)⟩) (fun b c=>c.imp id fun q=>⟨q.1,ba a.size,q.2.2⟩),fun q l=>(h.rw q l).on (Kb.kn a fun b c=>c.imp id fun q=>⟨q.2.1,fun m=>q.2.2 (.inr ⟨m,q.1⟩)⟩) (fun A g=>a.gM A (h.bw _ g).1 (h.nq _ g)) a.size (fun _ q=>q) (fun _ _ q=>q) h.bB⟩
theorem Bd.below(h:Bd G M B D z C w s E d ts u s1)(a:Below u.heap.size u w2):Bd G M B D z C w s E d ts w2 s1:=
 h.go (Kn.of a h.ps.bB) (h.ps.new a) rfl (aw _)
theorem Bd.drew(h:Bd G M B D z C w s E d ts u s1):Bd G M B D z C w s E d ts u.drew s1:=h.below (eA _ _).drew
theorem Bd.step(h:Bd G M B D z C w s E d ts u s1)(a:s1.i<G.X.ts.length):Bd G M B D z C w s E d ts (u.setCell ⟨G.bp,1,none⟩ (.int .i64 ((s1.i:Int)+1))) {s1 with i:=s1.i+1}:=
 h.go (((Kn.refl G.B (Jp G) u).step h.ps rfl _).jp h.ps.mp) (h.ps.step1 a) rfl (h5 _)
theorem Bd.box(h:Bd G M B D z C w s E d ts u s1)(cs:Array Value)(T:TypeId):Bd G M B D z C w s E ((u.heap.size,cs)::d) ts (u.alloc (.cells cs T)) s1:=by
 have c:=ab u (.cells cs T);have g:=h.below c;have l:=h.ps.bB
 have hK:Kb u (u.alloc (.cells cs T)) (Own G.B w.heap.size u.heap.size (VM M w d)):=Kb.of c fun b f=>by
  rcases f with q|q
  ·omega
  ·exact q.2.1
 have i:∀ b,b<u.heap.size->VM M w ((u.heap.size,cs)::d) b->VM M w d b:=fun b f v=>v.imp (fun⟨p,a,e⟩=>by
  cases a with
  |head=>have e:u.heap.size=b:=e;omega
  |tail _ a=>exact⟨p,a,e⟩) id
 refine⟨g.kn,g.ps,g.sc,g.i,g.bl,fun p a m=>?_,fun p a=>?_,fun p a=>?_,.cons (fun p a=>?_) h.dj,fun p a=>(h.tr p a).on hK fun b f=>f.imp id fun q=>⟨q.1,ba c.size,fun v=>q.2.2 (i b q.2.1 v)⟩,fun q k=>(h.rw q k).on hK (fun A j=>c.block A (h.bw _ j).1) c.size (fun _ q=>.tail _ q) i h.bB⟩
 ·cases a with
  |head=>have m:M u.heap.size:=m;have:=(h.ps.mB _ m).2;omega
  |tail _ a=>exact h.nq p a m
 ·cases a with
  |head=>exact⟨ar,fun _=>cc.new u cs T⟩
  |tail _ a=>exact g.bw p a
 ·cases a with
  |head=>exact h.kn.size
  |tail _ a=>exact h.lo p a
 ·have:=(h.bw p a).1;show u.heap.size≠p.1;omega
theorem Bd.add(h:Bd G M B D z C w s E d ts u s1){nd:Nd}{cs:List Value}(b:ah u (Own G.B w.heap.size u.heap.size (VM M w d)) nd cs):Bd G M B D z C w s E d ((nd,cs)::ts) u s1:=
 ⟨h.kn,h.ps,h.sc,h.i,h.bl,h.nq,h.bw,h.lo,h.dj,fun p a=>by
   cases a with
   |head=>exact b
   |tail _ a=>exact h.tr p a,h.rw⟩
theorem Bd.sub(h:Bd G M B D z C w s E d ts u s1){wY:List (Nd×List Value)}(hs:∀ p,p∈wY->p∈ts):Bd G M B D z C w s E d wY u s1:=
 ⟨h.kn,h.ps,h.sc,h.i,h.bl,h.nq,h.bw,h.lo,h.dj,fun p a=>h.tr p (hs p a),h.rw⟩
theorem Bd.bx(h:Bd G M B D z C w s E d ts u s1)(p:Nat×Array Value)(a:p∈d)(b:p.2≠#[]:=by simp):cc u p.1 p.2:=(h.bw p a).2 b
theorem Bd.nm(h:Bd G M B D z C w s E d ts u s1)(a:VB d k):¬M k:=by
 obtain⟨p,b,rfl⟩:=a;exact h.nq p b
theorem Bd.E1(h:Bd G M B D z C w s E d ts u s1){l:Nat}{cs c:Array Value}{n:Nat}(f:d[n]?=some (l,cs))(aI:cs≠#[])(L:Below l u w2)(S:∀ b,b≠l->w2.heap[b]?=u.heap[b]?)(aD:cc w2 l c):Bd G M B D z C w s E (d.set n (l,c)) ts w2 s1:=by
 have T:(l,cs)∈d:=lj f;have t:=h.lo _ T;have aF:=h.bB
 have aG:∀ k,VB (d.set n (l,c)) k->VB d k:=fun k ⟨p,x,e⟩=>by
  rcases Hh x with q|q
  ·exact⟨p,q,e⟩
  ·rw[q] at e;exact⟨_,T,e⟩
 have aH:∀ k,VB d k->VB (d.set n (l,c)) k:=fun k ⟨p,x,e⟩=>by
  obtain⟨j,a,r⟩:=Ed x
  by_cases q:n=j
  ·subst q;have I:(d.set n (l,c))[n]?=some (l,c):=by simp[a]
   rw[fv a,r] at f;cases f;exact⟨_,lj I,e⟩
  ·have I:(d.set n (l,c))[j]?=some p:=by rw[List.getElem?_set_ne q,fv a,r]
   exact⟨_,lj I,e⟩
 have hK:Kn G.B M w w2:=h.kn.low L (by show G.B<=l;have:w.heap.size<=l:=t;omega) t;have P:¬M l:=h.nq _ T;have J:∀ k,VM M w (d.set n (l,c)) k->VM M w d k:=fun k v=>v.imp (aG k) id
 have Q:∀ b,Own G.B w.heap.size u.heap.size (VM M w d) b->b≠l:=by
  rintro b y rfl
  rcases y with q|q
  ·have:w.heap.size<=b:=t;omega
  ·exact q.2.2 (.inl ⟨_,T,rfl⟩)
 have F:∀ A,(A,#[])∈d->∃ j,d[j]?=some (A,#[])/\n≠j:=fun A H=>by
  obtain⟨j,a,r⟩:=Ed H;refine⟨j,by rw[fv a,r],?_⟩;rintro rfl;rw[fv a,r] at f;cases f;exact aI rfl
 have Y:∀ A,(A,#[])∈d->A≠l:=by
  rintro A H rfl;obtain⟨j,a,R⟩:=F A H;have o:=(List.getElem?_eq_some_iff.1 f).1;have N:=(List.getElem?_eq_some_iff.1 a).1;have aA:=(List.getElem?_eq_some_iff.1 f).2;have I:=(List.getElem?_eq_some_iff.1 a).2;have dj:=List.pairwise_iff_getElem.1 h.dj
  rcases gr n j with g|g
  ·have:=dj n j o N g;rw[aA,I] at this;exact this rfl
  ·have:=dj j n N o O;rw[aA,I] at this;exact this rfl
 refine⟨hK,h.ps.a6 (L.mono (by have:w.heap.size<=l:=t;omega)) (fun k aJ=>S k (fun e=>P (by rw[<-e];exact aJ))),h.sc,h.i,h.bl,fun p x m=>?_,fun p x=>?_,fun p x=>?_,?_,fun p x=>(h.tr p x).on (fun b y=>S b (Q b y)) (fun b y=>y.imp id fun q=>⟨q.1,ba L.size,fun aE=>q.2.2 (J _ aE)⟩),fun q y=>(h.rw q y).on (fun b y=>S b (Q b y)) (fun A H=>S A (Y A H)) L.size (fun A H=>?_) (fun b _ v=>J b v) aF⟩
 ·rcases Hh x with q|q
  ·exact h.nq p q m
  ·rw[q] at m;exact P m
 ·obtain⟨j,a,r⟩:=Ed x;rw[List.length_set] at a
  by_cases q:n=j
  ·subst q;rw[List.getElem_set_self] at r;subst r;exact⟨aD.1,fun _=>aD⟩
  ·rw[List.getElem_set_ne q] at r;have Z:p∈d:=by rw[<-r];exact lk _
   refine(h.bw p Z).a6 (S _ fun e=>?_) L.size
   have o:n<d.length:=by
    rcases gr n d.length with g|g
    ·exact g
    ·rw[j4 g] at f;cases f
   have aB:d[n]=(l,cs):=by rw[fv o] at f;exact f_ f
   have dj:=List.pairwise_iff_getElem.1 h.dj
   rcases gr n j with g|g
   ·have:=dj n j o a g;rw[aB,r] at this;exact this e.symm
   ·have:=dj j n a o O;rw[aB,r] at this;exact this e
 ·obtain⟨aK,aE⟩|q:=(⟨Hh x,trivial⟩:(p∈d\/p=(l,c))/\True).1.imp (fun q=>(⟨q,trivial⟩:p∈d/\True)) id
  ·exact h.lo p aK
  ·rw[q];exact t
 ·rw[List.pairwise_iff_getElem];intro i j W a X;rw[List.length_set] at W a;have dj:=List.pairwise_iff_getElem.1 h.dj i j W a X
  have aC:∀ (j:Nat) (a:j<d.length),((d.set n (l,c))[j]'(by rw[List.length_set];exact a)).1=d[j].1:=fun j a=>by
   by_cases q:n=j
   ·subst q;rw[fv a] at f;rw[List.getElem_set_self,f_ f]
   ·rw[List.getElem_set_ne q]
  rw[aC i W,aC j a];exact dj
 ·obtain⟨j,a,R⟩:=F A H;exact lj (i:=j) (by rw[List.getElem?_set_ne R];exact a)
theorem Bd.set(h:Bd G M B D z C w s E d ts u s1)(n:Nat){l:Nat}{cs:Array Value}(j:Nat)(v:Value)(f:d[n]?=some (l,cs):=by rfl)(c:j<cs.size:=by simp):Bd G M B D z C w s E (d.set n (l,cs.setIfInBounds j v)) ts (u.setCell ⟨l,j,none⟩ v) s1:=
 have a:cs≠#[]:=fun e=>by subst e;exact absurd c ar
 h.E1 f a (Below.setCell (eA _ _) (p:=⟨l,j,none⟩) (aw l) v) (fun b g=>h3 _ _ _ _ g) ((h.bx _ (lj f) a).lF j c v)
theorem Bd.store(h:Bd G M B D z C w s E d ts u s1)(n:Nat){l:Nat}{cs:Array Value}(a:List Value)(c:d[n]?=some (l,cs):=by rfl)(hl:a.length=cs.size:=by rfl)(b:cs≠#[]:=by simp):Bd G M B D z C w s E (d.set n (l,a.toArray)) ts (u.setCells l 0 a) s1:=by
 obtain⟨e,f,i,g⟩:=(h.bx _ (lj c) b).store a hl;exact h.E1 c b g f e
theorem Bd.c(h:Bd G M B D z C w s E d ts u s1)(n j:Nat){l:Nat}{cs:Array Value}(a:d[n]?=some (l,cs):=by rfl)(hj:j<cs.size:=by simp)(b:cellAt cs j=v:=by rfl):u.cell? ⟨l,j,none⟩=some v:=by
 have:=(h.bx _ (lj a) (fun e=>by have e:cs=#[]:=e;subst e;exact absurd hj ar)).2.2 j hj;rw[gW,b] at this;exact this
theorem Bd.f(h:Bd G M B D z C w s E d ts u s1)(n:Nat){l:Nat}{cs:Array Value}(b:d[n]?=some (l,cs):=by rfl)(a:cs≠#[]:=by simp):∀ o,u.frozen? ⟨l,o,none⟩=false:=(h.bx _ (lj b) a).2.1
theorem Bd.t(h:Bd G M B D z C w s E d ts u s1)(n:Nat){nd:Nd}{cs:List Value}(a:ts[n]?=some (nd,cs):=by rfl):ah u (Own G.B w.heap.size u.heap.size (VM M w d)) nd cs:=h.tr _ (lj a)
theorem Bd.own(h:Bd G M B D z C w s E d ts u s1){c a:Nat}{X:Nat->Prop}(f:c<=a):∀ b,Own G.B u.heap.size c X b->Own G.B w.heap.size a (VM M w d) b:=fun b e=>e.imp id fun q=>⟨ba h.kn.size,O,h.nx q.1⟩
theorem FN.bd{I:jL}{x:PM Nd}{g:Nd->PM β}(l:FN G k args I x)(n:hM I)(h:Bd G M B D z C w s E d ts u s1)(y:(x>>=g) s1=some r):
 Calls Tryz.prog k args u fun e w2=>(∃ c q,r=.error (c,q)/\e=az c q/\Kn G.B M w w2)\/∃ nd j v,e=.returned v/\Hid (g nd j=some r)/\Hid (Bd G M B D z C w s E d ts w2 j)/\I w2 (Own G.B w.heap.size w2.heap.size (VM M w d)) nd v:=by
 rcases a_ y with⟨c,q,a,rfl⟩|⟨nd,j,a,m⟩
 ·exact(l M B D z C u s1 _ h.ps a).mono fun e w2 ⟨f,b⟩=>.inl ⟨c,q,rfl,b,h.kn.go f⟩
 ·exact(l M B D z C u s1 _ h.ps a).mono fun e w2 ⟨f,i,p,o,v,b,t⟩=>.inr ⟨nd,j,v,b,U m,U (h.go f o i p),n _ _ _ _ _ _ t (Kb.refl _ _) (h.own (aw _))⟩
theorem FB.bd{x:PM ak}{g:ak->PM β}(m:FB G k args x)(h:Bd G M B D z C w s E d ts u s1)(p:(x>>=g) s1=some r):
 Calls Tryz.prog k args u fun e w2=>(∃ c q,r=.error (c,q)/\e=az c q/\Kn G.B M w w2)\/∃ a j,e=.returned (.string ⟨a.toArray⟩)/\Hid (g a j=some r)/\Hid (Bd G M B D z C w s E d ts w2 j):=by
 rcases a_ p with⟨c,q,b,rfl⟩|⟨nd,j,b,n⟩
 ·exact(m M B D z C u s1 _ h.ps b).mono fun e w2 ⟨i,f⟩=>.inl ⟨c,q,rfl,f,h.kn.go i⟩
 ·exact(m M B D z C u s1 _ h.ps b).mono fun e w2 ⟨i,f,l,t,o⟩=>.inr ⟨nd,j,f,U n,U (h.go i o l O)⟩
theorem FU.bd{x:PM Unit}{g:Unit->PM β}(l:FU G k args x)(h:Bd G M B D z C w s E d ts u s1)(o:(x>>=g) s1=some r):
 Calls Tryz.prog k args u fun e w2=>(∃ c q,r=.error (c,q)/\e=az c q/\Kn G.B M w w2)\/∃ j,e=.returned (.tuple #[])/\Hid (g () j=some r)/\Hid (Bd G M B D z C w s E d ts w2 j):=by
 rcases a_ o with⟨c,q,a,rfl⟩|⟨nd,j,a,m⟩
 ·exact(l M B D z C u s1 _ h.ps a).mono fun e w2 ⟨f,b⟩=>.inl ⟨c,q,rfl,b,h.kn.go f⟩
 ·exact(l M B D z C u s1 _ h.ps a).mono fun e w2 ⟨f,b,i,p,n⟩=>.inr ⟨j,b,U m,U (h.go f n i O)⟩
theorem ey.ue{w:World}{l:List Nd}(h:ey w F l v)(e:Kb w w' F)(d:∀ b,F b->F' b):∃ a c,v=.slice a l.length c/\ah w' F' [.sl l] [.slice a l.length c]:=by
 obtain⟨a,c,rfl,f⟩:=h;exact⟨a,c,rfl,cr (f.on e d) gO⟩
theorem gu.bd{x:PM (List Nd)}{g:List Nd->PM β}(n:gu G k args x)(h:Bd G M B D z C w s E d ts u s1)(F:(x>>=g) s1=some r):
 Calls Tryz.prog k args u fun e w2=>(∃ c q,r=.error (c,q)/\e=az c q/\Kn G.B M w w2)\/∃ l j a c,e=.returned (.slice a l.length c)/\Hid (g l j=some r)/\Hid (Bd G M B D z C w s E d (([.sl l],[.slice a l.length c])::ts) w2 j):=by
 rcases a_ F with⟨c,q,b,rfl⟩|⟨nd,j,b,o⟩
 ·exact(n M B D z C u s1 _ h.ps b).mono fun e w2 ⟨i,f⟩=>.inl ⟨c,q,rfl,f,h.kn.go i⟩
 ·refine(n M B D z C u s1 _ h.ps b).mono fun e w2 ⟨i,m,t,p,v,f,A⟩=>.inr ?_;obtain⟨a,c,rfl,y⟩:=A.ue (Kb.refl _ _) (h.own (aw _));exact⟨nd,j,a,c,f,U o,U ((h.go i p m t).add y)⟩
theorem GN{a:List UInt8}{g:Bool->PM β}(i:ei G)(h:Bd G M B D z C w s E d ts u s1)(o:(a7 G.X a>>=g) s1=some r):
 Calls Tryz.prog 21 (vE G a) u fun e w2=>∃ b j,e=.returned (.bool b)/\Hid (g b j=some r)/\Hid (Bd G M B D z C w s E d ts w2 j):=by
 obtain⟨b,j,n,f⟩:=cx o;refine(qV i h.ps a b j n).mono ?_;rintro e w2 ⟨rfl,m,l,c,k⟩;exact⟨b,j,rfl,U f,U (h.go l m c k)⟩
theorem e'(g:ei G)(h:Bd G M B D z C w s E d ts u s1):Calls Tryz.prog 63 (bq G) u fun e w2=>∃ f a c b,e=.returned (.agg (lI G s1 f a c b))/\Hid (Mg G.w0 f a c b (V G.X s1).num)/\Hid (Bd G M B D z C w s E d ts w2 s1):=by
 refine(eh g h.ps).mono ?_;rintro e w2 ⟨f,a,c,b,rfl,j,i⟩;exact⟨f,a,c,b,rfl,U j,U (h.below i)⟩
theorem km(b:ei G)(h:Bd G M B D z C w s E d ts u s1)(a:(eo G.X:PM β) s1=some r):Calls Tryz.prog 13 (bq G) u fun e w2=>∃ c q,r=.error (c,q)/\e=az c q/\Kn G.B M w w2:=by
 rw[kY] at a;cases a;refine(mS b h.ps).mono ?_;rintro e w2 ⟨g,f⟩;exact⟨_,_,rfl,g,h.kn.go (Kn.of f h.ps.bB)⟩
end
structure n9(I:jL)(sz:Nat)(nd:Nd)(cs:List Value):Prop where
 len:cs.length=sz
 one:(cs.all fun x=>x.oneCell')=true
 back:∀ w F,ah w F nd cs->I w F nd (.agg cs.toArray)
def sA(I:jL)(sz:Nat):Prop:=∀ w F nd v,I w F nd v->∃ cs:List Value,v=.agg cs.toArray/\n9 I sz nd cs/\ah w F nd cs
theorem n9.nn{I:jL}{sz:Nat}{nd:Nd}{cs:List Value}(h:n9 I sz nd cs)(a:0<sz):cs.toArray≠#[]:=fun e=>by have:=h.len;simp at e;subst e;simp at this;omega
theorem jq{p:Prop}(h:p:=by
 intro w F nd v h;cases h with|intro _ h
 (repeat (with_reducible cases h with|intro _ h));exact⟨_,jW,⟨rfl,rfl,fun w F h=>by repeat (first|exact⟨rfl,h⟩|apply re)⟩,h⟩):p:=h
theorem cc.range{w:World}{l:Nat}{cs:Array Value}(h:cc w l cs):w.rangeAt l 0 cs.toList:=fun j v a=>by
 have b:j<cs.size:=by
  have:=(List.getElem?_eq_some_iff.1 a).1
  simpa using this
 rw[h.2.2 j b]
 unfold cellAt
 rw[Array.getElem?_toList] at a
 rw[D9 b] at a
 simp[b,Option.some.inj a]
theorem cc.there{w:World}{l:Nat}{cs:Array Value}(h:cc w l cs):w.there l 0 cs.size:=fun j a=>⟨by rw[h.2.2 j a];rfl,h.2.1 _⟩
theorem oI{f:Func}{R:Ending->World->Prop}{a:Act}{w:World}{l c:Nat}{b:TypeId}{cs:Array Value}(hb:cc w l cs)(h:R (.returned (.agg cs)) w)(j:f.results=#[.cell c b]:=by rfl)(g:a.tmps.getD c undef=.pointer (some ⟨l,0,none⟩):=by rfl)(e:(Tryz.prog.underlying b).map TypeDesc.isRow=some true:=by kernel_rfl)(hi:(Tryz.prog.info? b).map (·.size)=some cs.size:=by kernel_rfl)(i:a.defers=[]:=by rfl):bodyPost Tryz.prog f R .ret a w:=by
 obtain⟨d,e,m⟩:∃ d,Tryz.prog.underlying b=some d/\d.isRow=true:=by simpa using e
 refine bodyPost_ret (v:=.agg cs) ?_ i h
 have k:=run_loadVar_mid w l 0 b cs.toList d hb.range e m (by simpa using hi)
 unfold results
 rw[j]
 simp at g
 simp[asAddr,g,k,Sem.run_bind]
section
variable {w:World} {l sz:Nat} {I:jL} {nd:Nd} {cs:List Value} {Z:Array Value} {P:Program} {e:Array Oper} {rest:List Oper} {op:Oper} {a:Act} {Q:Exit->Act->World->Prop} {b:TypeId} {x y:Operand}
theorem Nb(h:cc w l Z)(c:n9 I sz nd cs)(m:Z.size=sz)(g:(P.info? b).map (fun x=>x.size)=some sz)(k:wpList P e Q rest (a.put op.dst undef) (w.setCells l 0 cs))(f:op.guard=none:=by rfl)(i:op.op=.store b x y:=by rfl)(d:a.eval x=.pointer (some ⟨l,0,none⟩):=by rfl)(j:a.eval y=.agg cs.toArray:=by rfl):wpList P e Q (op::rest) a w:=
 wpList_store_mid f b x y i l 0 cs.toArray d j (by have:=h.there;rw[lZ,c.len,<-m];exact this) (by rw[lZ,c.len];exact g) (by rw[<-Aj];exact c.one) k
theorem zl(h:cc w l cs.toArray)(g:n9 I sz nd cs)(m:(P.info? b).map (fun x=>x.size)=some sz)(k:wpList P e Q rest (a.put op.dst (.agg cs.toArray)) w)(j:op.guard=none:=by rfl)(n:op.op=.load b x:=by rfl)(i:a.eval x=.pointer (some ⟨l,0,none⟩):=by rfl)(c:(P.underlying b).map TypeDesc.isRow=some true:=by kernel_rfl):wpList P e Q (op::rest) a w:=by
 rcases f:P.underlying b with _|d
 ·rw[f] at c;cases c
 ·rw[f] at c;exact wpList_load_mid j b x n l 0 i cs d h.range f (f_ c) (by rw[g.len];exact m) k
end
section
theorem zK{w:World}{a b c d e f:Value}(h:∀ j,j<(#[a,b,c,d,e,f]:Array Value).size->w.cell? ⟨k,0+j,none⟩=some (cellAt #[a,b,c,d,e,f] j)):w.cell? ⟨k,0,none⟩=some a/\w.cell? ⟨k,1,none⟩=some b/\w.cell? ⟨k,2,none⟩=some c/\w.cell? ⟨k,3,none⟩=some d/\w.cell? ⟨k,4,none⟩=some e/\w.cell? ⟨k,5,none⟩=some f:=⟨h 0 (show 0<6 from O),h 1 (show 1<6 from O),h 2 (show 2<6 from O),h 3 (show 3<6 from O),h 4 (show 4<6 from O),h 5 (show 5<6 from O)⟩
variable {P:Program} {e:Array Oper} {Q:Exit->Act->World->Prop} {H:Region.Mode} {S:World->Prop} {T:Nat->Bool}
theorem vM(i:Nat){o:Oper}{m l:Nat}{L:Array Bool}{a:Act}{w:World}{cs:Array Value}(c:List Value){b:TypeId}{x y:Operand}(hb:cc w l cs)(h:gb P H e Q S T m (L.setIfInBounds i true) (a.put o.dst undef) (w.setCells l 0 c))
 (k:Region.ready H e L=[i]:=by kernel_rfl) (j:e[i]?=some o:=by rfl) (d:o.op=.store b x y:=by rfl) (n:Region.wanted o (yielded e a.tmps)=true:=by rfl) (p:a.eval x=.pointer (some ⟨l,0,none⟩):=by rfl) (r:a.eval y=.agg c.toArray:=by rfl) (hs:c.length=cs.size:=by rfl) (hi:(P.info? b).map (·.size)=some c.length:=by kernel_rfl) (h1:(c.all fun v=>v.oneCell')=true:=by rfl) (g:T i=true:=by rfl):gb P H e Q S T (m+1) L a w:=
 xR k j fun K hK=>by
  rw[if_pos n];have f:c.toArray.size=cs.size:=by simpa using hs
  exact wp_store_mid b x y d l 0 c.toArray p r (by rw[f];exact hb.there) (by simpa using hi) (by simpa using h1) (hK.out _ _ (fun q=>by rw[g] at q;cases q) h)
end
end Go.Proofs.YtkblonfmjlopaaaGreatDoor
