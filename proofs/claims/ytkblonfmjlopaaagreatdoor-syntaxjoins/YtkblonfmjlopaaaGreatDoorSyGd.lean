/-
  A store into a row's last thing; operations that read no memory. Plain.
-/
import Derived.Test.YtkblonfmjlopaaaGreatDoorSzR
set_option linter.all false
set_option maxRecDepth 1000000
set_option maxHeartbeats 16000000
namespace Go.Proofs.YtkblonfmjlopaaaGreatDoor
open Go Go.RowKit
variable {L:Array Bool}{B i:Nat}{n:Oper}{v:Value}
section
variable {P:Program} {f:Array Oper} {Q:Exit->Act->World->Prop} {g:Region.Mode} {S:World->Prop} {T:Nat->Bool}
theorem zS(N:f[i]?=some n)(r:∀ (j:Nat) (o:Oper) y b,f[j]?=some o->o.op≠.select y b)
 (aB:∀ c a w,Q (.panic c) (a.put n.dst v) w->Q (.panic c) a w) (X:T i=true):
 ∀ (m:Nat) (L:Array Bool) (a:Act) (w:World),
   (∀ j u,f[j]?=some u->j≠i->L.getD j true=false->(∀ e∈u.after,Region.binds g e=true->e.on≠i)->n.apart f u=true)->
   i∈Region.ready g f L->YieldsIf P f (fun _=>True) n v a->
   gb P g f Q S T m (L.setIfInBounds i true) (a.put n.dst v) w->gb P g f Q S T (m+1) L a w:=by
 intro m
 induction m with
 |zero=>
  intro L a w _ t G H;refine⟨fun h=>(by rw[h] at t;cases t),fun j F=>?_⟩
  by_cases e:j=i
  ·subst e;exact G.wpOp N trivial ⟨fun h=>(by rw[X] at h;cases h),H⟩
  ·have:=ready_mono F e;rw[H.1] at this;cases this
 |succ m aF=>
  intro L a w l t G H;refine⟨fun h=>(by rw[h] at t;cases t),fun j F=>?_⟩
  by_cases e:j=i
  ·subst e;exact G.wpOp N trivial ⟨fun h=>(by rw[X] at h;cases h),H⟩
  ·have Z:=H.2 j (ready_mono F e);obtain⟨q,u,s,z⟩:=mem_ready.1 F
   have B:∀ d∈u.after,Region.binds g d=true->d.on≠i:=fun d aD aC M=>by
    have D:=z d aD aC;have Y:=(mem_ready.1 t).1;rw[M] at D
    rcases gr i L.size with I|I
    ·simp[I] at Y D;rw[Y] at D;cases D
    ·simp[Array.getElem?_eq_none I] at D
   have aA:=wpOp_putIf s (l j u s e q B) (fun y b=>r i n y b N) (fun y b=>r j u y b s) aB G Z
   have p:∀ k E,f[k]?=some E->k≠i->(L.setIfInBounds j true).getD k true=false->
    (∀ d∈E.after,Region.binds g d=true->d.on≠i)->n.apart f E=true:=fun k E aE R C W=>by
    refine l k E aE R ?_ W
    by_cases A:j=k
    ·subst A;exact q
    ·rw[getD_set_ne true A] at C;exact C
   refine wpOp_mono (fun b x J=>⟨J.2.1,aF (L.setIfInBounds j true) b x p (ready_mono t (Ne.symm e)) J.1 ?_⟩) aA;rw[D_ _ _ e];exact J.2.2
theorem tp(i:Nat){m:Nat}{d:Array Bool}{a b:Act}{w:World}(h:gb P g f Q S T m d b w)
 (e:f[i]?=some n:=by rfl) (q:Region.noSelect f=true:=by kernel_rfl) (y:Region.free g f L i=true:=by kernel_rfl) (p:(Region.ready g f L).contains i=true:=by kernel_rfl) (l:T i=true:=by rfl)
 (k:∀ c a w,Q (.panic c) (a.put n.dst v) w->Q (.panic c) a w:=by exact fun _ _ _ h=>h) (r:YieldsIf P f (fun _=>True) n v a:=by refine mq ⟨by rfl,?_⟩;intro s _;go_simp;try with_reducible rfl)
 (j:L.setIfInBounds i true=d:=by(try simp only [List.setIfInBounds_toArray,List.set_cons_zero,List.set_cons_succ]);(try rfl)) (o:a.put n.dst v=b:=by(try simp only [Act.put,List.getElem_toArray,List.getElem_cons_zero,List.getElem_cons_succ,List.setIfInBounds_toArray,List.set_cons_zero,List.set_cons_succ]);(try rfl)):gb P g f Q S T (m+1) L a w:=
 zS e (Ec q) k l m L a w (Ei e y) (by simpa using p) r (by rw[j,o];exact h)
def i_(g:Region.Mode)(f:Array Oper):Nat->Nat->Nat->Bool
 |0,k,i=>jM g f k i
 |d+1,k,i=>jM g f k i||(List.range f.size).any fun m=>jM g f k m&&i_ g f d m i
theorem DM{d k:Nat}(h:i_ g f d k i=true):i_ g f (d+1) k i=true:=by
 induction d generalizing k with
 |zero=>
  unfold i_ at h⊢;rw[h];rfl
 |succ d b=>
  unfold i_ at h⊢;rw[yM] at h⊢
  rcases h with h|h
  ·exact .inl h
  ·rw[List.any_eq_true] at h;obtain⟨m,a,q⟩:=h;rw[mo] at q;exact .inr (List.any_eq_true.2 ⟨m,a,by rw[q.1,b q.2];rfl⟩)
def wH(g:Region.Mode)(f:Array Oper)(L:Array Bool)(i:Nat):Bool:=(List.range f.size).all fun k=>!i_ g f 4 k i||!L.getD k true
theorem zT{d k:Nat}(h:i_ g f d k i=true):k<f.size:=by
 cases d with
 |zero=>exact l9 h
 |succ d=>
  unfold i_ at h;rw[yM] at h
  rcases h with h|h
  ·exact l9 h
  ·rw[List.any_eq_true] at h;obtain⟨m,a,q⟩:=h;rw[mo] at q;exact l9 q.1
theorem wI{k:Nat}(h:wH g f L i=true)(b:i_ g f 4 k i=true):L.getD k true=false:=by
 unfold wH at h;rw[qs] at h;have a:=h k (List.mem_range.2 (zT b));rw[b] at a
 simpa using a
theorem DO{j:Nat}{o:Oper}(p:wH g f L i=true)(k:f[j]?=some o)(h:∀ e∈o.after,Region.binds g e=true->e.on≠i)(b:∀ e∈o.after,Region.binds g e=true->L.getD e.on true=true):i_ g f 4 j i=false:=by
 rcases a:i_ g f 4 j i with _|_
 ·rfl
 ·unfold i_ at a;rw[yM,qR k h] at a
  rcases a with a|a
  ·cases a
  ·rw[List.any_eq_true] at a;obtain⟨m,t,q⟩:=a;rw[mo] at q;have s:=wI p (DM q.2);have c:=q.1;unfold jM at c;rw[k] at c;rw[Array.any_eq_true'] at c;obtain⟨e,r,d⟩:=c;rw[mo] at d;have n:e.on=m:=by simpa using d.2
   have l:=b e r d.1;rw[n,s] at l;cases l
end
theorem jP.put{w:World}{F:Nat->Prop}{L sz A c:Nat}{l:List Nd}{z nd:Nd}{d:List Value}(h:jP w F L sz A c (l++[z]))(P:d.length=sz)(Q:ah w F nd d):
 w.there A (l.length*sz) sz/\jP (w.setCells A (l.length*sz) d) F L sz A c (l++[nd]):=by
 obtain⟨n,s,t,J,u,M,H⟩:=h
 have x:∀ j,j<c*sz->w.cell? ⟨A,j,none⟩=some (n j):=fun j a=>by
  obtain⟨b,f,e,q⟩:=u.cell j a;simp only [Option.some.injEq,Addr.mk.injEq,and_true] at e;obtain⟨rfl,rfl⟩:=e;rw[gW] at q;exact q
 have y:∀ j,j<c*sz->w.frozen? ⟨A,j,none⟩=false:=fun j a=>by
  obtain⟨b,f,e,_,q⟩:=M j a;simp only [Option.some.injEq,Addr.mk.injEq,and_true] at e;obtain⟨rfl,rfl⟩:=e;rw[gW] at q;exact q
 have m:=u.le;rw[iQ,List.length_singleton] at m;have G:(l.length+1)*sz<=c*sz:=jX _ m;rw[jd] at G
 have D:∀ j,j<sz->(w.setCells A (l.length*sz) d).cell? ⟨A,l.length*sz+j,none⟩=d[j]?:=fun j a=>by
  rw[Ac A d (l.length*sz) w (fun k E=>by rw[x _ O];rfl) j O];exact(fv O).symm
 have p:∀ j,j<c*sz->¬(l.length*sz<=j/\j<l.length*sz+sz)->(w.setCells A (l.length*sz) d).cell? ⟨A,j,none⟩=some (n j):=fun j a C=>by
  rw[qm _ _ _ _ _ (fun _ _=>by
   show j<l.length*sz\/l.length*sz+d.length<=j
   omega)]
  exact x j a
 have E:∀ b f v,F b->w.cell? ⟨b,f,none⟩=some v->(w.setCells A (l.length*sz) d).cell? ⟨b,f,none⟩=some v:=fun b f v N R=>by
  rw[i' (w:=w) (iL A _ _ _ _ (fun e=>J (by rw[<-show b=A from e];exact N)))];exact R
 refine⟨fun j a=>⟨by rw[x _ O];rfl,y _ O⟩,fun j=>if l.length*sz<=j/\j<l.length*sz+sz then(d[j-l.length*sz]?).getD undef else n j,s,gi t (ew A (aw A) _ _ _).size,J,⟨by rw[iQ];exact m,u.mx,fun j a=>⟨A,0,rfl,?_⟩⟩,fun j a=>⟨A,0,rfl,s,?_⟩,fun i r o=>?_⟩
 ·rw[gW]
  by_cases q:l.length*sz<=j/\j<l.length*sz+sz
  ·have:=D (j-l.length*sz) O;rw[show l.length*sz+(j-l.length*sz)=j from O] at this;rw[this];simp only [q,and_self,if_true];rw[fv O];rfl
  ·rw[p j a q,if_neg q]
 ·rw[sX,gW];exact y j a
 ·by_cases g:i<l.length
  ·rw[lg g] at o
   have e:((List.range sz).map fun j=>if l.length*sz<=i*sz+j/\i*sz+j<l.length*sz+sz then(d[i*sz+j-l.length*sz]?).getD undef else n (i*sz+j))=(List.range sz).map fun j=>n (i*sz+j):=by
    apply o7;intro j a;have a:j<sz:=by simpa using a
    have:(i+1)*sz<=l.length*sz:=jX _ g;rw[jd] at this;rw[if_neg O]
   rw[e];exact ah.a6 (fun _ h=>h) E (H i r (by rw[lg g];exact o))
  ·have B:i=l.length:=by
    have:=(List.getElem?_eq_some_iff.1 o).1;simp at this;omega
   subst B;rw[kC (aw _),qt] at o;have I:nd=r:=f_ o;subst I
   have e:((List.range sz).map fun j=>if l.length*sz<=l.length*sz+j/\l.length*sz+j<l.length*sz+sz then(d[l.length*sz+j-l.length*sz]?).getD undef else n (l.length*sz+j))=d:=by
    apply xf
    ·simp[P]
    ·intro i s t;simp[show i<sz from O,t]
   rw[e];exact ah.a6 (fun _ h=>h) E Q
section
variable {G:Gh} {M:Nat->Prop} {d:Option Addr} {t:Nat} {m:Option Addr} {r:Nat} {w u w2:World} {s s1 s2:al} {bs:List (Nat×Array Value)} {ts:List (Nd×List Value)} {sz c:Nat} {l:List Nd} {a:Option Addr}
theorem Bd.Mc{z nd:Nd}{i:List Value}(h:Bd G M d t m r w s [(sz,l++[z],a,c)] bs ts u s1)(N:i.length=sz)(P:ah u (Own G.B w.heap.size u.heap.size (VM M w bs)) nd i):
 ∃ A,a=some ⟨A,0,none⟩/\u.there A (l.length*sz) sz/\Bd G M d t m r w s [(sz,l++[nd],a,c)] bs ts (u.setCells A (l.length*sz) i) s1:=by
 rcases h.rw _ (.head _) with⟨e,_⟩|⟨A,e,x,I⟩
 ·simp at e
 have e:a=some ⟨A,0,none⟩:=e;have B:w.heap.size<=A:=h.lo _ x;obtain⟨F,H⟩:=jP.put (l:=l) I N P;have j:Below A u (u.setCells A (l.length*sz) i):=ew A (aw A) _ _ _;have D:∀ b,b≠A->(u.setCells A (l.length*sz) i).heap[b]?=u.heap[b]?:=fun b j=>iL A _ _ _ _ j
 have g:(u.setCells A (l.length*sz) i).heap.size=u.heap.size:=by
  have:∀ (y:List Value) (o:Nat) (w:World),(w.setCells A o y).heap.size=w.heap.size:=by
   intro y
   induction y with
   |nil=>intro o w;rfl
   |cons v y Q=>intro o w;exact(Q (o+1) _).trans (by simp[World.setCell])
  exact this _ _ _
 have S:=h.bB;have J:¬M A:=h.nq _ x
 have C:∀ b,Own G.B w.heap.size u.heap.size (VM M w bs) b->b≠A:=by
  rintro b f rfl
  rcases f with q|q
  ·omega
  ·exact q.2.2 (.inl ⟨_,x,rfl⟩)
 refine⟨A,e,F,h.kn.low j O B,h.ps.a6 (j.mono O) (fun k L=>D k fun e=>J (by rw[<-e];exact L)),h.sc,h.i,h.bl,h.nq,fun p n=>?_,h.lo,h.dj,fun p n=>(h.tr p n).on (fun b f=>D b (C b f)) (fun b f=>by rw[g];exact f),fun q f=>?_⟩
 ·by_cases q:p.2=#[]
  ·exact⟨by rw[g];exact(h.bw p n).1,fun R=>absurd q R⟩
  ·exact(h.bw p n).a6 (D _ fun E=>q (by rw[pS h.dj n x E])) j.size
 ·rcases List.mem_singleton.1 f with rfl
  exact .inr ⟨A,e,x,by rw[g];exact H⟩
end
theorem Bd.eu{G:Gh}{M:Nat->Prop}{d:Option Addr}{t:Nat}{m:Option Addr}{r:Nat}{w u:World}{s s1:al}{b:List (Nat×List Nd×Option Addr×Nat)}{bs:List (Nat×Array Value)}{ts:List (Nd×List Value)}{a:Nat}{cs:Array Value}(h:Bd G M d t m r w s b ((a,cs)::bs) ts u s1)(j:Nat)(v:Value)(c:j<cs.size:=by simp):Bd G M d t m r w s b ((a,cs.setIfInBounds j v)::bs) ts (u.setCell ⟨a,j,none⟩ v) s1:=h.set 0 j v rfl c
section
variable {P:Program} {f:Array Oper} {Q:Exit->Act->World->Prop} {g:Region.Mode} {S:World->Prop} {T:Nat->Bool}
def wJ(g:Region.Mode)(f:Array Oper)(T:Nat->Bool)(L:Array Bool)(i:Nat):Bool:=!T i&&(List.range f.size).all fun j=>!T j||L.getD j true||i_ g f 4 j i
theorem zU(aC:f[i]?=some n)(z:∀ (j:Nat) (o:Oper) D b,f[j]?=some o->o.op≠.select D b)
 (aK:∀ c a w,Q (.panic c) (a.put n.dst v) w->Q (.panic c) a w):
 ∀ (m:Nat) (L:Array Bool) (a:Act) (w:World),wJ g f T L i=true->
   (∀ j B,f[j]?=some B->j≠i->L.getD j true=false->(∀ e∈B.after,Region.binds g e=true->e.on≠i)->n.apart f B=true)->
   wH g f L i=true->i∈Region.ready g f L->YieldsIf P f S n v a->S w->
   gb P g f Q S T m (L.setIfInBounds i true) (a.put n.dst v) w->gb P g f Q S T (m+1) L a w:=by
 intro m
 induction m with
 |zero=>
  intro L a w _ _ _ A W E H;refine⟨fun h=>(by rw[h] at A;cases A),fun j N=>?_⟩
  by_cases e:j=i
  ·subst e;exact W.wpOp aC E ⟨fun _=>E,H⟩
  ·have:=ready_mono N e;rw[H.1] at this;cases this
 |succ m aP=>
  intro L a w s p aH A W E H;refine⟨fun h=>(by rw[h] at A;cases A),fun j N=>?_⟩
  by_cases e:j=i
  ·subst e;exact W.wpOp aC E ⟨fun _=>E,H⟩
  ·have aJ:=H.2 j (ready_mono N e);obtain⟨r,B,l,u⟩:=mem_ready.1 N
   have y:∀ d∈B.after,Region.binds g d=true->d.on≠i:=fun d aM aA aB=>by
    have I:=u d aM aA;have aI:=(mem_ready.1 A).1;rw[aB] at I
    rcases gr i L.size with X|X
    ·simp[X] at aI I;rw[aI] at I;cases I
    ·simp[Array.getElem?_eq_none X] at I
   have Y:i_ g f 4 j i=false:=DO aH l y (fun e aN aA=>(by have:=u e aN aA;rcases aO:L[e.on]? with _|q<;>simp[aO] at this⊢;exact this))
   have aE:j<f.size:=by
    rcases gr j f.size with k|k
    ·exact k
    ·rw[Hl k] at l;cases l
   have aL:T j=false:=by
    unfold wJ at s;rw[mo,qs] at s;have C:=s.2 j (List.mem_range.2 aE);rw[Y,r] at C
    simpa using C
   have aG:wJ g f T (L.setIfInBounds j true) i=true:=by
    unfold wJ at s⊢;rw[mo,qs] at s⊢;refine⟨s.1,fun k R=>?_⟩;have C:=s.2 k R
    by_cases e:j=k
    ·subst e
     have:(L.setIfInBounds j true).getD j true=true:=by
      rcases gr j L.size with q|q
      ·simp[q]
      ·simp[Array.getElem?_eq_none,q]
     rw[this];simp
    ·rw[getD_set_ne true e];exact C
   have Z:wH g f (L.setIfInBounds j true) i=true:=by
    unfold wH;rw[qs];intro k R
    rcases s:i_ g f 4 k i with _|_
    ·rfl
    ·have e:j≠k:=fun e=>by subst e;rw[s] at Y;cases Y
     rw[getD_set_ne true e,wI aH s];rfl
   have C:=wpOp_putIf l (p j B l e r y) (fun D b=>z i n D b aC) (fun D b=>z j B D b l) aK W aJ
   have t:∀ k J,f[k]?=some J->k≠i->(L.setIfInBounds j true).getD k true=false->
    (∀ d∈J.after,Region.binds g d=true->d.on≠i)->n.apart f J=true:=fun k J R aD G aF=>by
    refine p k J R aD ?_ aF
    by_cases F:j=k
    ·subst F;exact r
    ·rw[getD_set_ne true F] at G;exact G
   refine wpOp_mono (fun b x M=>⟨M.2.1,aP (L.setIfInBounds j true) b x aG t Z (ready_mono A (Ne.symm e)) M.1 (M.2.1 aL) ?_⟩) C;rw[D_ _ _ e];exact M.2.2
theorem tl(i:Nat){m:Nat}{e:Array Bool}{a b:Act}{w:World}(p:S w)(h:gb P g f Q S T m e b w)
 (j:f[i]?=some n:=by rfl) (s:Region.noSelect f=true:=by kernel_rfl) (y:Region.free g f L i=true:=by kernel_rfl) (r:(Region.ready g f L).contains i=true:=by kernel_rfl) (t:wJ g f T L i=true:=by kernel_rfl) (l:wH g f L i=true:=by kernel_rfl)
 (o:∀ c a w,Q (.panic c) (a.put n.dst v) w->Q (.panic c) a w:=by exact fun _ _ _ h=>h) (u:YieldsIf P f S n v a:=by refine mq ⟨by rfl,?_⟩;intro z d;(repeat (have x:=And.left d;replace d:=And.right d));go_simp;try with_reducible rfl)
 (k:L.setIfInBounds i true=e:=by(try simp only [List.setIfInBounds_toArray,List.set_cons_zero,List.set_cons_succ]);(try rfl)) (q:a.put n.dst v=b:=by(try simp only [Act.put,List.getElem_toArray,List.getElem_cons_zero,List.getElem_cons_succ,List.setIfInBounds_toArray,List.set_cons_zero,List.set_cons_succ]);(try rfl)):gb P g f Q S T (m+1) L a w:=
 zU j (Ec s) o m L a w t (Ei j y) l (by simpa using r) u p (by rw[k,q];exact h)
end
def Ma:Value:=.agg #[.int .i64 0,.bool false]
theorem Jt:Tryz.prog.underlying 50=some (.slice 66):=aq
theorem MW:(Tryz.prog.info? 66).map (fun i=>(i.zero,i.size,i.bytes))=some (some Ma,2,16):=aq
theorem SF.c{w a:World}{g n:Nat}{b i:Array Value}{d m:Option Addr}{f c:Option Addr×Nat}{k t l r:Nat}{C y:Nat->Value}(h:SF w f c B g n b i d k t C m l r y a)(j:Nat)(hj:j<b.size)(e:cellAt b j=v):a.cell? ⟨g,j,none⟩=some v:=by
 have:=h.bx.2.2 j hj;rw[gW,e] at this;exact this
theorem wv(a:Array Value)(j k:Nat)(v:Value)(h:j≠k):cellAt (a.setIfInBounds j v) k=cellAt a k:=by
 unfold cellAt;simp only [getElem!_def,Array.getElem?_setIfInBounds_ne h]
def qD(cur:World)(B:Nat)(a:Option Addr)(n c sz:Nat)(h0:Nat->Value):Prop:=∃ h,d' cur a n c sz h/\dh cur B a (c*sz)/\∀ i,i<n*sz->h i=h0 i
theorem qD.made{w w':World}{n c sz q:Nat}{a l:Option Addr}{k g s:Nat->Value}{z:Value}(A:d' w a n c sz k)(N:dh w B a (c*sz))(y:s=k/\l=a/\q=c\/s=jH z/\l=some ⟨w.heap.size,0,none⟩/\w.heap.size<w'.heap.size/\∀ p:Addr,p.block<w.heap.size->w'.cell? p=w.cell? p)
 (m:d' w' l (n+1) q sz (c6 k (n*sz) sz g s)) (u:dh w' B l (q*sz)) (D:Kq w w' a (n*sz) ((n+1)*sz)) (t:∀ b o,a=some ⟨b,o,none⟩->b<w.heap.size):qD w' B a n c sz k:=by
 rcases y with⟨_,rfl,rfl⟩|⟨_,rfl,_,f⟩
 ·exact⟨_,⟨Nat.le_of_succ_le m.le,m.mx,m.cell⟩,u,fun i C=>by unfold c6;rw[if_pos C]⟩
 ·refine⟨k,⟨A.le,A.mx,fun j r=>?_⟩,fun j r=>?_,fun _ _=>rfl⟩
  ·obtain⟨b,d,e,h⟩:=A.cell j r;exact⟨b,d,e,(f _ (t b d e)).trans h⟩
  ·obtain⟨b,d,e,v,x⟩:=N j r;exact⟨b,d,e,v,(D.kp.frozen _ (t b d e)).trans x⟩
theorem qD.blocks{w w':World}{n c sz:Nat}{a:Option Addr}{e:Nat->Value}(h:qD w B a n c sz e)(f:∀ b d,a=some ⟨b,d,none⟩->w'.heap[b]?=w.heap[b]?):qD w' B a n c sz e:=by
 obtain⟨g,i,j,k⟩:=h;exact⟨g,i.blocks f,j.blocks f,k⟩
theorem E5(w:World)(B p o:Nat)(P:Array Value)(d:Option Addr)(t:Nat)(C:Nat->Value)(m:Option Addr)(r:Nat)(y:Nat->Value)(n:Nat)(aB:List UInt8)(z:Int)(A:Bool)(bF:n<=100000)(aT:B<=p)(aK:B<=w.heap.size)(aV:cc w p P)(bD:o+1<P.size)(aM:cellAt P o=.slice d n t)(aN:cellAt P (o+1)=.slice m n r)
 (an:d' w d n t 1 C) (wn:dh w B d (t*1)) (af:d' w m n r 2 y) (wf:dh w B m (r*2)) (ln:∀ b o,d=some ⟨b,o,none⟩->b<w.heap.size/\b≠p) (lf:∀ b o,m=some ⟨b,o,none⟩->b<w.heap.size/\b≠p) (aW:∀ b bK aX,d=some ⟨b,bK,none⟩->m=some ⟨b,aX,none⟩->False):
 Calls Tryz.prog 20 #[.pointer (some ⟨p,o,none⟩),.string ⟨aB.toArray⟩,.agg (kz z A)] w fun e b6=>e=.returned (.tuple #[])/\∃ F D E aP G H aY,SF w (d,t) (m,r) B p F ((P.setIfInBounds o (.slice D (n+1) E)).setIfInBounds (o+1) (.slice G (n+1) H)) (kz z A) D (n+1) E (c6 C (n*1) 1 (cellAt (jk aB)) aP) G (n+1) H (c6 y (n*2) 2 (cellAt (kz z A)) aY) b6/\qD b6 B d n t 1 C/\qD b6 B m n r 2 y:=by
 have c:=ab w (.cells (kz z A) 66);have aU:=aV.1
 have a:Hid (SF w (d,t) (m,r) B p w.heap.size P (kz z A) d n t C m n r y (w.alloc (.cells (kz z A) 66)).drew):=U ⟨(c.mono aK).drew,fy aK c.size,(aV.bl c).bl (eA _ _).drew,(cc.new w _ 66).bl (eA _ _).drew,an.blocks (fun b o e=>c.block b (ln b o e).1),wn.blocks (fun b o e=>c.block b (ln b o e).1),af.blocks (fun b o e=>c.block b (lf b o e).1),wf.blocks (fun b o e=>c.block b (lf b o e).1),
  fun b o e=>⟨gi (ln b o e).1 c.size,(ln b o e).2,ba ((ln b o e).1)⟩,fun b o e=>⟨gi (lf b o e).1 c.size,(lf b o e).2,ba ((lf b o e).1)⟩,aW,c.size,.inl rfl,.inl rfl,fun k bJ _ _ _=>c.block k bJ⟩
 have aI:Hid (B<=p/\w.heap.size≠p):=U ⟨aT,O⟩;have f:Hid (o+1<P.size/\cellAt P o=.slice d n t/\cellAt P (o+1)=.slice m n r):=U ⟨bD,aM,aN⟩;have I:=U (b4 ln (b4 lf aW));clear an wn af wf ln lf aW aV c bD aM aN;go_enter Tryz.func20,Tryz.ntmps20
 go_upto_region 1 with fail
 obtain⟨F,aO⟩:∃ F,w.heap.size=F:=⟨_,rfl⟩;rw[aO] at a aI⊢;clear aO aU;refine b3 (S:=fun aQ=>aQ.cell? ⟨p,o,none⟩=some (.slice d n t)/\aQ.cell? ⟨p,o+1,none⟩=some (.slice m n r)/\aQ.cell? ⟨F,0,none⟩=some (.int .i64 z)/\aQ.cell? ⟨F,1,none⟩=some (.bool A)) (T:=fun j=>j==1||j==18||j==19||j==20||j==21) aq ?_;generalize (w.alloc (.cells (kz z A) 66)).drew=aC at a⊢;have bE:∀ W:World,SF w (d,t) (m,r) B p F P (kz z A) d n t C m n r y W->W.cell? ⟨p,o,none⟩=some (.slice d n t)/\W.cell? ⟨p,o+1,none⟩=some (.slice m n r)/\W.cell? ⟨F,0,none⟩=some (.int .i64 z)/\W.cell? ⟨F,1,none⟩=some (.bool A):=fun W h=>⟨h.c o (xe f.1) f.2.1,h.c (o+1) f.1 f.2.2,h.bt.2.2 0 (show 0<2 from O),h.bt.2.2 1 (show 1<2 from O)⟩;have aJ:=U bE;clear bE;have u:=aJ.out _ a.out;refine tp 1 ?_;refine tl 0 u ?_;refine tl 2 u ?_;refine tl 3 u ?_;refine tl 4 u ?_;refine tl 5 u ?_;refine tl 6 u ?_;refine tl 9 u ?_;refine tl 10 u ?_;refine tl 11 u ?_;refine tl 12 u ?_;refine tl 13 u ?_;refine gC (i:=7) (j:=14) aq rfl rfl (fun K hK=>?_) (fun K hK=>?_)
 focus
  go_simp;have c:=ab aC (m' aB);have s:=U (cc.new aC (jk aB) 9);have a:=U (a.below c);obtain⟨bA,l⟩:∃ x,aC.heap.size=x:=⟨_,rfl⟩;rw[l] at s⊢;clear l c;generalize aC.alloc _=Q at s a⊢;refine nx hK (aJ.out _ a.out) ?_;clear hK K;refine gC (i:=8) (j:=14) aq rfl rfl (fun K hK=>?_) (fun K hK=>?_)
  focus
   rw[if_pos (by rfl)];refine hO Q (some 14) rfl _ _ 33 33 rfl 9 9 pJ 1 16 Tryz.underlying33 Tryz.underlying33 Tryz.sF rfl O B a.bs d n t C (cellAt (jk aB)) bA 0 1 (by rfl) (by rfl) a.an a.wn s.2.2 (ib (jk aB) (by rfl)) O O ?_;intro D E aP R X M N aA L;have q:=U (qD.made a.an a.wn X M N L fun b o e=>(a.ln b o e).1);have bM:=U (aA.size);have a:=U (a.names X M N aA L.gM);clear X M N aA L;have aL:R.cell? ⟨p,o,none⟩=some (.slice d n t)/\R.cell? ⟨p,o+1,none⟩=some (.slice m n r)/\R.cell? ⟨F,0,none⟩=some (.int .i64 z)/\R.cell? ⟨F,1,none⟩=some (.bool A):=⟨a.c o (xe f.1) f.2.1,a.c (o+1) f.1 f.2.2,a.bt.2.2 0 (show 0<2 from O),a.bt.2.2 1 (show 1<2 from O)⟩;refine nx hK aL ?_;clear hK K;refine cw 14 fun K hK=>?_;go_simp;have c:=ab R (.cells (kz z A) 66);have g:=U (cc.new R (kz z A) 66);have q:=U (q.blocks fun b o e=>c.block b (lQ ((I.1 b o e).1) a.sz));have a:=U (a.below c);obtain⟨bC,l⟩:∃ x,R.heap.size=x:=⟨_,rfl⟩;rw[l] at g⊢;clear l c;generalize R.alloc _=Z at g a q⊢;have aG:Z.cell? ⟨p,o,none⟩=some (.slice d n t)/\Z.cell? ⟨p,o+1,none⟩=some (.slice m n r)/\Z.cell? ⟨F,0,none⟩=some (.int .i64 z)/\Z.cell? ⟨F,1,none⟩=some (.bool A):=⟨a.c o (xe f.1) f.2.1,a.c (o+1) f.1 f.2.2,a.bt.2.2 0 (show 0<2 from O),a.bt.2.2 1 (show 1<2 from O)⟩;refine nx hK aG ?_;clear hK K aL
  rotate_left 1
  focus
   go_simp;have c:=ab Q (.cells (kz z A) 66);have g:=U (cc.new Q (kz z A) 66);have s:=U (s.bl c);have aF:Hid (∀ o,d≠some ⟨Q.heap.size,o,none⟩):=U fun o e=>ba ((a.ln _ _ e).1)
   have a:=U (a.below c);obtain⟨bC,l⟩:∃ x,Q.heap.size=x:=⟨_,rfl⟩;rw[l] at g aF⊢;clear l c;generalize Q.alloc _=R at g a s aF⊢;refine nx hK (aJ.out _ a.out) ?_;clear hK K
 rotate_left 2
 focus
  go_simp;have c:=ab aC (.cells (kz z A) 66);have g:=U (cc.new aC (kz z A) 66);have aF:Hid (∀ o,d≠some ⟨aC.heap.size,o,none⟩):=U fun o e=>ba ((a.ln _ _ e).1)
  have a:=U (a.below c);obtain⟨bC,l⟩:∃ x,aC.heap.size=x:=⟨_,rfl⟩;rw[l] at g aF⊢;clear l c;generalize aC.alloc _=Q at g a aF⊢;refine nx hK (aJ.out _ a.out) ?_;clear hK K;refine cw 7 fun K hK=>?_;go_simp;have c:=ab Q (m' aB);have s:=U (cc.new Q (jk aB) 9);have g:=U (g.bl c);have a:=U (a.below c);obtain⟨bA,l⟩:∃ x,Q.heap.size=x:=⟨_,rfl⟩;rw[l] at s⊢;clear l c;generalize Q.alloc _=R at s a g⊢;refine nx hK (aJ.out _ a.out) ?_;clear hK K
 all_goals (first
  |(refine cw 8 fun K hK=>?_
    rw[if_pos (by rfl)];refine hO R (some 14) rfl _ _ 33 33 rfl 9 9 pJ 1 16 Tryz.underlying33 Tryz.underlying33 Tryz.sF rfl O B a.bs d n t C (cellAt (jk aB)) bA 0 1 (by rfl) (by rfl) a.an a.wn s.2.2 (ib (jk aB) (by rfl)) O O ?_;intro D E aP Z X M N aA L;have q:=U (qD.made a.an a.wn X M N L fun b o e=>(a.ln b o e).1);have g:=U (g.a6 (L.gM _ g.1 (aF.out)) aA.size);have a:=U (a.names X M N aA L.gM);clear X M N aA L s aF;have aG:Z.cell? ⟨p,o,none⟩=some (.slice d n t)/\Z.cell? ⟨p,o+1,none⟩=some (.slice m n r)/\Z.cell? ⟨F,0,none⟩=some (.int .i64 z)/\Z.cell? ⟨F,1,none⟩=some (.bool A):=⟨a.c o (xe f.1) f.2.1,a.c (o+1) f.1 f.2.2,a.bt.2.2 0 (show 0<2 from O),a.bt.2.2 1 (show 1<2 from O)⟩;refine nx hK aG ?_
    clear hK K)
  |skip)
 all_goals
  refine cw 15 fun K hK=>?_;rw[if_pos (by rfl)];refine hO Z (some 21) rfl _ _ 50 50 rfl 66 66 Ma 2 16 Jt Jt MW rfl O B a.bs m n r y (cellAt (kz z A)) bC 0 1 (by rfl) (by rfl) a.af a.wf g.2.2 (ib (kz z A) (by rfl)) O O ?_;intro G H aY aE X M N aA L;have J:=U (qD.made a.af a.wf X M N L fun b o e=>(a.lf b o e).1);have q:=U (q.blocks fun b o e=>L.gM b (lQ ((I.1 b o e).1) a.sz) fun aX bH=>I.2.2 b o aX e bH);have a:=U (a.MY X M N aA L.gM);clear X M N aA L g;have aD:aE.cell? ⟨p,o,none⟩=some (.slice d n t)/\aE.cell? ⟨p,o+1,none⟩=some (.slice m n r)/\aE.cell? ⟨F,0,none⟩=some (.int .i64 z)/\aE.cell? ⟨F,1,none⟩=some (.bool A):=⟨a.c o (xe f.1) f.2.1,a.c (o+1) f.1 f.2.2,a.bt.2.2 0 (show 0<2 from O),a.bt.2.2 1 (show 1<2 from O)⟩;refine nx hK aD ?_;clear hK K;refine tl 16 aD ?_;refine tl 17 aD ?_;refine cw 18 fun K hK=>?_;have bL:=aD.1;have aZ:=a.bx.2.1;go_simp;clear bL aZ;have Y:∀ (W:World) (j:Nat) (v:Value) b,b≠p->(W.setCell ⟨p,j,none⟩ v).heap[b]?=W.heap[b]?:=fun W j v b bI=>h3 _ _ _ _ bI;have q:=U (q.blocks fun b aH e=>Y aE o (.slice D (n+1) E) b (I.1 b aH e).2);have J:=U (J.blocks fun b aH e=>Y aE o (.slice D (n+1) E) b (I.2.1 b aH e).2);have a:=U (a.set aI.1 aI.2 o (xe f.1) (.slice D (n+1) E));have bG:(aE.setCell ⟨p,o,none⟩ (.slice D (n+1) E)).cell? ⟨p,o+1,none⟩=some (.slice m n r):=a.c (o+1) (by simpa using f.1) ((wv P o (o+1) _ O).trans f.2.2);generalize aE.setCell ⟨p,o,none⟩ (.slice D (n+1) E)=aR at a q J bG⊢;refine oZ hK ?_;clear hK K;refine tp 19 ?_;refine tp 20 ?_;refine cw 21 fun K hK=>?_;have aZ:=a.bx.2.1;go_simp;clear bG aZ;have q:=U (q.blocks fun b aH e=>Y aR (o+1) (.slice G (n+1) H) b (I.1 b aH e).2);have J:=U (J.blocks fun b aH e=>Y aR (o+1) (.slice G (n+1) H) b (I.2.1 b aH e).2);have a:=U (a.set aI.1 aI.2 (o+1) (by simpa using f.1) (.slice G (n+1) H));generalize aR.setCell ⟨p,o+1,none⟩ (.slice G (n+1) H)=bN at a q J⊢;clear Y;refine oZ hK ?_;clear hK K;refine bj aq ?_ _
  go_wp2_with fail
  go_end0;exact⟨rfl,F,D,E,aP,G,H,aY,a.out,q.out,J.out⟩
theorem Ju(w:World)(B i:Nat)(d:Option Addr)(t:Nat)(C:Nat->Value)(m:Option Addr)(r:Nat)(y:Nat->Value)(n:Nat)(s:List UInt8)(k:Int)(l:Bool)(j:n<=100000)(p:B<=i)(q:B<=w.heap.size)(F:cc w i #[.slice d n t,.slice m n r])
 (D:d' w d n t 1 C) (N:dh w B d (t*1)) (A:d' w m n r 2 y) (M:dh w B m (r*2)) (H:∀ b o,d=some ⟨b,o,none⟩->b<w.heap.size/\b≠i) (G:∀ b o,m=some ⟨b,o,none⟩->b<w.heap.size/\b≠i) (I:∀ b J L,d=some ⟨b,J,none⟩->m=some ⟨b,L,none⟩->False):
 Calls Tryz.prog 20 #[.pointer (some ⟨i,0,none⟩),.string ⟨s.toArray⟩,.agg (kz k l)] w fun e z=>e=.returned (.tuple #[])/\∃ x f g u a c v,SF w (d,t) (m,r) B i x #[.slice f (n+1) g,.slice a (n+1) c] (kz k l) f (n+1) g (c6 C (n*1) 1 (cellAt (jk s)) u) a (n+1) c (c6 y (n*2) 2 (cellAt (kz k l)) v) z:=by
 refine(E5 w B i 0 #[.slice d n t,.slice m n r] d t C m r y n s k l j p q F ar rfl rfl D N A M H G I).mono ?_;rintro e z ⟨E,x,f,g,u,a,c,v,h,-⟩;exact⟨E,x,f,g,u,a,c,v,by simpa using h⟩
def qE(i:Nat):List UInt8:=[[42,32,47,32,100,105,118,32,109,111,100],[43,32,45,32,94],[58,58,32,64],[61,32,60,62,32,60,32,60,61,32,62,32,62,61],[58,61,32,111]][i]?.getD []
def iN(i:Nat):List (List UInt8):=[[[42],[47],[100,105,118],[109,111,100]],[[43],[45],[94]],[[58,58],[64]],[[61],[60,62],[60],[60,61],[62],[62,61]],[[58,61],[111]]][i]?.getD []
def rW(i:Nat):Nat:=[0,4,7,9,15,17][i]?.getD 17
theorem BJ:∀ i,i<5->Lib.fields (qE i)=iN i:=by decide+kernel
theorem DE:∀ i,i<5->∀ b∈qE i,b.toNat<128:=bh
theorem Jv:∀ i,i<5->(qE i).length<=100/\rW (i+1)=rW i+(iN i).length/\(iN i).length<=100/\rW i<=17:=bh
theorem La(i:Nat)(b:i<5)(j:Nat)(c:j<(iN i).length):ez[rW i+j]?=some ⟨(iN i)[j]?.getD [],7-(i:Int),((i:Int)==2)⟩:=by
 have h:i=0\/i=1\/i=2\/i=3\/i=4:=O
 rcases h with rfl|rfl|rfl|rfl|rfl
 ·have a:j=0\/j=1\/j=2\/j=3:=by have:(iN 0).length=4:=rfl;omega
  rcases a with rfl|rfl|rfl|rfl<;>rfl
 ·have a:j=0\/j=1\/j=2:=by have:(iN 1).length=3:=rfl;omega
  rcases a with rfl|rfl|rfl<;>rfl
 ·have a:j=0\/j=1:=by have:(iN 2).length=2:=rfl;omega
  rcases a with rfl|rfl<;>rfl
 ·have a:j=0\/j=1\/j=2\/j=3\/j=4\/j=5:=by have:(iN 3).length=6:=rfl;omega
  rcases a with rfl|rfl|rfl|rfl|rfl|rfl<;>rfl
 ·have a:j=0\/j=1:=by have:(iN 4).length=2:=rfl;omega
  rcases a with rfl|rfl<;>rfl
structure BG(w:World)(k:Nat)(d:Option Addr)(t:Nat)(C:Nat->Value)(m:Option Addr)(r:Nat)(y:Nat->Value)(wr:World):Prop where
 bl:Below w.heap.size w wr
 bs:w.heap.size+3<=wr.heap.size
 bx:cc wr (w.heap.size+1) #[.slice d k t,.slice m k r]
 an:d' wr d k t 1 C
 wn:dh wr (w.heap.size+1) d (t*1)
 af:d' wr m k r 2 y
 wf:dh wr (w.heap.size+1) m (r*2)
 ln:∀ b o,d=some ⟨b,o,none⟩->b<wr.heap.size/\w.heap.size+3<=b
 lf:∀ b o,m=some ⟨b,o,none⟩->b<wr.heap.size/\w.heap.size+3<=b
 nf:∀ b o1 o2,d=some ⟨b,o1,none⟩->m=some ⟨b,o2,none⟩->False
 rs:cc wr w.heap.size #[.slice none 0 0,.slice none 0 0]
 rw:∀ i,i<5->wr.cell? ⟨w.heap.size+2,i,none⟩=some (.string ⟨(qE i).toArray⟩)
 ct:∀ j f,j<k->ez[j]?=some f->C j=.string ⟨f.name.toArray⟩/\y (2*j)=.int .i64 f.level/\y (2*j+1)=.bool f.right
section
variable {w wr w2:World} {k:Nat} {d m:Option Addr} {t r:Nat} {C y:Nat->Value}
theorem BG.below(h:BG w k d t C m r y wr)(a:Below wr.heap.size wr w2):BG w k d t C m r y w2:=
 ⟨h.bl.trans (a.mono (ba h.bs)),fy h.bs a.size,h.bx.bl a,h.an.blocks (fun b o e=>a.block b (h.ln b o e).1),h.wn.blocks (fun b o e=>a.block b (h.ln b o e).1),h.af.blocks (fun b o e=>a.block b (h.lf b o e).1),h.wf.blocks (fun b o e=>a.block b (h.lf b o e).1),
   fun b o e=>⟨gi (h.ln b o e).1 a.size,(h.ln b o e).2⟩,fun b o e=>⟨gi (h.lf b o e).1 a.size,(h.lf b o e).2⟩,h.nf,h.rs.bl a,fun i c=>(a.cell (p:=⟨w.heap.size+2,i,none⟩) (by have:=h.bs;show w.heap.size+2<_;omega)).trans (h.rw i c),h.ct⟩
theorem BG.push{B:List UInt8}{u:Int}{v:Bool}{L p g:Nat}{n c:Option Addr}{D E:Nat->Value}(h:BG w k d t C m r y wr)(J:ez[k]?=some ⟨B,u,v⟩)
 (s:SF wr (d,t) (m,r) (w.heap.size+1) (w.heap.size+1) L #[.slice n (k+1) p,.slice c (k+1) g] (kz u v) n (k+1) p (c6 C (k*1) 1 (cellAt (jk B)) D) c (k+1) g (c6 y (k*2) 2 (cellAt (kz u v)) E) w2):
 BG w (k+1) n p (c6 C (k*1) 1 (cellAt (jk B)) D) c g (c6 y (k*2) 2 (cellAt (kz u v)) E) w2:=by
 have H:=h.bs;have A:=s.sz;have z:w2.heap[w.heap.size+2]?=wr.heap[w.heap.size+2]?:=s.kp _ O O (fun o e=>ba ((h.ln _ o e).2)) (fun o e=>ba ((h.lf _ o e).2))
 refine⟨h.bl.trans (s.bl.mono (h5 _)),O,s.bx,s.an,s.wn,s.af,s.wf,fun b o e=>⟨(s.ln b o e).1,?_⟩,fun b o e=>⟨(s.lf b o e).1,?_⟩,s.nf,h.rs.a6 (s.bl.block _ (Nat.lt_succ_self _)) A,
  fun i I=>(i' (w:=wr) (a:=⟨w.heap.size+2,i,none⟩) z).trans (h.rw i I),fun j f M l=>?_⟩
 ·rcases s.n0 with q|q
  ·exact(h.ln b o ((congrArg Prod.fst q).symm.trans e)).2
  ·have:=q b o e;omega
 ·rcases s.f0 with q|q
  ·exact(h.lf b o ((congrArg Prod.fst q).symm.trans e)).2
  ·have:=q b o e;omega
 ·by_cases x:j<k
  ·obtain⟨F,c2,G⟩:=h.ct j f x l;refine⟨?_,?_,?_⟩
   ·unfold c6;rw[if_pos O];exact F
   ·unfold c6;rw[if_pos O];exact c2
   ·unfold c6;rw[if_pos O];exact G
  ·obtain rfl:j=k:=O
   rw[J] at l;cases l;refine⟨?_,?_,?_⟩
   ·unfold c6;rw[if_neg O,if_pos O,lp,qt];rfl
   ·unfold c6;rw[if_neg O,if_pos O,show 2*j-j*2=0 from O];rfl
   ·unfold c6;rw[if_neg O,if_pos O,show 2*j+1-j*2=1 from O];rfl
end
theorem CP(w:World)(D:∀ H,Below w.heap.size w H->Lib.TabIs Tryz.prog H "strings.asciiSpace" .u8 Lib.asciiSpaceTab):
 Calls Tryz.prog 11 #[] w fun e H=>∃ d t m r,e=.returned (.agg #[.slice d 17 t,.slice m 17 r])/\Below w.heap.size w H/\wV H w.heap.size d t m r ez/\(∀ b o,d=some ⟨b,o,none⟩->b<H.heap.size/\w.heap.size<=b)/\(∀ b o,m=some ⟨b,o,none⟩->b<H.heap.size/\w.heap.size<=b)/\∀ b bO bP,d=some ⟨b,bO,none⟩->m=some ⟨b,bP,none⟩->False:=by
 have Q:=U D;clear D;go_enter Tryz.func11,Tryz.ntmps11
 go_upto_region 3 with fail
 have Z:(w.alloc qe).heap.size=w.heap.size+1:=ar
 have aA:((w.alloc qe).alloc qe).heap.size=w.heap.size+2:=ar
 have aT:(((w.alloc qe).alloc qe).alloc (.cells He 9)).heap.size=w.heap.size+3:=ar
 have aC:=ab w qe;have aK:=ab (w.alloc qe) qe;have aD:=ab ((w.alloc qe).alloc qe) (.cells He 9)
 have E:Hid (BG w (rW 0) none 0 (fun _=>.bool false) none 0 (fun _=>.bool false) (((w.alloc qe).alloc qe).alloc (.cells He 9))):=U ⟨(aC.trans (aK.mono O)).trans (aD.mono O),O,(cc.Ey _ (w.heap.size+1) _ 52 Z.symm).bl aD,rN,rO,rN,rO,fun _ _ e=>(by cases e),fun _ _ e=>(by cases e),fun _ _ _ e=>(by cases e),((cc.new w _ 52).bl aK).bl aD,fun i G=>by
  have h:=cc.Ey ((w.alloc qe).alloc qe) (w.heap.size+2) He 9 aA.symm;have bA:=h.2.2 i G;rw[gW] at bA;have bH:i=0\/i=1\/i=2\/i=3\/i=4:=O
  rcases bH with rfl|rfl|rfl|rfl|rfl<;>exact bA,fun j f L=>absurd L (Nat.not_lt_zero j)⟩
 clear aC aK aD Z aA aT;generalize ((w.alloc qe).alloc qe).alloc (.cells He 9)=bX at E⊢
 go_loopg [8] 5 (fun g bM wr=>∃ i d t C m r y,bM=.int .i64 (i:Nat)/\g+i=5/\Hid (BG w (rW i) d t C m r y wr))
 case atStart=>exact⟨0,none,0,_,none,0,_,rfl,rfl,E⟩
 case round=>
 clear E;obtain⟨i,d,t,C,m,r,y,rfl,bJ,c⟩:=hrel
 by_cases G:i<5
 ·have aP:(i:Int)<5:=O
  have bR:wr.cell? ⟨w.heap.size+2,i,none⟩=some (.string ⟨(qE i).toArray⟩):=c.rw i G;have R:=U (Q.out wr c.bl);have N:Hid (Lib.fields (⟨(qE i).toArray⟩:ByteArray).data.toList=iN i):=U (by simpa using BJ i G);have aO:=Jv i G;have B:Hid (∀ (j:Nat) b,(⟨(qE i).toArray⟩:ByteArray).data.toList[j]?=some b->b.toNat<128):=U (fun j b bI=>DE i G b (lj bI));have P:Hid ((⟨(qE i).toArray⟩:ByteArray).size<4294967281):=U (by show(qE i).toArray.size<_;simp;omega)
  go_upto_region 6 with(go_at_call 19;refine(Tryz.strings_Fields ⟨(qE i).toArray⟩ wr P B R).mono ?_;rintro e w2 ⟨rfl,rfl⟩;rw[N.out])
  have bC:∀ j,j<(iN i).length->(wr.alloc (.cells ((iN i).map fun l=>Value.string ⟨l.toArray⟩).toArray 9)).cell? ⟨wr.heap.size,j,none⟩=some (.string ⟨((iN i)[j]?.getD []).toArray⟩):=fun j L=>by
   rw[jl];simp[L]
  have F:=U (c.below (ab wr (.cells ((iN i).map fun l=>Value.string ⟨l.toArray⟩).toArray 9)))
  have A:Hid (wr.heap.size<(wr.alloc (.cells ((iN i).map fun l=>Value.string ⟨l.toArray⟩).toArray 9)).heap.size/\w.heap.size+3<=wr.heap.size/\(∀ b o,d=some ⟨b,o,none⟩->b≠wr.heap.size)/\(∀ b o,m=some ⟨b,o,none⟩->b≠wr.heap.size)):=
   U ⟨ar,c.bs,fun b o e=>ba ((c.ln b o e).1),fun b o e=>ba ((c.lf b o e).1)⟩
  have z:=U bC;clear bC R N B P bR c;obtain⟨p,T⟩:∃ p,wr.heap.size=p:=⟨_,rfl⟩;rw[T] at A z⊢;generalize wr.alloc (.cells ((iN i).map fun l=>Value.string ⟨l.toArray⟩).toArray 9)=bY at F A z⊢;clear T
  go_loopg [16] (iN i).length (fun aE bN I=>∃ j d t C m r y,bN=.int .i64 (j:Nat)/\aE+j=(iN i).length/\Hid (BG w (rW i+j) d t C m r y I)/\Hid (∀ j,j<(iN i).length->I.cell? ⟨p,j,none⟩=some (.string ⟨((iN i)[j]?.getD []).toArray⟩))/\Hid (p<I.heap.size/\w.heap.size+3<=p/\(∀ b o,d=some ⟨b,o,none⟩->b≠p)/\(∀ b o,m=some ⟨b,o,none⟩->b≠p)))
  case atStart=>exact⟨0,d,t,C,m,r,y,rfl,O,F,z,A⟩
  case round=>
  clear F z A;obtain⟨j,d,t,C,m,r,y,rfl,bK,k,M,n⟩:=hrel
  by_cases L:j<(iN i).length
  ·have aN:(j:Int)<((iN i).length:Int):=O
   have u:wr.cell? ⟨p,j,none⟩=some (.string ⟨((iN i)[j]?.getD []).toArray⟩):=M.out j L;have x:=U (La i G j L);obtain⟨aV,Y⟩:∃ aV,(iN i)[j]?.getD []=aV:=⟨_,rfl⟩;rw[Y] at u x;clear Y;obtain⟨aF,aQ⟩:∃ aF:Int,7-(i:Int)=aF:=⟨_,rfl⟩;rw[aQ] at x;obtain⟨aW,aR⟩:∃ aW:Bool,((i:Int)==2)=aW:=⟨_,rfl⟩;rw[aR] at x;have bL:IntKind.i64.wrap (7-(i:Int))=aF:=by rw[IntKind.wrap_i64];omega
   have aI:Hid (rW i+j<=100000):=U O
   go_wp2_with (go_at_call 20;refine(Ju wr (w.heap.size+1) (w.heap.size+1) d t C m r y (rW i+j) aV aF aW aI (aw _) (ba k.bs) k.bx k.an k.wn k.af k.wf (fun b o e=>⟨(k.ln b o e).1,ba ((k.ln b o e).2)⟩) (fun b o e=>⟨(k.lf b o e).1,ba ((k.lf b o e).2)⟩) k.nf).mono ?_;rintro e bS ⟨rfl,cA,aB,aU,bF,S,aL,bZ,s⟩;have aG:=U (k.push x s);have aH:=U (s.kp p n.1 (ba n.2.1) (fun o e=>n.2.2.1 p o e rfl) (fun o e=>n.2.2.2 p o e rfl));have aJ:Hid (p<bS.heap.size/\w.heap.size+3<=p/\(∀ b o,aB=some ⟨b,o,none⟩->b≠p)/\(∀ b o,S=some ⟨b,o,none⟩->b≠p)):=U ⟨gi n.1 s.sz,n.2.1,fun b o e=>s.n0.elim (fun q=>n.2.2.1 b o ((congrArg Prod.fst q).symm.trans e)) (fun q=>lQ (q b o e) n.1),fun b o e=>s.f0.elim (fun q=>n.2.2.2 b o ((congrArg Prod.fst q).symm.trans e)) (fun q=>lQ (q b o e) n.1)⟩;clear s)
   go_roundg (gk-1)
   case measure=>omega
   case rel=>exact⟨j+1,aB,aU,_,S,aL,_,rfl,O,aG,U (fun bE aM=>(World.cell?_of_block (w:=wr) (a:=⟨p,bE,none⟩) aH).trans (M.out bE aM)),aJ⟩
  ·have aN:¬(j:Int)<((iN i).length:Int):=O
   obtain rfl:j=(iN i).length:=O
   go_wp2_with fail
   go_roundg (4-i)
   case measure=>omega
   case rel=>exact⟨i+1,d,t,C,m,r,y,rfl,O,U (by rw[aO.2.1];exact k.out)⟩
 ·have aP:¬(i:Int)<5:=O
  obtain rfl:i=5:=O
  obtain⟨bG,aC⟩:=o0 c.bx.2.2;obtain⟨bT,bU⟩:=o0 c.rs.2.2;have bV:=c.rs.2.1
  go_wp2_with fail
  obtain⟨aY,aE,aZ,b6⟩:=c.rs.store [.slice d 17 t,.slice m 17 r] rfl;change bodyPost _ _ _ _ _ (wr.setCells w.heap.size 0 [.slice d 17 t,.slice m 17 r]);have J:=U (b4 aY (b4 aE (b4 aZ b6)));clear bG aC bT bU bV aY aE aZ b6;generalize wr.setCells w.heap.size 0 [.slice d 17 t,.slice m 17 r]=aX at J⊢;obtain⟨bQ,bF⟩:=o0 J.1.2.2;have X:∀ b o,d=some ⟨b,o,none⟩->aX.heap[b]?=wr.heap[b]?:=fun b o e=>J.2.1 b (ba ((c.ln b o e).2));have W:∀ b o,m=some ⟨b,o,none⟩->aX.heap[b]?=wr.heap[b]?:=fun b o e=>J.2.1 b (ba ((c.lf b o e).2));have bD:=J.2.2.1;refine bodyPost_ret (v:=.agg #[.slice d 17 t,.slice m 17 r]) (by simp[results,Tryz.results11,go_sem,bQ,bF]) rfl ⟨d,t,m,r,rfl,c.bl.trans J.2.2.2,⟨C,y,c.an.blocks X,c.af.blocks W,(c.wn.mono (h5 _)).blocks X,(c.wf.mono (h5 _)).blocks W,fun j f h=>c.ct j f (by have:=(List.getElem?_eq_some_iff.1 h).1;exact this) h⟩,fun b o e=>⟨by rw[bD];exact(c.ln b o e).1,ba ((c.ln b o e).2)⟩,fun b o e=>⟨by rw[bD];exact(c.lf b o e).1,ba ((c.lf b o e).2)⟩,c.nf⟩
section
mutual
def qk:Tr->Prop
 |.v _=>True
 |.kN _=>True
 |.sl es=>hT es
def k7:List Tr->Prop
 |[]=>True
 |t::r=>qk t/\k7 r
def hT:List (List Tr)->Prop
 |[]=>True
 |r::rs=>(2<=gn r\/∃ s,r=[.v (.string s)])/\k7 r/\hT rs
end
section
variable {w:World} {F:Nat->Prop} {lb:Nat}
mutual
theorem b8.nJ(E:∃ a n c,w.cell? ⟨lb,0,none⟩=some (.slice a n c))(v:∀ j,1<=j->w.cell? ⟨lb,j,none⟩=none):∀ {t:Tr} {m:List Value},qk t->b8 w F t m->b8 w (fun b=>F b/\b≠lb) t m
 |.v x,m,_,h=>by unfold b8 at h⊢;exact h
 |.kN z,m,_,h=>by
  unfold b8 at h⊢;obtain⟨T,a,n,c,f,e,u,C,G,i,R,y⟩:=h;refine⟨T,a,n,c,f,e,u,C,G,i,R,fun b d A o=>⟨y b d A o,fun D=>?_⟩⟩;subst D;obtain⟨W,M,k,g⟩:=u.cell 0 o;rw[A] at k;simp only [Option.some.injEq,Addr.mk.injEq,and_true] at k;obtain⟨rfl,rfl⟩:=k;rw[qv] at g
  by_cases H:d=0
  ·subst H;obtain⟨N,S,c2,J⟩:=E;rw[J] at g;cases g
  ·rw[v d O] at g;cases g
 |.sl es,m,B,h=>by
  unfold b8 at h⊢;unfold qk at B;obtain⟨a,c,e,Q,G,h⟩:=h;refine⟨a,c,e,Q,G,?_⟩
  rcases h with h|⟨b,d,A,P,I⟩
  ·exact .inl h
  ·cases es with
   |nil=>exact .inl rfl
   |cons r rs=>
    refine .inr ⟨b,d,A,⟨P,fun D=>?_⟩,gZ.nJ E v B I⟩;subst D;unfold hT at B;unfold gZ at I;obtain⟨⟨Z,p,l⟩,_⟩:=I;have q:=l.len
    rcases B.1 with aA|⟨s,rfl⟩
    ·have:=p 1 O;rw[v (d+1) O,fv O] at this;cases this
    ·have i:=p 0 (by rw[q];show 0<1+0;omega);unfold ah at l;obtain⟨X,c2,rfl,L,_⟩:=l;unfold b8 at L;subst L;rw[qv] at i;have i:w.cell? ⟨b,d,none⟩=some (.string s):=i
     by_cases H:d=0
     ·subst H;obtain⟨N,S,Y,J⟩:=E;rw[J] at i;cases i
     ·rw[v d O] at i;cases i
theorem ah.nJ(i:∃ a n c,w.cell? ⟨lb,0,none⟩=some (.slice a n c))(g:∀ j,1<=j->w.cell? ⟨lb,j,none⟩=none):∀ {r:List Tr} {d:List Value},k7 r->ah w F r d->ah w (fun b=>F b/\b≠lb) r d
 |[],d,_,h=>by unfold ah at h⊢;exact h
 |t::r,d,f,h=>by
  unfold ah at h⊢;unfold k7 at f;obtain⟨k,c2,e,l,m⟩:=h;exact⟨k,c2,e,b8.nJ i g f.1 l,ah.nJ i g f.2 m⟩
theorem gZ.nJ(i:∃ a n c,w.cell? ⟨lb,0,none⟩=some (.slice a n c))(g:∀ j,1<=j->w.cell? ⟨lb,j,none⟩=none){b:Nat}:∀ {d:Nat} {e:List (List Tr)},hT e->gZ w F b d e->gZ w (fun b=>F b/\b≠lb) b d e
 |d,[],_,h=>by unfold gZ;trivial
 |d,r::e,f,h=>by
  unfold gZ at h⊢;unfold hT at f;obtain⟨⟨k,l,m⟩,o⟩:=h;exact⟨⟨k,l,ah.nJ i g f.2.1 m⟩,gZ.nJ i g f.2.2 o⟩
end
end
theorem ey.nJ{w:World}{F:Nat->Prop}{lb:Nat}{l:List Nd}(g:∃ a n c,w.cell? ⟨lb,0,none⟩=some (.slice a n c))(d:∀ j,1<=j->w.cell? ⟨lb,j,none⟩=none)(i:hT l)(h:ey w F l v)(x:Value):ey (w.setCell ⟨lb,0,none⟩ x) (fun b=>F b/\b≠lb) l v:=by
 obtain⟨a,c,e,h⟩:=h;refine⟨a,c,e,(b8.nJ (t:=.sl l) g d (by unfold qk;exact i) h).on (fun b f=>?_) (fun _ h=>h)⟩;exact h3 _ _ _ _ (show b≠lb from f.2)
end
end Go.Proofs.YtkblonfmjlopaaaGreatDoor
