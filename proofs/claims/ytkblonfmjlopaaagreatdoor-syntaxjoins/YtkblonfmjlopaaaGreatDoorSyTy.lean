/-
  The parser in memory: what it may turn, what it keeps; trees that it makes. No condition; no program in sight.
-/
import Derived.Test.YtkblonfmjlopaaaGreatDoorSxT
set_option linter.all false
set_option maxRecDepth 1000000
set_option maxHeartbeats 16000000
namespace Go.Proofs.YtkblonfmjlopaaaGreatDoor
open Go Go.RowKit
variable {l:List Nd}{r:List Tr}{cs:List Value}{A L b c sz:Nat}{F F' M':Nat->Prop}{t:Tr}{a f w2:World}
structure Gh where
 bp:Nat
 la:Option Addr
 lc:Nat
 X:Tx
 w0:World
def Gh.B(G:Gh):Nat:=G.w0.heap.size
structure ei(G:Gh):Prop where
 tk:iR G.w0 G.la G.X.ts.length G.lc G.X.ts
 k0:G.X.ts.length<=65536
 en:G.X.en<=65536
 wd:∀ (i:Nat) (t:Tok),G.X.ts[i]?=some t->t.text.length<=65536/\t.pos<=65536/\(t.kind=4->t.text≠[])/\t.kind<=8
 Ny:G.B<=G.bp
 OD:∀ w,Below G.B G.w0 w->Lib.TabIs Tryz.prog w "internal/strconv.uint64pow10" .u64 Lib.pow10Tab
def wV(w:World)(B:Nat)(m:Option Addr)(y:Nat)(d:Option Addr)(u:Nat)(sc:List Fx):Prop:=
 ∃ hn hf,d' w m sc.length y 1 hn/\d' w d sc.length u 2 hf/\dh w B m (y*1)/\dh w B d (u*2)/\
   ∀ (i:Nat) (f:Fx),sc[i]?=some f->hn i=.string ⟨f.name.toArray⟩/\hf (2*i)=.int .i64 f.level/\hf (2*i+1)=.bool f.right
structure PS(G:Gh)(M:Nat->Prop)(m:Option Addr)(y:Nat)(d:Option Addr)(u:Nat)(w:World)(s:al):Prop where
 low:Below G.B G.w0 w
 mB:∀ k,M k->G.B<=k/\k<w.heap.size
 mp:M G.bp
 mn:∀ b off,m=some ⟨b,off,none⟩->M b/\b≠G.bp
 mf:∀ b off,d=some ⟨b,off,none⟩->M b/\b≠G.bp
 nf:∀ b o1 o2,m=some ⟨b,o1,none⟩->d=some ⟨b,o2,none⟩->False
 c0:w.cell? ⟨G.bp,0,none⟩=some (.slice G.la G.X.ts.length G.lc)
 c1:w.cell? ⟨G.bp,1,none⟩=some (.int .i64 (s.i:Nat))
 c2:w.cell? ⟨G.bp,2,none⟩=some (.int .i64 (G.X.en:Nat))
 c3:w.cell? ⟨G.bp,3,none⟩=some (.slice m s.sc.length y)
 c4:w.cell? ⟨G.bp,4,none⟩=some (.slice d s.sc.length u)
 fr:∀ o,w.frozen? ⟨G.bp,o,none⟩=false
 sc:wV w G.B m y d u s.sc
 zp:s.sc.length<=20+s.i
 il:s.i<=G.X.ts.length
 xZ:0<s.sc.length
structure Kn(B:Nat)(M:Nat->Prop)(w w':World):Prop where
 ia:Below B w w'
 gM:∀ k,k<w.heap.size->¬M k->w'.heap[k]?=w.heap[k]?
theorem Kn.refl(B:Nat)(M:Nat->Prop)(w:World):Kn B M w w:=⟨eA _ _,fun _ _ _=>rfl⟩
theorem Kn.size{B:Nat}{M:Nat->Prop}{w w':World}(h:Kn B M w w'):w.heap.size<=w'.heap.size:=h.ia.size
theorem Kn.trans{B:Nat}{M:Nat->Prop}{w:World}(h:Kn B M w f)(k:Kn B M' f w2)(c:∀ k,k<w.heap.size->M' k->M k):Kn B M w w2:=
 ⟨h.ia.trans k.ia,fun j a b=>(k.gM j (ba h.size) (fun d=>b (c j a d))).trans (h.gM j a b)⟩
theorem Kn.go{B:Nat}{M:Nat->Prop}{w:World}(h:Kn B M w f)(k:Kn B M f w2):Kn B M w w2:=h.trans k fun _ _ h=>h
theorem Kn.of{B:Nat}{M:Nat->Prop}{w w':World}(h:Below w.heap.size w w')(a:B<=w.heap.size):Kn B M w w':=⟨h.mono a,fun k b _=>h.block k b⟩
theorem Kn.low{B:Nat}{M:Nat->Prop}{w:World}(h:Kn B M w f)(k:Below L f w2)(a:B<=L)(d:w.heap.size<=L):Kn B M w w2:=
 ⟨h.ia.trans (k.mono a),fun j b c=>(k.block j O).trans (h.gM j b c)⟩
theorem Kn.set{B:Nat}{M:Nat->Prop}{w:World}(h:Kn B M w f){p:Addr}(b:B<=p.block)(c:M p.block)(v:Value):Kn B M w (f.setCell p v):=
 ⟨h.ia.setCell b v,fun j d a=>(h3 _ _ _ _ (fun e=>a (by rw[e];exact c))).trans (h.gM j d a)⟩
theorem Kn.drewN{B:Nat}{M:Nat->Prop}{w:World}(h:Kn B M w f)(n:Nat):Kn B M w (f.drewN n):=by
 refine⟨⟨h.ia.os,?_,h.ia.output,h.ia.size,h.ia.block⟩,h.gM⟩;exact h.ia.tape
theorem Below.drewN{B:Nat}{w:World}(h:Below B a w)(n:Nat):Below B a (w.drewN n):=⟨h.os,h.tape,h.output,h.size,h.block⟩
theorem nw{B o:Nat}{w:World}{v:Value}(h:Below B a w)(c:B<=b):Below B a (w.setCell ⟨b,o,none⟩ v):=h.setCell c v
theorem x_{B:Nat}{w:World}{o:Obj}(h:Below B a w)(b:B<=a.heap.size):Below B a (w.alloc o):=h.alloc (fy b h.size) o
theorem d'.blocks{w w':World}{a:Option Addr}{n s:Nat}{h:Nat->Value}(k:d' w a n c s h)(i:∀ b d,a=some ⟨b,d,none⟩->w'.heap[b]?=w.heap[b]?):d' w' a n c s h:=
 ⟨k.le,k.mx,fun j g=>by
   obtain⟨b,d,e,f⟩:=k.cell j g
   exact⟨b,d,e,(i' (w:=w) (a:=⟨b,d+j,none⟩) (i b d e)).trans f⟩⟩
theorem dh.blocks{w w':World}{f:Nat}{a:Option Addr}(k:dh w f a c)(l:∀ b d,a=some ⟨b,d,none⟩->w'.heap[b]?=w.heap[b]?):dh w' f a c:=fun j i=>by
 obtain⟨b,d,e,g,h⟩:=k j i;exact⟨b,d,e,g,(q9 (w:=w) (a:=⟨b,d+j,none⟩) (l b d e)).trans h⟩
theorem wV.blocks{w w':World}{B:Nat}{m:Option Addr}{y:Nat}{d:Option Addr}{u:Nat}{g:List Fx}(h:wV w B m y d u g)
 (f:∀ b c,m=some ⟨b,c,none⟩->w'.heap[b]?=w.heap[b]?) (e:∀ b c,d=some ⟨b,c,none⟩->w'.heap[b]?=w.heap[b]?):wV w' B m y d u g:=by
 obtain⟨a,b,i,j,k,l,n⟩:=h;exact⟨a,b,i.blocks f,j.blocks e,k.blocks f,l.blocks e,n⟩
section
variable {G:Gh} {M:Nat->Prop} {m:Option Addr} {y:Nat} {d:Option Addr} {u:Nat} {w w':World} {s:al}
theorem PS.a6(h:PS G M m y d u w s)(i:Below G.B w w')(g:∀ k,M k->w'.heap[k]?=w.heap[k]?):PS G M m y d u w' s:=by
 have f:∀ o,w'.cell? ⟨G.bp,o,none⟩=w.cell? ⟨G.bp,o,none⟩:=fun o=>i' (w:=w) (a:=⟨G.bp,o,none⟩) (g _ h.mp)
 exact⟨h.low.trans i,fun k j=>⟨(h.mB k j).1,lQ ((h.mB k j).2) i.size⟩,h.mp,h.mn,h.mf,h.nf,(f 0).trans h.c0,(f 1).trans h.c1,(f 2).trans h.c2,(f 3).trans h.c3,(f 4).trans h.c4,
  fun o=>(q9 (w:=w) (a:=⟨G.bp,o,none⟩) (g _ h.mp)).trans (h.fr o),h.sc.blocks (fun b c e=>g _ (h.mn b c e).1) (fun b c e=>g _ (h.mf b c e).1),h.zp,h.il,h.xZ⟩
theorem PS.bB(h:PS G M m y d u w s):G.B<=w.heap.size:=ba (h.mB _ h.mp)
theorem PS.lt(h:PS G M m y d u w s):G.bp<w.heap.size:=(h.mB _ h.mp).2
theorem PS.below(h:PS G M m y d u w s)(a:Below L w w')(c:∀ k,M k->k<L)(b:G.B<=L):PS G M m y d u w' s:=h.a6 (a.mono b) fun k e=>a.block k (c k e)
theorem PS.new(h:PS G M m y d u w s)(a:Below w.heap.size w w'):PS G M m y d u w' s:=h.below a (fun k b=>(h.mB k b).2) h.bB
theorem PS.drew(h:PS G M m y d u w s):PS G M m y d u w.drew s:=h.new (eA _ _).drew
theorem PS.drewN(h:PS G M m y d u w s)(n:Nat):PS G M m y d u (w.drewN n) s:=h.a6 ⟨rfl,rfl,rfl,aw _,fun _ _=>rfl⟩ fun _ _=>rfl
theorem PS.alloc(h:PS G M m y d u w s)(o:Obj):PS G M m y d u (w.alloc o) s:=h.new (ab _ _)
theorem PS.set(h:PS G M m y d u w s){p:Addr}(a:G.B<=p.block)(b:¬M p.block)(v:Value):PS G M m y d u (w.setCell p v) s:=
 h.a6 ((eA _ _).setCell a v) fun k c=>h3 _ _ _ _ (fun e=>b (by rw[<-e];exact c))
theorem PS.more(h:PS G M m y d u w s)(a:∀ k,M k->M' k)(c:∀ k,M' k->G.B<=k/\k<w.heap.size):PS G M' m y d u w s:=
 ⟨h.low,c,a _ h.mp,fun b o e=>⟨a _ (h.mn b o e).1,(h.mn b o e).2⟩,fun b o e=>⟨a _ (h.mf b o e).1,(h.mf b o e).2⟩,h.nf,h.c0,h.c1,h.c2,h.c3,h.c4,h.fr,h.sc,h.zp,h.il,h.xZ⟩
theorem PS.less(h:PS G M' m y d u w s)(c:∀ k,M k->M' k)(j:M G.bp)(i:∀ b a,m=some ⟨b,a,none⟩->M b)(f:∀ b a,d=some ⟨b,a,none⟩->M b):PS G M m y d u w s:=
 ⟨h.low,fun k g=>h.mB k (c k g),j,fun b o e=>⟨i b o e,(h.mn b o e).2⟩,fun b o e=>⟨f b o e,(h.mf b o e).2⟩,h.nf,h.c0,h.c1,h.c2,h.c3,h.c4,h.fr,h.sc,h.zp,h.il,h.xZ⟩
theorem PS.step(h:PS G M m y d u w s){j:Nat}(p:s.i<=j)(f:j<=G.X.ts.length):PS G M m y d u (w.setCell ⟨G.bp,1,none⟩ (.int .i64 (j:Nat))) {s with i:=j}:=by
 have c:∀ k v,k≠G.bp->(w.setCell ⟨G.bp,1,none⟩ v).heap[k]?=w.heap[k]?:=fun k v l=>h3 _ _ _ _ l;have g:=(h.mB _ h.mp).1;refine⟨h.low.setCell g _,fun k n=>by have:=h.mB k n;simpa [World.setCell] using this,h.mp,h.mn,h.mf,h.nf,?_,?_,?_,?_,?_,fun o=>by simpa using h.fr o,h.sc.blocks (fun b a e=>c _ _ (h.mn b a e).2) (fun b a e=>c _ _ (h.mf b a e).2),by have:=h.zp;simp only;omega,f,h.xZ⟩
 ·rw[eb _ _ _ _ ih];exact h.c0
 ·rw[kA _ _ _ h.c1]
 ·rw[eb _ _ _ _ ih];exact h.c2
 ·rw[eb _ _ _ _ ih];exact h.c3
 ·rw[eb _ _ _ _ ih];exact h.c4
theorem PS.step1(h:PS G M m y d u w s)(a:s.i<G.X.ts.length):PS G M m y d u (w.setCell ⟨G.bp,1,none⟩ (.int .i64 ((s.i:Int)+1))) {s with i:=s.i+1}:=h.step (h5 _) a
def Jp(G:Gh):Nat->Prop:=fun k=>k=G.bp
theorem Kn.step{B:Nat}(k:Kn B (Jp G) w f)(h:PS G M m y d u f s)(a:B=G.B)(v:Value):Kn B (Jp G) w (f.setCell ⟨G.bp,1,none⟩ v):=k.set (by rw[a];exact(h.mB _ h.mp).1) (show Jp G G.bp from rfl) v
theorem Kn.jp{B:Nat}(k:Kn B (Jp G) w w')(h:M G.bp):Kn B M w w':=⟨k.ia,fun j a b=>k.gM j a (fun e=>b (by rw[show j=G.bp from e];exact h))⟩
theorem Kn.more{B:Nat}(k:Kn B M w w')(h:∀ j,M j->M' j):Kn B M' w w':=⟨k.ia,fun j a b=>k.gM j a (fun e=>b (h j e))⟩
end
def Own(B lo hi:Nat)(M:Nat->Prop)(b:Nat):Prop:=b<B\/lo<=b/\b<hi/\¬M b
def No:Nat->Prop:=fun _=>False
def Kb(w w':World)(F:Nat->Prop):Prop:=∀ b,F b->w'.heap[b]?=w.heap[b]?
theorem Kb.cells{w w':World}(h:Kb w w' F):∀ b c v,F b->w.cell? ⟨b,c,none⟩=some v->w'.cell? ⟨b,c,none⟩=some v:=
 fun b c v d e=>(i' (w:=w) (a:=⟨b,c,none⟩) (h b d)).trans e
theorem ah.on{w w':World}(h:ah w F r cs)(c:Kb w w' F)(a:∀ b,F b->F' b):ah w' F' r cs:=ah.a6 a c.cells h
theorem b8.on{w w':World}(h:b8 w F t cs)(c:Kb w w' F)(a:∀ b,F b->F' b):b8 w' F' t cs:=b8.a6 a c.cells h
theorem Kb.refl(w:World)(F:Nat->Prop):Kb w w F:=fun _ _=>rfl
theorem Kb.of{w w':World}(h:Below L w w')(a:∀ b,F b->b<L):Kb w w' F:=fun b c=>h.block b (a b c)
theorem Kb.kn{B:Nat}{M:Nat->Prop}{w w':World}(h:Kn B M w w')(a:∀ b,F b->b<B\/b<w.heap.size/\¬M b):Kb w w' F:=fun b c=>by
 rcases a b c with q|⟨d,e⟩
 ·exact h.ia.block b q
 ·exact h.gM b d e
theorem gO{w:World}:ah w F [] []:=by unfold ah;rfl
theorem ej{w:World}(x:Value)(h:ah w F r cs):ah w F (.v x::r) (x::cs):=by
 unfold ah;exact⟨[x],cs,rfl,by unfold b8;rfl,h⟩
theorem cr{w:World}{x:Value}(a:b8 w F t [x])(h:ah w F r cs):ah w F (t::r) (x::cs):=by
 unfold ah;exact⟨[x],cs,rfl,a,h⟩
theorem Dg{w:World}{x y:Value}(a:b8 w F t [x,y])(h:ah w F r cs):ah w F (t::r) (x::y::cs):=by
 unfold ah;exact⟨[x,y],cs,rfl,a,h⟩
theorem aa{w:World}:b8 w F (.sl []) [.slice none 0 0]:=by
 unfold b8;exact⟨none,0,rfl,aw _,hU _,.inl rfl⟩
theorem cv{w:World}:b8 w F (.kN 0) [.bool false,.slice none 0 0]:=by
 unfold b8;exact⟨false,none,0,0,fun _=>0,rfl,Us.nil _ _,hU _,.inl rfl,fun _=>rfl,rfl,fun _ _ h=>by cases h⟩
theorem ah.app{w:World}{F:Nat->Prop}:∀ {g:List Tr} {d:List Value} {e:List Tr} {c2:List Value},ah w F g d->ah w F e c2->ah w F (g++e) (d++c2)
 |[],d,e,c2,c,f=>by
  unfold ah at c;subst c;exact f
 |t::r,d,e,c2,c,f=>by
  unfold ah at c;obtain⟨a,b,rfl,h,i⟩:=c;rw[uI,q'];unfold ah;exact⟨a,b++c2,rfl,h,ah.app i f⟩
theorem ER{w:World}(e:F b)(f:∀ j,j<cs.length->w.cell? ⟨b,j,none⟩=cs[j]?)(h:ah w F r cs)(a:1<=c)(d:c<=maxLen):b8 w F (.sl [r]) [.slice (some ⟨b,0,none⟩) 1 c]:=by
 unfold b8;refine⟨some ⟨b,0,none⟩,c,rfl,a,d,.inr ⟨b,0,rfl,e,?_⟩⟩;unfold gZ;refine⟨⟨cs,fun j g=>by rw[gW];exact f j g,h⟩,?_⟩;unfold gZ;trivial
theorem KO{w:World}{q:List Tr}{a:List Value}(c:F b)(d:∀ j,j<cs.length->w.cell? ⟨b,j,none⟩=cs[j]?)(e:∀ j,j<a.length->w.cell? ⟨b,cs.length+j,none⟩=a[j]?)(h:ah w F r cs)(k:ah w F q a):b8 w F (.sl [r,q]) [.slice (some ⟨b,0,none⟩) 2 2]:=by
 unfold b8;refine⟨some ⟨b,0,none⟩,2,rfl,aw _,by unfold maxLen;omega,.inr ⟨b,0,rfl,c,?_⟩⟩;unfold gZ;refine⟨⟨cs,fun j f=>by rw[gW];exact d j f,h⟩,?_⟩;unfold gZ;rw[<-h.len,gW];refine⟨⟨a,e,k⟩,?_⟩;unfold gZ;trivial
def az(c q:Nat):Ending:=.panicked [{v:=.iface 26 (.agg (jj c q)),recovered:=false}]
abbrev jL:=World->(Nat->Prop)->Nd->Value->Prop
def PN(G:Gh)(M:Nat->Prop)(m:Option Addr)(y:Nat)(d:Option Addr)(u:Nat)(I:jL)(w:World)(s:al)(r:Except (Nat×Nat) (Nd×al))(e:Ending)(w':World):Prop:=
 Kn G.B M w w'/\match r with
  |.error (c,q)=>e=az c q
  |.ok (nd,s')=>s'.sc=s.sc/\s.i<=s'.i/\PS G M m y d u w' s'/\∃ v,e=.returned v/\I w' (Own G.B w.heap.size w'.heap.size No) nd v
def ey(w:World)(F:Nat->Prop)(l:List Nd)(v:Value):Prop:=∃ a c,v=.slice a l.length c/\b8 w F (.sl l) [.slice a l.length c]
theorem ey.on{w w':World}{v:Value}(h:ey w F l v)(f:Kb w w' F)(d:∀ b,F b->F' b):ey w' F' l v:=by
 obtain⟨a,c,e,h⟩:=h;exact⟨a,c,e,h.on f d⟩
def PL(G:Gh)(M:Nat->Prop)(m:Option Addr)(y:Nat)(d:Option Addr)(u:Nat)(w:World)(s:al)(r:Except (Nat×Nat) (List Nd×al))(e:Ending)(w':World):Prop:=
 Kn G.B M w w'/\match r with
  |.error (c,q)=>e=az c q
  |.ok (l,s')=>s'.sc=s.sc/\s.i<=s'.i/\PS G M m y d u w' s'/\∃ v,e=.returned v/\ey w' (Own G.B w.heap.size w'.heap.size No) l v
theorem a_{α β:Type}{x:PM α}{f:α->PM β}{s:al}{r:Except (Nat×Nat) (β×al)}(h:(x>>=f) s=some r):
 (∃ c q,x s=some (.error (c,q))/\r=.error (c,q))\/∃ a b,x s=some (.ok (a,b))/\f a b=some r:=by
 have h:PM.bind x f s=some r:=h;unfold PM.bind at h
 rcases d:x s with _|⟨c,q⟩|⟨a,b⟩
 ·rw[d] at h;cases h
 ·rw[d] at h;exact .inl ⟨c,q,rfl,(f_ h).symm⟩
 ·rw[d] at h;exact .inr ⟨a,b,rfl,h⟩
theorem aj{α:Type}{a:α}{s:al}{r:Except (Nat×Nat) (α×al)}(h:(pure a:PM α) s=some r):r=.ok (a,s):=(f_ (show some (Except.ok (a,s))=some r from h)).symm
theorem iL(b:Nat):∀ (a:List Value) (o:Nat) (w:World) (k:Nat),k≠b->(w.setCells b o a).heap[k]?=w.heap[k]?
 |[],_,_,_,_=>rfl
 |v::a,o,w,k,c=>(iL b a (o+1) (w.setCell ⟨b,o,none⟩ v) k c).trans (h3 _ _ _ _ c)
structure Kq(w w':World)(a:Option Addr)(lo hi:Nat):Prop where
 kp:Kp w w' a lo hi
 gM:∀ k,k<w.heap.size->(∀ off,a≠some ⟨k,off,none⟩)->w'.heap[k]?=w.heap[k]?
section
variable {P:Program}
theorem qA(w:World)(t R aK e C:TypeId)(z:Value)(s bytes:Nat)(aN:P.underlying t=some (.slice e))(aI:P.underlying R=some (.slice C))
 (aB:(P.info? e).map (fun i=>(i.zero,i.size,i.bytes))=some (some z,s,bytes)) (aO:z.cells.size=s) (aH:0<s) (m:Nat) (x:m<=w.heap.size)
 (a:Option Addr) (n c:Nat) (h g:Nat->Value) (G S d:Nat) (A:d' w a n c s h) (N:dh w m a (c*s)) (Z:∀ j,j<s->w.cell? ⟨G,S+j,none⟩=some (g j)) (aJ:∀ j,j<s->(g j).oneCell'=true)
 (aM:(n+1)*(2*bytes)<=281474976710656) (aQ:n+1<=140737488355328):
 ∃ H T r w',(Builtin.append_ #[t,R] aK #[.slice a n c,.slice (some ⟨G,S,none⟩) 1 d]).run P w=.ok (.slice H (n+1) T) w'/\(r=h/\H=a/\T=c\/r=jH z/\H=some ⟨w.heap.size,0,none⟩/\w.heap.size<w'.heap.size/\∀ p:Addr,p.block<w.heap.size->w'.cell? p=w.cell? p)/\
   d' w' H (n+1) T s (c6 h (n*s) s g r)/\dh w' m H (T*s)/\Below m w w'/\Kq w w' a (n*s) ((n+1)*s):=by
 obtain⟨i,J,aD,y,aC⟩:=info_parts aB;have aW:G<w.heap.size:=kU w _ (Z 0 aH)
 have Q:Src P i.size R (.slice (some ⟨G,S,none⟩) 1 d) 1 ((List.range s).map g) w:=by
  rw[y];refine⟨.inl ⟨C,aI⟩,fun _=>rfl,?_,?_,ar,fun u aV=>?_⟩
  ·refine run_firstCells_some w s 1 _ 1 d _ ar (fun j v e=>?_);obtain⟨f,rfl⟩:=ld _ _ _ _ e;rw[uK];exact Z j f
  ·refine run_firstCells_some w.drew s 1 _ 1 d _ ar (fun j v e=>?_);obtain⟨f,rfl⟩:=ld _ _ _ _ e;rw[uK];exact Z j f
  ·obtain⟨j,f,rfl⟩:=List.mem_map.1 aV;exact aJ j (by simpa using f)
 by_cases l:n+1<=c
 ·have aU:(n+1)*s<=c*s:=jX _ l;have L:(n+1)*s=n*s+s:=jd n s;obtain⟨b,off,rfl,W⟩:=A.addr O
  have o:=run_append_room_src (P:=P) w t R aK e i aN J b off n c (.slice (some ⟨G,S,none⟩) 1 d) 1 ((List.range s).map g) Q l
   (fun j f=>by rw[y,e9,W (n*s+j) (by simp at f;omega)];rfl)
   (fun j f=>by
     obtain⟨Y,B,C,_,aT⟩:=N (n*s+j) (by simp at f;omega);simp only [Option.some.injEq,Addr.mk.injEq,and_true] at C;obtain⟨rfl,rfl⟩:=C
     rw[y,e9];exact aT)
  rw[y] at o;obtain⟨Y,B,C,aR,_⟩:=N 0 O;simp only [Option.some.injEq,Addr.mk.injEq,and_true] at C;obtain⟨rfl,rfl⟩:=C;refine⟨_,_,h,_,o,.inl ⟨rfl,rfl,rfl⟩,⟨l,A.mx,fun j f=>⟨b,off,rfl,?_⟩⟩,fun j f=>?_,ew b aR _ _ _,⟨⟨?_,fun p F aG=>?_,fun p F=>sX ..⟩,fun k X aG=>iL b _ _ _ k (fun e=>aG off (by rw[e]))⟩⟩
  ·unfold c6
   split
   ·rw[qm _ _ _ _ _ (fun _ _=>.inl b1)];exact W j f
   ·split
    ·have:=Ac b ((List.range s).map g) (off+n*s) w (fun k X=>by rw[e9,W (n*s+k) (by simp at X;omega)];rfl) (j-n*s) b1;rw[show off+n*s+(j-n*s)=off+j from O] at this;rw[this];simp
    ·rw[qm _ _ _ _ _ (fun _ _=>.inr b1)];exact W j f
  ·obtain⟨Y,B,C,D,I⟩:=N j f;exact⟨Y,B,C,D,by rw[sX];exact I⟩
  ·exact(ew b (aw b) _ _ _).size
  ·refine qm _ _ _ _ _ (fun D I=>?_);have aL:=aG b off rfl;simp only [List.length_map,List.length_range]
   by_cases q:p.off<off+n*s
   ·exact .inl q
   ·exact .inr (by
     by_cases aX:p.off<off+(n+1)*s
     ·exact absurd ⟨D,I,O,aX⟩ aL
     ·omega)
 ·have L:(n+1)*s=n*s+s:=jd n s
  have o:=run_append_grow_src (P:=P) w t R aK e i z aN J aD a n c ((List.range (n*s)).map h) (by rw[y];exact yQ (w:=w.drew) ⟨A.le,A.mx,fun i aB=>by simpa using A.cell i aB⟩) (.slice (some ⟨G,S,none⟩) 1 d) 1 ((List.range s).map g) Q O
   O (by
    have D:=nextslicecap_le (show c<n+1 from O);have I:Builtin.nextslicecap (n+1) c*i.bytes<=2*(n+1)*i.bytes:=jX _ D;have aL:2*(n+1)*i.bytes=(n+1)*(2*bytes):=by rw[aC,kj 2,kP]
    omega)
  have aA:=grownCap_ge w (n+1) c e;have aE:=grownCap_le_maxLen w (n+1) c e (by unfold maxLen;omega)
  have E:∀ j,j<grownCap w (n+1) c e*s->(((List.range (n*s)).map h++(List.range s).map g).toArray++Builtin.zeroCells z.cells (grownCap w (n+1) c e-(n+1)))[j]?=some (c6 h (n*s) s g (jH z) j):=by
   intro j f;unfold c6;rw[Eb]
   split
   ·rename_i D;simp at D;simp only [List.getElem?_toArray,List.getElem?_append,List.length_map,List.length_range]
    split
    ·simp[*]
    ·rename_i I;simp[show j-n*s<s from O]
   ·rename_i D;simp at D;rw[if_neg O,if_neg O];have M:(grownCap w (n+1) c e-(n+1))*s=grownCap w (n+1) c e*s-(n+1)*s:=Nat.sub_mul ..;unfold Builtin.zeroCells jH;have aF:j-(n*s+s)<(grownCap w (n+1) c e-(n+1))*z.cells.size:=by rw[aO,M];omega
    simp only [List.length_append,List.length_map,List.length_range,List.size_toArray];rw[Array.getElem?_map,Cg];rw[if_pos aF];simp only [Option.map_some]
    congr 1
    rw[aO]
    have:(j-(n*s+s))%s=j%s:=by
     have aP:j=(j-(n*s+s))+s*(n+1):=by rw[kj s,L];omega
     conv=>rhs;rw[aP]
     rw[Hg]
    rw[this]
  refine⟨_,_,jH z,_,o,.inr ⟨rfl,rfl,ar,fun p F=>(((eA w.heap.size w).drew).alloc (aw _) _).cell F⟩,⟨aA,aE,fun j f=>⟨w.heap.size,0,rfl,?_⟩⟩,fun j f=>⟨w.heap.size,0,rfl,x,?_⟩,((eA _ _).drew).alloc x _,⟨⟨ar,fun p F _=>?_,fun p F=>?_⟩,fun k X _=>(((eA w.heap.size w).drew).alloc (aw _) _).block k X⟩⟩
  ·rw[gW];have:=jl w.drew (((List.range (n*s)).map h++(List.range s).map g).toArray++Builtin.zeroCells z.cells (grownCap w (n+1) c e-(n+1))) e j;exact this.trans (E j f)
  ·exact o6 w.drew _ _ _
  ·exact(((eA w.heap.size w).drew).alloc (aw _) _).cell F
  ·exact(((eA w.heap.size w).drew).alloc (aw _) _).frozen F
theorem hH{v:Array Oper}{rest:List Oper}{o:Oper}{f:Act}{Q:Exit->Act->World->Prop}(w:World)(B:o.guard=none)(I x:Operand)(t E:TypeId)
 (W:o.op=.call {callee:=.builtin .append,args:=#[I,x],argTypes:=#[t,E]})
 (e H:TypeId) (z:Value) (s bytes:Nat) (Y:P.underlying t=some (.slice e)) (D:P.underlying E=some (.slice H))
 (T:(P.info? e).map (fun i=>(i.zero,i.size,i.bytes))=some (some z,s,bytes)) (aA:z.cells.size=s) (C:0<s) (b:Nat) (l:b<=w.heap.size)
 (a:Option Addr) (n c:Nat) (h g:Nat->Value) (F G d:Nat) (X:f.eval I=.slice a n c) (Z:f.eval x=.slice (some ⟨F,G,none⟩) 1 d) (A:d' w a n c s h) (N:dh w b a (c*s)) (hg:∀ j,j<s->w.cell? ⟨F,G+j,none⟩=some (g j)) (one:∀ j,j<s->(g j).oneCell'=true)
 (q:(n+1)*(2*bytes)<=281474976710656) (h63:n+1<=140737488355328)
 (hK:∀ k m r w',(r=h/\k=a/\m=c\/r=jH z/\k=some ⟨w.heap.size,0,none⟩/\w.heap.size<w'.heap.size/\∀ p:Addr,p.block<w.heap.size->w'.cell? p=w.cell? p)->d' w' k (n+1) m s (c6 h (n*s) s g r)->dh w' b k (m*s)->Below b w w'->Kq w w' a (n*s) ((n+1)*s)->wpList P v Q rest (f.put o.dst (.slice k (n+1) m)) w'):
 wpList P v Q (o::rest) f w:=by
 refine wpList_plain B fun K y=>?_;obtain⟨k,m,r,w',u,J,L,M,R,S⟩:=qA (P:=P) w t E o.type e H z s bytes Y D T aA C b l a n c h g F G d A N hg one q h63;unfold Oper.wp;simp[execOp,W,resolve,invoke,builtin,X,Z,u,Result.andThen];exact y _ _ (hK k m r w' J L M R S)
theorem hO{o:Oper}{K:Act->World->Prop}{f:Act}{Q:Exit->Act->World->Prop}(w:World)(D:Option Tmp)(T:o.dst=D)(I x:Operand)(t E:TypeId)
 (Y:o.op=.call {callee:=.builtin .append,args:=#[I,x],argTypes:=#[t,E]})
 (e H:TypeId) (z:Value) (s bytes:Nat) (aA:P.underlying t=some (.slice e)) (B:P.underlying E=some (.slice H))
 (X:(P.info? e).map (fun i=>(i.zero,i.size,i.bytes))=some (some z,s,bytes)) (aC:z.cells.size=s) (y:0<s) (b:Nat) (l:b<=w.heap.size)
 (a:Option Addr) (n c:Nat) (h g:Nat->Value) (F G d:Nat) (Z:f.eval I=.slice a n c) (aB:f.eval x=.slice (some ⟨F,G,none⟩) 1 d) (A:d' w a n c s h) (N:dh w b a (c*s)) (W:∀ j,j<s->w.cell? ⟨F,G+j,none⟩=some (g j)) (C:∀ j,j<s->(g j).oneCell'=true)
 (q:(n+1)*(2*bytes)<=281474976710656) (v:n+1<=140737488355328)
 (hK:∀ k m r w',(r=h/\k=a/\m=c\/r=jH z/\k=some ⟨w.heap.size,0,none⟩/\w.heap.size<w'.heap.size/\∀ p:Addr,p.block<w.heap.size->w'.cell? p=w.cell? p)->d' w' k (n+1) m s (c6 h (n*s) s g r)->dh w' b k (m*s)->Below b w w'->Kq w w' a (n*s) ((n+1)*s)->K (f.put D (.slice k (n+1) m)) w'):
 Oper.wp P o f w K Q:=by
 subst T;obtain⟨k,m,r,w',u,J,L,M,R,S⟩:=qA (P:=P) w t E o.type e H z s bytes aA B X aC y b l a n c h g F G d A N W C q v;unfold Oper.wp;simp[execOp,Y,resolve,invoke,builtin,Z,aB,u,Result.andThen];exact hK k m r w' J L M R S
end
def jP(w:World)(F:Nat->Prop)(L sz A c:Nat)(l:List Nd):Prop:=
 ∃ h,L<=A/\A<w.heap.size/\¬F A/\d' w (some ⟨A,0,none⟩) l.length c sz h/\dh w L (some ⟨A,0,none⟩) (c*sz)/\∀ (i:Nat) (r:Nd),l[i]?=some r->ah w F r ((List.range sz).map fun j=>h (i*sz+j))
theorem rL{w:World}{F:Nat->Prop}{A sz:Nat}{h:Nat->Value}:∀ (l:List Nd) (o:Nat),(∀ j,j<l.length*sz->w.cell? ⟨A,o+j,none⟩=some (h (o+j)))->(∀ (i:Nat) (r:Nd),l[i]?=some r->ah w F r ((List.range sz).map fun j=>h (o+(i*sz+j))))->gZ w F A o l
 |[],o,_,_=>by unfold gZ;trivial
 |r::l,o,c,f=>by
  have b:=f 0 r rfl;have d:=b.len;simp only [List.length_map,List.length_range] at d;unfold gZ;refine⟨⟨_,fun j a=>?_,b⟩,?_⟩
  ·have a:j<sz:=by simpa using a
   rw[c j (by rw[ni,jd];omega)];simp[a]
  ·rw[<-d];refine rL (h:=h) (sz:=sz) l (o+sz) (fun j a=>?_) (fun i r g=>?_)
   ·have:=c (sz+j) (by rw[ni,jd];omega);rw[e9];exact this
   ·have:=f (i+1) r g;have e:(fun j=>h (o+((i+1)*sz+j)))=fun j=>h (o+sz+(i*sz+j)):=funext fun j=>congrArg h (by rw[jd];omega);rw[e] at this;exact this
theorem jP.rep{w:World}(h:jP w F L sz A c l)(f:∀ b,F b->F' b)(d:F' A):b8 w F' (.sl l) [.slice (some ⟨A,0,none⟩) l.length c]:=by
 obtain⟨h,_,_,_,a,_,n⟩:=h;unfold b8;refine⟨some ⟨A,0,none⟩,c,rfl,a.le,a.mx,.inr ⟨A,0,rfl,d,?_⟩⟩;refine rL (h:=h) (sz:=sz) l 0 (fun j m=>?_) (fun i r k=>?_)
 ·obtain⟨b,o,e,g⟩:=a.cell j (gi m (jX _ a.le));simp only [Option.some.injEq,Addr.mk.injEq,and_true] at e;obtain⟨rfl,rfl⟩:=e;rw[g,gW]
 ·simp only [Nat.zero_add];exact ah.a6 f (fun _ _ _ _ h=>h) (n i r k)
theorem jP.a6{w w':World}(h:jP w F L sz A c l)(p:Kb w w' F)(j:w'.heap[A]?=w.heap[A]?)(t:w.heap.size<=w'.heap.size)(k:∀ b,F b->F' b)(q:¬F' A):jP w' F' L sz A c l:=by
 obtain⟨h,f,g,u,n,m,s⟩:=h
 have d:∀ b a,(some ⟨A,0,none⟩:Option Addr)=some ⟨b,a,none⟩->w'.heap[b]?=w.heap[b]?:=fun b a e=>by
  simp only [Option.some.injEq,Addr.mk.injEq,and_true] at e;rw[<-e.1];exact j
 exact⟨h,f,gi g t,q,n.blocks d,m.blocks d,fun i r o=>(s i r o).on p k⟩
theorem jP.one{w:World}{r:Nd}(d:L<=A)(g:A<w.heap.size)(l:¬F A)(h:∀ j,j<cs.length->w.cell? ⟨A,j,none⟩=cs[j]?)(k:∀ j,j<cs.length->w.frozen? ⟨A,j,none⟩=false)(m:ah w F r cs):jP w F L cs.length A 1 [r]:=by
 have n:∀ j,j<cs.length->w.cell? ⟨A,0+j,none⟩=some (cs.toArray[j]!):=fun j a=>by
  rw[gW,h j a,fv a];simp[a]
 refine⟨fun j=>cs.toArray[j]!,d,g,l,⟨aw _,by unfold maxLen;simp,fun j a=>⟨A,0,rfl,n j O⟩⟩,fun j a=>⟨A,0,rfl,d,by rw[gW];exact k j O⟩,fun i q b=>?_⟩
 have c:i=0:=by
  have:=(List.getElem?_eq_some_iff.1 b).1;simp at this;omega
 subst c;simp only [List.getElem?_cons_zero,Option.some.injEq] at b;subst b
 have e:((List.range cs.length).map fun j=>cs.toArray[0*cs.length+j]!)=cs:=by
  apply xf
  ·simp
  ·intro i o f;simp[f]
 rw[e];exact m
theorem jP.push{w w':World}{F1:Nat->Prop}{u:Nat}{r:Nd}{g t h:Nat->Value}{z:Value}{m:Option Addr}(aD:0<sz)
 (T:L<=A) (W:A<w.heap.size) (X:¬F A) (aC:∀ (i:Nat) (r:Nd),l[i]?=some r->ah w F r ((List.range sz).map fun j=>h (i*sz+j)))
 (Y:∀ b,F b->b<w.heap.size) (B:∀ b,F1 b->b<w.heap.size/\b≠A) (aB:ah w F1 r ((List.range sz).map g))
 (n:t=h/\m=some ⟨A,0,none⟩/\u=c\/t=jH z/\m=some ⟨w.heap.size,0,none⟩/\w.heap.size<w'.heap.size/\∀ p:Addr,p.block<w.heap.size->w'.cell? p=w.cell? p)
 (Z:L<=w.heap.size) (I:d' w' m (l.length+1) u sz (c6 h (l.length*sz) sz g t)) (N:dh w' L m (u*sz)) (S:Kq w w' (some ⟨A,0,none⟩) (l.length*sz) ((l.length+1)*sz))
 (y:∀ b,F b\/F1 b->F' b) (J:∀ d,m=some ⟨d,0,none⟩->¬F' d):∃ d,m=some ⟨d,0,none⟩/\(d=A\/d=w.heap.size)/\jP w' F' L sz d u (l++[r]):=by
 have f:∀ b a v,(F b\/F1 b)->w.cell? ⟨b,a,none⟩=some v->w'.cell? ⟨b,a,none⟩=some v:=fun b a v k C=>by
  have P:b<w.heap.size:=k.elim (Y b) (fun q=>(B b q).1);have M:b≠A:=k.elim (fun q e=>X (e▸q)) (fun q=>(B b q).2);rw[<-C]
  exact S.kp.cell ⟨b,a,none⟩ P (fun x o e aE=>by
   simp only [Option.some.injEq,Addr.mk.injEq,and_true] at e
   exact M (aE.1.trans e.1.symm))
 have H:∀ d,m=some ⟨d,0,none⟩->L<=d->d<w'.heap.size->jP w' F' L sz d u (l++[r]):=fun d e aA s=>by
  subst e;refine⟨c6 h (l.length*sz) sz g t,aA,s,J d rfl,by rw[iQ];exact I,N,fun i q D=>?_⟩
  by_cases E:i<l.length
  ·rw[lg E] at D
   have e:((List.range sz).map fun j=>c6 h (l.length*sz) sz g t (i*sz+j))=(List.range sz).map fun j=>h (i*sz+j):=by
    apply o7;intro j G;have G:j<sz:=by simpa using G
    unfold c6;have:(i+1)*sz<=l.length*sz:=jX _ E;rw[jd] at this;rw[if_pos O]
   rw[e];exact ah.a6 (fun b k=>y b (.inl k)) (fun b a v k C=>f b a v (.inl k) C) (aC i q D)
  ·have Q:i=l.length:=by
    have:=(List.getElem?_eq_some_iff.1 D).1;simp at this;omega
   subst Q;rw[kC (aw _),qt] at D;have R:=f_ (show some _=some q from D);subst R
   have e:((List.range sz).map fun j=>c6 h (l.length*sz) sz g t (l.length*sz+j))=(List.range sz).map g:=by
    apply o7;intro j G;have G:j<sz:=by simpa using G
    unfold c6;rw[if_neg O,if_pos O,sW]
   rw[e];exact ah.a6 (fun b k=>y b (.inr k)) (fun b a v k C=>f b a v (.inr k) C) aB
 rcases n with⟨_,e,_⟩|⟨_,e,s,_⟩
 ·exact⟨A,e,.inl rfl,H A e T (gi W S.kp.size)⟩
 ·exact⟨w.heap.size,e,.inr rfl,H _ e Z s⟩
def hM(I:jL):Prop:=∀ w w' F F' nd v,I w F nd v->Kb w w' F->(∀ b,F b->F' b)->I w' F' nd v
def cz(w:World)(F:Nat->Prop)(nd:Nd)(v:Value):Prop:=∃ (x0:Int) (x1:ByteArray) (Vg:Option Addr) (Vi Vh:Nat) (Vj:Option Addr) (Vl Vk:Nat),v=.agg (nF x0 x1 Vg Vi Vh Vj Vl Vk)/\ah w F nd [.int .i64 x0,.string x1,.slice Vg Vi Vh,.slice Vj Vl Vk]
theorem cz.ok:hM cz:=fun w w' F F' m v h j i=>by
 obtain⟨k,l,a,c,b,d,g,f,e,h⟩:=h;exact⟨k,l,a,c,b,d,g,f,e,h.on j i⟩
def Dh:Value:=.agg tZ
theorem Tryz.zn:(Tryz.prog.info? 78).map (fun i=>(i.zero,i.size,i.bytes))=some (some Dh,4,72):=aq
def cy(w:World)(F:Nat->Prop)(nd:Nd)(v:Value):Prop:=∃ (x0:Int) (x1:ByteArray) (x2:Bool) (Vj:Option Addr) (Vl Vk:Nat) (x4:Int) (x5:ByteArray) (Vs:Option Addr) (Vu Vt:Nat) (Vv:Option Addr) (Vx Vw:Nat) (Vy:Option Addr) (VA Vz:Nat),v=.agg (qd x0 x1 x2 Vj Vl Vk x4 x5 Vs Vu Vt Vv Vx Vw Vy VA Vz)/\ah w F nd [.int .i64 x0,.string x1,.bool x2,.slice Vj Vl Vk,.int .i64 x4,.string x5,.slice Vs Vu Vt,.slice Vv Vx Vw,.slice Vy VA Vz]
theorem cy.ok:hM cy:=fun w w' F F' x v h p o=>by
 obtain⟨q,r,s,b,d,c,t,u,f,i,g,j,l,k,m,a,n,e,h⟩:=h;exact⟨q,r,s,b,d,c,t,u,f,i,g,j,l,k,m,a,n,e,h.on p o⟩
def xU:Value:=.agg tY
theorem Tryz.oJ:(Tryz.prog.info? 82).map (fun i=>(i.zero,i.size,i.bytes))=some (some xU,9,152):=aq
def bc(w:World)(F:Nat->Prop)(nd:Nd)(v:Value):Prop:=∃ (x0:Int) (x1:ByteArray) (x2:Bool) (Vj:Option Addr) (Vl Vk:Nat) (x4:Int) (x5:Int) (x6:ByteArray) (Vv:Option Addr) (Vx Vw:Nat) (Vy:Option Addr) (VA Vz:Nat) (VC:Option Addr) (VE VD:Nat) (VF:Option Addr) (VH VG:Nat) (VI:Option Addr) (VK VJ:Nat),v=.agg (kv x0 x1 x2 Vj Vl Vk x4 x5 x6 Vv Vx Vw Vy VA Vz VC VE VD VF VH VG VI VK VJ)/\ah w F nd (ot x0 x1 x2 Vj Vl Vk x4 x5 x6 Vv Vx Vw Vy VA Vz VC VE VD VF VH VG VI VK VJ)
theorem bc.ok:hM bc:=fun w w' F F' E v h x u=>by
 obtain⟨y,z,A,m,o,n,B,C,D,p,r,q,s,a,t,b,d,c,f,i,g,j,l,k,e,h⟩:=h;exact⟨y,z,A,m,o,n,B,C,D,p,r,q,s,a,t,b,d,c,f,i,g,j,l,k,e,h.on x u⟩
def rG:Value:=.agg ke
theorem Tryz.ny:(Tryz.prog.info? 87).map (fun i=>(i.zero,i.size,i.bytes))=some (some rG,12,208):=aq
def oM(w:World)(F:Nat->Prop)(nd:Nd)(v:Value):Prop:=∃ (x0:Int) (x1:ByteArray) (x2:Bool) (Vj:Option Addr) (Vl Vk:Nat) (x4:Int) (x5:ByteArray) (Vs:Option Addr) (Vu Vt:Nat) (Vv:Option Addr) (Vx Vw:Nat) (Vy:Option Addr) (VA Vz:Nat) (x9:Int) (NU:ByteArray) (NV:Bool) (VL:Option Addr) (VO VN:Nat) (NW:Int) (NX:Int) (NY:ByteArray) (VS:Option Addr) (VU VT:Nat) (VV:Option Addr) (VX VW:Nat) (VY:Option Addr) (L1 VZ:Nat) (L2:Option Addr) (L3 L4:Nat) (L5:Option Addr) (L6 L7:Nat),v=.agg #[.int .i64 x0,.string x1,.bool x2,.slice Vj Vl Vk,.int .i64 x4,.string x5,.slice Vs Vu Vt,.slice Vv Vx Vw,.slice Vy VA Vz,.int .i64 x9,.string NU,.bool NV,.slice VL VO VN,.int .i64 NW,.int .u64 NX,.string NY,.slice VS VU VT,.slice VV VX VW,.slice VY L1 VZ,.slice L2 L3 L4,.slice L5 L6 L7]/\ah w F nd [.int .i64 x0,.string x1,.bool x2,.slice Vj Vl Vk,.int .i64 x4,.string x5,.slice Vs Vu Vt,.slice Vv Vx Vw,.slice Vy VA Vz,.int .i64 x9,.string NU,.bool NV,.slice VL VO VN,.int .i64 NW,.int .u64 NX,.string NY,.slice VS VU VT,.slice VV VX VW,.slice VY L1 VZ,.slice L2 L3 L4,.slice L5 L6 L7]
theorem oM.ok:hM oM:=fun w w' F F' aA v h R Q=>by
 obtain⟨S,T,W,C,E,D,X,Y,G,I,H,J,M,L,N,o,P,Z,j,k,p,r,q,l,m,n,s,u,t,x,z,y,A,a,B,b,d,c,f,i,g,e,h⟩:=h;exact⟨S,T,W,C,E,D,X,Y,G,I,H,J,M,L,N,o,P,Z,j,k,p,r,q,l,m,n,s,u,t,x,z,y,A,a,B,b,d,c,f,i,g,e,h.on R Q⟩
def MN:Value:=.agg #[.int .i64 0,.string ⟨#[]⟩,.bool false,.slice none 0 0,.int .i64 0,.string ⟨#[]⟩,.slice none 0 0,.slice none 0 0,.slice none 0 0,.int .i64 0,.string ⟨#[]⟩,.bool false,.slice none 0 0,.int .i64 0,.int .u64 0,.string ⟨#[]⟩,.slice none 0 0,.slice none 0 0,.slice none 0 0,.slice none 0 0,.slice none 0 0]
theorem Tryz.IW:(Tryz.prog.info? 144).map (fun i=>(i.zero,i.size,i.bytes))=some (some MN,21,360):=aq
def fw(w:World)(F:Nat->Prop)(nd:Nd)(v:Value):Prop:=∃ (x0:Int) (x1:ByteArray) (Vg:Option Addr) (Vi Vh:Nat) (x3:Int) (x4:Bool) (x5:Bool) (Vs:Option Addr) (Vu Vt:Nat) (Vv:Option Addr) (Vx Vw:Nat) (Vy:Option Addr) (VA Vz:Nat) (VC:Option Addr) (VE VD:Nat) (VF:Option Addr) (VH VG:Nat) (VI:Option Addr) (VK VJ:Nat) (VL:Option Addr) (VO VN:Nat) (VP:Option Addr) (VR VQ:Nat),v=.agg #[.int .i64 x0,.string x1,.slice Vg Vi Vh,.int .i64 x3,.bool x4,.bool x5,.slice Vs Vu Vt,.slice Vv Vx Vw,.slice Vy VA Vz,.slice VC VE VD,.slice VF VH VG,.slice VI VK VJ,.slice VL VO VN,.slice VP VR VQ]/\ah w F nd [.int .i64 x0,.string x1,.slice Vg Vi Vh,.int .i64 x3,.bool x4,.bool x5,.slice Vs Vu Vt,.slice Vv Vx Vw,.slice Vy VA Vz,.slice VC VE VD,.slice VF VH VG,.slice VI VK VJ,.slice VL VO VN,.slice VP VR VQ]
theorem fw.ok:hM fw:=fun w w' F F' P v h H G=>by
 obtain⟨I,J,s,u,t,L,M,N,x,z,y,A,C,B,D,a,E,b,d,c,f,i,g,j,l,k,m,o,n,p,r,q,e,h⟩:=h;exact⟨I,J,s,u,t,L,M,N,x,z,y,A,C,B,D,a,E,b,d,c,f,i,g,j,l,k,m,o,n,p,r,q,e,h.on H G⟩
def A3:Value:=.agg q8
theorem Tryz.zu:(Tryz.prog.info? 42).map (fun i=>(i.zero,i.size,i.bytes))=some (some A3,14,256):=aq
def oK(w:World)(F:Nat->Prop)(nd:Nd)(v:Value):Prop:=∃ (x0:ByteArray) (x1:Int) (Vg:Option Addr) (Vi Vh:Nat),v=.agg #[.string x0,.int .i64 x1,.slice Vg Vi Vh]/\ah w F nd [.string x0,.int .i64 x1,.slice Vg Vi Vh]
theorem oK.ok:hM oK:=fun w w' F F' j v h f d=>by
 obtain⟨g,i,a,c,b,e,h⟩:=h;exact⟨g,i,a,c,b,e,h.on f d⟩
def N0:Value:=.agg uG
theorem Tryz.KQ:(Tryz.prog.info? 45).map (fun i=>(i.zero,i.size,i.bytes))=some (some N0,3,48):=aq
def sH(w:World)(F:Nat->Prop)(nd:Nd)(v:Value):Prop:=∃ (Va:Option Addr) (Vc Vb:Nat) (x1:Int) (x2:ByteArray) (x3:Bool) (Vm:Option Addr) (Vo Vn:Nat) (x5:Int) (x6:Int) (x7:ByteArray) (Vy:Option Addr) (VA Vz:Nat) (VC:Option Addr) (VE VD:Nat) (VF:Option Addr) (VH VG:Nat) (VI:Option Addr) (VK VJ:Nat) (VL:Option Addr) (VO VN:Nat),v=.agg #[.slice Va Vc Vb,.int .i64 x1,.string x2,.bool x3,.slice Vm Vo Vn,.int .i64 x5,.int .u64 x6,.string x7,.slice Vy VA Vz,.slice VC VE VD,.slice VF VH VG,.slice VI VK VJ,.slice VL VO VN]/\ah w F nd [.slice Va Vc Vb,.int .i64 x1,.string x2,.bool x3,.slice Vm Vo Vn,.int .i64 x5,.int .u64 x6,.string x7,.slice Vy VA Vz,.slice VC VE VD,.slice VF VH VG,.slice VI VK VJ,.slice VL VO VN]
def IX:Value:=.agg Mo
theorem Tryz.IY:(Tryz.prog.info? 105).map (fun i=>(i.zero,i.size,i.bytes))=some (some IX,13,232):=aq
def kH(w:World)(F:Nat->Prop)(nd:Nd)(v:Value):Prop:=∃ (Va:Option Addr) (Vc Vb:Nat) (x1:ByteArray) (Vg:Option Addr) (Vi Vh:Nat),v=.agg #[.slice Va Vc Vb,.string x1,.slice Vg Vi Vh]/\ah w F nd [.slice Va Vc Vb,.string x1,.slice Vg Vi Vh]
theorem kH.ok:hM kH:=fun w w' F F' l v h j i=>by
 obtain⟨a,c,b,k,d,g,f,e,h⟩:=h;exact⟨a,c,b,k,d,g,f,e,h.on j i⟩
def MO:Value:=.agg #[.slice none 0 0,.string ⟨#[]⟩,.slice none 0 0]
theorem Tryz.EI:(Tryz.prog.info? 92).map (fun i=>(i.zero,i.size,i.bytes))=some (some MO,3,64):=aq
def qU(w:World)(F:Nat->Prop)(nd:Nd)(v:Value):Prop:=∃ (x0:ByteArray) (Vd:Option Addr) (Vf Ve:Nat),v=.agg #[.string x0,.slice Vd Vf Ve]/\ah w F nd [.string x0,.slice Vd Vf Ve]
theorem qU.ok:hM qU:=fun w w' F F' i v h f d=>by
 obtain⟨g,a,c,b,e,h⟩:=h;exact⟨g,a,c,b,e,h.on f d⟩
def N1:Value:=.agg #[.string ⟨#[]⟩,.slice none 0 0]
theorem Tryz.IZ:(Tryz.prog.info? 148).map (fun i=>(i.zero,i.size,i.bytes))=some (some N1,2,40):=aq
def Di:Value:=.agg #[.int .i64 0,.string ⟨#[]⟩,.slice none 0 0,.string ⟨#[]⟩,.slice none 0 0,.slice none 0 0]
theorem Tryz.KR:(Tryz.prog.info? 94).map (fun i=>(i.zero,i.size,i.bytes))=some (some Di,6,112):=aq
def vX(w:World)(F:Nat->Prop)(nd:Nd)(v:Value):Prop:=∃ x:ByteArray,v=.string x/\ah w F nd [.string x]
theorem vX.ok:hM vX:=fun w w' F F' c v h b a=>by
 obtain⟨x,e,h⟩:=h;exact⟨x,e,h.on b a⟩
def pJ:Value:=.string ⟨#[]⟩
theorem Tryz.sF:(Tryz.prog.info? 9).map (fun i=>(i.zero,i.size,i.bytes))=some (some pJ,1,16):=aq
def FN(G:Gh)(k:Nat)(args:Array Value)(I:jL)(x:PM Nd):Prop:=∀ (M:Nat->Prop) (m:Option Addr) (y:Nat) (d:Option Addr) (u:Nat) (w:World) (s:al) (r:Except (Nat×Nat) (Nd×al)),PS G M m y d u w s->x s=some r->Calls Tryz.prog k args w fun e w'=>PN G M m y d u I w s r e w'
def gu(G:Gh)(k:Nat)(args:Array Value)(x:PM (List Nd)):Prop:=∀ (M:Nat->Prop) (m:Option Addr) (y:Nat) (d:Option Addr) (u:Nat) (w:World) (s:al) (r:Except (Nat×Nat) (List Nd×al)),PS G M m y d u w s->x s=some r->Calls Tryz.prog k args w fun e w'=>PL G M m y d u w s r e w'
def pM(G:Gh)(m:Option Addr)(y:Nat)(d:Option Addr)(u:Nat)(I:jL){σ Γ:Type}(k:Nat)(fb cp:Array Value)(one:σ->PM (Nd×σ))(pr:Γ->σ)(Mx:Γ->Nat->Prop)(St:World->Γ->Prop):Prop:=
 ∀ (w:World) (s:al) (g:Γ) (r:Except (Nat×Nat) ((Nd×σ)×al)),PS G (Mx g) m y d u w s->St w g->one (pr g) s=some r->
   Calls Tryz.prog k (fb++cp) w fun e w'=>Kn G.B (Mx g) w w'/\match r with
    |.error (c,q)=>e=az c q
    |.ok ((nd,x),s')=>s'.sc=s.sc/\s.i<=s'.i/\∃ g' v,e=.returned v/\pr g'=x/\PS G (Mx g') m y d u w' s'/\St w' g'/\(∀ j,Mx g j->Mx g' j)/\(∀ j,Mx g' j->Mx g j\/w.heap.size<=j)/\I w' (Own G.B w.heap.size w'.heap.size (Mx g')) nd v
def lX(G:Gh)(m:Option Addr)(y:Nat)(d:Option Addr)(u:Nat){σ Γ:Type}(pr:Γ->σ)(Mx:Γ->Nat->Prop)(St:World->Γ->Prop)(w:World)(s:al)(g:Γ)(r:Except (Nat×Nat) ((List Nd×σ)×al))(e:Ending)(w':World):Prop:=
 Kn G.B (Mx g) w w'/\match r with
  |.error (c,q)=>e=az c q
  |.ok ((l,x),s')=>s'.sc=s.sc/\s.i<=s'.i/\∃ g' v,e=.returned v/\pr g'=x/\PS G (Mx g') m y d u w' s'/\St w' g'/\(∀ j,Mx g j->Mx g' j)/\(∀ j,Mx g' j->Mx g j\/w.heap.size<=j)/\ey w' (Own G.B w.heap.size w'.heap.size (Mx g')) l v
theorem FN.pE{G:Gh}{M:Nat->Prop}{m:Option Addr}{y:Nat}{d:Option Addr}{u k:Nat}{n l:Array Value}{I:jL}{x:PM Nd}(B:hM I)(h:FN G k (n++l) I x):
 pM G m y d u I k n l (lone x) (fun _:Unit=>()) (fun _=>M) (fun _ _=>True):=fun w s g r i _ o=>by
 unfold lone at o
 rcases a_ o with⟨c,q,a,rfl⟩|⟨F,H,a,f⟩
 ·refine(h M m y d u w s _ i a).mono ?_;rintro e w' ⟨j,D⟩;exact⟨j,D⟩
 ·obtain rfl:=aj f;refine(h M m y d u w s _ i a).mono ?_;rintro e w' ⟨j,f,p,t,v,z,A⟩;exact⟨j,f,p,(),v,z,rfl,t,trivial,fun _ h=>h,fun _ h=>.inl h,B _ _ _ _ _ _ A (Kb.refl _ _) (fun b C=>C.imp id fun q=>⟨q.1,q.2.1,fun E=>ba ((i.mB b E).2)⟩)⟩
def oX(G:Gh){Γ:Type}(Mx:Γ->Nat->Prop)(St:World->Γ->Prop):Prop:=∀ w w' g,St w g->(∀ k,Mx g k->k≠G.bp->w'.heap[k]?=w.heap[k]?)->St w' g
end Go.Proofs.YtkblonfmjlopaaaGreatDoor
