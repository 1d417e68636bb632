/-
  All readers at every depth are what the parser's functions are.
-/
import Derived.Test.YtkblonfmjlopaaaGreatDoorSzCl
import Derived.Test.YtkblonfmjlopaaaGreatDoorSxJ
set_option linter.all false
set_option maxRecDepth 1000000
set_option maxHeartbeats 16000000
namespace Go.Proofs.YtkblonfmjlopaaaGreatDoor
open Go Go.RowKit
variable {y0 y1:Int}{l:List Nd}{lb d n:Nat}{s s':al}{X:Tx}{v x:Value}{FW w w':World}
def wU{α:Type}(X:Tx)(x:PM α):Prop:=∀ s a s',s.i<=X.ts.length->x s=some (.ok (a,s'))->s.i<=s'.i/\s'.i<=X.ts.length
theorem vd{X:Tx}{x:PM Nd}(i:wU X x){e:ak}:∀ (n:Nat) (d:List Nd) (u:Unit) (s:al) (l:List Nd) (f:Unit) (s':al),gy X e (lone x) n d u s=some (.ok ((l,f),s'))->l.length<=d.length+(X.ts.length-s.i)
 |0,d,u,s,l,f,s',h=>by cases h
 |n+1,d,u,s,l,f,s',h=>by
  unfold gy at h
  by_cases c:ay X [e] s=true
  ·have p:=ee c;rw[e4 (py c)] at h;simp only [if_true] at h;obtain⟨⟨a,v⟩,q,g,j⟩:=di h;unfold lone at g;obtain⟨b,t,k,m⟩:=di g;cases aj m;have:=i _ _ _ (show s.i+1<=X.ts.length from p) k;have o:=vd i n _ _ _ _ _ _ j;have r:s.i+1<=q.i:=this.1;simp only [List.length_append,List.length_singleton] at o;omega
  ·rw[e4 (pz c)] at h;cases aj h;omega
theorem ve{x:PM Nd}(f:wU X x){b:ak}(h:df X n b x s=some (.ok (l,s'))):l.length<=1+X.ts.length:=by
 unfold df list at h;obtain⟨⟨g,u⟩,j,c,d⟩:=di h;cases aj d;obtain⟨⟨a,m⟩,k,i,e⟩:=di c;have:=vd f _ _ _ _ _ _ _ e;simp only [List.length_singleton] at this;show g.length<=1+X.ts.length;omega
theorem CF{x:PM Nd}(i:wU X x){a:ak}(h:gd X n a x s=some (.ok (l,s'))):l.length<=1+X.ts.length:=by
 unfold gd hF at h;obtain⟨⟨j,u⟩,r,c,d⟩:=di h;cases aj d;obtain⟨o,k,p,b⟩:=di c
 split at b
 ·cases aj b;simp
 ·obtain⟨⟨q,v⟩,m,e,f⟩:=di b;obtain⟨_,t,_,g⟩:=di f;cases aj g
  exact ve i (show df X n [44] x k=some (.ok (j,m)) from by
   show PM.bind _ _ _=_;unfold PM.bind;rw[e]
   rfl)
theorem oF{w:ak}{y:PM Nd}(n:wU X y)(m:wU X (label X)):nH X (fun i=>label X>>=fun a=>a8 X w>>=fun _=>y>>=fun t=>pure (t,i++[a])):=fun i s a f s' o h=>by
 obtain⟨b,d,j,e⟩:=di h;have p:=m _ _ _ o j
 by_cases c:ay X [w] d=true
 ·rw[ti c] at e;obtain⟨t,r,k,l⟩:=di e;cases aj l;have g:=n _ _ _ (show d.i+1<=X.ts.length from ee c) k;have q:d.i+1<=s'.i:=g.1;exact⟨ar,O,g.2⟩
 ·have:PM.bind (a8 X w) _ d=some (.ok ((a,f),s')):=e;unfold PM.bind at this;rw[vf c] at this;cases this
theorem xB{b:Bool}{a:ak}(h:name X b s=some (.ok (a,s'))):s'={s with i:=s.i+1}:=by
 unfold name at h
 split at h
 ·cases h;rfl
 ·rw[kY] at h;cases h
theorem tj{X:Tx}:∀ (m:Nat) (b:List ak) (s:al) (l:List ak) (s':al),hQ X m b s=some (.ok (l,s'))->s'.sc=s.sc/\s.i+l.length=b.length+s'.i
 |0,b,s,l,s',h=>by cases h
 |m+1,b,s,l,s',h=>by
  unfold hQ at h;obtain⟨t,j,d,c⟩:=di h;unfold p5 at d;cases d
  split at c
  ·obtain⟨a,k,e,f⟩:=di c;obtain rfl:=xB e;obtain⟨g,i⟩:=tj m _ _ _ _ f;simp only [List.length_append,List.length_singleton] at i;exact⟨g,O⟩
  ·cases aj c;exact⟨rfl,O⟩
theorem CG(s:al)(l:List ak)(s':al)(h:names X n s=some (.ok (l,s'))):s'.sc=s.sc/\s.i+l.length<=s'.i:=by
 unfold names at h;obtain⟨a,f,b,c⟩:=di h;obtain rfl:=xB b;obtain⟨d,e⟩:=tj n _ _ _ _ c;simp only [List.length_singleton] at e;exact⟨d,O⟩
structure CH(G:Gh)(f:Fs):Prop where
 ty:FN G 74 (bq G) cz f.ty
 pat:FN G 65 (bq G) cy f.pat
 exp:FN G 67 (bq G) bc f.exp
 dr:∀ b,AH G 12 (AI G b) (f.dr b)
 e8:∀ l b,FN G 98 #[.pointer (some ⟨G.bp,0,none⟩),.int .i64 l,.bool b,.func (.func 99) (bq G) #[],.bool false,.func (.func 100) #[] #[]] cy (f.e8 l b)
 fB:∀ l b,FN G 192 #[.pointer (some ⟨G.bp,0,none⟩),.int .i64 l,.bool b,.func (.func 193) (bq G) #[],.bool true,.func (.func 194) #[] #[]] bc (f.fB l b)
 either:FN G 103 (bq G) bc f.either
 both:FN G 138 (bq G) bc f.both
 jU:kZ G cz ur 148 f.jU
 prec:kZ G cy y6 144 f.prec
 kk:kZ G bc vh 244 f.kk
 gt:nH G.X f.jU
 gp:nH G.X f.prec
 ge:nH G.X f.kk
 iq:gu G 104 (bq G) f.iq
 data:FN G 71 (bq G) kH f.data
 kS:FN G 76 (bq G) fw f.kS
 specs:gu G 77 (bq G) f.specs
 vars:gu G 72 (bq G) (jn f.vars)
 jK:gu G 78 (bq G) (jn f.jK)
 Nu:∀ s l s',f.jK s=some (.ok (l,s'))->s'.sc=s.sc/\s.i+l.length<=s'.i
structure Up(G:Gh)(f aa1:Fs)(n':Nat):Prop where
 hd:∀ w s r,f.hd w s=some r->h_ G.X aa1 w s=some r
 mF:∀ w s r,f.mF w s=some r->jo G.X aa1 n' w s=some r
 l7:∀ w s r,f.l7 w s=some r->h' G.X aa1 n' w s=some r
 lS:∀ e s r,f.lS e s=some r->iw G.X aa1 n' e s=some r
 lC:∀ e s r,f.lC e s=some r->ix G.X aa1 n' e s=some r
 lU:∀ l s r,f.lU l s=some r->r=.ok (AJ l,s)
 oD:∀ w s r,f.oD w s=some r->l0 G.X aa1 n' w s=some r
 mG:∀ w s r,f.mG w s=some r->jY aa1 w s=some r
theorem no{α:Type}{p:Prop}{r:Except (Nat×Nat) (α×al)}(h:(none:Option (Except (Nat×Nat) (α×al)))=some r):p:=by cases h
theorem xC(G:Gh):CH G vi:=
 ⟨fun M e f c fc w s r d h=>no h,fun M e f c fc w s r d h=>no h,fun M e f c fc w s r d h=>no h,fun b e f c fc w s r d h=>no h,fun _ _ M e f c fc w s r d h=>no h,fun _ _ M e f c fc w s r d h=>no h,fun M e f c fc w s r d h=>no h,fun M e f c fc w s r d h=>no h,so,so,so,fun j s a g s' i h=>no h,fun j s a g s' i h=>no h,fun j s a g s' i h=>no h,fun M e f c fc w s r d h=>no h,fun M e f c fc w s r d h=>no h,fun M e f c fc w s r d h=>no h,fun M e f c fc w s r d h=>no h,fun M e f c fc w s r d h=>no h,fun M e f c fc w s r d h=>no h,fun s l s' h=>no h⟩
theorem Ig(G:Gh):Up G vi vi 0:=⟨fun w s r h=>no h,fun w s r h=>no h,fun w s r h=>no h,fun w s r h=>no h,fun w s r h=>no h,fun w s r h=>no h,fun w s r h=>no h,fun w s r h=>no h⟩
theorem Ih(G:Gh)(f:Fs)(n:Nat):Up G (k' G.X f n) f n:=⟨fun w s r h=>h,fun w s r h=>h,fun w s r h=>h,fun w s r h=>h,fun w s r h=>h,fun l s r h=>aj h,fun w s r h=>h,fun w s r h=>h⟩
theorem CH.deep{G:Gh}(c:ei G)(D:qM G.X){f g:Fs}{z:Nat}(k:n<=1000000)(o:CH G f)(x:Sp f)(m:Sf G.X G.X 0 f f)(d:CH G g)(y:Sp g)(w:Sf G.X G.X 0 g g)(u:Up G f g z):CH G (k' G.X f n):=by
 have I:=c.k0;have L:wU G.X f.ty:=fun s a t e h=>⟨(m.ty s e a t h).1,(m.ty s e a t h).2.1⟩;have H:wU G.X f.pat:=fun s a t e h=>⟨(m.pat s e a t h).1,(m.pat s e a t h).2.1⟩;have J:wU G.X f.exp:=fun s a t e h=>⟨(m.exp s e a t h).1,(m.exp s e a t h).2.1⟩;have A:wU G.X g.exp:=fun s a t e h=>⟨(w.exp s e a t h).1,(w.exp s e a t h).2.1⟩
 have B:wU G.X (label G.X):=fun s a t e h=>by
  have:=n6 (P:=True) (Q:=True) (jb G.X) (s:=s) e a t h;exact⟨this.1,this.2.1⟩
 have q:=AK (n:=n) c o.pat g z u.l7 u.lU (xD x.pat x.l7 x.lU) (fun s l s' h=>ba (CF H h)) d.prec d.gp;have C:=y7 (n:=n) c o.ty (nv x.ty) o.jU o.gt;have E:=AL c q;have v:=AM c o.exp g z d.exp u.lS u.lC y.exp (fun b s l s' h=>ba (ve A h));have j:=CI c v g z u.mF d.exp (d.dr false) y.exp d.kk d.ge;have p:=FI (n:=n) c j;have F:=AN (n:=n) c o.ty (o.fB 0 false);have i:=AO c o.exp g u.hd d.exp d.iq;have r:=FJ c k o.ty q o.exp
 exact⟨Kl c k C o.ty (nv x.ty),FK c o.ty g u.mG d.pat (o.e8 0 false),FL c i o.either o.iq,
  fun b=>CJ c k b fun N M=>FM c D o.pat o.exp r o.jK o.Nu u.oD d.data d.vars d.ty d.kS d.specs d.jK d.Nu N M,
  fun l b=>Ii rfl cy.ok jq false Et (Mz c) c l b (jg G.X f n) f.e8 99 (bq G) #[] (fun _ _=>rfl) E o.e8,
  fun l b=>Ij rfl bc.ok jq true Eu (MA c) c l b (app G.X f n) f.fB 193 (bq G) #[] (fun _ _=>rfl) p o.fB,
  y8 c i o.both o.either,CK c i F o.both,FO c o.ty,Ik c o.pat,Il c o.exp,oF L B,oF H B,oF J B,
  CL c o.pat o.exp,xE c o.ty,ub c k o.ty (o.dr true),vj c k o.ty,sq c,CM c k,CG⟩
theorem Ev{G:Gh}(e:ei G)(b:qM G.X):∀ n,n<=1000001->CH G (iZ G.X n)/\∃ a f,CH G a/\Sp a/\Sf G.X G.X 0 a a/\Up G (iZ G.X n) a f
 |0,_=>⟨xC G,vi,0,xC G,Sp.all G.X 0,nu (jb G.X) 0 0 (aw _),Ig G⟩
 |n+1,j=>by
  obtain⟨o,a,f,i,d,c,u⟩:=Ev e b n O;have h:=Sp.all G.X n;have g:=nu (jb G.X) n n (aw _);exact⟨o.deep e b O h g i d c u,iZ G.X n,n,o,h,g,Ih G _ n⟩
structure Im(tx:ByteArray)(ts:List Tok):Prop where
 k0:ts.length<=65536
 en:tx.size<=65536
 wd:∀ (i:Nat) (t:Tok),ts[i]?=some t->t.text.length<=65536/\t.pos<=65536/\(t.kind=4->t.text≠[])/\t.kind<=8
structure CN(w:World):Prop where
 kN:3<w.heap.size
 mx:∃ m:Int,w.cell? ⟨3,0,none⟩=some (.int .i64 m)
 sp:∀ w',Below w.heap.size w w'->Lib.TabIs Tryz.prog w' "strings.asciiSpace" .u8 Lib.asciiSpaceTab
 Nv:∀ w',Below w.heap.size w w'->Lib.TabIs Tryz.prog w' "internal/strconv.uint64pow10" .u64 Lib.pow10Tab
theorem iR.Ew{a:Option Addr}{c:Nat}{s:List Tok}(h:iR w a n c s){p:Addr}(q:w.cell? p=some v)(r:∀ x,v≠.int .u32 x)(u:c≠0->∀ x b,a=some ⟨x,b,none⟩->p.block≠x)(y:Value):iR (w.setCell p y) a n c s:=by
 by_cases m:c=0
 ·subst m;obtain⟨f,A,e,z,k⟩:=h;refine⟨f,⟨A.le,A.mx,fun j o=>O⟩,e,z,fun i t g=>(k i t g).a6 ((e6.refl w).set q r y)⟩
 ·obtain⟨f,A,e,z,k⟩:=h;refine⟨f,⟨A.le,A.mx,fun j o=>?_⟩,e,z,fun i t g=>(k i t g).a6 ((e6.refl w).set q r y)⟩;obtain⟨x,b,l,d⟩:=A.cell j o;refine⟨x,b,l,?_⟩;have:=u m x b l;rw[eb _ _ _ _ (by intro h;apply this;rw[h])];exact d
theorem FQ{n:ByteArray}{g:List Tok}{c a:World}{l f d:Option Addr}{m r q:Nat}(B:Below w.heap.size w c)(D:CN w)(j:Im n g)(z:iR c l g.length m g)(s:Below c.heap.size c a)(y:wV a c.heap.size f r d q ez)
 (i:∀ b o,f=some ⟨b,o,none⟩->b<a.heap.size/\c.heap.size<=b) (h:∀ b o,d=some ⟨b,o,none⟩->b<a.heap.size/\c.heap.size<=b) (x:∀ b H I,f=some ⟨b,H,none⟩->d=some ⟨b,I,none⟩->False):
 ei ⟨a.heap.size,l,m,⟨g,n.size⟩,c⟩/\PS ⟨a.heap.size,l,m,⟨g,n.size⟩,c⟩ (fun k=>k=a.heap.size\/(∃ o,f=some ⟨k,o,none⟩)\/∃ o,d=some ⟨k,o,none⟩) f r d q (a.alloc (.cells #[.slice l g.length m,.int .i64 0,.int .i64 (n.size:Nat),.slice f 17 r,.slice d 17 q] 55)) ⟨0,ez⟩:=by
 have u:=ab a (.cells #[.slice l g.length m,.int .i64 0,.int .i64 (n.size:Nat),.slice f 17 r,.slice d 17 q] 55);have p:=cc.new a #[.slice l g.length m,.int .i64 0,.int .i64 (n.size:Nat),.slice f 17 r,.slice d 17 q] 55;have A:=s.size;have G:(a.alloc (.cells #[.slice l g.length m,.int .i64 0,.int .i64 (n.size:Nat),.slice f 17 r,.slice d 17 q] 55)).heap.size=a.heap.size+1:=ar
 refine⟨⟨z,j.k0,j.en,j.wd,A,fun w' E=>D.Nv w' (B.trans (E.mono B.size))⟩,⟨s.trans (u.mono A),fun k F=>?_,.inl rfl,fun b o e=>⟨.inr (.inl ⟨o,e⟩),fun v=>by have:=(i b o e).1;have C:b=a.heap.size:=v;omega⟩,fun b o e=>⟨.inr (.inr ⟨o,e⟩),fun v=>by have:=(h b o e).1;have C:b=a.heap.size:=v;omega⟩,x,?_,?_,?_,?_,?_,p.2.1,y.blocks (fun b o e=>u.block b (i b o e).1) (fun b o e=>u.block b (h b o e).1),?_,hU _,?_⟩⟩
 ·show c.heap.size<=k/\k<_
  rcases F with rfl|⟨o,e⟩|⟨o,e⟩
  ·omega
  ·have:=i k o e;omega
  ·have:=h k o e;omega
 ·exact p.2.2 0 (show 0<5 from O)
 ·exact p.2.2 1 (show 1<5 from O)
 ·exact p.2.2 2 (show 2<5 from O)
 ·exact p.2.2 3 (show 3<5 from O)
 ·exact p.2.2 4 (show 4<5 from O)
 ·show ez.length<=20+0;decide
 ·show 0<ez.length;decide
theorem nI{f:Fs}{r:Except (Nat×Nat) (List Nd)}(h:gP X f=some r):(∃ c q,f.dr true ⟨0,ez⟩=some (.error (c,q))/\r=.error (c,q))\/
 ∃ l a,f.dr true ⟨0,ez⟩=some (.ok (l,a))/\((a.i<X.ts.length/\r=.error (gQ X a))\/(¬a.i<X.ts.length/\r=.ok l)):=by
 have j:∀ x,nt X f ⟨0,ez⟩=some x->(∃ c q,f.dr true ⟨0,ez⟩=some (.error (c,q))/\x=.error (c,q))\/∃ l a,f.dr true ⟨0,ez⟩=some (.ok (l,a))/\((a.i<X.ts.length/\x=.error (gQ X a))\/(¬a.i<X.ts.length/\x=.ok (l,a))):=fun x m=>by
  unfold nt at m
  rcases a_ m with⟨c,q,d,rfl⟩|⟨l,a,d,b⟩
  ·exact .inl ⟨c,q,d,rfl⟩
  ·rw[get_bind] at b;refine .inr ⟨l,a,d,?_⟩
   by_cases k:a.i<X.ts.length
   ·rw[if_pos k,kY] at b;exact .inl ⟨k,(f_ b).symm⟩
   ·rw[if_neg k] at b;exact .inr ⟨k,aj b⟩
 unfold gP at h
 rcases i:nt X f ⟨0,ez⟩ with _|e|⟨l,a⟩
 ·rw[i] at h;cases h
 ·rw[i] at h;obtain rfl:=f_ h
  rcases j _ i with⟨c,q,d,b⟩|⟨l,a,d,⟨b,g⟩|⟨b,g⟩⟩
  ·cases b;exact .inl ⟨c,q,d,rfl⟩
  ·cases g;exact .inr ⟨l,a,d,.inl ⟨b,rfl⟩⟩
  ·cases g
 ·rw[i] at h;obtain rfl:=f_ h
  rcases j _ i with⟨c,q,d,b⟩|⟨n,s',d,⟨b,g⟩|⟨b,g⟩⟩
  ·cases b
  ·cases g
  ·cases g;exact .inr ⟨l,a,d,.inr ⟨b,rfl⟩⟩
theorem Ex{f e:World}{c q:Nat}(v:cc f lb #[x])(y:cc f d #[.int .i64 y0,.int .i64 y1])(g:lb≠d)(i:Below f.heap.size f e):
 ∃ F,F=((e.setCell ⟨lb,0,none⟩ (.slice none 0 0)).setCell ⟨d,0,none⟩ (.int .i64 (c:Nat))).setCell ⟨d,1,none⟩ (.int .i64 (q:Nat))/\F.cell? ⟨lb,0,none⟩=some (.slice none 0 0)/\F.cell? ⟨d,0,none⟩=some (.int .i64 (c:Nat))/\F.cell? ⟨d,1,none⟩=some (.int .i64 (q:Nat))/\∀ B,B<=lb->B<=d->Below B f f->B<=f.heap.size->Below B f F:=by
 have s:cc (e.setCell ⟨lb,0,none⟩ (.slice none 0 0)) lb #[.slice none 0 0]:=by simpa using (v.bl i).lF 0 ar (.slice none 0 0)
 have j:∀ b,b≠lb->(e.setCell ⟨lb,0,none⟩ (.slice none 0 0)).heap[b]?=e.heap[b]?:=fun b h=>h3 _ _ _ _ h;have u:cc (e.setCell ⟨lb,0,none⟩ (.slice none 0 0)) d #[.int .i64 y0,.int .i64 y1]:=(y.bl i).a6 (j d (Ne.symm g)) (by simp[World.setCell]);have l:cc (((e.setCell ⟨lb,0,none⟩ (.slice none 0 0)).setCell ⟨d,0,none⟩ (.int .i64 (c:Nat))).setCell ⟨d,1,none⟩ (.int .i64 (q:Nat))) d (jj c q):=by simpa using (u.lF 0 ar (.int .i64 (c:Nat))).lF 1 ar (.int .i64 (q:Nat))
 refine⟨_,rfl,?_,l.2.2 0 (show 0<2 from O),l.2.2 1 (show 1<2 from O),fun B m k _ n=>(((i.mono n).setCell (p:=⟨lb,0,none⟩) m _).setCell (p:=⟨d,0,none⟩) k _).setCell (p:=⟨d,1,none⟩) k _⟩;have o:=h3 ((e.setCell ⟨lb,0,none⟩ (.slice none 0 0)).setCell ⟨d,0,none⟩ (.int .i64 (c:Nat))) ⟨d,1,none⟩ (.int .i64 (q:Nat)) lb g;have r:=h3 (e.setCell ⟨lb,0,none⟩ (.slice none 0 0)) ⟨d,0,none⟩ (.int .i64 (c:Nat)) lb g;exact(i' (w:=e.setCell ⟨lb,0,none⟩ (.slice none 0 0)) (a:=⟨lb,0,none⟩) (o.trans r)).trans (s.2.2 0 (show 0<1 from O))
theorem CO{c:World}{v:Value}{j k:Int}(s:cc c lb #[v])(u:cc c d #[.int .i64 j,.int .i64 k])(e:lb≠d)(r:((c.setCell ⟨lb,0,none⟩ x).setCell ⟨d,0,none⟩ (.int .i64 y0)).setCell ⟨d,1,none⟩ (.int .i64 y1)=FW):
 FW.cell? ⟨lb,0,none⟩=some x/\FW.cell? ⟨d,0,none⟩=some (.int .i64 y0)/\FW.cell? ⟨d,1,none⟩=some (.int .i64 y1)/\∀ B,B<=lb->B<=d->Below B c FW:=by
 subst r;have o:cc (c.setCell ⟨lb,0,none⟩ x) lb #[x]:=by simpa using s.lF 0 ar x
 have f:∀ b,b≠lb->(c.setCell ⟨lb,0,none⟩ x).heap[b]?=c.heap[b]?:=fun b h=>h3 _ _ _ _ h;have q:cc (c.setCell ⟨lb,0,none⟩ x) d #[.int .i64 j,.int .i64 k]:=u.a6 (f d (Ne.symm e)) (by simp[World.setCell]);have i:cc (((c.setCell ⟨lb,0,none⟩ x).setCell ⟨d,0,none⟩ (.int .i64 y0)).setCell ⟨d,1,none⟩ (.int .i64 y1)) d #[.int .i64 y0,.int .i64 y1]:=by simpa using (q.lF 0 ar (.int .i64 y0)).lF 1 ar (.int .i64 y1)
 refine⟨?_,i.2.2 0 (show 0<2 from O),i.2.2 1 (show 1<2 from O),fun B l g=>(((eA B c).setCell (p:=⟨lb,0,none⟩) l _).setCell (p:=⟨d,0,none⟩) g _).setCell (p:=⟨d,1,none⟩) g _⟩;have m:=h3 ((c.setCell ⟨lb,0,none⟩ x).setCell ⟨d,0,none⟩ (.int .i64 y0)) ⟨d,1,none⟩ (.int .i64 y1) lb e;have n:=h3 (c.setCell ⟨lb,0,none⟩ x) ⟨d,0,none⟩ (.int .i64 y0) lb e;exact(i' (w:=c.setCell ⟨lb,0,none⟩ x) (a:=⟨lb,0,none⟩) (m.trans n)).trans (o.2.2 0 (show 0<1 from O))
def Sm(w w':World):Prop:=w'.heap.size=w.heap.size/\∀ p v,w.cell? p=some v->w'.cell? p=some v
theorem Sm.refl(w:World):Sm w w:=⟨rfl,fun _ _ h=>h⟩
theorem Sm.drew(h:Sm w w'):Sm w w'.drew:=h
theorem Sm.drewN(h:Sm w w')(n:Nat):Sm w (w'.drewN n):=h
theorem Sm.set(h:Sm w w'){p:Addr}(b:w.cell? p=some v):Sm w (w'.setCell p v):=by
 refine⟨by simpa [World.setCell] using h.1,fun q x a=>?_⟩
 by_cases e:q=p
 ·subst e;rw[b] at a;cases a;exact kA _ _ _ (h.2 _ _ b)
 ·rw[eb _ _ _ _ (by first|exact e|exact fun h=>e h.symm)];exact h.2 q x a
theorem FT{f:World}{F:Nat->Prop}{Q:World->Prop}(o:ey f F l v)(j:∀ b,F b->b<f.heap.size)(Nw:Below w.heap.size w f)(g:Sm f FW)(i:Below w.heap.size f FW)(p:f.cell? ⟨lb,0,none⟩=some x)(q:f.cell? ⟨d,0,none⟩=some (.int .i64 y0))(r:f.cell? ⟨d,1,none⟩=some (.int .i64 y1))
 (k:∀ W,W.cell? ⟨lb,0,none⟩=some x->W.cell? ⟨d,0,none⟩=some (.int .i64 y0)->W.cell? ⟨d,1,none⟩=some (.int .i64 y1)->Below w.heap.size w W->ey W F l v/\(∀ b,F b->b<W.heap.size)->Q W):Q FW:=by
 refine k FW (g.2 _ _ p) (g.2 _ _ q) (g.2 _ _ r) (Nw.trans i) ⟨?_,fun b i=>by rw[g.1];exact j b i⟩;obtain⟨a,c,e,n⟩:=o;exact⟨a,c,e,n.a6 (fun _ h=>h) (fun b s x _ m=>g.2 _ _ m)⟩
def Nx(w:World)(r:Except (Nat×Nat) (List Nd))(d:Nat)(e:Ending)(w':World):Prop:=
 Below w.heap.size w w'/\match r with
  |.error (c,q)=>e=.returned (.tuple #[.slice none 0 0,.agg (jj c q)])
  |.ok l=>if 200<d then e=.returned (.tuple #[.slice none 0 0,.agg #[.int .i64 3,.int .i64 0]]) else ∃ v F,e=.returned (.tuple #[v,.agg o5])/\ey w' F l v/\∀ b,F b->b<w'.heap.size
theorem vk(Y:ByteArray)(ts:List Tok)(w:World)(eE:CN w)(dC:Im Y ts)(dS:qM ⟨ts,Y.size⟩)(N d:Nat)(eD:N<=1000000)(r:Except (Nat×Nat) (List Nd))(eG:gP ⟨ts,Y.size⟩ (iZ ⟨ts,Y.size⟩ N)=some r)(eF:∀ l,r=.ok l->hT l/\∃ k,eW (dep k .dec) l 0=some d)(cN:d<=1000000000000000000)
 (bH:∀ w',Below w.heap.size w w'->Calls Tryz.prog 9 #[.string Y] w' fun e dZ=>Below w'.heap.size w' dZ/\∃ T X,e=.returned (.tuple #[.slice T ts.length X,.agg o5])/\iR dZ T ts.length X ts/\dh dZ w'.heap.size T (X*7)):
 Calls Tryz.prog 6 #[.string Y] w fun e w'=>Nx w r d e w':=by
 have eB:=U eE;have dO:=U bH;have dP:=U dC;have bL:=U (nI eG);have bK:=U eF;have bX:=U cN;have eI:=U eD;clear eG eF cN eD;have cZ:((w.alloc r8).alloc ml).heap.size=w.heap.size+2:=ar
 have bJ:Hid (Below w.heap.size w ((w.alloc r8).alloc ml)):=U ((ab w _).trans ((ab _ _).mono (ab w _).size));have cA:Hid (cc ((w.alloc r8).alloc ml) w.heap.size #[.slice none 0 0]):=U ((cc.new w _ 23).bl (ab _ _));have cD:Hid (cc ((w.alloc r8).alloc ml) (w.heap.size+1) o5):=U (cc.Ey _ _ _ 26 ar);have cG:=U cZ
 have cF:Hid (∀ j,1<=j->((w.alloc r8).alloc ml).cell? ⟨w.heap.size,j,none⟩=none):=U (fun j bE=>by
  have e:((w.alloc r8).alloc ml).cell? ⟨w.heap.size,j,none⟩=(w.alloc r8).cell? ⟨w.heap.size,j,none⟩:=(ab (w.alloc r8) ml).cell (p:=⟨w.heap.size,j,none⟩) (by show w.heap.size<_;simp);rw[e,jl];obtain⟨k,rfl⟩:∃ k,j=k+1:=⟨j-1,O⟩
  rfl)
 clear eE bH dC cZ
 go_enter_defers Tryz.func6,Tryz.ntmps6
 go_upto_region 2 with(go_at_call 9;refine(dO.out _ bJ.out).mono ?_;rintro e bC ⟨m,T,X,rfl,dB,bG⟩;have cH:=U (b4 m (b4 dB bG));have cB:=U (cA.bl m);have aR:=U (cD.bl m);obtain⟨aZ,m1⟩:=o0 aR.2.2;have dH:=aR.2.1;clear m dB bG)
 have C:Hid (Below w.heap.size w ((bC.setCell ⟨w.heap.size+1,0,none⟩ (.int .i64 0)).setCell ⟨w.heap.size+1,1,none⟩ (.int .i64 0))):=U (by
  have h:=bJ.trans (cH.1.mono bJ.size)
  exact(h.setCell (p:=⟨w.heap.size+1,0,none⟩) (h5 _) _).setCell (p:=⟨w.heap.size+1,1,none⟩) (h5 _) _)
 have aJ:Hid (iR ((bC.setCell ⟨w.heap.size+1,0,none⟩ (.int .i64 0)).setCell ⟨w.heap.size+1,1,none⟩ (.int .i64 0)) T ts.length X ts):=U (by
  have dF:X≠0->∀ x aB,T=some ⟨x,aB,none⟩->w.heap.size+1≠x:=fun eT x aB e=>by
   subst e;obtain⟨b,o,e,m,_⟩:=cH.2.2 0 O;cases e;have:=cG.out;omega
  refine iR.Ew (iR.Ew cH.2.1 (p:=⟨w.heap.size+1,0,none⟩) aZ (fun _ h=>by cases h) dF (.int .i64 0)) (p:=⟨w.heap.size+1,1,none⟩) (v:=.int .i64 0) ?_ (fun _ h=>by cases h) dF _;rw[eb _ _ _ _ ih]
  exact m1)
 have aI:∀ b,b≠w.heap.size+1->((bC.setCell ⟨w.heap.size+1,0,none⟩ (.int .i64 0)).setCell ⟨w.heap.size+1,1,none⟩ (.int .i64 0)).heap[b]?=bC.heap[b]?:=fun b m=>(h3 _ _ _ _ m).trans (h3 _ _ _ _ m);have bF:w.heap.size<((w.alloc r8).alloc ml).heap.size:=by rw[cG.out];omega
 have aP:Hid (cc ((bC.setCell ⟨w.heap.size+1,0,none⟩ (.int .i64 0)).setCell ⟨w.heap.size+1,1,none⟩ (.int .i64 0)) w.heap.size #[.slice none 0 0]):=U (cB.a6 (aI _ O) (by simp[World.setCell]));have bD:Hid (∀ j,1<=j->((bC.setCell ⟨w.heap.size+1,0,none⟩ (.int .i64 0)).setCell ⟨w.heap.size+1,1,none⟩ (.int .i64 0)).cell? ⟨w.heap.size,j,none⟩=none):=U (fun j bE=>((i' (w:=bC) (a:=⟨w.heap.size,j,none⟩) (aI _ (by show ¬w.heap.size=w.heap.size+1;omega))).trans (cH.1.cell (p:=⟨w.heap.size,j,none⟩) bF)).trans (cF.out j bE));clear aI bF;have aG:Hid (cc ((bC.setCell ⟨w.heap.size+1,0,none⟩ (.int .i64 0)).setCell ⟨w.heap.size+1,1,none⟩ (.int .i64 0)) (w.heap.size+1) o5):=U (by simpa using (aR.lF 0 ar (.int .i64 0)).lF 1 ar (.int .i64 0));clear aZ m1 dH cB aR cH cA cD;generalize (bC.setCell ⟨w.heap.size+1,0,none⟩ (.int .i64 0)).setCell ⟨w.heap.size+1,1,none⟩ (.int .i64 0)=E at C aJ aP aG bD⊢;have aZ:E.cell? ⟨w.heap.size+1,0,none⟩=some (.int .i64 0):=aG.2.2 0 (show 0<2 from O)
 go_upto_region 6 with(go_at_call 11;refine(CP E (fun w' m=>eB.sp w' (C.trans (m.mono C.size)))).mono ?_;rintro e bI ⟨b6,bA,aV,fc,rfl,aL,dA,cV,cU,cX⟩;have A:=U (FQ C eB dP aJ aL dA cV cU cX);have cC:=U (aP.bl aL);have cE:=U (aG.bl aL);have aD:=U aL;clear aL dA cV cU cX)
 have aQ:=U (cC.bl (ab bI (.cells #[.slice T ts.length X,.int .i64 0,.int .i64 (Y.size:Nat),.slice b6 17 bA,.slice aV 17 fc] 55)));have aT:=U (cE.bl (ab bI (.cells #[.slice T ts.length X,.int .i64 0,.int .i64 (Y.size:Nat),.slice b6 17 bA,.slice aV 17 fc] 55)))
 have aH:Hid (∀ j,1<=j->(bI.alloc (.cells #[.slice T ts.length X,.int .i64 0,.int .i64 (Y.size:Nat),.slice b6 17 bA,.slice aV 17 fc] 55)).cell? ⟨w.heap.size,j,none⟩=none):=U (fun j bE=>by
  have eL:=aP.1;have eU:=aD.size
  exact(((ab bI (.cells #[.slice T ts.length X,.int .i64 0,.int .i64 (Y.size:Nat),.slice b6 17 bA,.slice aV 17 fc] 55)).cell (p:=⟨w.heap.size,j,none⟩) (by show w.heap.size<_;omega)).trans (aD.cell (p:=⟨w.heap.size,j,none⟩) eL)).trans (bD.out j bE))
 have aO:=U ((Ev A.1 dS N (ba eI.out)).1.dr true);have aE:Hid (Below w.heap.size w (bI.alloc (.cells #[.slice T ts.length X,.int .i64 0,.int .i64 (Y.size:Nat),.slice b6 17 bA,.slice aV 17 fc] 55))):=U (C.trans ((aD.trans ((ab bI _).mono aD.size)).mono C.size));have W:Hid (w.heap.size+1<E.heap.size):=U aG.1;clear aZ aJ aP aG cC cE;obtain⟨Q,cM⟩:∃ Q,bI.heap.size=Q:=⟨_,rfl⟩;rw[cM] at A aO⊢;generalize bI.alloc (.cells #[.slice T ts.length X,.int .i64 0,.int .i64 (Y.size:Nat),.slice b6 17 bA,.slice aV 17 fc] 55)=dE at A aQ aT aE aH⊢;clear cM aD
 rcases bL.out with⟨c,q,bM,rfl⟩|⟨l,aC,bM,cY⟩
 ·have bV:=U bM;clear bM
  go_wp2_with (go_at_call 12;refine(aO.out b6 bA aV fc _ _ _ A.2.min bV.out).mono ?_;rintro e g ⟨rfl,J⟩;have H:=U J;have Z:=U (aE.trans (J.ia.mono (by show w.heap.size<=E.heap.size;exact C.size)));clear J;unfold az)
  have eM:=aE.out;have eN:=C.size;have cW:=W.out;have u:cc g w.heap.size #[.slice none 0 0]:=aQ.a6 (H.ia.block _ (by show w.heap.size<E.heap.size;omega)) H.size;have I:cc g (w.heap.size+1) o5:=aT.a6 (H.ia.block _ (by show w.heap.size+1<E.heap.size;omega)) H.size;refine leaves_cons (f:=10) (args:=(J_ w)) ar (by simp[go_sem]) ?_;refine(qy w.heap.size (w.heap.size+1) c q _ 0 0 [] g (u.2.2 0 (show 0<1 from O)) (I.2.2 0 (show 0<2 from O)) (I.2.2 1 (show 1<2 from O)) u.2.1 I.2.1 O).mono ?_;rintro e dY bS ⟨rfl,rfl,eJ,aM,rfl⟩;obtain⟨FW,cL,bO,bP,bQ,R⟩:=Ex (c:=c) (q:=q) u I O aM;rw[<-cL];have B:Below w.heap.size w FW:=Z.trans (R w.heap.size (aw _) (h5 _) (eA _ _) Z.size);clear cL R aM u I;simp[Leaves,settle,results,Tryz.results6,go_sem,bO,bP,bQ];exact⟨B,rfl⟩
 rcases cY with⟨cT,rfl⟩|⟨cT,rfl⟩
 ·have bV:=U bM;have dJ:=U cT;clear bM cT bK bL
  go_upto_region 7 with(go_at_call 12;refine(aO.out b6 bA aV fc _ _ _ A.2.min bV.out).mono ?_;rintro e g ⟨dD,dX,cI,dQ,_,rfl,bR,a,c,rfl,aW⟩;have J:=bR.kn;have aK:=bR.ps;clear bR aW;have H:=U J;have Z:=U (aE.trans (J.ia.mono (by show w.heap.size<=E.heap.size;exact C.size)));have aA:=U aK;have u:Hid (cc g w.heap.size #[.slice none 0 0]):=U (aQ.a6 (J.ia.block _ (by have:=W.out;show w.heap.size<E.heap.size;omega)) J.size);have I:Hid (cc g (w.heap.size+1) o5):=U (aT.a6 (J.ia.block _ (by have:=W.out;show w.heap.size+1<E.heap.size;omega)) J.size);have aY:g.cell? ⟨w.heap.size,0,none⟩=some (.slice none 0 0):=u.2.2 0 (show 0<1 from O);have bU:=u.2.1;clear J aK)
  have cW:=W.out;have dR:E.heap.size<=Q:=A.1.Ny;have P:∀ j,1<=j->g.cell? ⟨w.heap.size,j,none⟩=none:=fun j bE=>(i' (w:=dE) (a:=⟨w.heap.size,j,none⟩) (H.ia.block _ (by show w.heap.size<E.heap.size;omega))).trans (aH.out j bE);obtain⟨t,dV⟩:∃ t,ts[aC.i]?=some t:=⟨_,fv dJ⟩;have eH:Hid (gQ ⟨ts,Y.size⟩ aC=(40,t.pos)):=U (by unfold gQ;rw[show(⟨ts,Y.size⟩:Tx).ts[aC.i]?=some t from dV]);obtain⟨x,aB,eX,eQ,n,eS,e,dF,⟨_,_,_,_,_,_,cJ⟩,_⟩:=aA.tok A.1 dV;have e:T=some ⟨x,aB,none⟩:=e;have dW:x≠w.heap.size:=fun q=>by rw[q,P _ O] at cJ;cases cJ
  have D:∀ b,b≠w.heap.size->(g.setCell ⟨w.heap.size,0,none⟩ (.slice a l.length c)).heap[b]?=g.heap[b]?:=fun b m=>h3 _ _ _ _ m;have aX:(g.setCell ⟨w.heap.size,0,none⟩ (.slice a l.length c)).heap.size=g.heap.size:=by simp[World.setCell]
  have L:Hid (cc (g.setCell ⟨w.heap.size,0,none⟩ (.slice a l.length c)) w.heap.size #[.slice a l.length c]):=U (by simpa using u.lF 0 ar (.slice a l.length c));have M:Hid (cc (g.setCell ⟨w.heap.size,0,none⟩ (.slice a l.length c)) (w.heap.size+1) o5):=U (I.a6 (D _ O) O);have c0:(g.setCell ⟨w.heap.size,0,none⟩ (.slice a l.length c)).cell? ⟨Q,0,none⟩=some (.slice T ts.length X):=(i' (w:=g) (a:=⟨Q,0,none⟩) (D Q O)).trans aA.c0;have c1:(g.setCell ⟨w.heap.size,0,none⟩ (.slice a l.length c)).cell? ⟨Q,1,none⟩=some (.int .i64 (aC.i:Nat)):=(i' (w:=g) (a:=⟨Q,1,none⟩) (D Q O)).trans aA.c1;have eC:(g.setCell ⟨w.heap.size,0,none⟩ (.slice a l.length c)).cell? ⟨x,aB+aC.i*7+6,none⟩=some (.int .i64 (t.pos:Nat)):=(i' (w:=g) (a:=⟨x,aB+aC.i*7+6,none⟩) (D x dW)).trans cJ;have G:Hid (Below w.heap.size w (g.setCell ⟨w.heap.size,0,none⟩ (.slice a l.length c))):=U (Z.setCell (p:=⟨w.heap.size,0,none⟩) (aw _) _);have cQ:ts.length<=65536:=A.1.k0;clear aY bU D aX P dV cJ dF;generalize g.setCell ⟨w.heap.size,0,none⟩ (.slice a l.length c)=S at L M c0 c1 eC G⊢;have cS:(aC.i:Int)<(ts.length:Int):=by have:=dJ.out;show(aC.i:Int)<(ts.length:Int);have h:aC.i<ts.length:=this;omega
  subst e;have bT:=U (b4 c0 (b4 c1 eC))
  go_quiet (fail)
  go_wp2_with (go_at_call 13;refine(xF (p:=t.pos) (i:=aC.i) (((Below.drewN (eA _ S) _).cell (kU _ _ bT.1)).trans bT.1) (((Below.drewN (eA _ S) _).cell (kU _ _ bT.2.1)).trans bT.2.1) (((Below.drewN (eA _ S) _).cell (kU _ _ bT.2.2)).trans bT.2.2) dJ cQ).mono ?_;rintro e aN ⟨rfl,m⟩;have s:Hid (Below S.heap.size S aN):=U ((Below.drewN (eA _ S) _).trans m);clear m;unfold az)
  have z:=L.bl s;have y:=M.bl s;refine leaves_cons (f:=10) (args:=(J_ w)) ar (by simp[go_sem]) ?_;refine(qy w.heap.size (w.heap.size+1) 40 t.pos _ 0 0 [] aN (z.2.2 0 (show 0<1 from O)) (y.2.2 0 (show 0<2 from O)) (y.2.2 1 (show 1<2 from O)) z.2.1 y.2.1 O).mono ?_;rintro e dY bS ⟨rfl,rfl,eJ,aM,rfl⟩;obtain⟨FW,cL,bO,bP,bQ,R⟩:=Ex (c:=40) (q:=t.pos) z y O aM;rw[<-cL];have cK:Below w.heap.size w aN:=G.trans (s.mono G.size);have B:Below w.heap.size w FW:=cK.trans (R w.heap.size (aw _) (h5 _) (eA _ _) cK.size);clear cL R aM z y;simp[Leaves,settle,results,Tryz.results6,go_sem,bO,bP,bQ];exact⟨B,by rw[eH.out];rfl⟩
 ·have bV:=U bM;have dK:Hid (¬(aC.i:Int)<(ts.length:Int)):=U (by have h:¬aC.i<ts.length:=cT;omega);obtain⟨cR,dG,cP⟩:=bK.out l rfl;have dI:=U cR;have bY:=U cP;clear bM cT cR cP bK bL
  go_upto_region 7 with(go_at_call 12;refine(aO.out b6 bA aV fc _ _ _ A.2.min bV.out).mono ?_;rintro e g ⟨dD,dX,cI,dQ,_,rfl,bR,a,c,rfl,aW⟩;have J:=bR.kn;have aK:=bR.ps;clear bR;have H:=U J;have Z:=U (aE.trans (J.ia.mono (by show w.heap.size<=E.heap.size;exact C.size)));have aA:=U aK;have dL:=U aW;have u:Hid (cc g w.heap.size #[.slice none 0 0]):=U (aQ.a6 (J.ia.block _ (by have:=W.out;show w.heap.size<E.heap.size;omega)) J.size);have I:Hid (cc g (w.heap.size+1) o5):=U (aT.a6 (J.ia.block _ (by have:=W.out;show w.heap.size+1<E.heap.size;omega)) J.size);have aY:g.cell? ⟨w.heap.size,0,none⟩=some (.slice none 0 0):=u.2.2 0 (show 0<1 from O);have bU:=u.2.1;clear J aK aW)
  have cW:=W.out;have dR:E.heap.size<=Q:=A.1.Ny;have P:∀ j,1<=j->g.cell? ⟨w.heap.size,j,none⟩=none:=fun j bE=>(i' (w:=dE) (a:=⟨w.heap.size,j,none⟩) (H.ia.block _ (by show w.heap.size<E.heap.size;omega))).trans (aH.out j bE);have aU:=U (ey.nJ ⟨_,_,_,aY⟩ P dI ⟨a,c,rfl,dL.out⟩ (.slice a l.length c));have D:∀ b,b≠w.heap.size->(g.setCell ⟨w.heap.size,0,none⟩ (.slice a l.length c)).heap[b]?=g.heap[b]?:=fun b m=>h3 _ _ _ _ m;have aX:(g.setCell ⟨w.heap.size,0,none⟩ (.slice a l.length c)).heap.size=g.heap.size:=by simp[World.setCell]
  have L:Hid (cc (g.setCell ⟨w.heap.size,0,none⟩ (.slice a l.length c)) w.heap.size #[.slice a l.length c]):=U (by simpa using u.lF 0 ar (.slice a l.length c));have M:Hid (cc (g.setCell ⟨w.heap.size,0,none⟩ (.slice a l.length c)) (w.heap.size+1) o5):=U (I.a6 (D _ O) O);have c0:(g.setCell ⟨w.heap.size,0,none⟩ (.slice a l.length c)).cell? ⟨Q,0,none⟩=some (.slice T ts.length X):=(i' (w:=g) (a:=⟨Q,0,none⟩) (D Q O)).trans aA.c0;have c1:(g.setCell ⟨w.heap.size,0,none⟩ (.slice a l.length c)).cell? ⟨Q,1,none⟩=some (.int .i64 (aC.i:Nat)):=(i' (w:=g) (a:=⟨Q,1,none⟩) (D Q O)).trans aA.c1;have G:Hid (Below w.heap.size w (g.setCell ⟨w.heap.size,0,none⟩ (.slice a l.length c))):=U (Z.setCell (p:=⟨w.heap.size,0,none⟩) (aw _) _);have aF:Hid (∀ b,(Own E.heap.size dE.heap.size g.heap.size (Mm ⟨Q,T,X,⟨ts,Y.size⟩,E⟩ dD cI) b/\b≠w.heap.size)->b<(g.setCell ⟨w.heap.size,0,none⟩ (.slice a l.length c)).heap.size):=U (fun b m=>by rw[aX];have cJ:=H.size;have eV:E.heap.size<=dE.heap.size:=A.2.bB;rcases m.1 with q|q;(have:b<E.heap.size:=q;omega);exact q.2.1)
  clear aY bU D aX P;generalize g.setCell ⟨w.heap.size,0,none⟩ (.slice a l.length c)=S at aU L M c0 c1 G aF⊢;have eO:=dK.out;have aY:S.cell? ⟨w.heap.size,0,none⟩=some (.slice a l.length c):=L.2.2 0 (show 0<1 from O);have bU:=L.2.1;obtain⟨aZ,m1⟩:=o0 M.2.2;have dH:=M.2.1
  by_cases cO:200<d
  ·have cS:(200:Int)<(d:Int):=O
   go_quiet (fail)
   go_wp2_with (go_at_call 14;refine(vl (dep dG .dec) 15 (fun _ _=>rfl) (fun w F eP d eK h cY=>vm h cY) (xG dG).dec (S.drewN _) _ l _ d (aU.on (fun _ _=>rfl) (fun _ h=>h)) (fun b m=>aF.out b m) bY bX).mono ?_;rintro e aN ⟨rfl,m⟩;have s:Hid (Below S.heap.size S aN):=U ((Below.drewN (eA _ S) _).trans m);have z:=U (L.bl s);have y:=U (M.bl s);have aY:aN.cell? ⟨w.heap.size,0,none⟩=some (.slice a l.length c):=z.2.2 0 (show 0<1 from O);have bU:=z.2.1;obtain⟨aZ,m1⟩:=o0 y.2.2;have dH:=y.2.1;clear m)
   obtain⟨FW,bN⟩:∃ FW,((aN.setCell ⟨w.heap.size,0,none⟩ (.slice none 0 0)).setCell ⟨w.heap.size+1,0,none⟩ (.int .i64 3)).setCell ⟨w.heap.size+1,1,none⟩ (.int .i64 0)=FW:=⟨_,rfl⟩;obtain⟨bO,bP,bQ,R⟩:=CO (x:=.slice none 0 0) (y0:=3) (y1:=0) z y O bN;have B:Below w.heap.size w FW:=(G.trans (s.mono G.size)).trans (R w.heap.size (aw _) (h5 _));rw[bN];clear bN R;refine leaves_cons (f:=10) (args:=(J_ w)) ar (by simp[go_sem]) ?_;refine(tm ⟨w.heap.size,0,none⟩ ⟨w.heap.size+1,0,none⟩ _).mono ?_;rintro e dY bS ⟨rfl,rfl,rfl⟩;simp[Leaves,settle,results,Tryz.results6,go_sem,bO,bP,bQ];exact⟨B,by simp only [if_pos cO]⟩
  ·have cS:¬(200:Int)<(d:Int):=O
   go_quiet (fail)
   go_wp2_with (go_at_call 14;refine(vl (dep dG .dec) 15 (fun _ _=>rfl) (fun w F eP d eK h cY=>vm h cY) (xG dG).dec (S.drewN _) _ l _ d (aU.on (fun _ _=>rfl) (fun _ h=>h)) (fun b m=>aF.out b m) bY bX).mono ?_;rintro e aN ⟨rfl,m⟩;have s:Hid (Below S.heap.size S aN):=U ((Below.drewN (eA _ S) _).trans m);have z:=U (L.bl s);have y:=U (M.bl s);have aY:aN.cell? ⟨w.heap.size,0,none⟩=some (.slice a l.length c):=z.2.2 0 (show 0<1 from O);have bU:=z.2.1;obtain⟨aZ,m1⟩:=o0 y.2.2;have dH:=y.2.1;clear m)
   have dM:=U (aU.on (w':=aN) (fun b m=>s.block b (aF.out b m)) (fun _ h=>h));have bZ:=U (fun b m=>gi (aF.out b m) s.size)
   go_region
   all_goals (first|go_wp2_with fail|skip)
   all_goals
    refine FT dM bZ (Nw:=G.trans (s.mono G.size)) ?_ ?_ aY aZ m1 (fun FW bO bP bQ B dU=>?_)
    ·repeat (with_reducible first|refine Sm.drew ?_|refine Sm.drewN ?_ _|refine Sm.set ?_ aZ|refine Sm.set ?_ m1|refine Sm.set ?_ aY|exact Sm.refl _)
    ·repeat (with_reducible first|refine nw ?_ (aw _)|refine nw ?_ (h5 _)|refine uM ?_|refine Below.drewN ?_ _|exact eA _ _)
    refine leaves_cons (f:=10) (args:=(J_ w)) ar (by simp[go_sem]) ?_;refine(tm ⟨w.heap.size,0,none⟩ ⟨w.heap.size+1,0,none⟩ _).mono ?_;rintro e dY bS ⟨rfl,rfl,rfl⟩;simp[Leaves,settle,results,Tryz.results6,go_sem,bO,bP,bQ];exact⟨B,by simp only [if_neg cO];exact⟨_,_,rfl,dU⟩⟩
theorem Km{a:World}{Q:World->Prop}(b:Below w.heap.size w a)(c:Sm a FW)(e:Below w.heap.size a FW)(f:a.cell? ⟨lb,0,none⟩=some x)(g:a.cell? ⟨d,0,none⟩=some (.int .i64 y0))(h:a.cell? ⟨d,1,none⟩=some (.int .i64 y1))
 (k:∀ W,W.cell? ⟨lb,0,none⟩=some x->W.cell? ⟨d,0,none⟩=some (.int .i64 y0)->W.cell? ⟨d,1,none⟩=some (.int .i64 y1)->Below w.heap.size w W->Q W):Q FW:=k FW (c.2 _ _ f) (c.2 _ _ g) (c.2 _ _ h) (b.trans e)
theorem vo(y:ByteArray)(c q:Nat)(w:World)(F:c≠0)
 (b:∀ w',Below w.heap.size w w'->Calls Tryz.prog 9 #[.string y] w' fun e E=>Below w'.heap.size w' E/\e=.returned (.tuple #[.slice none 0 0,.agg (jj c q)])):
 Calls Tryz.prog 6 #[.string y] w fun e w'=>Below w.heap.size w w'/\e=.returned (.tuple #[.slice none 0 0,.agg (jj c q)]):=by
 have s:=U b;have t:((w.alloc r8).alloc ml).heap.size=w.heap.size+2:=ar
 have d:Hid (Below w.heap.size w ((w.alloc r8).alloc ml)):=U ((ab w _).trans ((ab _ _).mono (ab w _).size));have j:Hid (cc ((w.alloc r8).alloc ml) w.heap.size #[.slice none 0 0]):=U ((cc.new w _ 23).bl (ab _ _));have l:Hid (cc ((w.alloc r8).alloc ml) (w.heap.size+1) o5):=U (cc.Ey _ _ _ 26 ar);clear b t
 go_enter_defers Tryz.func6,Tryz.ntmps6
 go_upto_region 2 with(go_at_call 9;refine(s.out _ d.out).mono ?_;rintro e r ⟨n,rfl⟩;have u:=U n;have k:=U (j.bl n);have a:=U (l.bl n);obtain⟨o,m1⟩:=o0 a.2.2;have x:=a.2.1;clear n)
 have i:Hid (Below w.heap.size w ((r.setCell ⟨w.heap.size+1,0,none⟩ (.int .i64 (c:Nat))).setCell ⟨w.heap.size+1,1,none⟩ (.int .i64 (q:Nat)))):=U (by
  have h:=d.trans (u.mono d.size)
  exact(h.setCell (p:=⟨w.heap.size+1,0,none⟩) (h5 _) _).setCell (p:=⟨w.heap.size+1,1,none⟩) (h5 _) _)
 have f:Hid (cc ((r.setCell ⟨w.heap.size+1,0,none⟩ (.int .i64 (c:Nat))).setCell ⟨w.heap.size+1,1,none⟩ (.int .i64 (q:Nat))) w.heap.size #[.slice none 0 0]):=U (k.a6 ((h3 _ _ _ _ (by show w.heap.size≠w.heap.size+1;omega)).trans (h3 _ _ _ _ (by show w.heap.size≠w.heap.size+1;omega))) (by simp[World.setCell]));have g:Hid (cc ((r.setCell ⟨w.heap.size+1,0,none⟩ (.int .i64 (c:Nat))).setCell ⟨w.heap.size+1,1,none⟩ (.int .i64 (q:Nat))) (w.heap.size+1) (jj c q)):=U (by simpa using (a.lF 0 ar (.int .i64 (c:Nat))).lF 1 ar (.int .i64 (q:Nat)));clear o m1 x k a u j l;generalize (r.setCell ⟨w.heap.size+1,0,none⟩ (.int .i64 (c:Nat))).setCell ⟨w.heap.size+1,1,none⟩ (.int .i64 (q:Nat))=z at i f g⊢;obtain⟨o,m1⟩:=o0 g.2.2;have x:=g.2.1;have v:z.cell? ⟨w.heap.size,0,none⟩=some (.slice none 0 0):=f.2.2 0 (show 0<1 from O);have G:=f.2.1;have A:¬(c:Int)=0:=O
 go_upto_region 3 with fail
 go_region
 all_goals (first|go_wp2_with fail|skip)
 all_goals
  refine Km i (FW:=_) ?_ ?_ v o m1 (fun FW B C D m=>?_)
  ·repeat (with_reducible first|refine Sm.drew ?_|refine Sm.drewN ?_ _|refine Sm.set ?_ o|refine Sm.set ?_ m1|refine Sm.set ?_ v|exact Sm.refl _)
  ·repeat (with_reducible first|refine nw ?_ (aw _)|refine nw ?_ (h5 _)|refine uM ?_|refine Below.drewN ?_ _|exact eA _ _)
  simp[bodyPostD,Leaves,settle,results,Tryz.results6,go_sem,B,C,D];exact m
end Go.Proofs.YtkblonfmjlopaaaGreatDoor
