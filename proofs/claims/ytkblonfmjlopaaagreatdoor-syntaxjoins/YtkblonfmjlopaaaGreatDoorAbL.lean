/-
  Short names of closing scripts.
-/
import Derived.Deep.RegionHeld3
import Derived.WalkSpells
import Derived.WalkLawsBesides
import Derived.Deep.AppendSrc
import Derived.Deep.Light
import Derived.BigQuiet
import Derived.Shelf.Strings.SlTrimAscii
import Derived.Deep.DeepCutAuto
import Derived.Test.YtkblonfmjlopaaaGreatDoorRows
import Derived.Test.YtkblonfmjlopaaaGreatDoorShelf
set_option linter.all false
set_option maxRecDepth 1000000
set_option maxHeartbeats 16000000
namespace Go.Proofs.YtkblonfmjlopaaaGreatDoor
section
open Go
theorem O{p:Prop}(h:p:=by omega):p:=h
theorem aq{p:Prop}(h:p:=by kernel_rfl):p:=h
theorem ar{p:Prop}(h:p:=by simp):p:=h
theorem bh{p:Prop}(h:p:=by decide):p:=h
theorem jW{p:Prop}(h:p:=by assumption):p:=h
theorem b1{p:Prop}(h:p:=by simp;omega):p:=h
theorem QA{p:Prop}(h:p:=by rw[he];rfl):p:=h
theorem ih{p:Prop}(h:p:=by intro h;simp at h):p:=h
theorem ba{a p:Prop}(x:a)(h:a->p:=by intro _;omega):p:=h x
theorem lQ{a b p:Prop}(x:a)(y:b)(h:a->b->p:=by intro _ _;omega):p:=h x y
end
open Go Go.RowKit
variable {k:Act}{p:Array Oper}{Q:Exit->Act->World->Prop}{rest:List Oper}{B base c m n l x y:Nat}{f g h:Nat->Nat}{o:Oper}{a:Option Addr}{w w':World}
theorem U{p:Prop}(h:p):Hid p:=h
def pw:Nat->Nat
 |0=>1
 |n+1=>4294967296*pw n
def val(f:Nat->Nat):Nat->Nat
 |0=>0
 |n+1=>val f n+f n*pw n
def oY(f:Nat->Nat):Nat->Nat
 |0=>0
 |n+1=>if f n=0 then oY f n else n+1
def jG(f:Nat->Nat)(k x:Nat):Nat->Nat:=fun i=>if i=k then x else f i
def Lm(f:Nat->Nat)(n:Nat):Prop:=∀ i,i<n->f i<=4294967295
theorem J2(n:Nat):0<pw n:=by
 induction n with
 |zero=>simp[pw]
 |succ n a=>simp only [pw];omega
theorem zZ(n:Nat):pw (n+1)=4294967296*pw n:=rfl
theorem val_succ(f:Nat->Nat)(n:Nat):val f (n+1)=val f n+f n*pw n:=rfl
theorem val_congr(h:∀ i,i<n->f i=g i):val f n=val g n:=by
 induction n with
 |zero=>rfl
 |succ n a=>rw[val_succ,val_succ,a (fun i b=>h i O),h n O]
theorem D6(h:Lm f n):val f n<pw n:=by
 induction n with
 |zero=>simp[val,pw]
 |succ n a=>
  have b:=a (fun i d=>h i O);have c:f n*pw n<=4294967295*pw n:=Nat.mul_le_mul_right _ (h n O);rw[val_succ,zZ];omega
theorem Lm.mono(h:Lm f n)(b:m<=n):Lm f m:=fun i a=>h i O
theorem r6(f:Nat->Nat)(k x:Nat):jG f k x k=x:=by simp[jG]
theorem oq(f:Nat->Nat)(k x i:Nat)(h:i≠k):jG f k x i=f i:=by simp[jG,h]
theorem Lm.jG{k:Nat}(h:Lm f n)(b:x<=4294967295):Lm (jG f k x) n:=by
 intro i a
 by_cases e:i=k
 ·subst e;rw[r6];exact b
 ·rw[oq _ _ _ _ e];exact h i a
theorem z_(f:Nat->Nat)(k x n:Nat)(h:n<=k):val (jG f k x) n=val f n:=
 val_congr fun i a=>oq _ _ _ _ O
theorem z'(f:Nat->Nat)(k x:Nat):val (jG f k x) (k+1)=val f k+x*pw k:=by
 rw[val_succ,z_ _ _ _ _ (Nat.le_refl _),r6]
theorem uA(f:Nat->Nat)(n:Nat):val f (oY f n)=val f n:=by
 induction n with
 |zero=>rfl
 |succ n a=>
  unfold oY
  split
  ·rename_i h;rw[a,val_succ,h];omega
  ·rfl
theorem G8(f:Nat->Nat)(n:Nat):oY f n=0\/f (oY f n-1)≠0:=by
 induction n with
 |zero=>exact .inl rfl
 |succ n a=>
  unfold oY
  split
  ·exact a
  ·rename_i h;right;simpa using h
def Nm(f:Nat->Nat)(n:Nat):Prop:=n=0\/f (n-1)≠0
theorem J3(f:Nat->Nat)(n:Nat):Nm f (oY f n):=G8 f n
theorem Nm.congr(h:Nm f n)(e:∀ i,i<n->g i=f i):Nm g n:=by
 rcases h with h|h
 ·exact .inl h
 ·cases n with
  |zero=>exact .inl rfl
  |succ n=>right;rw[e _ ar];exact h
theorem Nm.ge(h:Nm f (n+1)):pw n<=val f (n+1):=by
 rcases h with h|h
 ·omega
 ·simp at h;rw[val_succ];have:1*pw n<=f n*pw n:=Nat.mul_le_mul_right _ O;omega
theorem Nm.zero(h:Nm f n):val f n=0↔n=0:=by
 constructor
 ·intro a;cases n with
  |zero=>rfl
  |succ n=>have:=h.ge;have:=J2 n;omega
 ·rintro rfl;rfl
structure Us(w:World)(a:Option Addr)(n c:Nat)(h:Nat->Nat):Prop where
 le:n<=c
 mx:c<=maxLen
 lm:Lm h c
 cell:∀ i,i<c->∃ b l,a=some ⟨b,l,none⟩/\w.cell? ⟨b,l+i,none⟩=some (.int .u32 (h i:Nat))
def dh(w:World)(base:Nat)(a:Option Addr)(c:Nat):Prop:=
 ∀ i,i<c->∃ b l,a=some ⟨b,l,none⟩/\base<=b/\w.frozen? ⟨b,l+i,none⟩=false
theorem dh.mono{d:Nat}(k:dh w base a c)(h:d<=base):dh w d a c:=
 fun i g=>let⟨b,l,e,j,f⟩:=k i g;⟨b,l,e,O,f⟩
theorem Us.below(k:Us w a n c h)(g:Below B w w')(m:w.heap.size<=B):Us w' a n c h:=
 ⟨k.le,k.mx,k.lm,fun i j=>by
   obtain⟨b,l,e,f⟩:=k.cell i j;have d:=World.block_lt_of_cell? w _ f
   exact⟨b,l,e,by rw[g.cell (p:=⟨b,l+i,none⟩) (by simp at d⊢;omega)];exact f⟩⟩
theorem Us.lt(k:Us w a n c h){b:Nat}(e:a=some ⟨b,l,none⟩)(i:0<c):b<w.heap.size:=by
 obtain⟨j,f,d,g⟩:=k.cell 0 i;rw[e] at d;simp only [Option.some.injEq,Addr.mk.injEq,and_true] at d;obtain⟨rfl,rfl⟩:=d;exact World.block_lt_of_cell? w _ g
theorem dh.below(k:dh w base a c)(u:Us w a n c h)(g:Below B w w')(o:w.heap.size<=B):dh w' base a c:=
 fun i j=>by
  obtain⟨b,l,e,d,f⟩:=k i j;have m:=u.lt e O;exact⟨b,l,e,d,by rw[g.frozen (p:=⟨b,l+i,none⟩) b1];exact f⟩
theorem Us.nil(w:World)(h:Nat->Nat):Us w none 0 0 h:=⟨Nat.le_refl _,Nat.zero_le _,fun _ a=>O,fun _ a=>O⟩
theorem dh.nil(w:World)(base:Nat)(a:Option Addr):dh w base a 0:=fun _ b=>O
def Cs(w:World)(g l n:Nat)(h:Nat->Nat):Prop:=∀ i,i<n->w.cell? ⟨g,l+i,none⟩=some (.int .u32 (h i:Nat))
def Fr(w:World)(g l n:Nat):Prop:=∀ i,i<n->w.frozen? ⟨g,l+i,none⟩=false
theorem Cs.set{g:Nat}(k:Cs w g l n h){j:Nat}(b:j<n)(x:Nat):Cs (w.setCell ⟨g,l+j,none⟩ (.int .u32 (x:Nat))) g l n (jG h j x):=by
 intro i a
 by_cases e:i=j
 ·subst e;rw[r6];exact World.cell?_setCell_same _ _ _ (k i a)
 ·rw[oq _ _ _ _ e,World.cell?_setCell_other _ _ _ _ (by intro h;simp only [Addr.mk.injEq,and_true,true_and] at h;omega)];exact k i a
theorem Cs.us{g:Nat}(k:Cs w g l c h)(e:n<=c)(d:c<=maxLen)(b:Lm h c):Us w (some ⟨g,l,none⟩) n c h:=
 ⟨e,d,b,fun i a=>⟨g,l,rfl,k i a⟩⟩
theorem Us.cs{g:Nat}(k:Us w (some ⟨g,l,none⟩) n c h):Cs w g l c h:=by
 intro i d;obtain⟨b,o,e,a⟩:=k.cell i d;simp only [Option.some.injEq,Addr.mk.injEq,and_true] at e;obtain⟨rfl,rfl⟩:=e;exact a
theorem Fr.new{g:Nat}(k:Fr w g l c)(a:base<=g):dh w base (some ⟨g,l,none⟩) c:=
 fun i b=>⟨g,l,rfl,a,k i b⟩
structure ky(w:World)(a:Option Addr)(n c:Nat)(h:Nat->Value):Prop where
 le:n<=c
 mx:c<=maxLen
 cell:∀ i,i<c->∃ b l,a=some ⟨b,l,none⟩/\w.cell? ⟨b,l+i,none⟩=some (h i)
def cat(h:Nat->Value)(n:Nat)(g:Nat->Value)(m:Nat)(r:Nat->Value):Nat->Value:=
 fun j=>if j<n then h j else if j<n+m then g (j-n) else r j
theorem ky.addr{h:Nat->Value}(k:ky w a n c h)(j:0<c):∃ b l,a=some ⟨b,l,none⟩/\∀ i,i<c->w.cell? ⟨b,l+i,none⟩=some (h i):=by
 obtain⟨b,l,e,_⟩:=k.cell 0 j;refine⟨b,l,e,fun i m=>?_⟩;obtain⟨o,f,d,g⟩:=k.cell i m;rw[e] at d;simp only [Option.some.injEq,Addr.mk.injEq,and_true] at d;obtain⟨rfl,rfl⟩:=d;exact g
theorem ky.below{h:Nat->Value}(k:ky w a n c h)(g:Below B w w')(m:w.heap.size<=B):ky w' a n c h:=
 ⟨k.le,k.mx,fun i j=>by
   obtain⟨b,l,e,f⟩:=k.cell i j;have d:=World.block_lt_of_cell? w _ f
   exact⟨b,l,e,by rw[g.cell (p:=⟨b,l+i,none⟩) (by simp at d⊢;omega)];exact f⟩⟩
theorem ky.congr{h g:Nat->Value}(k:ky w a n c h)(e:∀ i,i<c->h i=g i):ky w a n c g:=
 ⟨k.le,k.mx,fun i b=>by rw[<-e i b];exact k.cell i b⟩
theorem Us.arr(k:Us w a n c h):ky w a n c (fun i=>.int .u32 (h i:Nat)):=⟨k.le,k.mx,k.cell⟩
theorem ky.us(k:ky w a n c (fun i=>.int .u32 (h i:Nat)))(l:Lm h c):Us w a n c h:=⟨k.le,k.mx,l,k.cell⟩
theorem ld{α:Type}(h:Nat->α)(n j:Nat)(u:α)(e:((List.range n).map h)[j]?=some u):j<n/\u=h j:=by
 rw[List.getElem?_map] at e
 by_cases a:j<n
 ·rw[List.getElem?_range a] at e;simp at e;exact⟨a,e.symm⟩
 ·rw[List.getElem?_eq_none (by simpa using a)] at e;simp at e
theorem ky.empty(w:World)(a:Option Addr)(h:Nat->Value):ky w a 0 0 h:=⟨Nat.le_refl _,Nat.zero_le _,fun _ b=>O⟩
theorem ab(w:World)(o:Obj):Below w.heap.size w (w.alloc o):=(Below.refl _ _).alloc (Nat.le_refl _) _
theorem Us.alloc(k:Us w a n c h)(o:Obj):Us (w.alloc o) a n c h:=k.below (ab w o) (Nat.le_refl _)
theorem J4{e:Nat}{r:Nat->Value}{z:Nat}(p:z<=4294967295)(t:Lm h n)(s:Lm g m)(o:r=(fun i=>.int .u32 (h i:Nat))/\Lm h c\/r=fun _=>.int .u32 (z:Nat))
 (k:ky w a e c (cat (fun i=>.int .u32 (h i:Nat)) n (fun i=>.int .u32 (g i:Nat)) m r)):∃ f:Nat->Nat,Us w a e c f/\(∀ i,i<n->f i=h i)/\∀ i,i<m->f (n+i)=g i:=by
 obtain⟨q,rfl,u⟩:∃ q:Nat->Nat,(r=fun i=>Value.int .u32 (q i:Nat))/\Lm q c:=by
  rcases o with⟨d,l⟩|d
  ·exact⟨h,d,l⟩
  ·exact⟨fun _=>z,d,fun _ _=>p⟩
 refine⟨fun j=>if j<n then h j else if j<n+m then g (j-n) else q j,(k.congr ?_).us ?_,fun i b=>by simp[b],fun i b=>by dsimp only;rw[if_neg O,if_pos O,Nat.add_sub_cancel_left]⟩
 ·intro i b;unfold cat;dsimp only
  split
  ·rfl
  ·split<;>rfl
 ·intro i b;dsimp only
  split
  ·exact t i ‹_›
  ·split
   ·exact s _ O
   ·exact u i b
section
variable {P:Program}
theorem ky.first{h:Nat->Value}(k:ky w a n c h)(d:Nat)(m:d=1):(Builtin.firstCells d n (.slice a n c)).run P w=.ok ((List.range n).map h).toArray w:=by
 subst m
 by_cases i:n=0
 ·subst i;cases a with
  |none=>rw[run_firstCells_none];rfl
  |some f=>exact run_firstCells_some w 1 0 f 0 c _ ar (fun j v e=>by simp at e)
 ·have:=k.le;obtain⟨b,l,rfl,g⟩:=k.addr O;refine run_firstCells_some w 1 n _ n c _ ar (fun j v e=>?_);obtain⟨o,rfl⟩:=ld _ _ _ _ e;rw[Addr.add_lit];exact g j O
theorem ky.src{h:Nat->Value}(k:ky w a n c h){f e:TypeId}(g:P.underlying f=some (.slice e))(d:∀ i,i<n->(h i).oneCell'=true):Src P 1 f (.slice a n c) n ((List.range n).map h) w:=
 ⟨.inl ⟨e,g⟩,fun _=>rfl,k.first 1 rfl,ky.first (w:=w.drew) ⟨k.le,k.mx,fun i b=>by simpa using k.cell i b⟩ 1 rfl,ar,fun u j=>by
   obtain⟨i,b,rfl⟩:=List.mem_map.1 j
   exact d i (by simpa using b)⟩
theorem ew{B:Nat}(b:Nat)(a:B<=b):∀ (c:List Value) (o:Nat) (w:World),Below B w (w.setCells b o c)
 |[],_,w=>Below.refl _ _
 |v::r,o,w=>((Below.refl B w).setCell (p:=⟨b,o,none⟩) a v).trans (ew b a r (o+1) _)
theorem Aa(z:Value)(h:z.cells=#[z])(n j:Nat)(a:j<n):(Builtin.zeroCells z.cells n)[j]?=some z:=by
 rw[h];unfold Builtin.zeroCells;simp[a,Nat.mod_one]
theorem tX(w:World)(t J aD e x:TypeId)(z:Value)(bytes:Nat)(I:P.underlying t=some (.slice e))(D:P.underlying J=some (.slice x))
 (E:(P.info? e).map (fun i=>(i.zero,i.size,i.bytes))=some (some z,1,bytes)) (aJ:z.cells=#[z]) (base:Nat) (q:base<=w.heap.size)
 (a F:Option Addr) (n c m d:Nat) (h g:Nat->Value) (A:ky w a n c h) (N:dh w base a c) (S:ky w F m d g) (aC:∀ i,i<m->(g i).oneCell'=true)
 (aE:(n+m)*(2*bytes)<=281474976710656) (aF:n+m<=140737488355328):
 ∃ L G r w',(Builtin.append_ #[t,J] aD #[.slice a n c,.slice F m d]).run P w=.ok (.slice L (n+m) G) w'/\(r=h/\G=c\/r=fun _=>z)/\
   ky w' L (n+m) G (cat h n g m r)/\dh w' base L G/\Below base w w':=by
 obtain⟨i,y,Y,f,X⟩:=info_parts E;have src:=S.src (P:=P) D aC
 by_cases u:n+m<=c
 ·by_cases T:c=0
  ·subst T;have aB:n=0:=O
   have aA:m=0:=O
   subst aB;subst aA;refine⟨a,0,h,w,?_,.inl ⟨rfl,rfl⟩,⟨Nat.le_refl _,Nat.zero_le _,fun _ E=>O⟩,fun _ E=>O,Below.refl _ _⟩;have Q:=S.first (P:=P) 1 rfl;simp at Q
   rcases aM:a with _|aK
   ·simp[Builtin.append_,run_underlying I,run_underlying D,sizeOf,typeInfo,y,Builtin.lenOf,f];simp[Q]
   ·simp[Builtin.append_,run_underlying I,run_underlying D,sizeOf,typeInfo,y,Builtin.lenOf,f];simp[Q,storeCells]
  ·obtain⟨b,l,rfl,H⟩:=A.addr O
   have o:=run_append_room_src (P:=P) w t J aD e i I y b l n c (.slice F m d) m ((List.range m).map g) (by rw[f];exact src) u
    (fun j p=>by rw[f,Nat.mul_one,Nat.add_assoc,H (n+j) (by simp at p;omega)];rfl)
    (fun j p=>by
      obtain⟨M,v,x,_,aH⟩:=N (n+j) (by simp at p;omega);simp only [Option.some.injEq,Addr.mk.injEq,and_true] at x;obtain⟨rfl,rfl⟩:=x
      rw[f,Nat.mul_one,Nat.add_assoc];exact aH)
   rw[f,Nat.mul_one] at o;obtain⟨M,v,x,aG,_⟩:=N 0 O;simp only [Option.some.injEq,Addr.mk.injEq,and_true] at x;obtain⟨rfl,rfl⟩:=x;refine⟨_,_,h,_,o,.inl ⟨rfl,rfl⟩,⟨u,A.mx,fun j p=>⟨b,l,rfl,?_⟩⟩,fun j p=>?_,ew b aG _ _ _⟩
   ·unfold cat
    split
    ·rw[World.cell?_setCells_out _ _ _ _ _ (fun _ _=>.inl b1)];exact H j p
    ·split
     ·have:=World.cell?_setCells_in b ((List.range m).map g) (l+n) w (fun k aI=>by rw[Nat.add_assoc,H (n+k) (by simp at aI;omega)];rfl) (j-n) b1;rw[show l+n+(j-n)=l+j from O] at this;rw[this];simp
     ·rw[World.cell?_setCells_out _ _ _ _ _ (fun _ _=>.inr b1)];exact H j p
   ·obtain⟨M,v,x,B,R⟩:=N j p;exact⟨M,v,x,B,by rw[World.frozen?_setCells];exact R⟩
 ·have s:c<n+m:=O
  have o:=run_append_grow_src (P:=P) w t J aD e i z I y Y a n c ((List.range n).map h) (ky.first (w:=w.drew) ⟨A.le,A.mx,fun i E=>by simpa using A.cell i E⟩ i.size f) (.slice F m d) m ((List.range m).map g) (by rw[f];exact src) s
   O (by
    have B:=nextslicecap_le s;have R:Builtin.nextslicecap (n+m) c*i.bytes<=2*(n+m)*i.bytes:=Nat.mul_le_mul_right _ B;have aL:2*(n+m)*i.bytes=(n+m)*(2*bytes):=by rw[X,Nat.mul_comm 2,Nat.mul_assoc]
    omega)
  have W:=grownCap_ge w (n+m) c e;have Z:=grownCap_le_maxLen w (n+m) c e (by unfold maxLen;omega)
  have C:∀ j,j<grownCap w (n+m) c e->(((List.range n).map h++(List.range m).map g).toArray++Builtin.zeroCells z.cells (grownCap w (n+m) c e-(n+m)))[j]?=some (cat h n g m (fun _=>z) j):=by
   intro j p;unfold cat;rw[Array.getElem?_append]
   split
   ·rename_i B;simp at B;simp only [List.getElem?_toArray,List.getElem?_append,List.length_map,List.length_range]
    split
    ·simp[*]
    ·rename_i R;simp[show j-n<m from O]
   ·rename_i B;simp at B;rw[if_neg O,if_neg O];exact Aa z aJ _ _ b1
  refine⟨_,_,fun _=>z,_,o,.inr rfl,⟨W,Z,fun j p=>⟨w.heap.size,0,rfl,?_⟩⟩,fun j p=>⟨w.heap.size,0,rfl,q,?_⟩,((Below.refl _ _).drew).alloc q _⟩
  ·rw[Nat.zero_add];have:=World.cell?_alloc_new w.drew (((List.range n).map h++(List.range m).map g).toArray++Builtin.zeroCells z.cells (grownCap w (n+m) c e-(n+m))) e j;exact this.trans (C j p)
  ·exact World.frozen?_alloc_new w.drew _ _ _
theorem mi(w:World)(B:o.guard=none)(s x:Operand)(t E:TypeId)
 (M:o.op=.call {callee:=.builtin .append,args:=#[s,x],argTypes:=#[t,E]})
 (e F:TypeId) (z:Value) (bytes:Nat) (T:P.underlying t=some (.slice e)) (C:P.underlying E=some (.slice F))
 (L:(P.info? e).map (fun i=>(i.zero,i.size,i.bytes))=some (some z,1,bytes)) (X:z.cells=#[z]) (base:Nat) (b:base<=w.heap.size)
 (a u:Option Addr) (n c m d:Nat) (h g:Nat->Value) (R:k.eval s=.slice a n c) (W:k.eval x=.slice u m d) (A:ky w a n c h) (N:dh w base a c) (S:ky w u m d g) (D:∀ i,i<m->(g i).oneCell'=true)
 (l:(n+m)*(2*bytes)<=281474976710656) (v:n+m<=140737488355328)
 (hK:∀ j f r w',(r=h/\f=c\/r=fun _=>z)->ky w' j (n+m) f (cat h n g m r)->dh w' base j f->Below base w w'->wpList P p Q rest (k.put o.dst (.slice j (n+m) f)) w'):
 wpList P p Q (o::rest) k w:=by
 refine wpList_plain B fun K y=>?_;obtain⟨j,f,r,w',q,G,H,I,J⟩:=tX (P:=P) w t E o.type e F z bytes T C L X base b a u n c m d h g A N S D l v;unfold Oper.wp;simp[execOp,M,resolve,invoke,builtin,R,W,q,Result.andThen];exact y _ _ (hK j f r w' G H I J)
theorem mj(w:World)(y:o.guard=none)(s x:Operand)(t C:TypeId)
 (J:o.op=.call {callee:=.builtin .append,args:=#[s,x],argTypes:=#[t,C]})
 (e:TypeId) (R:P.underlying t=some (.slice e)) (B:P.underlying C=some (.slice e))
 (I:(P.info? e).map (fun i=>(i.zero,i.size,i.bytes))=some (some (.int .u32 0),1,4)) (base:Nat) (b:base<=w.heap.size)
 (a u:Option Addr) (n c m d:Nat) (h g:Nat->Nat) (M:k.eval s=.slice a n c) (T:k.eval x=.slice u m d) (A:Us w a n c h) (N:dh w base a c) (S:Us w u m d g)
 (D:n+m<=35184372088832)
 (hK:∀ l j f w',Us w' l (n+m) j f->(∀ i,i<n->f i=h i)->(∀ i,i<m->f (n+i)=g i)->dh w' base l j->Below base w w'->wpList P p Q rest (k.put o.dst (.slice l (n+m) j)) w'):
 wpList P p Q (o::rest) k w:=
 mi w y s x t C J e e (.int .u32 0) 4 R B I rfl base b a u n c m d _ _ M T A.arr N S.arr (fun _ _=>rfl) O O
  fun l j r w' L F H G=>by
   have z:r=(fun i=>Value.int .u32 (h i:Nat))/\Lm h j\/r=fun _=>Value.int .u32 ((0:Nat):Int):=by
    rcases L with⟨q,v⟩|q
    ·subst v;exact .inl ⟨q,A.lm⟩
    ·exact .inr q
   obtain⟨f,q,v,E⟩:=J4 (Nat.zero_le _) (A.lm.mono A.le) (S.lm.mono S.le) z F;exact hK l j f w' q v E H G
theorem nP(w:World)(d:o.guard=none)(l c:Operand)(t:TypeId)(q:o.op=Op.makeSlice t l c)
 (e:TypeId) (z:Value) (bytes:Nat) (E:P.underlying t=some (.slice e))
 (A:(P.info? e).map (fun i=>(i.zero,i.size,i.bytes))=some (some z,1,bytes)) (F:z.cells=#[z])
 (u s:IntKind) (L C:Int) (n:Nat) (D:k.eval l=.int u L) (y:k.eval c=.int s C) (x:L=(n:Int)) (v:C=(n:Int)) (G:bytes*n<=281474976710656) (H:n<=281474976710656)
 (hK:∀ w',(∀ i,i<n->w'.cell? ⟨w.heap.size,i,none⟩=some z)->(∀ i,w'.frozen? ⟨w.heap.size,i,none⟩=false)->Below w.heap.size w w'->w'.heap.size=w.heap.size+1->wpList P p Q rest (k.put o.dst (.slice (some ⟨w.heap.size,0,none⟩) n n)) w'):
 wpList P p Q (o::rest) k w:=by
 obtain⟨i,f,m,h,g⟩:=info_parts A;refine wpList_plain d fun K a=>?_;subst x;subst v
 have b:(i.bytes:Int)*(n:Int)<=281474976710656:=by
  rw[g];have:((bytes*n:Nat):Int)<=281474976710656:=O
  rwa [Int.natCast_mul] at this
 have r:=run_make (P:=P) w t e i z E f m u s (n:Int) (n:Int) O (Int.le_refl _) b O;simp only [Int.toNat_natCast,h,Nat.mul_one] at r;unfold Oper.wp;simp[execOp,q,D,y,r,Result.andThen];refine a _ _ (hK _ (fun j B=>?_) (fun j=>?_) ((Below.refl _ _).alloc (Nat.le_refl _) _) ar)
 ·rw[World.cell?_alloc_new,F];simp[madeCells,B,Nat.mod_one]
 ·exact World.frozen?_alloc_new w _ _ _
end
theorem Tryz.nQ:(Tryz.prog.info? 171).map (fun i=>(i.zero,i.size,i.bytes))=some (some (.int .u32 0),1,4):=aq
theorem Us.mono{b:Nat}(k:Us w a n c h)(d:b<=n):Us w a b c h:=⟨Nat.le_trans d k.le,k.mx,k.lm,k.cell⟩
theorem uB(a:Option Addr)(n c:Nat)(h:Nat->Nat)(w:World)(u:n<=4398046511104)(k:Us w a n c h)(s:a=none->n=0/\c=0):
 Calls Tryz.prog 156 #[.slice a n c] w fun e w'=>∃ b d f,e=.returned (.slice b n d)/\Us w' b n d f/\dh w' w.heap.size b d/\Below w.heap.size w w'/\(∀ i,i<n->f i=h i):=by
 have g:=k.alloc (.cells #[] 171);cases a with
 |none=>
  obtain⟨rfl,rfl⟩:=s rfl;have r:=fun w=>Lib.run_eql_slice_nil (P:=Tryz.prog) w 70 171 none 0 0 0 0 Tryz.underlying70;go_enter Tryz.func156,Tryz.ntmps156
  go_wp2
  go_ret;exact⟨none,0,⟨rfl,⟨h,k⟩,dh.nil _ _ _,Below.refl _ _⟩⟩
 |some m=>
  have r:=fun w=>Lib.run_eql_slice_nil (P:=Tryz.prog) w 70 171 (some m) n c 0 0 Tryz.underlying70;go_enter Tryz.func156,Tryz.ntmps156
  go_wp2_with (at_builtin;refine mj _ rfl _ _ 70 70 rfl 171 Tryz.underlying70 Tryz.underlying70 Tryz.nQ w.heap.size ar _ _ _ _ _ _ _ _ rfl rfl ((ky.empty _ _ (fun _=>.int .u32 ((0:Nat):Int))).us (fun _ t=>O)) (dh.nil _ _ _) g O ?_)
  intro b d f v o j p q;have l:=U j;clear j
  go_wp2
  go_ret;exact⟨b,d,f,rfl,o,p,(ab w _).trans q,l.out⟩
def ex(g:Nat->Nat)(m:Nat):Nat->Nat:=fun i=>if i<m then g i else 0
theorem Mf{i:Nat}(h:i<m):ex g m i=g i:=by simp[ex,h]
theorem Mh{i:Nat}(h:¬i<m):ex g m i=0:=by simp[ex,h]
theorem D7(h:m<=n):val (ex g m) n=val g m:=by
 induction n with
 |zero=>have:m=0:=by omega
        subst this;rfl
 |succ n b=>
  by_cases e:m=n+1
  ·subst e;exact val_congr fun i a=>Mf a
  ·rw[val_succ,b O,Mh O];omega
theorem Cs.made{g:Nat}(h:∀ i,i<n->w.cell? ⟨g,i,none⟩=some (.int .u32 0)):Cs w g 0 n (fun _=>0):=fun i a=>by
 rw[Nat.zero_add];exact h i a
def jT(x y:Nat):Int:=if x<y then-1 else if y<x then 1 else 0
theorem uC(h:x<y):jT x y=-1:=by simp[jT,h]
theorem uD(h:y<x):jT x y=1:=by simp[jT,h];omega
theorem uE(h:x=y):jT x y=0:=by simp[jT,h]
theorem dh.set(k:dh w base a c)(p:Addr)(x:Value):dh (w.setCell p x) base a c:=
 fun i g=>let⟨b,l,e,d,f⟩:=k i g;⟨b,l,e,d,by rw[World.frozen?_setCell];exact f⟩
def wT(d:Nat)(c:UInt8):Nat:=10*d+(c.toNat-48)
def iO(d:Nat)(l:List UInt8):Nat:=l.foldl wT d
theorem sV(l r:List UInt8)(d:Nat):iO d (l++r)=iO (iO d l) r:=List.foldl_append
theorem nR(d:Nat):iO d []=d:=by unfold iO;rw[List.foldl_nil]
theorem nS(d:Nat)(c:UInt8)(l:List UInt8):iO d (c::l)=iO (wT d c) l:=by unfold iO;rw[List.foldl_cons]
theorem B'(d t p r:Nat):(10*d+t)*p+r=d*(p*10)+(t*p+r):=by
 have a:(10*d+t)*p=10*d*p+t*p:=Nat.add_mul _ _ _;have b:d*(p*10)=10*d*p:=by rw[Nat.mul_comm p 10,<-Nat.mul_assoc,Nat.mul_comm d 10]
 rw[a,b,Nat.add_assoc]
theorem J5(d:Nat)(c:UInt8):wT d c=10*d+wT 0 c:=by unfold wT;omega
theorem q7:∀ (l:List UInt8) (d:Nat),iO d l=d*10^l.length+iO 0 l
 |[],d=>by rw[nR,nR,List.length_nil,Nat.pow_zero,Nat.mul_one,Nat.add_zero]
 |c::l,d=>by
  have a:=q7 l (wT d c);have b:=q7 l (wT 0 c);have e:=B' d (wT 0 c) (10^l.length) (iO 0 l);rw[nS,nS,List.length_cons,Nat.pow_succ,a,b,J5 d c];exact e
theorem yK:∀ (l:List UInt8),(∀ c∈l,c.toNat<=57)->iO 0 l<10^l.length
 |[],_=>by rw[nR];decide
 |c::l,h=>by
  rw[nS,q7,List.length_cons];have b:=yK l (fun x a=>h x (by simp[a]));have d:=h c ar;have e:wT 0 c*10^l.length<=9*10^l.length:=Nat.mul_le_mul_right _ (by unfold wT;omega);rw[Nat.pow_succ];omega
def isNum(l:List UInt8):Bool:=!l.isEmpty&&!(decide (1<l.length)&&l.head?==some 48)&&l.all fun c=>decide (48<=c.toNat)&&decide (c.toNat<=57)
def D8:List UInt8:=[48,49,50,51,52,53,54,55,56,57]
theorem G9(c:UInt8):D8.contains c=(decide (48<=c.toNat)&&decide (c.toNat<=57)):=by
 have h:∀ n:Fin 256,D8.contains (UInt8.ofNat n.val)=(decide (48<=n.val)&&decide (n.val<=57)):=bh
 have:=h ⟨c.toNat,c.toNat_lt⟩
 simpa using this
theorem E_{p:UInt8->Bool}{l:List UInt8}(h:l.all p=true):l.dropWhile p=[]:=by
 induction l with
 |nil=>rfl
 |cons c l a=>
  rw[List.all_cons,Bool.and_eq_true] at h;rw[List.dropWhile_cons,if_pos h.1];exact a h.2
theorem Ca{l a:List UInt8}(h:l.all (a.contains ·)=true):Lib.trimS l a=[]:=by
 unfold Lib.trimS Lib.trimRightS Lib.trimLeftS;have e:l.reverse.dropWhile (a.contains ·)=[]:=E_ (by rw[List.all_reverse];exact h);rw[e];rfl
theorem E'(l:List UInt8)(w:World)(a:l.length<=1099511627776):
 Calls Tryz.prog 155 #[.string ⟨l.toArray⟩,.string ⟨#[48,49,50,51,52,53,54,55,56,57]⟩] w fun e w'=>e=.returned (.string ⟨(Lib.trimS l D8).toArray⟩)/\Below w.heap.size w w':=
 Any.strings_Trim_laid Tryz.lays160 aq ⟨l.toArray⟩ ⟨#[48,49,50,51,52,53,54,55,56,57]⟩ w (by show l.length<=_;omega) bh (ascii_of_all bh)
section
variable {P:Program}
theorem o4(b:Nat):∀ (a:List Value) (o:Nat) (w:World),(w.setCells b o a).heap.size=w.heap.size
 |[],_,_=>rfl
 |v::r,o,w=>by rw[World.setCells,o4 b r];simp
theorem nT(w:World)(B:o.guard=none)(d s:Operand)(y J:TypeId)
 (T:o.op=.call {callee:=.builtin .copy,args:=#[d,s],argTypes:=#[y,J]}) (e:TypeId) (X:P.underlying y=some (.slice e)) {z:Value} {bytes:Nat} (r:(P.info? e).map (fun i=>(i.zero,i.size,i.bytes))=some (some z,1,bytes))
 (b l n m c q:Nat) (a:Option Addr) (f g:Nat->Nat) (M:k.eval d=.slice (some ⟨b,l,none⟩) n q) (W:k.eval s=.slice a m c)
 (C:Cs w b l n f) (F:Fr w b l n) (S:Us w a m c g) (base:Nat) (aA:base<=b)
 (hK:∀ w',Cs w' b l n (fun i=>if i<m then g i else f i)->Fr w' b l n->Below base w w'->w'.heap.size=w.heap.size->wpList P p Q rest (k.put o.dst (goInt ((min m n:Nat):Int))) w'):
 wpList P p Q (o::rest) k w:=by
 refine wpList_plain B fun K u=>?_;have R:Nat.min m n=min m n:=rfl
 have x:(P.info? e).map (·.size)=some 1:=by
  obtain⟨i,D,_,G,_⟩:=info_parts r;simp[D,G]
 by_cases L:min m n=0
 ·have h:=run_copy_none (P:=P) w y J o.type e (some ⟨b,l,none⟩) a n q m c X x L;unfold Oper.wp;simp[execOp,T,resolve,invoke,builtin,M,W,h,Result.andThen];have N:=hK w (fun i r=>by simp only [];rw[if_neg O];exact C i r) F (Below.refl _ _) rfl;rw[L] at N;exact u _ _ N
 ·have aB:=S.le;obtain⟨A,I,rfl,_⟩:=S.cell 0 O;have H:=S.cs
  have h:=run_copy_cells (P:=P) w y J o.type e b l n q ⟨A,I,none⟩ m c ((List.range (min m n)).map fun i=>Value.int .u32 (g i:Nat)) X x ar
   (fun j v t=>by
     obtain⟨aC,Z⟩:=ld _ _ _ _ t
     rw[Z,show(⟨A,I,none⟩:Addr).add j=⟨A,I+j,none⟩ by unfold Addr.add;split<;>simp_all];exact H j O)
   (fun j t=>by simp at t;rw[C j O];rfl) (fun j t=>by simp at t;exact F j O)
   (fun v Y=>by simp at Y;obtain⟨i,_,rfl⟩:=Y;rfl)
  unfold Oper.wp;simp[execOp,T,resolve,invoke,builtin,M,W,h,Result.andThen];refine u _ _ (hK (w.setCells b l ((List.range (min m n)).map fun i=>Value.int .u32 (g i:Nat))) (fun i r=>?_) (fun i r=>?_) (ew b aA _ _ _) ?_)
  ·by_cases E:i<min m n
   ·have:=World.cell?_setCells_in b ((List.range (min m n)).map fun i=>Value.int .u32 (g i:Nat)) l w (fun j t=>by simp at t;rw[C j O];rfl) i (by simpa using E);rw[this];simp only [];rw[if_pos O];simp
   ·rw[World.cell?_setCells_out _ _ _ _ _ (fun _ _=>.inr b1)];show _=some (Value.int .u32 ((if i<m then g i else f i:Nat):Int));rw[if_neg O];exact C i r
  ·rw[World.frozen?_setCells];exact F i r
  ·exact o4 _ _ _ _
end
def LM(w w':World)(v:Nat)(L:Nat)(e:Ending):Prop:=
 ∃ a n c f,e=.returned (.slice a n c)/\Us w' a n c f/\dh w' w.heap.size a c/\Below w.heap.size w w'/\Nm f n/\Hid (val f n=v)/\n<=L
theorem uF{k:Nat}(e:Us w a n c f)(r:n<=4398046511104)(p:k<=n)(d:oY f n=k)(l:Cs w' w.heap.size 0 k (fun i=>if i<n then f i else h i))(m:Fr w' w.heap.size 0 k)(j:Below w.heap.size w w'):
 LM w w' (val f n) n (.returned (.slice (some ⟨w.heap.size,0,none⟩) k k)):=by
 have q:=e.le
 have g:Cs w' w.heap.size 0 k f:=fun i o=>by
  have:=l i o;simp only [show i<n from O,if_true] at this;exact this
 have b:=J3 f n;rw[d] at b;exact⟨_,k,k,f,rfl,g.us (Nat.le_refl _) (by unfold maxLen;omega) (e.lm.mono O),m.new (Nat.le_refl _),j,b,U (by rw[<-d,uA]),p⟩
theorem Cb(a:Option Addr)(n c:Nat)(f:Nat->Nat)(w:World)(Q:n<=4398046511104)(q:Us w a n c f):
 Calls Tryz.prog 172 #[.slice a n c] w fun e w'=>LM w w' (val f n) n e:=by
 have M:=q.le;go_enter Tryz.func172,Tryz.ntmps172
 go_wp2
 go_loop [3] (fun v=>∃ k:Nat,k<=n/\oY f k=oY f n/\v=.int .i64 k) (fun v=>(intOf v).toNat)
 case atStart=>exact⟨n,Nat.le_refl _,rfl,rfl⟩
 case round=>
  obtain⟨k,G,t,rfl⟩:=hrel;have E:=U t;clear t
  by_cases r:0<k/\f (k-1)=0
  ·obtain⟨L,o⟩:=r;obtain⟨j,rfl⟩:∃ j,k=j+1:=⟨k-1,O⟩;simp at o;obtain⟨b,l,rfl,h⟩:=q.cell j O;rw[o] at h;have H:=U o;clear o
   go_wp2
   refine⟨⟨j,O,?_,by congr 1⟩,by simp[intOf]⟩;rw[<-E.out]
   conv=>rhs;unfold oY
   rw[if_pos H.out]
  ·have u:oY f n=k:=by
    rw[<-E.out];cases k with
    |zero=>rfl
    |succ j=>unfold oY;rw[if_neg (by simpa using r)]
   have F:=U u;clear u
   rcases s:k with _|j
   ·subst s;clear r
    go_wp2_with (at_make;refine nP _ rfl _ _ 70 rfl 171 (.int .u32 0) 4 Tryz.underlying70 Tryz.nQ rfl _ _ _ _ 0 rfl rfl O O O O ?_)
    intro x m d p;have g:∀ i,i<0->x.cell? ⟨w.heap.size,i,none⟩=some (.int .u32 0):=fun i P=>O
    have y:=Cs.made g;have A:Fr x w.heap.size 0 0:=(fun i _=>m _);clear g m p
    go_wp2_with ((with_reducible show wpList _ _ _ (Oper.mk (some 23) _ _ _ _ _::_) _ _);refine nT _ rfl _ _ 70 70 rfl 171 Tryz.underlying70 Tryz.nQ _ _ _ _ _ _ _ _ _ rfl rfl y A (q.below d (Nat.le_refl _)) w.heap.size (Nat.le_refl _) ?_)
    intro N z B C D;clear D
    go_wp2
    go_ret;exact uF q O G F z B (d.trans C)
   ·subst s;have J:¬f j=0:=by simpa using r
    have I:¬(f j:Int)=0:=O
    obtain⟨b,l,rfl,h⟩:=q.cell j O;clear r
    go_wp2_with (at_make;refine nP _ rfl _ _ 70 rfl 171 (.int .u32 0) 4 Tryz.underlying70 Tryz.nQ rfl _ _ _ _ (j+1) rfl rfl O O O O ?_)
    intro x g m d p;have y:=Cs.made g;have A:Fr x w.heap.size 0 (j+1):=(fun i _=>m _);clear g m p
    go_wp2_with ((with_reducible show wpList _ _ _ (Oper.mk (some 23) _ _ _ _ _::_) _ _);refine nT _ rfl _ _ 70 70 rfl 171 Tryz.underlying70 Tryz.nQ _ _ _ _ _ _ _ _ _ rfl rfl y A (q.below d (Nat.le_refl _)) w.heap.size (Nat.le_refl _) ?_)
    intro N z B C D;clear D
    go_wp2
    go_ret;exact uF q O G F z B (d.trans C)
theorem yL(a:Option Addr)(n c i:Nat)(f:Nat->Nat)(w:World)(m:n<=4398046511104)(h:Us w a n c f):
 Calls Tryz.prog 150 #[.slice a n c,.int .i64 i] w fun e w'=>e=.returned (.int .u64 (ex f n i:Nat))/\w'=w:=by
 have k:=h.le
 by_cases j:i<n
 ·have d:ex f n i=f i:=by simp[ex,j]
  have o:=h.lm i O;rw[d];obtain⟨b,l,rfl,g⟩:=h.cell i O;clear d;go_enter Tryz.func150,Tryz.ntmps150
  go_wp2
  go_ret;exact⟨rfl,rfl⟩
 ·have d:ex f n i=0:=by simp[ex,j]
  rw[d];clear d;go_enter Tryz.func150,Tryz.ntmps150
  go_wp2
  go_ret;exact⟨rfl,rfl⟩
end Go.Proofs.YtkblonfmjlopaaaGreatDoor
set_option linter.all false
namespace Go.Proofs.YtkblonfmjlopaaaGreatDoor
open Go
abbrev ke:Array Value:=#[.int .i64 0,.string ⟨#[]⟩,.bool false,.slice none 0 0,.int .i64 0,.int .u64 0,.string ⟨#[]⟩,.slice none 0 0,.slice none 0 0,.slice none 0 0,.slice none 0 0,.slice none 0 0]
abbrev q8:Array Value:=#[.int .i64 0,.string ⟨#[]⟩,.slice none 0 0,.int .i64 0,.bool false,.bool false,.slice none 0 0,.slice none 0 0,.slice none 0 0,.slice none 0 0,.slice none 0 0,.slice none 0 0,.slice none 0 0,.slice none 0 0]
abbrev kv(z0:Int)(z1:ByteArray)(z2:Bool)(z3:Option Addr)(z4 z5:Nat)(z6 z7:Int)(z8:ByteArray)(z9:Option Addr)(G_ G':Nat)(z12:Option Addr)(Ha Hb:Nat)(Hc:Option Addr)(Hd Mi:Nat)(Mj:Option Addr)(Mk z20:Nat)(z21:Option Addr)(Ml Mn:Nat):Array Value:=#[.int .i64 z0,.string z1,.bool z2,.slice z3 z4 z5,.int .i64 z6,.int .u64 z7,.string z8,.slice z9 G_ G',.slice z12 Ha Hb,.slice Hc Hd Mi,.slice Mj Mk z20,.slice z21 Ml Mn]
abbrev tY:Array Value:=#[.int .i64 0,.string ⟨#[]⟩,.bool false,.slice none 0 0,.int .i64 0,.string ⟨#[]⟩,.slice none 0 0,.slice none 0 0,.slice none 0 0]
abbrev ot(z0:Int)(z1:ByteArray)(z2:Bool)(z3:Option Addr)(z4 z5:Nat)(z6 z7:Int)(z8:ByteArray)(z9:Option Addr)(G_ G':Nat)(z12:Option Addr)(Ha Hb:Nat)(Hc:Option Addr)(Hd Mi:Nat)(Mj:Option Addr)(Mk z20:Nat)(z21:Option Addr)(Ml Mn:Nat):List Value:=[.int .i64 z0,.string z1,.bool z2,.slice z3 z4 z5,.int .i64 z6,.int .u64 z7,.string z8,.slice z9 G_ G',.slice z12 Ha Hb,.slice Hc Hd Mi,.slice Mj Mk z20,.slice z21 Ml Mn]
abbrev jj(z0 z1:Nat):Array Value:=#[.int .i64 (z0:Nat),.int .i64 (z1:Nat)]
abbrev o5:Array Value:=#[.int .i64 0,.int .i64 0]
abbrev jk(z0:List UInt8):Array Value:=#[.string ⟨z0.toArray⟩]
abbrev He:Array Value:=#[.string ⟨#[42,32,47,32,100,105,118,32,109,111,100]⟩,.string ⟨#[43,32,45,32,94]⟩,.string ⟨#[58,58,32,64]⟩,.string ⟨#[61,32,60,62,32,60,32,60,61,32,62,32,62,61]⟩,.string ⟨#[58,61,32,111]⟩]
abbrev qd(z0:Int)(z1:ByteArray)(z2:Bool)(z3:Option Addr)(z4 z5:Nat)(z6:Int)(z7:ByteArray)(z8:Option Addr)(z9 G_:Nat)(G':Option Addr)(z12 Ha:Nat)(Hb:Option Addr)(Hc Hd:Nat):Array Value:=#[.int .i64 z0,.string z1,.bool z2,.slice z3 z4 z5,.int .i64 z6,.string z7,.slice z8 z9 G_,.slice G' z12 Ha,.slice Hb Hc Hd]
abbrev nU:Obj:=.cells #[.int .i64 0,.bool false] 66
abbrev qe:Obj:=.cells #[.slice none 0 0,.slice none 0 0] 52
abbrev tZ:Array Value:=#[.int .i64 0,.string ⟨#[]⟩,.slice none 0 0,.slice none 0 0]
abbrev J6(z0 z1:Nat):List Value:=[.int .i64 19,.string ⟨#[]⟩,.bool false,.slice none 0 0,.int .i64 0,.int .u64 0,.string ⟨#[]⟩,.slice none 0 0,.slice (some ⟨z0,0,none⟩) 1 1,.slice none 0 0,.slice none 0 0,.slice (some ⟨z1,0,none⟩) 1 1]
abbrev J7(z0:Nat):List Value:=[.int .i64 8,.string ⟨#[]⟩,.bool false,.slice none 0 0,.int .i64 0,.int .u64 0,.string ⟨#[]⟩,.slice none 0 0,.slice (some ⟨z0,0,none⟩) 2 2,.slice none 0 0,.slice none 0 0,.slice none 0 0]
abbrev nF(z0:Int)(z1:ByteArray)(z2:Option Addr)(z3 z4:Nat)(z5:Option Addr)(z6 z7:Nat):Array Value:=#[.int .i64 z0,.string z1,.slice z2 z3 z4,.slice z5 z6 z7]
abbrev uG:Array Value:=#[.string ⟨#[]⟩,.int .i64 0,.slice none 0 0]
abbrev J8(z0 z1:Nat):List Value:=[.int .i64 9,.string ⟨#[]⟩,.bool false,.slice none 0 0,.int .i64 0,.string ⟨#[]⟩,.slice none 0 0,.slice (some ⟨z0,0,none⟩) 1 1,.slice (some ⟨z1,0,none⟩) 1 1]
abbrev Cc(z0:ByteArray):Obj:=.cells #[.string z0,.int .i64 0,.slice none 0 0,.int .i64 0,.int .i64 0] 62
abbrev Mo:Array Value:=#[.slice none 0 0,.int .i64 0,.string ⟨#[]⟩,.bool false,.slice none 0 0,.int .i64 0,.int .u64 0,.string ⟨#[]⟩,.slice none 0 0,.slice none 0 0,.slice none 0 0,.slice none 0 0,.slice none 0 0]
abbrev r7(z0 z1:Nat):Obj:=.cells #[.pointer (some ⟨z0,z1,none⟩)] 126
abbrev kz(z0:Int)(z1:Bool):Array Value:=#[.int .i64 z0,.bool z1]
abbrev r8:Obj:=.cells #[.slice none 0 0] 23
abbrev Mp(z0:Int)(z1:Nat):List Value:=[.int .i64 z0,.string ⟨#[]⟩,.bool false,.slice none 0 0,.int .i64 0,.int .u64 0,.string ⟨#[]⟩,.slice none 0 0,.slice (some ⟨z1,0,none⟩) 2 2,.slice none 0 0,.slice none 0 0,.slice none 0 0]
abbrev ml:Obj:=.cells o5 26
abbrev r9:Obj:=.cells #[.bool false] 4
abbrev J9(z0:Nat):Array Value:=#[.int .i64 (z0:Nat),.string ⟨#[]⟩,.bool false,.slice none 0 0,.int .u64 0,.int .i64 0,.int .i64 0]
abbrev Cd(z0 z1:Nat):Array Value:=#[.pointer (some ⟨z0,0,none⟩),.pointer (some ⟨z1,0,none⟩)]
abbrev t_(z0:Nat):Array Value:=#[.pointer (some ⟨z0,0,none⟩)]
abbrev m'(z0:List UInt8):Obj:=.cells (jk z0) 9
abbrev J_(z0:World):Array Value:=#[.pointer (some ⟨z0.heap.size,0,none⟩),.pointer (some ⟨z0.heap.size+1,0,none⟩)]
end Go.Proofs.YtkblonfmjlopaaaGreatDoor
namespace Go.Proofs.YtkblonfmjlopaaaGreatDoor
open Go Go.RowKit
def eb:=@World.cell?_setCell_other
def aw:=@Nat.le_refl
def fv:=@List.getElem?_eq_getElem
def gi:=@Nat.lt_of_lt_of_le
def b4:=@And.intro
def jl:=@World.cell?_alloc_new
def kA:=@World.cell?_setCell_same
def eA:=@Below.refl
def jX:=@Nat.mul_le_mul_right
def kU:=@World.block_lt_of_cell?
def f_:=@Option.some.inj
def e9:=@Nat.add_assoc
def h3:=@Below.heap_setCell
def gv:=@IntWalk.i64_in
def kC:=@List.getElem?_append_right
def i':=@World.cell?_of_block
def fy:=@Nat.le_trans
def gN:=@IntWalk.u64_in
def iQ:=@List.length_append
def j4:=@List.getElem?_eq_none
def lg:=@List.getElem?_append_left
def gr:=@Nat.lt_or_ge
def im:=@Exit.noGoto_ret
def gW:=@Nat.zero_add
def lj:=@List.mem_of_getElem?
def hD:=@Prod.mk.inj
def hU:=@Nat.zero_le
def h5:=@Nat.le_succ
def lZ:=@List.size_toArray
def lk:=@List.getElem_mem
def jd:=@Nat.succ_mul
def nV:=@Nat.pow_le_pow_right
def o6:=@World.frozen?_alloc_new
def qm:=@World.cell?_setCells_out
def je:=@Nat.pow_pos
def mo:=@Bool.and_eq_true
def kj:=@Nat.mul_comm
def kP:=@Nat.mul_assoc
def ni:=@List.length_cons
def nW:=@World.drewN_drewN
def o7:=@List.map_congr_left
def q9:=@World.frozen?_of_block
def sW:=@Nat.add_sub_cancel_left
def sX:=@World.frozen?_setCells
def lp:=@Nat.mul_one
def qo:=@List.getElem?_map
def q_:=@Nat.lt_of_le_of_lt
def sY:=@Nat.div_lt_of_lt_mul
def qp:=@World.size_alloc
def qq:=@List.not_mem_nil
def qs:=@List.all_eq_true
def xc:=@List.getD_eq_getElem?_getD
def uH:=@ByteArray.size_extract
def q':=@List.append_assoc
def Ab:=@Nat.mul_lt_mul_of_pos_right
def xd:=@World.frozen?_setCell
def o8:=@Nat.le_of_eq
def qt:=@Nat.sub_self
def qu:=@Nat.pow_succ
def qv:=@Nat.add_zero
def Ac:=@World.cell?_setCells_in
def uI:=@List.cons_append
def ra:=@Nat.add_comm
def uJ:=@List.append_nil
def qw:=@Lib.size_eq
def re:=@Exists.intro
def Ad:=@Classical.choose_spec
def xe:=@Nat.lt_of_succ_lt
def D9:=@Array.getElem?_eq_getElem
def xf:=@List.ext_getElem
def rh:=@Nat.pow_add
def D_:=@Array.setIfInBounds_comm
def D':=@List.getElem?_cons_succ
def Ae:=@Int.add_sub_cancel
def Af:=@Nat.lt_trichotomy
def Ea:=@List.take_append_drop
def Eb:=@Array.getElem?_append
def uK:=@Addr.add_lit
def Ag:=@List.length_drop
def Ai:=@IntWalk.i64_left
def Aj:=@Array.all_toList
def Ec:=@Region.noSelect_spec
def sZ:=@Nat.mod_lt
def uL:=@Nat.add_mul
def Ed:=@List.getElem_of_mem
def Hf:=@Nat.mul_lt_mul_of_pos_left
def Ee:=@Nat.mul_right_comm
def Ef:=@Nat.eq_zero_or_pos
def Eg:=@Nat.eq_or_lt_of_le
def Hg:=@Nat.add_mul_mod_self_left
def Hh:=@List.mem_or_eq_of_mem_set
def Hi:=@List.drop_eq_getElem_cons
def mq:=@Or.inl
def Eh:=@Int.lt_trichotomy
def uM:=@Below.drew
def Ei:=@Region.free_spec
def Ej:=@List.take_length
def Hj:=@List.drop_eq_nil_of_le
def Hk:=@ByteArray.data_extract
def Hl:=@Array.getElem?_eq_none
def uN:=@Nat.zero_mul
def Ce:=@List.mem_append_right
def yM:=@Bool.or_eq_true
def yN:=@Bool.eq_iff_iff
def Cf:=@List.mem_cons_of_mem
def Cg:=@Array.getElem?_range
end Go.Proofs.YtkblonfmjlopaaaGreatDoor
