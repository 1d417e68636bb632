/-
  Operators under way: two rows that grow; a region of which three operations are ready. Plain.
-/
import Derived.Test.YtkblonfmjlopaaaGreatDoorSyCat
set_option linter.all false
set_option maxRecDepth 1000000
set_option maxHeartbeats 16000000
namespace Go.Proofs.YtkblonfmjlopaaaGreatDoor
open Go Go.RowKit
variable {cs:Array Value}{j:List (Nat×List Nd×Option Addr×Nat)}{A:Nat}{nd:Nd}{z:Value}
structure SF(w:World)(m x:Option Addr×Nat)(B g C:Nat)(E F:Array Value)(n:Option Addr)(I u:Nat)(y:Nat->Value)(f:Option Addr)(H t:Nat)(D:Nat->Value)(d:World):Prop where
 bl:Below B w d
 bs:B<=d.heap.size
 bx:cc d g E
 bt:cc d C F
 an:d' d n I u 1 y
 wn:dh d B n (u*1)
 af:d' d f H t 2 D
 wf:dh d B f (t*2)
 ln:∀ b o,n=some ⟨b,o,none⟩->b<d.heap.size/\b≠g/\b≠C
 lf:∀ b o,f=some ⟨b,o,none⟩->b<d.heap.size/\b≠g/\b≠C
 nf:∀ b o1 o2,n=some ⟨b,o1,none⟩->f=some ⟨b,o2,none⟩->False
 sz:w.heap.size<=d.heap.size
 n0:(n,u)=m\/∀ b o,n=some ⟨b,o,none⟩->w.heap.size<=b
 f0:(f,t)=x\/∀ b o,f=some ⟨b,o,none⟩->w.heap.size<=b
 kp:∀ k,k<w.heap.size->k≠g->(∀ o,m.1≠some ⟨k,o,none⟩)->(∀ o,x.1≠some ⟨k,o,none⟩)->d.heap[k]?=w.heap[k]?
section
variable {w d w2:World} {B g C:Nat} {E F:Array Value} {n f:Option Addr} {m x:Option Addr×Nat} {I u H t:Nat} {y D:Nat->Value}
theorem SF.below(h:SF w m x B g C E F n I u y f H t D d)(a:Below d.heap.size d w2):SF w m x B g C E F n I u y f H t D w2:=
 ⟨h.bl.trans (a.mono h.bs),fy h.bs a.size,h.bx.bl a,h.bt.bl a,h.an.blocks (fun b o e=>a.block b (h.ln b o e).1),h.wn.blocks (fun b o e=>a.block b (h.ln b o e).1),h.af.blocks (fun b o e=>a.block b (h.lf b o e).1),h.wf.blocks (fun b o e=>a.block b (h.lf b o e).1),
   fun b o e=>⟨gi (h.ln b o e).1 a.size,(h.ln b o e).2⟩,fun b o e=>⟨gi (h.lf b o e).1 a.size,(h.lf b o e).2⟩,h.nf,fy h.sz a.size,h.n0,h.f0,fun k c i j l=>(a.block k (gi c h.sz)).trans (h.kp k c i j l)⟩
theorem SF.names(h:SF w m x B g C E F n I u y f H t D d){a:Option Addr}{s c:Nat}{r T:Nat->Value}(L:r=y/\a=n/\c=u\/r=jH z/\a=some ⟨d.heap.size,0,none⟩/\d.heap.size<w2.heap.size/\∀ p:Addr,p.block<d.heap.size->w2.cell? p=d.cell? p)
 (A:d' w2 a s c 1 T) (N:dh w2 B a (c*1)) (R:Below B d w2) (G:∀ k,k<d.heap.size->(∀ Q,n≠some ⟨k,Q,none⟩)->w2.heap[k]?=d.heap[k]?):SF w m x B g C E F a s c T f H t D w2:=by
 have M:w2.heap[g]?=d.heap[g]?:=G g h.bx.1 (fun o e=>(h.ln _ _ e).2.1 rfl);have P:w2.heap[C]?=d.heap[C]?:=G C h.bt.1 (fun o e=>(h.ln _ _ e).2.2 rfl);have j:∀ b o,f=some ⟨b,o,none⟩->w2.heap[b]?=d.heap[b]?:=fun b o e=>G b (h.lf b o e).1 (fun J v=>h.nf b J o v e);have i:=R.size;have aB:=h.bx.1;have aC:=h.bt.1;refine⟨h.bl.trans R,fy h.bs i,h.bx.a6 M i,h.bt.a6 P i,A,N,h.af.blocks j,h.wf.blocks j,fun b o e=>?_,fun b o e=>⟨gi (h.lf b o e).1 i,(h.lf b o e).2⟩,fun b aA J S v=>?_,fy h.sz i,?_,h.f0,fun k W Y X Z=>?_⟩
 ·rcases L with⟨_,rfl,_⟩|⟨_,rfl,l,_⟩
  ·exact⟨gi (h.ln b o e).1 i,(h.ln b o e).2⟩
  ·simp only [Option.some.injEq,Addr.mk.injEq,and_true] at e;exact⟨O,O,O⟩
 ·rcases L with⟨_,rfl,_⟩|⟨_,rfl,l,_⟩
  ·exact h.nf b aA J S v
  ·simp only [Option.some.injEq,Addr.mk.injEq,and_true] at S;have:=(h.lf b J v).1;omega
 ·rcases L with⟨_,rfl,rfl⟩|⟨_,rfl,l,_⟩
  ·exact h.n0
  ·refine .inr fun b o e=>?_;simp only [Option.some.injEq,Addr.mk.injEq,and_true] at e;have:=h.sz;omega
 ·exact(G k (gi W h.sz) (fun o e=>h.n0.elim (fun q=>X o (by rw[<-q];exact e)) (fun q=>ba (q k o e)))).trans (h.kp k W Y X Z)
theorem SF.MY(h:SF w m x B g C E F n I u y f H t D d){a:Option Addr}{s c:Nat}{r T:Nat->Value}(J:r=D/\a=f/\c=t\/r=jH z/\a=some ⟨d.heap.size,0,none⟩/\d.heap.size<w2.heap.size/\∀ p:Addr,p.block<d.heap.size->w2.cell? p=d.cell? p)
 (A:d' w2 a s c 2 T) (N:dh w2 B a (c*2)) (R:Below B d w2) (G:∀ k,k<d.heap.size->(∀ Q,f≠some ⟨k,Q,none⟩)->w2.heap[k]?=d.heap[k]?):SF w m x B g C E F n I u y a s c T w2:=by
 have L:w2.heap[g]?=d.heap[g]?:=G g h.bx.1 (fun o e=>(h.lf _ _ e).2.1 rfl);have M:w2.heap[C]?=d.heap[C]?:=G C h.bt.1 (fun o e=>(h.lf _ _ e).2.2 rfl);have j:∀ b o,n=some ⟨b,o,none⟩->w2.heap[b]?=d.heap[b]?:=fun b o e=>G b (h.ln b o e).1 (fun P v=>h.nf b o P e v);have i:=R.size;have aB:=h.bx.1;have aC:=h.bt.1;refine⟨h.bl.trans R,fy h.bs i,h.bx.a6 L i,h.bt.a6 M i,h.an.blocks j,h.wn.blocks j,A,N,fun b o e=>⟨gi (h.ln b o e).1 i,(h.ln b o e).2⟩,fun b o e=>?_,fun b Y P S v=>?_,fy h.sz i,h.n0,?_,fun k W Z aA X=>?_⟩
 ·rcases J with⟨_,rfl,_⟩|⟨_,rfl,l,_⟩
  ·exact⟨gi (h.lf b o e).1 i,(h.lf b o e).2⟩
  ·simp only [Option.some.injEq,Addr.mk.injEq,and_true] at e;exact⟨O,O,O⟩
 ·rcases J with⟨_,rfl,_⟩|⟨_,rfl,l,_⟩
  ·exact h.nf b Y P S v
  ·simp only [Option.some.injEq,Addr.mk.injEq,and_true] at v;have:=(h.ln b Y S).1;omega
 ·rcases J with⟨_,rfl,rfl⟩|⟨_,rfl,l,_⟩
  ·exact h.f0
  ·refine .inr fun b o e=>?_;simp only [Option.some.injEq,Addr.mk.injEq,and_true] at e;have:=h.sz;omega
 ·exact(G k (gi W h.sz) (fun o e=>h.f0.elim (fun q=>X o (by rw[<-q];exact e)) (fun q=>ba (q k o e)))).trans (h.kp k W Z aA X)
theorem SF.set(h:SF w m x B g C E F n I u y f H t D d)(l:B<=g)(s:C≠g)(j:Nat)(r:j<E.size)(v:Value):SF w m x B g C (E.setIfInBounds j v) F n I u y f H t D (d.setCell ⟨g,j,none⟩ v):=by
 have a:∀ b,b≠g->(d.setCell ⟨g,j,none⟩ v).heap[b]?=d.heap[b]?:=fun b q=>h3 _ _ _ _ q;have c:(d.setCell ⟨g,j,none⟩ v).heap.size=d.heap.size:=by simp[World.setCell]
 exact⟨h.bl.setCell (p:=⟨g,j,none⟩) l v,by rw[c];exact h.bs,h.bx.lF j r v,h.bt.a6 (a _ s) O,h.an.blocks (fun b o e=>a b (h.ln b o e).2.1),h.wn.blocks (fun b o e=>a b (h.ln b o e).2.1),h.af.blocks (fun b o e=>a b (h.lf b o e).2.1),h.wf.blocks (fun b o e=>a b (h.lf b o e).2.1),
  fun b o e=>by rw[c];exact h.ln b o e,fun b o e=>by rw[c];exact h.lf b o e,h.nf,by rw[c];exact h.sz,h.n0,h.f0,fun k z i A G=>(a k i).trans (h.kp k z i A G)⟩
end
section
variable {P:Program}
theorem firstM{w:World}{a:Option Addr}{n c s:Nat}{h:Nat->Value}(k:∀ j,j<n*s->∃ b d,a=some ⟨b,d,none⟩/\w.cell? ⟨b,d+j,none⟩=some (h j)):(Builtin.firstCells s n (.slice a n c)).run P w=.ok ((List.range (n*s)).map h).toArray w:=by
 by_cases y:n*s=0
 ·rw[y];cases a with
  |none=>rw[run_firstCells_none];rfl
  |some i=>exact run_firstCells_some w s n i n c _ (by simp[y]) (fun j v e=>by simp at e)
 ·obtain⟨b,d,rfl,_⟩:=k 0 O;refine run_firstCells_some w s n _ n c _ ar (fun j v e=>?_);obtain⟨m,rfl⟩:=ld _ _ _ _ e;obtain⟨o,g,f,l⟩:=k j m;simp only [Option.some.injEq,Addr.mk.injEq,and_true] at f;obtain⟨rfl,rfl⟩:=f;rw[uK];exact l
theorem qF(w:World)(t Z aO e E:TypeId)(z:Value)(s bytes:Nat)(aD:P.underlying t=some (.slice e))(M:P.underlying Z=some (.slice E))
 (aG:(P.info? e).map (fun i=>(i.zero,i.size,i.bytes))=some (some z,s,bytes)) (aT:z.cells.size=s) (aM:0<s) (o:Nat) (x:o<=w.heap.size)
 (a:Option Addr) (n c:Nat) (h g:Nat->Value) (aA:Option Addr) (m d:Nat) (A:d' w a n c s h) (N:dh w o a (c*s)) (aQ:∀ j,j<m*s->∃ b off,aA=some ⟨b,off,none⟩/\w.cell? ⟨b,off+j,none⟩=some (g j)) (aN:∀ j,j<m*s->(g j).oneCell'=true)
 (aR:(n+m)*(2*bytes)<=281474976710656) (aV:n+m<=140737488355328):
 ∃ S aB r Q,(Builtin.append_ #[t,Z] aO #[.slice a n c,.slice aA m d]).run P w=.ok (.slice S (n+m) aB) Q/\(r=h/\S=a/\aB=c\/r=jH z/\S=some ⟨w.heap.size,0,none⟩/\w.heap.size<Q.heap.size/\∀ p:Addr,p.block<w.heap.size->Q.cell? p=w.cell? p)/\
   d' Q S (n+m) aB s (c6 h (n*s) (m*s) g r)/\dh Q o S (aB*s)/\Below o w Q/\Kq w Q a (n*s) ((n+m)*s):=by
 obtain⟨i,G,aI,B,aH⟩:=info_parts aG
 have H:Src P i.size Z (.slice aA m d) m ((List.range (m*s)).map g) w:=by
  rw[B];refine⟨.inl ⟨E,M⟩,fun _=>rfl,firstM aQ,firstM (w:=w.drew) aQ,ar,fun u aY=>?_⟩;obtain⟨j,f,rfl⟩:=List.mem_map.1 aY;exact aN j (by simpa using f)
 have aL:(n+m)*s=n*s+m*s:=uL ..
 by_cases l:n+m<=c
 ·have aX:(n+m)*s<=c*s:=jX _ l
  by_cases W:0<c*s
  ·obtain⟨b,off,rfl,R⟩:=A.addr W
   have v:=run_append_room_src (P:=P) w t Z aO e i aD G b off n c (.slice aA m d) m ((List.range (m*s)).map g) H l
    (fun j f=>by rw[B,e9,R (n*s+j) (by simp at f;omega)];rfl)
    (fun j f=>by
      obtain⟨aE,C,E,_,D⟩:=N (n*s+j) (by simp at f;omega);simp only [Option.some.injEq,Addr.mk.injEq,and_true] at E;obtain⟨rfl,rfl⟩:=E
      rw[B,e9];exact D)
   rw[B] at v;obtain⟨aE,C,E,aW,_⟩:=N 0 O;simp only [Option.some.injEq,Addr.mk.injEq,and_true] at E;obtain⟨rfl,rfl⟩:=E;refine⟨_,_,h,_,v,.inl ⟨rfl,rfl,rfl⟩,⟨l,A.mx,fun j f=>⟨b,off,rfl,?_⟩⟩,fun j f=>?_,ew b aW _ _ _,⟨⟨?_,fun p L y=>?_,fun p L=>sX ..⟩,fun k aC y=>iL b _ _ _ k (fun e=>y off (by rw[e]))⟩⟩
   ·unfold c6
    split
    ·rw[qm _ _ _ _ _ (fun _ _=>.inl b1)];exact R j f
    ·split
     ·have:=Ac b ((List.range (m*s)).map g) (off+n*s) w (fun k aC=>by rw[e9,R (n*s+k) (by simp at aC;omega)];rfl) (j-n*s) b1;rw[show off+n*s+(j-n*s)=off+j from O] at this;rw[this];simp
     ·rw[qm _ _ _ _ _ (fun _ _=>.inr b1)];exact R j f
   ·obtain⟨aE,C,E,F,T⟩:=N j f;exact⟨aE,C,E,F,by rw[sX];exact T⟩
   ·exact(ew b (aw b) _ _ _).size
   ·refine qm _ _ _ _ _ (fun F T=>?_);have aP:=y b off rfl;simp only [List.length_map,List.length_range]
    by_cases q:p.off<off+n*s
    ·exact .inl q
    ·exact .inr (by
      by_cases aZ:p.off<off+(n+m)*s
      ·exact absurd ⟨F,T,O,aZ⟩ aP
      ·omega)
  ·have R:c=0:=by
    rcases Ef c with q|q
    ·exact q
    ·exact absurd (Nat.mul_pos q aM) W
   obtain rfl:n=0:=O
   obtain rfl:m=0:=O
   subst R;refine⟨a,0,h,w,?_,.inl ⟨rfl,rfl,rfl⟩,⟨aw _,hU _,fun j f=>absurd f ar⟩,fun j f=>absurd f ar,eA _ _,⟨⟨aw _,fun _ _ _=>rfl,fun _ _=>rfl⟩,fun _ _ _=>rfl⟩⟩;have J:=H.cells;have X:=H.len;rw[show(List.range (0*s)).map g=[] by simp] at J
   rcases a with _|b6
   ·simp[Builtin.append_,run_underlying aD,run_underlying M,sizeOf,typeInfo,G,X,J]
   ·simp[Builtin.append_,run_underlying aD,run_underlying M,sizeOf,typeInfo,G,X,J]
    rfl
 ·have v:=run_append_grow_src (P:=P) w t Z aO e i z aD G aI a n c ((List.range (n*s)).map h) (by rw[B];exact yQ (w:=w.drew) ⟨A.le,A.mx,fun i aG=>by simpa using A.cell i aG⟩) (.slice aA m d) m ((List.range (m*s)).map g) H O
   O (by
    have F:=nextslicecap_le (show c<n+m from O);have T:Builtin.nextslicecap (n+m) c*i.bytes<=2*(n+m)*i.bytes:=jX _ F;have aP:2*(n+m)*i.bytes=(n+m)*(2*bytes):=by rw[aH,kj 2,kP]
    omega)
  have aF:=grownCap_ge w (n+m) c e;have aJ:=grownCap_le_maxLen w (n+m) c e (by unfold maxLen;omega)
  have I:∀ j,j<grownCap w (n+m) c e*s->(((List.range (n*s)).map h++(List.range (m*s)).map g).toArray++Builtin.zeroCells z.cells (grownCap w (n+m) c e-(n+m)))[j]?=some (c6 h (n*s) (m*s) g (jH z) j):=by
   intro j f;unfold c6;rw[Eb]
   split
   ·rename_i F;simp at F;simp only [List.getElem?_toArray,List.getElem?_append,List.length_map,List.length_range]
    split
    ·simp[*]
    ·rename_i T;simp[show j-n*s<m*s from O]
   ·rename_i F;simp at F;rw[if_neg O,if_neg O];have Y:(grownCap w (n+m) c e-(n+m))*s=grownCap w (n+m) c e*s-(n+m)*s:=Nat.sub_mul ..;unfold Builtin.zeroCells jH;have aK:j-(n*s+m*s)<(grownCap w (n+m) c e-(n+m))*z.cells.size:=by rw[aT,Y];omega
    simp only [List.length_append,List.length_map,List.length_range,List.size_toArray];rw[Array.getElem?_map,Cg];rw[if_pos aK];simp only [Option.map_some]
    congr 1
    rw[aT]
    have:(j-(n*s+m*s))%s=j%s:=by
     have aU:j=(j-(n*s+m*s))+s*(n+m):=by rw[kj s,aL];omega
     conv=>rhs;rw[aU]
     rw[Hg]
    rw[this]
  refine⟨_,_,jH z,_,v,.inr ⟨rfl,rfl,ar,fun p L=>(((eA w.heap.size w).drew).alloc (aw _) _).cell L⟩,⟨aF,aJ,fun j f=>⟨w.heap.size,0,rfl,?_⟩⟩,fun j f=>⟨w.heap.size,0,rfl,x,?_⟩,((eA _ _).drew).alloc x _,⟨⟨ar,fun p L _=>?_,fun p L=>?_⟩,fun k aC _=>(((eA w.heap.size w).drew).alloc (aw _) _).block k aC⟩⟩
  ·rw[gW];have:=jl w.drew (((List.range (n*s)).map h++(List.range (m*s)).map g).toArray++Builtin.zeroCells z.cells (grownCap w (n+m) c e-(n+m))) e j;exact this.trans (I j f)
  ·exact o6 w.drew _ _ _
  ·exact(((eA w.heap.size w).drew).alloc (aw _) _).cell L
  ·exact(((eA w.heap.size w).drew).alloc (aw _) _).frozen L
end
theorem jP.join{w n:World}{F F1 F':Nat->Prop}{L sz c C:Nat}{l k:List Nd}{g B h:Nat->Value}{s:Option Addr}(aF:0<sz)
 (Y:L<=A) (Z:A<w.heap.size) (aA:¬F A) (aE:∀ (i:Nat) (r:Nd),l[i]?=some r->ah w F r ((List.range sz).map fun j=>h (i*sz+j)))
 (aB:∀ b,F b->b<w.heap.size) (E:∀ b,F1 b->b<w.heap.size/\b≠A) (y:∀ (i:Nat) (r:Nd),k[i]?=some r->ah w F1 r ((List.range sz).map fun j=>g (i*sz+j)))
 (t:B=h/\s=some ⟨A,0,none⟩/\C=c\/B=jH z/\s=some ⟨w.heap.size,0,none⟩/\w.heap.size<n.heap.size/\∀ p:Addr,p.block<w.heap.size->n.cell? p=w.cell? p)
 (aC:L<=w.heap.size) (P:d' n s (l.length+k.length) C sz (c6 h (l.length*sz) (k.length*sz) g B)) (N:dh n L s (C*sz)) (W:Kq w n (some ⟨A,0,none⟩) (l.length*sz) ((l.length+k.length)*sz))
 (D:∀ b,F b\/F1 b->F' b) (Q:∀ d,s=some ⟨d,0,none⟩->¬F' d):∃ d,s=some ⟨d,0,none⟩/\(d=A\/d=w.heap.size)/\jP n F' L sz d C (l++k):=by
 have f:∀ b a v,(F b\/F1 b)->w.cell? ⟨b,a,none⟩=some v->n.cell? ⟨b,a,none⟩=some v:=fun b a v m G=>by
  have S:b<w.heap.size:=m.elim (aB b) (fun q=>(E b q).1);have R:b≠A:=m.elim (fun q e=>aA (e▸q)) (fun q=>(E b q).2);rw[<-G]
  exact W.kp.cell ⟨b,a,none⟩ S (fun x o e aG=>by
   simp only [Option.some.injEq,Addr.mk.injEq,and_true] at e
   exact R (aG.1.trans e.1.symm))
 have M:∀ d,s=some ⟨d,0,none⟩->L<=d->d<n.heap.size->jP n F' L sz d C (l++k):=fun d e aD u=>by
  subst e;refine⟨c6 h (l.length*sz) (k.length*sz) g B,aD,u,Q d rfl,by rw[iQ];exact P,N,fun i q H=>?_⟩
  by_cases I:i<l.length
  ·rw[lg I] at H
   have e:((List.range sz).map fun j=>c6 h (l.length*sz) (k.length*sz) g B (i*sz+j))=(List.range sz).map fun j=>h (i*sz+j):=by
    apply o7;intro j J;have J:j<sz:=by simpa using J
    unfold c6;have:(i+1)*sz<=l.length*sz:=jX _ I;rw[jd] at this;rw[if_pos O]
   rw[e];exact ah.a6 (fun b m=>D b (.inl m)) (fun b a v m G=>f b a v (.inl m) G) (aE i q H)
  ·have T:i-l.length<k.length:=by
    have:=(List.getElem?_eq_some_iff.1 H).1;rw[iQ] at this;omega
   rw[kC O] at H
   have e:((List.range sz).map fun j=>c6 h (l.length*sz) (k.length*sz) g B (i*sz+j))=(List.range sz).map fun j=>g ((i-l.length)*sz+j):=by
    apply o7;intro j J;have J:j<sz:=by simpa using J
    have aH:i*sz=l.length*sz+(i-l.length)*sz:=by rw[<-uL];congr 1;omega
    have X:(i-l.length+1)*sz<=k.length*sz:=jX _ T;rw[jd] at X;unfold c6;rw[if_neg O,if_pos O]
    congr 1
    omega
   rw[e];exact ah.a6 (fun b m=>D b (.inr m)) (fun b a v m G=>f b a v (.inr m) G) (y _ q H)
 rcases t with⟨_,e,_⟩|⟨_,e,u,_⟩
 ·exact⟨A,e,.inl rfl,M A e Y (gi Z W.kp.size)⟩
 ·exact⟨w.heap.size,e,.inr rfl,M _ e aC u⟩
theorem tO{w:World}{F:Nat->Prop}{b sz:Nat}:∀ (l:List Nd) (a:Nat),gZ w F b a l->(∀ r,r∈l->∀ cs,ah w F r cs->cs.length=sz/\∀ v,v∈cs->v.oneCell'=true)->
 ∃ L:List Value,L.length=l.length*sz/\(∀ j,j<L.length->w.cell? ⟨b,a+j,none⟩=L[j]?)/\(∀ v,v∈L->v.oneCell'=true)/\∀ (i:Nat) (r:Nd),l[i]?=some r->ah w F r ((List.range sz).map fun j=>(L[i*sz+j]?).getD undef)
 |[],a,_,_=>⟨[],ar,fun j g=>absurd g ar,fun v m=>(qq m).elim,fun i r c=>by simp at c⟩
 |x::l,a,h,n=>by
  unfold gZ at h;obtain⟨⟨cs,u,f⟩,d⟩:=h;obtain⟨k,y⟩:=n x (.head _) cs f;have z:gn x=sz:=by rw[<-f.len];exact k
  rw[z] at d;obtain⟨L,o,p,s,t⟩:=tO l (a+sz) d fun r f=>n r (.tail _ f);refine⟨cs++L,by rw[iQ,o,k,ni,jd];omega,fun j g=>?_,fun v m=>(List.mem_append.1 m).elim (y v) (s v),fun i r c=>?_⟩
  ·by_cases q:j<cs.length
   ·rw[lg q];exact u j q
   ·rw[iQ] at g;rw[kC O,<-p _ O]
    congr 2
    omega
  ·cases i with
   |zero=>
    have c:x=r:=f_ c;subst c
    have e:((List.range sz).map fun j=>((cs++L)[0*sz+j]?).getD undef)=cs:=by
     apply xf
     ·simp[k]
     ·intro j A d;simp only [List.getElem_map,List.getElem_range,Nat.zero_mul,Nat.zero_add];rw[lg d,fv d];rfl
    rw[e];exact f
   |succ i=>
    have c:l[i]?=some r:=c
    have e:((List.range sz).map fun j=>((cs++L)[(i+1)*sz+j]?).getD undef)=(List.range sz).map fun j=>(L[i*sz+j]?).getD undef:=by
     apply o7;intro j g;rw[jd,kC O]
     congr 2
     omega
    rw[e];exact t i r c
theorem k3{w:World}{F:Nat->Prop}{sz c:Nat}{l:List Nd}{a:Option Addr}(h:b8 w F (.sl l) [.slice a l.length c])(q:∀ r,r∈l->∀ cs,ah w F r cs->cs.length=sz/\∀ v,v∈cs->v.oneCell'=true):
 ∃ g:Nat->Value,(∀ j,j<l.length*sz->∃ b d,a=some ⟨b,d,none⟩/\w.cell? ⟨b,d+j,none⟩=some (g j))/\(∀ j,j<l.length*sz->(g j).oneCell'=true)/\∀ (i:Nat) (r:Nd),l[i]?=some r->ah w F r ((List.range sz).map fun j=>g (i*sz+j)):=by
 unfold b8 at h;obtain⟨t,u,s,_,_,h⟩:=h;cases s
 rcases h with rfl|⟨b,d,rfl,y,o⟩
 ·exact⟨fun _=>undef,fun j f=>absurd f ar,fun j f=>absurd f ar,fun i r p=>by simp at p⟩
 ·obtain⟨L,x,k,m,n⟩:=tO l d o q;refine⟨fun j=>(L[j]?).getD undef,fun j f=>⟨b,d,rfl,?_⟩,fun j f=>?_,n⟩
  ·have e:j<L.length:=O
   show _=some ((L[j]?).getD undef);rw[k j e,fv e];rfl
  ·have e:j<L.length:=O
   show((L[j]?).getD undef).oneCell'=true;rw[fv e];exact m _ (lk _)
section
variable {G:Gh} {M:Nat->Prop} {n:Option Addr} {u:Nat} {f:Option Addr} {t:Nat} {w i w2 e:World} {s s1 b:al} {bs fx js:List (Nat×Array Value)} {ts:List (Nd×List Value)} {sz c:Nat} {l:List Nd} {a:Option Addr}
theorem Bd.tz(h:Bd G M n u f t w s [] bs ts i s1)(sz:Nat):Bd G M n u f t w s [(sz,[],none,0)] bs ts i s1:=
 ⟨h.kn,h.ps,h.sc,h.i,h.bl,h.nq,h.bw,h.lo,h.dj,h.tr,fun q a=>by
   rcases List.mem_singleton.1 a with rfl
   exact .inl ⟨rfl,rfl,rfl⟩⟩
theorem E7(h:(fx++js).Pairwise fun a b=>a.1≠b.1)(y:∀ p,p∈fx++js->p.1≠A):(fx++(A,(#[]:Array Value))::js).Pairwise fun a b=>a.1≠b.1:=by
 rw[List.pairwise_append] at h⊢;obtain⟨f,g,i⟩:=h;refine⟨f,List.pairwise_cons.2 ⟨fun p c e=>y p (List.mem_append.2 (.inr c)) e.symm,g⟩,fun p c q d=>?_⟩
 rcases List.mem_cons.1 d with rfl|d
 ·exact y p (List.mem_append.2 (.inl c))
 ·exact i p c q d
theorem Bd.more(h:Bd G M n u f t w s [] (fx++js) ts i s1)(x:i.heap.size<=A)(d:Below i.heap.size i w2)(l:A<w2.heap.size)(o:∀ q,q∈j->Rw G M w (fx++(A,#[])::js) w2 q):Bd G M n u f t w s j (fx++(A,#[])::js) ts w2 s1:=by
 have g:=h.below d;have y:=h.kn.size
 have a:∀ p,p∈fx++(A,(#[]:Array Value))::js->p=(A,#[])\/p∈fx++js:=fun p c=>by
  rcases List.mem_append.1 c with q|q
  ·exact .inr (List.mem_append.2 (.inl q))
  ·rcases List.mem_cons.1 q with q|q
   ·exact .inl q
   ·exact .inr (List.mem_append.2 (.inr q))
 refine⟨g.kn,g.ps,g.sc,g.i,g.bl,fun p c m=>?_,fun p c=>?_,fun p c=>?_,E7 h.dj (fun p c=>ba ((h.bw p c).1)),fun p c=>(h.tr p c).on (Kb.of d fun b k=>?_) (fun b k=>k.imp id fun q=>⟨q.1,ba d.size,fun v=>q.2.2 (v.imp (fun⟨p,c,e⟩=>?_) id)⟩),o⟩
 ·rcases a p c with rfl|q
  ·have m:M A:=m;have:=(h.ps.mB _ m).2;omega
  ·exact h.nq p q m
 ·rcases a p c with rfl|q
  ·exact⟨l,fun q=>absurd rfl q⟩
  ·exact g.bw p q
 ·rcases a p c with rfl|q
  ·show w.heap.size<=A;omega
  ·exact h.lo p q
 ·have:=h.ps.bB
  rcases k with q|q
  ·omega
  ·exact q.2.1
 ·rcases a p c with rfl|r
  ·have e:A=b:=e;omega
  ·exact⟨p,r,e⟩
theorem Bd.BV(h:Bd G M n u f t w s [] (fx++js) ts i s1)(T:TypeId)(k:ah i (Own G.B w.heap.size i.heap.size (VM M w (fx++js))) nd cs.toList):Bd G M n u f t w s [(cs.size,[nd],some ⟨i.heap.size,0,none⟩,1)] (fx++(i.heap.size,#[])::js) ts (i.alloc (.cells cs T)) s1:=by
 have a:=ab i (.cells cs T);have m:=h.ps.bB;have l:=h.kn.size;refine h.more (aw _) a ar (fun q g=>?_)
 rcases List.mem_singleton.1 g with rfl
 refine .inr ⟨_,rfl,List.mem_append.2 (.inr (.head _)),?_⟩
 have:=jP.one (w:=i.alloc (.cells cs T)) (F:=Own G.B w.heap.size (i.alloc (.cells cs T)).heap.size (VM M w (fx++(i.heap.size,#[])::js))) (L:=w.heap.size) (A:=i.heap.size) (r:=nd) (cs:=cs.toList) l ar (fun h=>h.elim (fun h=>O) (fun h=>h.2.2 (.inl ⟨_,List.mem_append.2 (.inr (.head _)),rfl⟩))) (fun j o=>by rw[jl];simp) (fun j _=>o6 _ _ _ _)
  (k.on (Kb.of a fun b c=>by
    rcases c with q|q
    ·omega
    ·exact q.2.1) (fun b c=>c.imp id fun q=>⟨q.1,ba a.size,fun v=>q.2.2 (v.imp (fun⟨p,d,e⟩=>by
     rcases List.mem_append.1 d with r|r
     ·exact⟨p,List.mem_append.2 (.inl r),e⟩
     ·rcases List.mem_cons.1 r with rfl|r
      ·have e:i.heap.size=b:=e;omega
      ·exact⟨p,List.mem_append.2 (.inr r),e⟩) id)⟩))
 simpa using this
theorem Bd.nM(h:Bd G M n u f t w s ((sz,l,a,c)::j) (fx++js) ts i s1)(I:∀ q,q∈js->q.2=#[])(D:∀ q,q∈fx->q.2≠#[]):Bd G M n u f t w s [] fx (([.sl l],[.slice a l.length c])::ts) i s1:=by
 have C:∀ b,VM M w fx b->VM M w (fx++js) b:=fun b v=>v.imp (fun⟨p,d,e⟩=>⟨p,List.mem_append.2 (.inl d),e⟩) id;have H:=h.bB;have g:Bd G M n u f t w s [] fx ts i s1:=⟨h.kn,h.ps,h.sc,h.i,h.bl,fun p d=>h.nq p (List.mem_append.2 (.inl d)),fun p d=>h.bw p (List.mem_append.2 (.inl d)),fun p d=>h.lo p (List.mem_append.2 (.inl d)),(List.pairwise_append.1 h.dj).1,fun p d=>(h.tr p d).on (Kb.refl _ _) (fun b B=>B.imp id fun q=>⟨q.1,q.2.1,fun v=>q.2.2 (C b v)⟩),fun q F=>(qq F).elim⟩;refine g.add (cr ?_ gO)
 rcases h.rw _ (.head _) with⟨o,r,x⟩|⟨A,e,k,E⟩
 ·have o:l=[]:=o;have r:a=none:=r;have x:c=0:=x;subst o r x;exact aa
 ·have e:a=some ⟨A,0,none⟩:=e;subst e;have y:w.heap.size<=A:=h.lo _ k;have z:A<i.heap.size:=(h.bw _ k).1;refine E.rep (fun b B=>B.imp id fun q=>⟨q.1,q.2.1,fun v=>q.2.2 (C b v)⟩) (.inr ⟨y,z,fun v=>v.elim (fun⟨p,d,e⟩=>?_) (fun m=>h.nq _ k m.1)⟩);have:=pS h.dj (List.mem_append.2 (.inl d)) k e;exact D p d (by rw[this])
theorem Bd.JO{W:World}{l2:List Nd}{gg:Nat->Value}(d:Bd G M n u f t w s [(sz,l,a,c)] (fx++js) ts W s1)(P:∀ q,q∈js->q.2=#[])(y:∀ (i:Nat) (r:Nd),l2[i]?=some r->ah W (Own G.B w.heap.size W.heap.size (VM M w (fx++js))) r ((List.range sz).map fun j=>gg (i*sz+j)))(aE:0<sz):
 ∃ aD,d' W a l.length c sz aD/\dh W w.heap.size a (c*sz)/\w.heap.size<=W.heap.size/\
   ∀ R S aA o,(aA=aD/\R=a/\S=c\/aA=jH z/\R=some ⟨W.heap.size,0,none⟩/\W.heap.size<o.heap.size/\∀ p:Addr,p.block<W.heap.size->o.cell? p=W.cell? p)->
     d' o R (l.length+l2.length) S sz (c6 aD (l.length*sz) (l2.length*sz) gg aA)->dh o w.heap.size R (S*sz)->Below w.heap.size W o->Kq W o a (l.length*sz) ((l.length+l2.length)*sz)->
     ∃ aF,(∀ q,q∈aF->q.2=#[])/\Bd G M n u f t w s [(sz,l++l2,R,S)] (fx++aF) ts o s1:=by
 have aR:=d.bB;have bI:=d.kn.size;have aK:∀ p,p∈fx++js->p.1<W.heap.size:=fun p x=>(d.bw p x).1
 have I:∀ o,Below w.heap.size W o->(∀ k,k<W.heap.size->(∀ H,a≠some ⟨k,H,none⟩)->o.heap[k]?=W.heap[k]?)->Bd G M n u f t w s [] (fx++js) ts o s1:=fun o C bF=>by
  have L:∀ b,b<W.heap.size->(∀ A,a=some ⟨A,0,none⟩->(A,#[])∈fx++js->b≠A)->o.heap[b]?=W.heap[b]?:=fun b h B=>bF b h fun H e=>by
   rcases d.rw _ (.head _) with⟨_,D,_⟩|⟨A,D,F,_⟩
   ·have D:a=none:=D;rw[D] at e;cases e
   ·have D:a=some ⟨A,0,none⟩:=D;rw[D] at e;cases e;exact B b D F rfl
  refine⟨d.kn.low C aR (aw _),d.ps.a6 (C.mono aR) (fun k N=>L k (d.ps.mB k N).2 fun A aQ F D=>d.nq _ F (by rw[<-D];exact N)),d.sc,d.i,d.bl,d.nq,fun p x=>?_,d.lo,d.dj,fun p x=>(d.tr p x).on (fun b h=>?_) (fun b h=>h.imp id fun q=>⟨q.1,ba C.size,q.2.2⟩),fun q B=>(qq B).elim⟩
  ·by_cases e:p.2=#[]
   ·exact⟨lQ ((d.bw p x).1) C.size,fun q=>absurd e q⟩
   ·refine(d.bw p x).a6 (L _ (d.bw p x).1 fun A aQ F D=>?_) C.size;exact e (by rw[pS d.dj x F D])
  ·rcases h with q|q
   ·exact C.block b O
   ·exact L b q.2.1 fun A aQ F D=>q.2.2 (.inl ⟨_,F,D.symm⟩)
 have b6:∀ {o:World},W.heap.size<o.heap.size->(∀ k,k<W.heap.size->o.heap[k]?=W.heap[k]?)->True:=fun _ _=>trivial
 rcases d.rw _ (.head _) with⟨aO,Z,aP⟩|⟨A,Z,F,bD⟩
 ·have aO:l=[]:=aO;have Z:a=none:=Z;have aP:c=0:=aP;subst aO Z aP;refine⟨fun _=>.bool false,rN,rO,O,fun R S aA o aL aB aG C Q=>?_⟩
  rcases aL with⟨_,rfl,rfl⟩|⟨bE,rfl,J,aC⟩
  ·have bC:l2=[]:=by
    have:=aB.le
    simpa using this
   subst bC;exact⟨js,P,(I o C (fun k N _=>Q.gM k N (fun H e=>by cases e))).tz sz⟩
  ·have g:=I o C (fun k N _=>Q.gM k N (fun H e=>by cases e))
   refine⟨(W.heap.size,#[])::js,fun q B=>by
    rcases List.mem_cons.1 B with rfl|B
    ·rfl
    ·exact P q B,?_⟩
   have bA:Bd G M n u f t w s [] (fx++js) ts W s1:=⟨d.kn,d.ps,d.sc,d.i,d.bl,d.nq,d.bw,d.lo,d.dj,d.tr,fun q B=>(qq B).elim⟩;have aI:Below W.heap.size W o:=⟨C.os,C.tape,C.output,C.size,fun k N=>Q.gM k N (fun H e=>by cases e)⟩;refine bA.more (aw _) aI J (fun q B=>?_)
   rcases List.mem_singleton.1 B with rfl
   refine .inr ⟨_,rfl,List.mem_append.2 (.inr (.head _)),_,O,J,fun q=>q.elim (fun q=>O) (fun q=>q.2.2 (.inl ⟨_,List.mem_append.2 (.inr (.head _)),rfl⟩)),(show d' o (some ⟨W.heap.size,0,none⟩) (([]:List Nd)++l2).length S sz (c6 (fun _=>.bool false) (([]:List Nd).length*sz) (l2.length*sz) gg aA) by rw[iQ];exact aB),aG,fun i r aT=>?_⟩;have aM:i<l2.length:=(List.getElem?_eq_some_iff.1 aT).1
   have e:((List.range sz).map fun j=>c6 (fun _=>.bool false) (([]:List Nd).length*sz) (l2.length*sz) gg aA (i*sz+j))=(List.range sz).map fun j=>gg (i*sz+j):=by
    apply o7;intro j aU;have aU:j<sz:=by simpa using aU
    have D:(i+1)*sz<=l2.length*sz:=jX _ aM;rw[jd] at D;unfold c6;simp only [List.length_nil,Nat.zero_mul,Nat.zero_add,Nat.sub_zero];rw[if_neg O,if_pos O]
   rw[e]
   exact(y i r aT).on (fun b h=>aI.block b (by rcases h with q|q<;>omega)) (fun b h=>h.imp id fun q=>⟨q.1,ba aI.size,fun v=>q.2.2 (v.imp (fun⟨p,x,e⟩=>by
    rcases List.mem_append.1 x with r|r
    ·exact⟨p,List.mem_append.2 (.inl r),e⟩
    ·rcases List.mem_cons.1 r with rfl|r
     ·have e:W.heap.size=b:=e;omega
     ·exact⟨p,List.mem_append.2 (.inr r),e⟩) id)⟩)
 ·have Z:a=some ⟨A,0,none⟩:=Z;subst Z;obtain⟨aD,aW,aX,aY,bG,bH,aZ⟩:=bD;refine⟨aD,bG,bH,O,fun R S aA o aL aB aG C Q=>?_⟩;have g:=I o C (fun k N L=>Q.gM k N L);have aV:=C.size
  rcases aL with⟨T,rfl,rfl⟩|⟨T,rfl,J,aC⟩
  ·--in OK own block
   refine⟨js,P,g.kn,g.ps,g.sc,g.i,g.bl,g.nq,g.bw,g.lo,g.dj,g.tr,fun q B=>?_⟩
   rcases List.mem_singleton.1 B with rfl
   obtain⟨aH,aJ,aN,X⟩:=jP.join (z:=z) (F':=Own G.B w.heap.size o.heap.size (VM M w (fx++js))) aE aW aX aY aZ (fun b h=>by rcases h with q|q<;>omega)
    (F1:=Own G.B w.heap.size W.heap.size (VM M w (fx++js))) (fun b h=>⟨by rcases h with q|q<;>omega,fun e=>by
      subst e
      rcases h with q|q
      ·omega
      ·exact q.2.2 (.inl ⟨_,F,rfl⟩)⟩) y (.inl ⟨T,rfl,rfl⟩) O aB aG Q (fun b h=>by
      rcases h with(q|q)|(q|q)
      ·exact .inl q
      ·exact .inr ⟨q.1,O,q.2.2⟩
      ·exact .inl q
      ·exact .inr ⟨q.1,O,q.2.2⟩) (fun aH e q=>by
      cases e
      rcases q with q|q
      ·omega
      ·exact q.2.2 (.inl ⟨_,F,rfl⟩))
   cases aJ;exact .inr ⟨A,rfl,F,X⟩
  ·--in a new one
   refine⟨(W.heap.size,#[])::js,fun q B=>by
    rcases List.mem_cons.1 B with rfl|B
    ·rfl
    ·exact P q B,?_⟩
   have E:∀ p,p∈fx++(W.heap.size,(#[]:Array Value))::js->p=(W.heap.size,#[])\/p∈fx++js:=fun p x=>by
    rcases List.mem_append.1 x with q|q
    ·exact .inr (List.mem_append.2 (.inl q))
    ·rcases List.mem_cons.1 q with q|q
     ·exact .inl q
     ·exact .inr (List.mem_append.2 (.inr q))
   have Y:∀ b,b<W.heap.size->VM M w (fx++(W.heap.size,(#[]:Array Value))::js) b->VM M w (fx++js) b:=fun b h v=>v.imp (fun⟨p,x,e⟩=>by
    rcases E p x with rfl|r
    ·have e:W.heap.size=b:=e;omega
    ·exact⟨p,r,e⟩) id
   obtain⟨aH,aJ,aN,X⟩:=jP.join (c:=c) (z:=z) (F':=Own G.B w.heap.size o.heap.size (VM M w (fx++(W.heap.size,(#[]:Array Value))::js))) aE aW aX aY aZ (fun b h=>by rcases h with q|q<;>omega)
    (F1:=Own G.B w.heap.size W.heap.size (VM M w (fx++js))) (fun b h=>⟨by rcases h with q|q<;>omega,fun e=>by
      subst e
      rcases h with q|q
      ·omega
      ·exact q.2.2 (.inl ⟨_,F,rfl⟩)⟩) y (.inr ⟨T,rfl,J,aC⟩) O aB aG Q (fun b h=>by
      rcases h with(q|q)|(q|q)
      ·exact .inl q
      ·exact .inr ⟨q.1,O,fun v=>q.2.2 (Y b q.2.1 v)⟩
      ·exact .inl q
      ·exact .inr ⟨q.1,O,fun v=>q.2.2 (Y b O v)⟩) (fun aH e q=>by
      cases e
      rcases q with q|q
      ·omega
      ·exact q.2.2 (.inl ⟨_,List.mem_append.2 (.inr (.head _)),rfl⟩))
   cases aJ;refine⟨g.kn,g.ps,g.sc,g.i,g.bl,fun p x m=>?_,fun p x=>?_,fun p x=>?_,E7 d.dj (fun p x=>ba (aK p x)),fun p x=>(d.tr p x).on (fun b h=>?_) (fun b h=>h.imp id fun q=>⟨q.1,O,fun v=>q.2.2 (Y b q.2.1 v)⟩),fun q B=>?_⟩
   ·rcases E p x with rfl|q
    ·have m:M W.heap.size:=m;have:=(d.ps.mB _ m).2;omega
    ·exact d.nq p q m
   ·rcases E p x with rfl|q
    ·exact⟨J,fun q=>absurd rfl q⟩
    ·exact g.bw p q
   ·rcases E p x with rfl|q
    ·show w.heap.size<=W.heap.size;omega
    ·exact d.lo p q
   ·rcases h with q|q
    ·exact C.block b O
    ·exact Q.gM b q.2.1 (fun H e=>by cases e;exact q.2.2 (.inl ⟨_,F,rfl⟩))
   ·rcases List.mem_singleton.1 B with rfl
    exact .inr ⟨W.heap.size,rfl,List.mem_append.2 (.inr (.head _)),X⟩
theorem Bd.app{W:World}(F:Bd G M n u f t w s [(sz,l,a,c)] (fx++js) ts W s1)(B:∀ q,q∈js->q.2=#[])(R:ah W (Own G.B w.heap.size W.heap.size (VM M w (fx++js))) nd cs.toList)(E:cs.size=sz)(D:0<sz):
 ∃ m,d' W a l.length c sz m/\dh W w.heap.size a (c*sz)/\w.heap.size<=W.heap.size/\
   ∀ g h v d,(v=m/\g=a/\h=c\/v=jH z/\g=some ⟨W.heap.size,0,none⟩/\W.heap.size<d.heap.size/\∀ p:Addr,p.block<W.heap.size->d.cell? p=W.cell? p)->
     d' d g (l.length+1) h sz (c6 m (l.length*sz) sz (cellAt cs) v)->dh d w.heap.size g (h*sz)->Below w.heap.size W d->Kq W d a (l.length*sz) ((l.length+1)*sz)->
     ∃ o,(∀ q,q∈o->q.2=#[])/\Bd G M n u f t w s [(sz,l++[nd],g,h)] (fx++o) ts d s1:=by
 obtain⟨m,I,J,L,P⟩:=F.JO (l2:=[nd]) (gg:=cellAt cs) (z:=z) B (fun i r H=>by
  have y:i=0:=by
   have:=(List.getElem?_eq_some_iff.1 H).1;simp at this;omega
  subst y;have C:nd=r:=f_ H;subst C
  have e:((List.range sz).map fun j=>cellAt cs (0*sz+j))=cs.toList:=by
   subst E;apply xf
   ·simp
   ·intro i F x;have x:i<cs.size:=by simpa using x
    simp[cellAt,x]
  rw[e]
  exact R) D
 exact⟨m,I,J,L,fun g h v d Q A N b k=>P g h v d Q (by simpa using A) N b (by simpa using k)⟩
theorem Bd.push(T:TypeId)(h:Bd G M n u f t w s [(sz,l,a,c)] (fx++js) ts e s1)(r:∀ q,q∈js->q.2=#[])(A:ah e (Own G.B w.heap.size e.heap.size (VM M w (fx++js))) nd cs.toList)(x:cs.size=sz)(v:0<sz):
 ∃ o,d' (e.alloc (.cells cs T)) a l.length c sz o/\dh (e.alloc (.cells cs T)) w.heap.size a (c*sz)/\w.heap.size<=(e.alloc (.cells cs T)).heap.size/\
   ∀ g j y d,(y=o/\g=a/\j=c\/y=jH z/\g=some ⟨(e.alloc (.cells cs T)).heap.size,0,none⟩/\(e.alloc (.cells cs T)).heap.size<d.heap.size/\∀ p:Addr,p.block<(e.alloc (.cells cs T)).heap.size->d.cell? p=(e.alloc (.cells cs T)).cell? p)->
     d' d g (l.length+1) j sz (c6 o (l.length*sz) sz (cellAt cs) y)->dh d w.heap.size g (j*sz)->Below w.heap.size (e.alloc (.cells cs T)) d->Kq (e.alloc (.cells cs T)) d a (l.length*sz) ((l.length+1)*sz)->
     ∃ i,(∀ q,q∈i->q.2=#[])/\Bd G M n u f t w s [(sz,l++[nd],g,j)] (fx++i) ts d s1:=by
 have k:=ab e (.cells cs T);have B:=h.ps.bB
 exact(h.below k).app r (A.on (Kb.of k fun b m=>by
  rcases m with q|q
  ·omega
  ·exact q.2.1) fun b m=>m.imp id fun q=>⟨q.1,ba k.size,q.2.2⟩) x v
theorem FN.pF{k:Nat}{args:Array Value}{I:jL}{x:PM Nd}{β:Type}{g:Nd->PM β}{r:Except (Nat×Nat) (β×al)}(D:FN G k args I x)(y:hM I)(h:Bd G M n u f t w s j bs ts i s1)(B:(x>>=g) s1=some r):
 Calls Tryz.prog k args i fun e w2=>(∃ c q,r=.error (c,q)/\e=az c q/\Kn G.B M w w2)\/∃ nd b v,e=.returned v/\Hid (x s1=some (.ok (nd,b))/\s1.i<=b.i)/\Hid (g nd b=some r)/\Hid (Bd G M n u f t w s j bs ts w2 b)/\I w2 (Own G.B w.heap.size w2.heap.size (VM M w bs)) nd v:=by
 rcases a_ B with⟨c,q,a,rfl⟩|⟨nd,b,a,p⟩
 ·exact(D M n u f t i s1 _ h.ps a).mono fun e w2 ⟨l,d⟩=>.inl ⟨c,q,rfl,d,h.kn.go l⟩
 ·exact(D M n u f t i s1 _ h.ps a).mono fun e w2 ⟨l,m,o,z,v,d,A⟩=>.inr ⟨nd,b,v,d,U ⟨a,o⟩,U p,U (h.go l z m o),y _ _ _ _ _ _ A (Kb.refl _ _) (h.own (aw _))⟩
theorem Bd.Nl{b k:Nat×Array Value}(h:Bd G M n u f t w s j (b::k::bs) ts i s1)(y:k.2≠#[]:=by simp):Bd G M n u f t w s j (b::bs) ts i s1:=by
 have l:∀ p,p∈b::bs->p∈b::k::bs:=fun p a=>by
  rcases List.mem_cons.1 a with rfl|a
  ·exact .head _
  ·exact .tail _ (.tail _ a)
 have m:∀ c,VM M w (b::bs) c->VM M w (b::k::bs) c:=fun c v=>v.imp (fun⟨x,z,e⟩=>⟨x,l x z,e⟩) id;refine⟨h.kn,h.ps,h.sc,h.i,h.bl,fun p a=>h.nq p (l p a),fun p a=>h.bw p (l p a),fun p a=>h.lo p (l p a),?_,fun p a=>(h.tr p a).on (Kb.refl _ _) (fun c o=>o.imp id fun q=>⟨q.1,q.2.1,fun x=>q.2.2 (m c x)⟩),fun q r=>(h.rw q r).on (Kb.refl _ _) (fun _ _=>rfl) (aw _) (fun A g=>?_) (fun c _ x=>m c x) h.bB⟩
 ·have d:=List.pairwise_cons.1 h.dj;exact List.pairwise_cons.2 ⟨fun p a=>d.1 p (.tail _ a),(List.pairwise_cons.1 d.2).2⟩
 ·rcases List.mem_cons.1 g with e|g
  ·rw[e];exact .head _
  ·rcases List.mem_cons.1 g with e|g
   ·exact absurd (congrArg Prod.snd e).symm y
   ·exact .tail _ g
end
end Go.Proofs.YtkblonfmjlopaaaGreatDoor
