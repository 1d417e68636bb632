/-
  SyntaxJoins, walked: fixes, append of rows of declarations, the law.
-/
import Derived.Test.YtkblonfmjlopaaaGreatDoorSzSr
set_option linter.all false
set_option maxRecDepth 1000000
set_option maxHeartbeats 16000000
namespace Go.Proofs.YtkblonfmjlopaaaGreatDoor
open Go Go.RowKit
variable {l:List Nd}{c:Nat}{F:Nat->Prop}{W w:World}
theorem zI{d:Nd}(h:Wf .dec d):∃ f,d=d_ f:=by cases h;exact⟨_,rfl⟩
theorem Jy{d:Nd}(h:Wf .dec d):gn d=14:=by obtain⟨f,rfl⟩:=zI h;rfl
theorem GK{f:A7}{a:List Value}(h:ah w F (d_ f) a):a[0]?=some (.int .i64 f.kind):=by
 obtain⟨_,rfl,_⟩:=h.v
 rfl
def Ok(w:World)(l:List Nd)(e:Ending)(w':World):Prop:=∃ b,e=.returned (.bool b)/\Below w.heap.size w w'/\(b=false->∀ d∈l,iD d≠8/\iD d≠9)
theorem DH(w:World)(F:Nat->Prop)(l:List Nd)(v:Value)(H:ey w F l v)(D:∀ b,F b->b<w.heap.size)(t:∀ x,x∈l->Wf .dec x):
 Calls Tryz.prog 7 #[v] w fun e Z=>Ok w l e Z:=by
 obtain⟨aA,aD,rfl,X,m1,B⟩:=H.rws (s:=14) (fun r S=>Jy (t r S)) D;have J:=U t;have m:=U B;have R:l.length<=9223372036854775807:=fy X m1;clear H D t B;go_enter Tryz.func7,Tryz.ntmps7
 go_wp2_with fail
 go_loopg [3] l.length (fun g W wr=>∃ i:Nat,W=.int .i64 (i:Nat)/\g+i=l.length/\Hid (∀ j d,j<i->l[j]?=some d->iD d≠8/\iD d≠9)/\Hid (Below w.heap.size w wr))
 case atStart=>exact⟨0,rfl,O,U (fun j d p=>O),U (Below.refl _ _)⟩
 case round=>
 obtain⟨i,rfl,Q,A,c⟩:=hrel
 by_cases G:i<l.length
 ·have q:(i:Int)<(l.length:Int):=O
  have a:=fv G;obtain⟨f,E⟩:=zI (J.out _ (lk G));rw[E] at a;obtain⟨M,Y,N,rfl,I,u⟩:=m.out i _ a;have y:Hid (iD (d_ f)=f.kind):=U rfl;have P:wr.cell? ⟨M,Y+i*14,none⟩=some (.int .i64 f.kind):=u _ c.out 0 _ (GK I);have L:=U a;clear a E I u;generalize T:f.kind=z at y P;clear T
  by_cases n:z=8
  ·subst n
   go_wp2_with fail
   refine bodyPost_ret (v:=.bool true) (by simp[results,Tryz.results7,go_sem]) rfl ⟨true,rfl,by(repeat (first|with_reducible refine uM ?_|with_reducible refine Below.drewN ?_ _));exact c.out,fun h=>by cases h⟩
  ·by_cases o:z=9
   ·subst o
    go_wp2_with fail
    refine bodyPost_ret (v:=.bool true) (by simp[results,Tryz.results7,go_sem]) rfl ⟨true,rfl,by(repeat (first|with_reducible refine uM ?_|with_reducible refine Below.drewN ?_ _));exact c.out,fun h=>by cases h⟩
   ·have aB:(z==8)=false:=by simp[n]
    have aC:(z==9)=false:=by simp[o]
    go_wp2_with fail
    go_roundg (gk-1)
    case measure=>omega
    case rel=>
     refine⟨i+1,by first|rfl|(congr 1),O,U (fun j d p k=>?_),U (by(repeat (first|with_reducible refine uM ?_|with_reducible refine Below.drewN ?_ _));exact c.out)⟩
     by_cases e:j=i
     ·subst e;have C:=L.out;rw[k] at C;cases C;rw[y.out];exact⟨n,o⟩
     ·exact A.out j d O k
 ·have q:¬(i:Int)<(l.length:Int):=O
  go_wp2_with fail
  refine bodyPost_ret (v:=.bool false) (by simp[results,Tryz.results7,go_sem]) rfl ⟨false,rfl,c.out,fun _ d k=>?_⟩;obtain⟨j,p,e⟩:=Ed k;exact A.out j d O (by rw[fv p,e])
theorem oo{P:Program}{D:Array Oper}{l:List Oper}{o:Oper}{k:Act}{Q:Exit->Act->World->Prop}(w:World)(G:o.guard=none)(S x:Operand)(t L:TypeId)
 (aA:o.op=.call {callee:=.builtin .append,args:=#[S,x],argTypes:=#[t,L]})
 (e R:TypeId) (z:Value) (s bytes:Nat) (aC:P.underlying t=some (.slice e)) (I:P.underlying L=some (.slice R))
 (Z:(P.info? e).map (fun i=>(i.zero,i.size,i.bytes))=some (some z,s,bytes)) (aE:z.cells.size=s) (H:0<s) (f:Nat) (p:f<=w.heap.size)
 (a:Option Addr) (n c:Nat) (h g:Nat->Value) (M:Option Addr) (m d:Nat) (aB:k.eval S=.slice a n c) (aD:k.eval x=.slice M m d) (A:d' w a n c s h) (N:dh w f a (c*s)) (Y:∀ j,j<m*s->∃ b C,M=some ⟨b,C,none⟩/\w.cell? ⟨b,C+j,none⟩=some (g j)) (J:∀ j,j<m*s->(g j).oneCell'=true)
 (y:(n+m)*(2*bytes)<=281474976710656) (E:n+m<=140737488355328)
 (hK:∀ u v r q,d' q u (n+m) v s (c6 h (n*s) (m*s) g r)->dh q f u (v*s)->Below f w q->wpList P D Q l (k.put o.dst (.slice u (n+m) v)) q):
 wpList P D Q (o::l) k w:=by
 refine wpList_plain G fun K F=>?_;obtain⟨u,v,r,q,B,aF,T,W,X,aG⟩:=qF (P:=P) w t L o.type e R z s bytes aC I Z aE H f p a n c h g M m d A N Y J y E;unfold Oper.wp;simp[execOp,aA,resolve,invoke,builtin,aB,aD,B,Result.andThen];exact F _ _ (hK u v r q T W X)
structure Jw(B:Nat)(F:Nat->Prop)(l:List Nd)(w:World)(a:Option Addr)(c:Nat)(h:Nat->Value):Prop where
 arr:d' w a l.length c 14 h
 new:dh w B a (c*14)
 rep:∀ (i:Nat) (r:Nd),l[i]?=some r->ah w F r ((List.range 14).map fun j=>h (i*14+j))
theorem Jw.nil(B:Nat)(F:Nat->Prop)(w:World)(h:Nat->Value):Jw B F [] w none 0 h:=⟨⟨aw _,hU _,fun j a=>absurd a ar⟩,fun j a=>absurd a ar,fun i r b=>by simp at b⟩
theorem Jw.step{B:Nat}{l2:List Nd}{k:World}{a m:Option Addr}{n:Nat}{h g r:Nat->Value}(J:Jw B F l w a c h)(p:∀ b,F b->b<B)(s:∀ (i:Nat) (r:Nd),l2[i]?=some r->ah w F r ((List.range 14).map fun j=>g (i*14+j)))
 (A:d' k m (l.length+l2.length) n 14 (c6 h (l.length*14) (l2.length*14) g r)) (N:dh k B m (n*14)) (hb:Below B w k):Jw B F (l++l2) k m n (c6 h (l.length*14) (l2.length*14) g r):=by
 refine⟨by rw[iQ];exact A,N,fun i q d=>?_⟩
 by_cases o:i<l.length
 ·rw[lg o] at d
  have e:((List.range 14).map fun j=>c6 h (l.length*14) (l2.length*14) g r (i*14+j))=(List.range 14).map fun j=>h (i*14+j):=by
   apply o7;intro j f;have f:j<14:=by simpa using f
   unfold c6;rw[if_pos O]
  rw[e];exact(J.rep i q d).on (Kb.of hb p) fun _ q=>q
 ·have t:i-l.length<l2.length:=by
   have:=(List.getElem?_eq_some_iff.1 d).1;rw[iQ] at this;omega
  rw[kC O] at d
  have e:((List.range 14).map fun j=>c6 h (l.length*14) (l2.length*14) g r (i*14+j))=(List.range 14).map fun j=>g ((i-l.length)*14+j):=by
   apply o7;intro j f;have f:j<14:=by simpa using f
   unfold c6;rw[if_neg O,if_pos O]
   congr 1
   omega
  rw[e];exact(s _ q d).on (Kb.of hb p) fun _ q=>q
theorem Jw.sl{B:Nat}{a:Option Addr}{h:Nat->Value}(J:Jw B F l w a c h):∃ G:Nat->Prop,ey w G l (.slice a l.length c)/\∀ b,G b->F b\/b<w.heap.size:=by
 refine⟨fun b=>F b\/∃ d,a=some ⟨b,d,none⟩/\b<w.heap.size,⟨a,c,rfl,?_⟩,fun b o=>o.imp id fun⟨_,_,q⟩=>q⟩;unfold b8;refine⟨a,c,rfl,J.arr.le,J.arr.mx,?_⟩;cases l with
 |nil=>exact .inl rfl
 |cons x r=>
  have g:=J.arr.le;rw[ni] at g;obtain⟨b,d,rfl,p⟩:=J.arr.cell 0 O;refine .inr ⟨b,d,rfl,.inr ⟨d,rfl,kU w _ p⟩,?_⟩;refine rL (sz:=14) (h:=fun k=>h (k-d)) (x::r) d (fun j t=>?_) fun i q s=>?_
  ·have g:=J.arr.le;obtain⟨m,f,e,n⟩:=J.arr.cell j (gi t (jX _ g));cases e;rw[n,sW]
  ·have:=(J.rep i q s).on (F':=fun m=>F m\/∃ f,(some ⟨b,d,none⟩:Option Addr)=some ⟨m,f,none⟩/\m<w.heap.size) (Kb.refl _ _) fun _ q=>.inl q
   simpa only [Nat.add_sub_cancel_left] using this
theorem wA{X:Tx}{f:Fs}{n:Nat}{g:Bool}:∀ (p:Nat) (a:List Nd) (s:al) (l:List Nd) (t:al),eR X f n g p a s=some (.ok (l,t))->l.length<=a.length+p
 |0,a,s,l,t,h=>by cases h
 |p+1,a,s,l,t,h=>by
  have b:∃ c,fz X n s=some (.ok ((),c)):=by
   have h:=h;unfold eR at h;obtain⟨u,c,i,_⟩:=di h;exact⟨c,i⟩
  obtain⟨c,e⟩:=b;rw[gU e] at h
  split at h
  ·cases h;omega
  ·obtain⟨d,k,i,j⟩:=di h;have:=wA p _ _ _ _ j;simp only [List.length_append,List.length_cons,List.length_nil] at this;omega
theorem yw{F:List UInt8->Nat}{s:ByteArray}(h:jD F s=.ok l):l.length<=1000000:=by
 obtain⟨a,d,b,c,_⟩:=wa h;have g:=(jm b).1
 rcases nI c with⟨_,_,_,h⟩|⟨i,f,e,⟨_,h⟩|⟨_,h⟩⟩
 ·cases h
 ·cases h
 ·cases h;have:=wA _ _ _ _ _ (show eR ⟨a,s.size⟩ (iZ ⟨a,s.size⟩ (8*s.size+1)) (8*s.size+1) true (8*s.size+1) [] ⟨0,ez⟩=some (.ok (l,f)) from e);simp only [List.length_nil] at this;omega
def PR(r:Except (Nat×Nat) (List Nd))(w':World)(va:Option Addr)(vn vc c:Nat):Prop:=(c≠0/\∃ x,r=.error x)\/(c=0/\∃ l,r=.ok l/\(∀ x,x∈l->Wf .dec x)/\vn=l.length/\∃ G:Nat->Prop,ey w' G l (.slice va vn vc)/\∀ b,G b->b<w'.heap.size)
theorem PR.bl{r:Except (Nat×Nat) (List Nd)}{w':World}{e:Option Addr}{g f:Nat}(h:PR r w e g f c)(d:Below w.heap.size w w'):PR r w' e g f c:=by
 rcases h with h|⟨i,l,j,k,m,G,n,a⟩
 ·exact .inl h
 ·exact .inr ⟨i,l,j,k,m,G,n.on (Kb.of d a) fun _ q=>q,fun b q=>gi (a b q) d.size⟩
theorem wB{F:List UInt8->Nat}(s:ByteArray)(w:World)(r:WT F w):Calls Tryz.prog 6 #[.string s] w fun e b=>∃ (g:Option Addr) (j i c q:Nat),e=.returned (.tuple #[.slice g j i,.agg (jj c q)])/\Below w.heap.size w b/\PR (jD F s) b g j i c:=by
 refine(wj s w r).mono fun e b h=>?_;obtain⟨d,h⟩:=h
 rcases f:jD F s with⟨c,q⟩|l
 ·rw[f] at h;exact⟨none,0,0,c,q,h.2,d,.inl ⟨h.1,_,rfl⟩⟩
 ·rw[f] at h;obtain⟨k,v,G,m,n,o⟩:=h;obtain⟨a,c,rfl,p⟩:=n;exact⟨a,l.length,c,0,0,m,d,.inr ⟨rfl,l,rfl,k,rfl,G,⟨a,c,rfl,p⟩,o⟩⟩
theorem DI{f:A7}{a:List Value}(h:ah w F (d_ f) a):a.length=14/\∀ v,v∈a->v.oneCell'=true:=by
 obtain⟨_,rfl,b⟩:=h.v;obtain⟨_,rfl,c⟩:=b.v;obtain⟨_,_,_,rfl,d,_⟩:=c.ls;obtain⟨_,rfl,e⟩:=d.v;obtain⟨_,rfl,g⟩:=e.v;obtain⟨_,rfl,i⟩:=g.v;obtain⟨_,_,_,rfl,j,_⟩:=i.ls;obtain⟨_,_,_,rfl,k,_⟩:=j.ls;obtain⟨_,_,_,rfl,l,_⟩:=k.ls;obtain⟨_,_,_,rfl,m,_⟩:=l.ls;obtain⟨_,_,_,rfl,n,_⟩:=m.ls;obtain⟨_,_,_,rfl,o,_⟩:=n.ls;obtain⟨_,_,_,rfl,p,_⟩:=o.ls;obtain⟨_,_,_,rfl,q,_⟩:=p.ls;obtain rfl:=q.nl;exact⟨rfl,List.all_eq_true.1 rfl⟩
theorem DJ{F:List UInt8->Nat}(a b:ByteArray)(w:World)(cT:WT F w)(dX:a.size+b.size<=1125899906842624):
 Calls Tryz.prog 3 #[.string a,.string b] w fun e eE=>e=.returned (.bool true)/\Below w.heap.size w eE:=by
 have aR:=U cT;clear cT;go_enter Tryz.func3,Tryz.ntmps3
 go_upto_region 3 with(first|(go_at_call 5;refine(DB w aR).mono ?_;rintro e eF ⟨rfl,o⟩;have Y:=U o;clear o)|(go_at_call 6;refine(wB a eF (aR.mono Y)).mono ?_;rintro e bM ⟨cH,eB,cI,aC,bR,rfl,o,C⟩;have aH:=U (ax Y o);have P:=U C;clear o C))
 have I:=U (ax aH (ab bM (.cells (jj aC bR) 26)));have c:=U (cc.new bM (jj aC bR) 26);have m:=U (P.bl (ab bM (.cells (jj aC bR) 26)));obtain⟨cZ,b6⟩:∃ k,bM.heap.size=k:=⟨_,rfl⟩;rw[b6] at c⊢;generalize bM.alloc (.cells (jj aC bR) 26)=eH at I c m⊢;clear Y aH P b6
 go_upto_region 4 with(go_at_call 6;refine(wB b eH (aR.mono I)).mono ?_;rintro e bS ⟨bK,eC,cJ,c2,cF,rfl,o,C⟩;have aI:=U (ax I o);have Q:=U C;have c:=U (c.bl o);have m:=U (m.bl o);clear o C)
 have n:=ab bS (.cells (jj c2 cF) 26);have J:=U (ax aI n);have t:=U (cc.new bS (jj c2 cF) 26);have c:=U (c.bl n);have m:=U (m.bl n);have A:=U (Q.bl n);obtain⟨dA,bA⟩:∃ k,bS.heap.size=k:=⟨_,rfl⟩;rw[bA] at t⊢;generalize bS.alloc (.cells (jj c2 cF) 26)=eI at J c t m A⊢;clear I aI Q bA n;have dU:¬9223372036854775807<a.size+2:=O
 have cW:¬9223372036854775807<a.size+2+b.size:=O
 have cM:Hid (∀ x y,jD F a=.ok x->jD F b=.ok y->(∀ d∈x,iD d≠8/\iD d≠9)->a.size+b.size+2<=65536->jD F (a++⟨#[10,59]⟩++b)=.ok (x++y)):=U fun x y dK dL dM dO=>Dy dK dL dM dO
 go_upto_region 5 with(go_at_call 6;generalize a++⟨#[10,59]⟩++b=s at cM⊢;refine(wB s eI (aR.mono J)).mono ?_;rintro e bT ⟨dY,eD,dZ,bQ,cG,rfl,o,C⟩;have aJ:=U (ax J o);have aN:=U C;have c:=U (c.bl o);have m:=U (m.bl o);have t:=U (t.bl o);have A:=U (A.bl o);clear o C)
 have n:=ab bT (.cells (jj bQ cG) 26);have D:=U (ax aJ n);have N:=U (cc.new bT (jj bQ cG) 26);have c:=U (c.bl n);have m:=U (m.bl n);have t:=U (t.bl n);have A:=U (A.bl n);have aA:=U (aN.bl n);obtain⟨bF,bC⟩:∃ k,bT.heap.size=k:=⟨_,rfl⟩;rw[bC] at N⊢;generalize bT.alloc (.cells (jj bQ cG) 26)=aE at D c t N m A aA⊢;clear J aJ aN bC n aR;have m1:aE.cell? ⟨cZ,0,none⟩=some (.int .i64 (aC:Nat)):=c.2.2 0 (show 0<2 from O);have m2:aE.cell? ⟨dA,0,none⟩=some (.int .i64 (c2:Nat)):=t.2.2 0 (show 0<2 from O);have aD:aE.cell? ⟨bF,0,none⟩=some (.int .i64 (bQ:Nat)):=N.2.2 0 (show 0<2 from O)
 rcases m.out with⟨dP,-⟩|⟨rfl,x,cX,dC,rfl,aF,bH,cR⟩
 ·have aB:¬(aC:Int)=0:=O
  go_wp2_with fail
  refine bodyPost_ret (v:=.bool true) (by simp[results,Tryz.results3,go_sem]) rfl ⟨rfl,D.out⟩
 rcases A.out with⟨dQ,-⟩|⟨rfl,y,cY,dD,rfl,bN,bI,cS⟩
 ·have aB:¬(c2:Int)=0:=O
  go_wp2_with fail
  refine bodyPost_ret (v:=.bool true) (by simp[results,Tryz.results3,go_sem]) rfl ⟨rfl,D.out⟩
 replace m1:aE.cell? ⟨cZ,0,none⟩=some (.int .i64 0):=m1;replace m2:aE.cell? ⟨dA,0,none⟩=some (.int .i64 0):=m2;have aO:=U bH;have cA:=U bI;have Z:=U cR;have aL:=U cS;have aT:=U dC;have cB:=U dD;have cN:=U cX;have cO:=U cY;clear bH bI cR cS dC dD cX cY m A c t
 by_cases cU:65536<a.size+b.size+2
 ·have dR:(65536:Int)<(a.size:Int)+(b.size:Int)+2:=O
  go_wp2_with fail
  refine bodyPost_ret (v:=.bool true) (by simp[results,Tryz.results3,go_sem]) rfl ⟨rfl,D.out⟩
 ·have dR:¬(65536:Int)<(a.size:Int)+(b.size:Int)+2:=O
  go_upto_region 8 with(go_at_call 7;refine(DH aE aF x _ aO.out Z aT).mono ?_;rintro e R ⟨dJ,rfl,o,aU⟩;have aK:=U (ax D o);have B:=U o;have bV:=U aU;clear o aU)
  cases dJ with
  |true=>
   go_wp2_with fail
   refine bodyPost_ret (v:=.bool true) (by simp[results,Tryz.results3,go_sem]) rfl ⟨rfl,aK.out⟩
  |false=>
   have aZ:=cM.out x y cN cO (bV.out rfl) O
   rcases aA.out with⟨-,z,bE⟩|⟨rfl,z,bE,dE,rfl,dF,bJ,cE⟩
   ·rw[aZ] at bE;cases bE
   rw[aZ] at bE;obtain rfl:=Except.ok.inj bE;replace aD:R.cell? ⟨bF,0,none⟩=some (.int .i64 0):=(B.cell (p:=⟨bF,0,none⟩) (kU _ _ aD)).trans aD;have aP:=U (bJ.on (Kb.of B cE) fun _ q=>q);have aM:=U (fun b q=>gi (cE b q) B.size);have cC:=U dE;have dV:=yw cN;have dW:=yw cO
   have G:∀ {l:List Nd},(∀ q,q∈l->Wf .dec q)->∀ r,r∈l->∀ (w:World) (F:Nat->Prop) S,ah w F r S->S.length=14/\∀ v,v∈S->v.oneCell'=true:=fun{l} dS r C w F S aB=>by
    obtain⟨f,rfl⟩:=zI (dS r C);exact DI aB
   obtain⟨g,cV,bG,T⟩:=k3 (sz:=14) (ey.row (aO.on (Kb.of B Z) fun _ q=>q)) (fun r C S aB=>G aT r C _ _ S aB);obtain⟨cD,aV,W,E⟩:=k3 (sz:=14) (ey.row (cA.on (Kb.of B aL) fun _ q=>q)) (fun r C S aB=>G cB r C _ _ S aB);clear aZ dE bJ cE G m1 m2 N aA
   go_upto_region 11 with fail
   have bO:Hid (∀ b,aF b\/bN b->b<R.heap.size):=U fun b q=>q.elim (fun q=>gi (Z.out b q) B.size) fun q=>gi (aL.out b q) B.size;have P:Hid (∀ (i:Nat) (r:Nd),x[i]?=some r->ah R (fun b=>aF b\/bN b) r ((List.range 14).map fun j=>g (i*14+j))):=U fun i r aY=>(T i r aY).on (Kb.refl _ _) fun _ q=>.inl q;have Q:Hid (∀ (i:Nat) (r:Nd),y[i]?=some r->ah R (fun b=>aF b\/bN b) r ((List.range 14).map fun j=>cD (i*14+j))):=U fun i r aY=>(E i r aY).on (Kb.refl _ _) fun _ q=>.inr q;have bP:=Jw.nil R.heap.size (fun b=>aF b\/bN b) R fun _=>undef;have bY:=U aV;have bZ:=U W;clear T E aV W;refine wp_region_list ?_;refine wpList_plain rfl fun K hK=>?_;go_simp;refine hK _ _ ?_;clear hK K;refine wpList_plain rfl fun K hK=>?_;go_simp;refine hK _ _ ?_;clear hK K;refine oo R rfl _ _ 23 23 rfl 42 42 A3 14 256 Tryz.underlying23 Tryz.underlying23 Tryz.zu rfl O R.heap.size (aw _) none 0 0 (fun _=>undef) g cH x.length cI rfl rfl bP.arr bP.new cV bG O O ?_;intro dH dI eL dB cK cP bU;have M:=U (bP.step bO P cK cP bU);have L:=U bU;clear bP cV bG cK cP bU;rw[List.nil_append] at M;rw[gW]
   go_upto_region 12 with fail
   have aW:∀ j,j<y.length*14->∃ b H,bK=some ⟨b,H,none⟩/\dB.cell? ⟨b,H+j,none⟩=some (cD j):=fun j aZ=>by
    obtain⟨b,H,e,h⟩:=bY.out j aZ;exact⟨b,H,e,(L.cell (p:=⟨b,H+j,none⟩) (kU _ _ h)).trans h⟩
   refine wp_region_list ?_;refine wpList_plain rfl fun K hK=>?_;go_simp;refine hK _ _ ?_;clear hK K;refine wpList_plain rfl fun K hK=>?_;go_simp;refine hK _ _ ?_;clear hK K;refine oo dB rfl _ _ 23 23 rfl 42 42 A3 14 256 Tryz.underlying23 Tryz.underlying23 Tryz.zu rfl O R.heap.size L.size dH x.length dI _ cD bK y.length cJ rfl rfl M.arr M.new aW bZ O O ?_;intro eJ eK eM bL cL cQ X;obtain⟨dG,bD,aX⟩:=(M.step (l2:=y) bO (fun i r aY=>(Q.out i r aY).on (Kb.of L bO) fun _ q=>q) cL cQ X).sl;have u:=U (L.trans X);have aQ:=U bD;have bX:=U aX;replace aD:bL.cell? ⟨bF,0,none⟩=some (.int .i64 0):=(u.cell (p:=⟨bF,0,none⟩) (kU _ _ aD)).trans aD;clear aW cL cQ X bD aX;rw[iQ] at aQ aP
   go_wp2_with (go_at_call 8;refine(DF cC bL (fun b=>dF b\/dG b) _ _ (aP.on (Kb.of u aM) fun _ q=>.inl q) (aQ.on (Kb.refl _ _) fun _ q=>.inr q) (fun b q=>q.elim (fun q=>gi (aM.out b q) u.size) fun q=>(bX.out b q).elim (fun q=>gi (bO.out b q) u.size) id)).mono ?_;rintro e eG ⟨rfl,o⟩;have aG:=U (ax (ax aK u) o);clear o)
   refine bodyPost_ret (v:=.bool true) (by simp[results,Tryz.results3,go_sem]) rfl ⟨rfl,aG.out⟩
section
set_option maxRecDepth 1000000
theorem yx{l:List (String×DataW Unit)}(h:laidMet Tryz.prog l W)(i:Nat){name:String}{k:IntKind}{o:List Int}{g:Nat}{t e:TypeId}{n:Nat}
 (u:l[i]?=some (name,Lib.tabData k o)) (s:Tryz.prog.globalNamed name=some g) (j:(Tryz.prog.globals[g]?).map (·.type)=some t) (w:Tryz.prog.underlying t=some (.array n e)) (r:Tryz.prog.underlying e=some (.int k)) (b:Tryz.prog.cellsOf e=1) (c:Tryz.prog.cellsOf t=n):Lib.TabIs Tryz.prog W name k o:=by
 obtain⟨z,v,_⟩:=h;obtain⟨y,A,x,m,p,d,f,a,q⟩:=se v i _ _ u;obtain rfl:=f_ (s.symm.trans d);obtain rfl:=f_ (j.symm.trans f);unfold Lib.TabIs;rw[a,<-Lib.cells_of_tab w r b c q]
theorem Lg(b:laidMetH Tryz.prog Rows.syntaxJoinsRow.laid W)(d:W.ShapedOpen Tryz.prog):CN W:=by
 rw[MakeChecks.laidMetH_plain _ _ _ aq] at b;obtain⟨m,f⟩:∃ m,W.cell? ⟨3,0,none⟩=some (.int .i64 m):=Tryz.laysM219.s1_3 W d;have e:Lib.TabIs Tryz.prog W "strings.asciiSpace" .u8 Lib.asciiSpaceTab:=yx b 13 (g:=0) (t:=123) (n:=256) aq aq aq Tryz.underlying123 aq aq aq;have a:Lib.TabIs Tryz.prog W "internal/strconv.uint64pow10" .u64 Lib.pow10Tab:=yx b 8 (g:=14) (t:=322) (n:=20) aq aq aq Tryz.underlying322 aq aq aq;exact⟨kU W _ f,⟨m,f⟩,fun h c=>Go.Joins.tab_stays (g:=0) aq e c (aw _),fun h c=>Go.Joins.tab_stays (g:=14) aq a c (aw _)⟩
theorem M0(e:laidMetH Tryz.prog Rows.syntaxJoinsRow.laid W)(c:W.ShapedOpen Tryz.prog):∃ F,WT F W:=by
 obtain⟨x,d,y,a,z,b,t⟩:=AD e;exact⟨FR x d y a z b,Lg e c,fun s g f=>FH (aw _) ((t.a6 f).mono f.size) s⟩
end
end Go.Proofs.YtkblonfmjlopaaaGreatDoor
namespace Go.Proofs.YtkblonfmjlopaaaGreatDoor.syntaxJoins
set_option linter.all false
set_option maxRecDepth 1000000
open Go Go.RowKit
theorem e5{a b:Bool}(c:a=true)(d:b=true):(a&&b)=true:=by rw[c,d];rfl
theorem M1:(Rows.syntaxJoinsRow.wf (OpenSpec.ofChange (OpenSpec.ofChange Rows.syntaxJoinsSpec).bare))=true:=aq
theorem M3:(laidOutB Tryz.checked.prog)=true:=aq
theorem M4:(mapsRowed Tryz.checked.prog)=true:=aq
theorem M5:(Tryz.f3.params.all (Tryz.checked.prog.readableRec ·))=true:=aq
theorem M6:(namedTie Tryz.checked.prog Rows.syntaxJoinsRow.named (OpenSpec.ofChange Rows.syntaxJoinsSpec).bare.vars)=true:=aq
theorem M7:((Rows.syntaxJoinsRow.stops==[]))=true:=aq
theorem M8:((Tryz.checked.prog.stops==[]))=true:=aq
theorem M9:((Rows.syntaxJoinsRow.knobs==[]))=true:=aq
theorem M_:((Tryz.checked.prog.stopKnobs==[]))=true:=aq
theorem Na:((Rows.syntaxJoinsRow.inPlace==Tryz.checked.prog.inPlace 3))=true:=aq
theorem Lh:((Rows.syntaxJoinsRow.unfollowed==Tryz.checked.prog.unfollowed 3))=true:=aq
theorem Li:((Rows.syntaxJoinsRow.recurses==Tryz.checked.prog.recurses 3))=true:=aq
theorem Lj:((Rows.syntaxJoinsRow.named==Tryz.checked.prog.varsNamed 3))=true:=aq
theorem Lk:((Rows.syntaxJoinsRow.maps==(Tryz.f3.params.toList++(OpenSpec.ofChange Rows.syntaxJoinsSpec).bare.plain.varTypes Tryz.checked.prog).any (Tryz.checked.prog.mapsRec ·)))=true:=aq
theorem Ll:((Rows.syntaxJoinsRow.ifaces==(Tryz.f3.params.toList++(OpenSpec.ofChange Rows.syntaxJoinsSpec).bare.plain.varTypes Tryz.checked.prog).any (Tryz.checked.prog.ifacesRec ·)))=true:=aq
theorem Ln:((Rows.syntaxJoinsRow.mapsOut==Tryz.checked.prog.mapsAmong Tryz.f3.resultTypes.toList))=true:=aq
theorem Lo:((Rows.syntaxJoinsRow.loops==(Tryz.f3.params.toList++(OpenSpec.ofChange Rows.syntaxJoinsSpec).bare.plain.varTypes Tryz.checked.prog).any (Tryz.checked.prog.loopsFrom ·)))=true:=aq
theorem Lp:((Rows.syntaxJoinsRow.wideKeys==(Tryz.f3.params.toList++(OpenSpec.ofChange Rows.syntaxJoinsSpec).bare.plain.varTypes Tryz.checked.prog++Tryz.f3.resultTypes.toList).any (Tryz.checked.prog.wideKeysFrom ·)))=true:=aq
theorem Lq:((OpenSpec.ofChange Rows.syntaxJoinsSpec).bare.vars.all (Tryz.checked.prog.varReadable ·))=true:=aq
theorem Lr:(Tryz.f3.resultTypes.all (fun t=>Tryz.checked.prog.readableRec t&&decide (t<Tryz.checked.prog.types.size)))=true:=aq
theorem Ls:((Rows.syntaxJoinsRow.ifacesOut==Tryz.f3.resultTypes.toList.any (Tryz.checked.prog.ifacesRec ·)))=true:=aq
theorem Lt:((Rows.syntaxJoinsRow.loopsOut==Tryz.f3.resultTypes.toList.any (Tryz.checked.prog.loopsFrom ·)))=true:=aq
theorem Lu:((Rows.syntaxJoinsRow.plainKeys==Tryz.checked.prog.plainKeys))=true:=aq
theorem Lw:(Rows.syntaxJoinsRow.shortTexts.isNone)=true:=aq
theorem Lx:(Tryz.checked.prog.stopsHeard)=true:=aq
theorem Ly:(Tryz.checked.prog.mayEnter)=true:=aq
theorem Lz:((Rows.syntaxJoinsRow.lifted==Tryz.checked.prog.liftsFinal))=true:=aq
theorem LA:((Tryz.checked.prog.make==some Rows.syntaxJoinsRow.make))=true:=aq
theorem LB:((Rows.syntaxJoinsRow.kinds==(if Rows.syntaxJoinsRow.domain.isEmpty then[] else Tryz.f3.params.toList.map fun t=>match Tryz.checked.prog.underlying t with|some (.int k)=>some k|_=>none)))=true:=aq
theorem LC:((Rows.syntaxJoinsRow.pinned==Rows.syntaxJoinsRow.pinnedBy))=true:=aq
theorem LD:((Rows.syntaxJoinsRow.veiled==(Tryz.f3.params.toList++(OpenSpec.ofChange Rows.syntaxJoinsSpec).bare.plain.varTypes Tryz.checked.prog++Tryz.f3.resultTypes.toList).any (Tryz.checked.prog.veiledRec ·)))=true:=aq
theorem LF:(Rows.syntaxJoinsRow.veiledFits Tryz.checked.prog Tryz.f3.params.toList (Tryz.f3.params.toList++(OpenSpec.ofChange Rows.syntaxJoinsSpec).bare.plain.varTypes Tryz.checked.prog++Tryz.f3.resultTypes.toList))=true:=aq
theorem facts:joinedFacts Tryz.checked.prog 3 Tryz.f3 (OpenSpec.ofChange Rows.syntaxJoinsSpec).bare Rows.syntaxJoinsRow=true:=by
 unfold joinedFacts;exact e5 (e5 (e5 (e5 (e5 (e5 (e5 (e5 (e5 (e5 (e5 (e5 (e5 (e5 (e5 (e5 (e5 (e5 (e5 (e5 (e5 (e5 (e5 (e5 (e5 (e5 (e5 (e5 (e5 (e5 (e5 M1 M3) M4) M5) M6) M7) M8) M9) M_) Na) Lh) Li) Lj) Lk) Ll) Ln) Lo) Lp) Lq) Lr) Ls) Lt) Lu) Lw) Lx) Ly) Lz) LA) LB) LC) LD) LF
end Go.Proofs.YtkblonfmjlopaaaGreatDoor.syntaxJoins
