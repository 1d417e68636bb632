/-
  labels: 1, 2 and so on; walked.
-/
import Derived.Test.YtkblonfmjlopaaaGreatDoorSyList
import Derived.Great.BuildSlice
set_option linter.all false
set_option maxRecDepth 1000000
set_option maxHeartbeats 16000000
namespace Go.Proofs.YtkblonfmjlopaaaGreatDoor
section
open Go Go.RowKit Go.Shelf Go.Sort
theorem Ba(w:World)(k:Nat)(a:Array Obj):Below w.heap.size w (grow (w.drewN k) a):=
 ⟨rfl,rfl,rfl,by show w.heap.size<=(w.heap++a).size;simp,fun j b=>by
  show(w.heap++a)[j]?=_
  rw[Eb,if_pos b]⟩
theorem Bb(n:Nat):(labels n).length=n:=by simp[labels]
def xX(w wr:World)(k:Nat)(a:Option Addr)(c:Nat):Prop:=
 Below w.heap.size w wr/\∃ h,d' wr a k c 1 h/\dh wr w.heap.size a (c*1)/\(∀ b off,a=some ⟨b,off,none⟩->w.heap.size<=b/\b<wr.heap.size)/\∀ i,i<k->h i=.string ⟨(xS (i+1)).toArray⟩
theorem xX.fin{w wr:World}{k:Nat}{a:Option Addr}{c B:Nat}(h:xX w wr k a c):ey wr (Own B w.heap.size wr.heap.size No) (strs (labels k)) (.slice a k c):=by
 obtain⟨_,h,A,N,o,v⟩:=h;have m:(strs (labels k)).length=k:=by simp[strs,Bb]
 refine⟨a,c,by rw[m],?_⟩;rw[m];unfold b8;refine⟨a,c,by rw[m],by rw[m];exact A.le,A.mx,?_⟩
 by_cases t:k=0
 ·subst t;exact .inl rfl
 ·obtain⟨b,d,e,p⟩:=A.addr (ba A.le);have f:=o b d e;refine .inr ⟨b,d,e,.inr ⟨f.1,f.2,fun q=>q⟩,?_⟩;refine rL (h:=fun j=>h (j-d)) (sz:=1) _ d (fun j s=>?_) (fun i r g=>?_)
  ·rw[p j (by rw[m] at s;have:=A.le;omega),sW]
  ·have l:i<k:=ba ((List.getElem?_eq_some_iff.1 g).1)
   have u:r=[vS (xS (i+1))]:=by
    unfold strs at g;rw[qo] at g
    have n:(labels k)[i]?=some (xS (i+1)):=by
     unfold labels;rw[qo,List.getElem?_range l];rfl
    rw[n] at g;exact(f_ g).symm
   subst u
   have:((List.range 1).map fun j=>h (d+(i*1+j)-d))=[.string ⟨(xS (i+1)).toArray⟩]:=by
    simp[<-v i l]
   rw[this];exact ej _ gO
theorem xX.push{w wr w2:World}{k:Nat}{a:Option Addr}{c:Nat}{x:List UInt8}{T:TypeId}{z:Value}(h:xX w wr k a c)(hb:Below wr.heap.size wr w2)(D:x=xS (k+1)):
 ∃ o,d' (w2.alloc (.cells (jk x) T)) a k c 1 o/\dh (w2.alloc (.cells (jk x) T)) w.heap.size a (c*1)/\w.heap.size<=(w2.alloc (.cells (jk x) T)).heap.size/\
   ∀ j l m g,(m=o/\j=a/\l=c\/m=jH z/\j=some ⟨(w2.alloc (.cells (jk x) T)).heap.size,0,none⟩/\(w2.alloc (.cells (jk x) T)).heap.size<g.heap.size/\∀ p:Addr,p.block<(w2.alloc (.cells (jk x) T)).heap.size->g.cell? p=(w2.alloc (.cells (jk x) T)).cell? p)->
     d' g j (k+1) l 1 (c6 o (k*1) 1 (cellAt (jk x)) m)->dh g w.heap.size j (l*1)->Below w.heap.size (w2.alloc (.cells (jk x) T)) g->xX w g (k+1) j l:=by
 obtain⟨t,h,A,N,u,C⟩:=h;have s:=ab w2 (.cells (jk x) T);have s1:=t.size;have G:=hb.size
 have f:∀ b d,a=some ⟨b,d,none⟩->(w2.alloc (.cells (jk x) T)).heap[b]?=wr.heap[b]?:=fun b d e=>by
  have:=(u b d e).2;exact(s.block b O).trans (hb.block b this)
 refine⟨h,A.blocks f,N.blocks f,b1,fun j l m g B v y r=>⟨((t.trans (hb.mono s1)).trans (s.mono O)).trans r,_,v,y,fun b d e=>?_,fun i F=>?_⟩⟩
 ·have H:=r.size;have J:w2.heap.size<(w2.alloc (.cells (jk x) T)).heap.size:=ar
  rcases B with⟨_,n,_⟩|⟨_,n,E,_⟩
  ·rw[n] at e;have:=u b d e;exact⟨this.1,O⟩
  ·rw[n] at e;simp only [Option.some.injEq,Addr.mk.injEq,and_true] at e;exact⟨O,O⟩
 ·unfold c6
  by_cases q:i<k
  ·rw[if_pos O];exact C i q
  ·obtain rfl:i=k:=O
   rw[if_neg O,if_pos O,D,lp,qt]
   rfl
theorem Bc{G:Gh}(J:ei G)(n:Nat)(aB:n<=65540)(w:World)(f:Below G.B G.w0 w):
 Calls Tryz.prog 101 #[.int .i64 (n:Nat)] w fun e w'=>∃ v,e=.returned v/\Below w.heap.size w w'/\ey w' (Own G.B w.heap.size w'.heap.size No) (strs (labels n)) v:=by
 have s:G.B<=w.heap.size:=f.size;have I:=U f;clear f;go_enter Tryz.func101,Tryz.ntmps101
 go_wp2_with fail
 go_loopg [3,6] n (fun gk R N wr=>∃ k a c,gk+k=n/\N=.int .i64 (k:Nat)/\R=.slice a k c/\Hid (xX w wr k a c))
 case atStart=>exact⟨0,none,0,O,rfl,rfl,U ⟨Below.refl _ _,fun _=>.bool false,⟨Nat.le_refl _,Nat.zero_le _,fun j D=>O⟩,dh.nil _ _ _,(fun b S e=>by cases e),fun i Z=>O⟩⟩
 case round=>
  obtain⟨k,a,c,L,rfl,rfl,p⟩:=hrel
  by_cases aA:k<n
  ·have r:(k:Int)<(n:Int):=O
   obtain⟨m,rfl⟩:∃ m,gk=m+1:=⟨gk-1,O⟩;have h:=U (J.OD wr (I.trans (p.1.mono s)))
   go_wp2_with (first
    |(go_at_call 135;refine(Tryz.strconv_Itoa _ O O _ h.out).mono ?_;rintro e w2 ⟨rfl,P,W,l⟩;have g:=Ba wr P W;rw[<-l] at g;clear l;obtain⟨M,la,H,E,F⟩:=p.push (z:=pJ) (T:=9) g (x:=Lib.itoa ((k:Int)+1)) rfl;have o:=U (b4 la (b4 H (b4 E F)));clear la H E F g)
    |(at_builtin;refine hH _ rfl _ _ 33 33 rfl 9 9 pJ 1 16 Tryz.underlying33 Tryz.underlying33 Tryz.sF rfl O w.heap.size o.2.2.1 a k c M (cellAt #[.string ⟨(Lib.itoa ((k:Int)+1)).toArray⟩]) w2.heap.size 0 1 rfl rfl o.1 o.2.1 ?hg ?hone O O ?_))
   case hg=>exact ij w2 #[.string ⟨(Lib.itoa ((k:Int)+1)).toArray⟩] 9
   case hone=>
    intro j D
    match j,D with
    |0,_=>rfl
   intro A C X Y d u y B Q;have q:=U (o.2.2.2 A C X Y (by rw[qp];exact d) (by rw[lp];exact u) (by rw[lp];exact y) B);clear d u y B Q
   go_wp2_with fail
   go_roundg m
   case measure=>omega
   case rel=>exact⟨k+1,A,C,O,rfl,rfl,q⟩
  ·have r:¬(k:Int)<(n:Int):=O
   obtain rfl:k=n:=O
   go_wp2_with fail
   go_ret;exact⟨_,rfl,p.1,p.fin⟩
end
open Go Go.RowKit
variable {a:Act}{cs:Array Value}{v:Bool}{text:ak}{R:Ending->World->Prop}{r:Func}{kind z:Int}{ls:List ak}{kids types:List Nd}{B k x lc I H n sz C:Nat}{E la D A:Option Addr}{b c f e m d g j l h o q u:Value}{w':World}
section
variable {X:Tx} {s:al} {α β:Type} {w:ak}
theorem py(h:ay X [w] s=true):a7 X w s=some (.ok (true,{s with i:=s.i+1})):=by unfold a7;rw[if_pos h]
theorem pz(h:¬ay X [w] s=true):a7 X w s=some (.ok (false,s)):=by unfold a7;rw[if_neg h]
theorem lJ(h:ay X [w] s=true)(f:Bool->PM β):(a7 X w>>=f) s=f true {s with i:=s.i+1}:=by
 show PM.bind _ _ _=_;unfold PM.bind;rw[py h]
theorem jx(h:¬ay X [w] s=true)(f:Bool->PM β):(a7 X w>>=f) s=f false s:=by
 show PM.bind _ _ _=_;unfold PM.bind;rw[pz h]
theorem Be(h:ay X [w] s=true):a8 X w s=some (.ok ((),{s with i:=s.i+1})):=by
 unfold a8;rw[lJ h];rfl
theorem vf(h:¬ay X [w] s=true):a8 X w s=some (.error (gQ X s)):=by
 unfold a8;rw[jx h];rfl
theorem ti(h:ay X [w] s=true)(f:Unit->PM β):(a8 X w>>=f) s=f () {s with i:=s.i+1}:=by
 show PM.bind _ _ _=_;unfold PM.bind;rw[Be h]
theorem vQ(h:¬ay X [w] s=true)(f:Unit->PM β):(a8 X w>>=f) s=some (.error (gQ X s)):=by
 show PM.bind _ _ _=_;unfold PM.bind;rw[vf h]
theorem vR{b:Bool}(h:dw X b s=true)(f:ak->PM β):(name X b>>=f) s=f (V X s).text {s with i:=s.i+1}:=by
 show PM.bind _ _ _=_;unfold PM.bind name;rw[if_pos h]
theorem get_bind(f:al->PM β):(PM.get>>=f) s=f s s:=rfl
theorem jy(f:Tok->PM β):(next X>>=f) s=f (V X s) s:=rfl
theorem vG{l:List ak}(f:Bool->PM β):(iE X l>>=f) s=f (ay X l s) s:=rfl
theorem sG{σ:Type}{a:σ->PM (Nd×σ)}{x:σ}(h:ay X [w] s=true):hF X n w a x s=some (.ok (([],x),{s with i:=s.i+1})):=by
 unfold hF;rw[lJ h];rfl
theorem vT{σ:Type}{a:σ->PM (Nd×σ)}{x:σ}(h:¬ay X [w] s=true):hF X n w a x s=(list X n [44] a x>>=fun l=>a8 X w>>=fun _=>pure l) s:=by
 unfold hF;rw[jx h];rfl
end
section
variable {w:World} {F:Nat->Prop}
theorem xY{name:ak}{n:Int}
 (d:b8 w F (.kN z) [.bool v,.slice D H I]) (b:b8 w F (.sl (strs ls)) [.slice la (strs ls).length lc]) (a:b8 w F (.sl kids) [.slice E kids.length x]) (c:b8 w F (.sl types) [.slice A types.length C]):
 cy w F (c_ kind name z n text ls kids types) (.agg #[.int .i64 kind,.string ⟨name.toArray⟩,.bool v,.slice D H I,.int .i64 n,.string ⟨text.toArray⟩,.slice la (strs ls).length lc,.slice E kids.length x,.slice A types.length C]):=
 ⟨_,_,_,_,_,_,_,_,_,_,_,_,_,_,_,_,_,rfl,ej _ (ej _ (Dg d (ej _ (ej _ (cr b (cr a (cr c gO)))))))⟩
theorem dq{name:ak}{n:Int}{bits:Nat}{rules dr:List Nd}{c a:Option Addr}{d b:Nat}
 (j:b8 w F (.kN z) [.bool v,.slice D H I]) (g:b8 w F (.sl (strs ls)) [.slice la (strs ls).length lc]) (f:b8 w F (.sl kids) [.slice E kids.length x]) (h:b8 w F (.sl rules) [.slice c rules.length d]) (e:b8 w F (.sl dr) [.slice a dr.length b]) (i:b8 w F (.sl types) [.slice A types.length C]):
 ah w F (b9 kind name z n bits text ls kids rules dr types) [.int .i64 kind,.string ⟨name.toArray⟩,.bool v,.slice D H I,.int .i64 n,.int .u64 (bits:Nat),.string ⟨text.toArray⟩,.slice la (strs ls).length lc,.slice E kids.length x,.slice c rules.length d,.slice a dr.length b,.slice A types.length C]:=
 ej _ (ej _ (Dg j (ej _ (ej _ (ej _ (cr g (cr f (cr h (cr e (cr i gO))))))))))
theorem gL{name:ak}{n:Int}
 (d:b8 w F (.kN z) [.bool v,.slice D H I]) (b:b8 w F (.sl (strs ls)) [.slice la (strs ls).length lc]) (a:b8 w F (.sl kids) [.slice E kids.length x]) (c:b8 w F (.sl types) [.slice A types.length C]):
 ah w F (c_ kind name z n text ls kids types) [.int .i64 kind,.string ⟨name.toArray⟩,.bool v,.slice D H I,.int .i64 n,.string ⟨text.toArray⟩,.slice la (strs ls).length lc,.slice E kids.length x,.slice A types.length C]:=
 ej _ (ej _ (Dg d (ej _ (ej _ (cr b (cr a (cr c gO)))))))
theorem IT{G:Gh}{M:Nat->Prop}{na:Option Addr}{nc:Nat}{fa:Option Addr}{fc:Nat}{s:al}(l:PS G M na nc fa fc w s){a:Option Addr}{c:Nat}(h:Mg G.w0 v a n c z)(k:∀ b,b<G.B->F b):b8 w F (.kN z) [.bool v,.slice a n c]:=by
 obtain⟨f,u,d,g,i,j⟩:=h;unfold b8;refine⟨v,a,n,c,f,rfl,u.below l.low (aw _),d,g,i,j,fun b o e m=>k b ?_⟩;exact u.lt e m
end
theorem vV(l:List UInt8)(w:World):
 Calls Tryz.prog 142 (jk l) w fun e w'=>∃ v,e=.returned v/\Below w.heap.size w w'/\∀ F,cy w' F (named l) v:=by
 rcases a:oL l with _|_
 ·have b:=U ((mR l).trans a);have c:Hid (named l=c_ 2 l 0 0 [] [] [] []):=U (by unfold named;rw[a];rfl);clear a;go_enter Tryz.func142,Tryz.ntmps142
  go_wp2_with (go_at_call 94;refine(Tryz.strings_Contains_one _ 46 _).mono ?_;rintro e w2 ⟨rfl,rfl⟩;rw[b.out])
  refine bodyPost_ret (v:=.agg #[.int .i64 2,.string ⟨l.toArray⟩,.bool false,.slice none 0 0,.int .i64 0,.string ⟨#[]⟩,.slice none 0 0,.slice none 0 0,.slice none 0 0]) (by simp[results,Tryz.results142,go_sem]) rfl ⟨_,rfl,ab _ _,fun F=>?_⟩;rw[c.out];exact xY (text:=[]) (ls:=[]) (kids:=[]) (types:=[]) cv aa aa aa
 ·have b:=U ((mR l).trans a);have c:Hid (named l=c_ 6 l 0 0 [] [] [] []):=U (by unfold named;rw[a];rfl);clear a;go_enter Tryz.func142,Tryz.ntmps142
  go_wp2_with (go_at_call 94;refine(Tryz.strings_Contains_one _ 46 _).mono ?_;rintro e w2 ⟨rfl,rfl⟩;rw[b.out])
  refine bodyPost_ret (v:=.agg #[.int .i64 6,.string ⟨l.toArray⟩,.bool false,.slice none 0 0,.int .i64 0,.string ⟨#[]⟩,.slice none 0 0,.slice none 0 0,.slice none 0 0]) (by simp[results,Tryz.results142,go_sem]) rfl ⟨_,rfl,ab _ _,fun F=>?_⟩;rw[c.out];exact xY (text:=[]) (ls:=[]) (kids:=[]) (types:=[]) cv aa aa aa
def cc(w:World)(kb:Nat)(cs:Array Value):Prop:=kb<w.heap.size/\(∀ o,w.frozen? ⟨kb,o,none⟩=false)/\∀ j,j<cs.size->w.cell? ⟨kb,0+j,none⟩=some (cellAt cs j)
theorem PG{P:Program}{w:World}(d:cc w k #[b,c])(g:∀ w:World,w.cell? ⟨k,0,none⟩=some b->w.cell? ⟨k,1,none⟩=some c->(results r a.tmps).run P w=.ok (.agg #[b,c]) w)(f:a.defers=[])(e:R (.returned (.agg #[b,c])) w):bodyPost P r R .ret a w:=bodyPost_ret (g w (d.2.2 0 (show 0<2 from O)) (d.2.2 1 (show 1<2 from O))) f e
theorem NT{P:Program}{w:World}(e:cc w k #[b,c,d])(h:∀ w:World,w.cell? ⟨k,0,none⟩=some b->w.cell? ⟨k,1,none⟩=some c->w.cell? ⟨k,2,none⟩=some d->(results r a.tmps).run P w=.ok (.agg #[b,c,d]) w)(g:a.defers=[])(f:R (.returned (.agg #[b,c,d])) w):bodyPost P r R .ret a w:=bodyPost_ret (h w (e.2.2 0 (show 0<3 from O)) (e.2.2 1 (show 1<3 from O)) (e.2.2 2 (show 2<3 from O))) g f
theorem PH{P:Program}{w:World}(e:cc w k #[b,c,d,g])(i:∀ w:World,w.cell? ⟨k,0,none⟩=some b->w.cell? ⟨k,1,none⟩=some c->w.cell? ⟨k,2,none⟩=some d->w.cell? ⟨k,3,none⟩=some g->(results r a.tmps).run P w=.ok (.agg #[b,c,d,g]) w)(h:a.defers=[])(f:R (.returned (.agg #[b,c,d,g])) w):bodyPost P r R .ret a w:=bodyPost_ret (i w (e.2.2 0 (show 0<4 from O)) (e.2.2 1 (show 1<4 from O)) (e.2.2 2 (show 2<4 from O)) (e.2.2 3 (show 3<4 from O))) h f
theorem PI{P:Program}{w:World}(e:cc w k #[b,c,d,g,j,l,h])(m:∀ w:World,w.cell? ⟨k,0,none⟩=some b->w.cell? ⟨k,1,none⟩=some c->w.cell? ⟨k,2,none⟩=some d->w.cell? ⟨k,3,none⟩=some g->w.cell? ⟨k,4,none⟩=some j->w.cell? ⟨k,5,none⟩=some l->w.cell? ⟨k,6,none⟩=some h->(results r a.tmps).run P w=.ok (.agg #[b,c,d,g,j,l,h]) w)(i:a.defers=[])(f:R (.returned (.agg #[b,c,d,g,j,l,h])) w):bodyPost P r R .ret a w:=bodyPost_ret (m w (e.2.2 0 (show 0<7 from O)) (e.2.2 1 (show 1<7 from O)) (e.2.2 2 (show 2<7 from O)) (e.2.2 3 (show 3<7 from O)) (e.2.2 4 (show 4<7 from O)) (e.2.2 5 (show 5<7 from O)) (e.2.2 6 (show 6<7 from O))) i f
theorem PJ{P:Program}{w:World}(e:cc w k #[b,c,d,g,j,l,h,o,q])(m:∀ w:World,w.cell? ⟨k,0,none⟩=some b->w.cell? ⟨k,1,none⟩=some c->w.cell? ⟨k,2,none⟩=some d->w.cell? ⟨k,3,none⟩=some g->w.cell? ⟨k,4,none⟩=some j->w.cell? ⟨k,5,none⟩=some l->w.cell? ⟨k,6,none⟩=some h->w.cell? ⟨k,7,none⟩=some o->w.cell? ⟨k,8,none⟩=some q->(results r a.tmps).run P w=.ok (.agg #[b,c,d,g,j,l,h,o,q]) w)(i:a.defers=[])(f:R (.returned (.agg #[b,c,d,g,j,l,h,o,q])) w):bodyPost P r R .ret a w:=bodyPost_ret (m w (e.2.2 0 (show 0<9 from O)) (e.2.2 1 (show 1<9 from O)) (e.2.2 2 (show 2<9 from O)) (e.2.2 3 (show 3<9 from O)) (e.2.2 4 (show 4<9 from O)) (e.2.2 5 (show 5<9 from O)) (e.2.2 6 (show 6<9 from O)) (e.2.2 7 (show 7<9 from O)) (e.2.2 8 (show 8<9 from O))) i f
theorem OE{P:Program}{w:World}(i:cc w k #[b,c,d,g,j,l,h,o,q,u,f,e])(p:∀ w:World,w.cell? ⟨k,0,none⟩=some b->w.cell? ⟨k,1,none⟩=some c->w.cell? ⟨k,2,none⟩=some d->w.cell? ⟨k,3,none⟩=some g->w.cell? ⟨k,4,none⟩=some j->w.cell? ⟨k,5,none⟩=some l->w.cell? ⟨k,6,none⟩=some h->w.cell? ⟨k,7,none⟩=some o->w.cell? ⟨k,8,none⟩=some q->w.cell? ⟨k,9,none⟩=some u->w.cell? ⟨k,10,none⟩=some f->w.cell? ⟨k,11,none⟩=some e->(results r a.tmps).run P w=.ok (.agg #[b,c,d,g,j,l,h,o,q,u,f,e]) w)(n:a.defers=[])(m:R (.returned (.agg #[b,c,d,g,j,l,h,o,q,u,f,e])) w):bodyPost P r R .ret a w:=bodyPost_ret (p w (i.2.2 0 (show 0<12 from O)) (i.2.2 1 (show 1<12 from O)) (i.2.2 2 (show 2<12 from O)) (i.2.2 3 (show 3<12 from O)) (i.2.2 4 (show 4<12 from O)) (i.2.2 5 (show 5<12 from O)) (i.2.2 6 (show 6<12 from O)) (i.2.2 7 (show 7<12 from O)) (i.2.2 8 (show 8<12 from O)) (i.2.2 9 (show 9<12 from O)) (i.2.2 10 (show 10<12 from O)) (i.2.2 11 (show 11<12 from O))) n m
theorem OF{P:Program}{w:World}(i:cc w k #[b,c,d,g,j,l,h,o,q,u,f,e,m])(s:∀ w:World,w.cell? ⟨k,0,none⟩=some b->w.cell? ⟨k,1,none⟩=some c->w.cell? ⟨k,2,none⟩=some d->w.cell? ⟨k,3,none⟩=some g->w.cell? ⟨k,4,none⟩=some j->w.cell? ⟨k,5,none⟩=some l->w.cell? ⟨k,6,none⟩=some h->w.cell? ⟨k,7,none⟩=some o->w.cell? ⟨k,8,none⟩=some q->w.cell? ⟨k,9,none⟩=some u->w.cell? ⟨k,10,none⟩=some f->w.cell? ⟨k,11,none⟩=some e->w.cell? ⟨k,12,none⟩=some m->(results r a.tmps).run P w=.ok (.agg #[b,c,d,g,j,l,h,o,q,u,f,e,m]) w)(p:a.defers=[])(n:R (.returned (.agg #[b,c,d,g,j,l,h,o,q,u,f,e,m])) w):bodyPost P r R .ret a w:=bodyPost_ret (s w (i.2.2 0 (show 0<13 from O)) (i.2.2 1 (show 1<13 from O)) (i.2.2 2 (show 2<13 from O)) (i.2.2 3 (show 3<13 from O)) (i.2.2 4 (show 4<13 from O)) (i.2.2 5 (show 5<13 from O)) (i.2.2 6 (show 6<13 from O)) (i.2.2 7 (show 7<13 from O)) (i.2.2 8 (show 8<13 from O)) (i.2.2 9 (show 9<13 from O)) (i.2.2 10 (show 10<13 from O)) (i.2.2 11 (show 11<13 from O)) (i.2.2 12 (show 12<13 from O))) p n
theorem OG{P:Program}{w:World}{n:Value}(i:cc w k #[b,c,d,g,j,l,h,o,q,u,f,e,m,n])(t:∀ w:World,w.cell? ⟨k,0,none⟩=some b->w.cell? ⟨k,1,none⟩=some c->w.cell? ⟨k,2,none⟩=some d->w.cell? ⟨k,3,none⟩=some g->w.cell? ⟨k,4,none⟩=some j->w.cell? ⟨k,5,none⟩=some l->w.cell? ⟨k,6,none⟩=some h->w.cell? ⟨k,7,none⟩=some o->w.cell? ⟨k,8,none⟩=some q->w.cell? ⟨k,9,none⟩=some u->w.cell? ⟨k,10,none⟩=some f->w.cell? ⟨k,11,none⟩=some e->w.cell? ⟨k,12,none⟩=some m->w.cell? ⟨k,13,none⟩=some n->(results r a.tmps).run P w=.ok (.agg #[b,c,d,g,j,l,h,o,q,u,f,e,m,n]) w)(s:a.defers=[])(p:R (.returned (.agg #[b,c,d,g,j,l,h,o,q,u,f,e,m,n])) w):bodyPost P r R .ret a w:=bodyPost_ret (t w (i.2.2 0 (show 0<14 from O)) (i.2.2 1 (show 1<14 from O)) (i.2.2 2 (show 2<14 from O)) (i.2.2 3 (show 3<14 from O)) (i.2.2 4 (show 4<14 from O)) (i.2.2 5 (show 5<14 from O)) (i.2.2 6 (show 6<14 from O)) (i.2.2 7 (show 7<14 from O)) (i.2.2 8 (show 8<14 from O)) (i.2.2 9 (show 9<14 from O)) (i.2.2 10 (show 10<14 from O)) (i.2.2 11 (show 11<14 from O)) (i.2.2 12 (show 12<14 from O)) (i.2.2 13 (show 13<14 from O))) s p
theorem OH{P:Program}{w:World}{n p s t v x y z:Value}(i:cc w k #[b,c,d,g,j,l,h,o,q,u,f,e,m,n,p,s,t,v,x,y,z])(C:∀ w:World,w.cell? ⟨k,0,none⟩=some b->w.cell? ⟨k,1,none⟩=some c->w.cell? ⟨k,2,none⟩=some d->w.cell? ⟨k,3,none⟩=some g->w.cell? ⟨k,4,none⟩=some j->w.cell? ⟨k,5,none⟩=some l->w.cell? ⟨k,6,none⟩=some h->w.cell? ⟨k,7,none⟩=some o->w.cell? ⟨k,8,none⟩=some q->w.cell? ⟨k,9,none⟩=some u->w.cell? ⟨k,10,none⟩=some f->w.cell? ⟨k,11,none⟩=some e->w.cell? ⟨k,12,none⟩=some m->w.cell? ⟨k,13,none⟩=some n->w.cell? ⟨k,14,none⟩=some p->w.cell? ⟨k,15,none⟩=some s->w.cell? ⟨k,16,none⟩=some t->w.cell? ⟨k,17,none⟩=some v->w.cell? ⟨k,18,none⟩=some x->w.cell? ⟨k,19,none⟩=some y->w.cell? ⟨k,20,none⟩=some z->(results r a.tmps).run P w=.ok (.agg #[b,c,d,g,j,l,h,o,q,u,f,e,m,n,p,s,t,v,x,y,z]) w)(B:a.defers=[])(A:R (.returned (.agg #[b,c,d,g,j,l,h,o,q,u,f,e,m,n,p,s,t,v,x,y,z])) w):bodyPost P r R .ret a w:=bodyPost_ret (C w (i.2.2 0 (show 0<21 from O)) (i.2.2 1 (show 1<21 from O)) (i.2.2 2 (show 2<21 from O)) (i.2.2 3 (show 3<21 from O)) (i.2.2 4 (show 4<21 from O)) (i.2.2 5 (show 5<21 from O)) (i.2.2 6 (show 6<21 from O)) (i.2.2 7 (show 7<21 from O)) (i.2.2 8 (show 8<21 from O)) (i.2.2 9 (show 9<21 from O)) (i.2.2 10 (show 10<21 from O)) (i.2.2 11 (show 11<21 from O)) (i.2.2 12 (show 12<21 from O)) (i.2.2 13 (show 13<21 from O)) (i.2.2 14 (show 14<21 from O)) (i.2.2 15 (show 15<21 from O)) (i.2.2 16 (show 16<21 from O)) (i.2.2 17 (show 17<21 from O)) (i.2.2 18 (show 18<21 from O)) (i.2.2 19 (show 19<21 from O)) (i.2.2 20 (show 20<21 from O))) B A
theorem cc.new(w:World)(cs:Array Value)(T:TypeId):cc (w.alloc (.cells cs T)) w.heap.size cs:=⟨ar,fun o=>o6 _ _ _ _,ij w cs T⟩
theorem cc.Ey(w:World)(a:Nat)(cs:Array Value)(T:TypeId)(h:a=w.heap.size):cc (w.alloc (.cells cs T)) a cs:=by subst h;exact cc.new w cs T
theorem cc.a6{w:World}{b:Nat}(h:cc w b cs)(c:w'.heap[b]?=w.heap[b]?)(e:w.heap.size<=w'.heap.size):cc w' b cs:=
 ⟨gi h.1 e,fun o=>(q9 (w:=w) (a:=⟨b,o,none⟩) c).trans (h.2.1 o),fun j d=>(i' (w:=w) (a:=⟨b,0+j,none⟩) c).trans (h.2.2 j d)⟩
theorem cc.store{w:World}{a:Nat}(h:cc w a cs)(b:List Value)(hl:b.length=cs.size):
 cc (w.setCells a 0 b) a b.toArray/\(∀ k,k≠a->(w.setCells a 0 b).heap[k]?=w.heap[k]?)/\(w.setCells a 0 b).heap.size=w.heap.size/\Below a w (w.setCells a 0 b):=by
 have g:Below a w (w.setCells a 0 b):=ew a (aw _) _ _ _
 have c:∀ (e:List Value) (o:Nat) (w:World),(w.setCells a o e).heap.size=w.heap.size:=by
  intro e
  induction e with
  |nil=>intro o w;rfl
  |cons v e i=>intro o w;exact(i (o+1) _).trans (by simp[World.setCell])
 refine⟨⟨by rw[c];exact h.1,fun o=>by rw[sX];exact h.2.1 o,fun j d=>?_⟩,fun k f=>iL a _ _ _ _ f,c _ _ _,g⟩;have d:j<b.length:=by simpa using d
 have:=Ac a b 0 w (fun k f=>by rw[h.2.2 k O];rfl) j d;rw[this];unfold cellAt;simp[d]
theorem Own.up{f c d a b:Nat}(h:Own B c d No b)(g:f<=c)(e:d<=a):Own B f a No b:=h.imp id fun q=>⟨O,O,q.2.2⟩
theorem Own.kb{d a:Nat}{w:World}(h:Below w.heap.size w w')(f:B<=w.heap.size)(e:a<=w.heap.size):Kb w w' (Own B d a No):=fun b c=>h.block b (by rcases c with q|⟨_,q,_⟩<;>omega)
theorem vW(w:World)(cs:List Value)(A:Array Value)(T:TypeId)(a:A=cs.toArray):∀ j,j<cs.length->(w.alloc (.cells A T)).cell? ⟨w.heap.size,j,none⟩=cs[j]?:=fun j b=>by
 rw[jl,a];simp
theorem Bf{w:World}{F:Nat->Prop}{r:Nd}{cs:List Value}{A:Array Value}{T:TypeId}(a:A=cs.toArray)(b:F w.heap.size)(h:ah (w.alloc (.cells A T)) F r cs):b8 (w.alloc (.cells A T)) F (.sl [r]) [.slice (some ⟨w.heap.size,0,none⟩) 1 1]:=
 ER b (vW w cs A T a) h (aw _) (by unfold maxLen;omega)
theorem IU{w:World}{F:Nat->Prop}{r q:Nd}{cs a:List Value}{A:Array Value}{T:TypeId}(b:A=(cs++a).toArray)(d:F w.heap.size)(h:ah (w.alloc (.cells A T)) F r cs)(k:ah (w.alloc (.cells A T)) F q a):b8 (w.alloc (.cells A T)) F (.sl [r,q]) [.slice (some ⟨w.heap.size,0,none⟩) 2 2]:=by
 refine KO d (fun j c=>?_) (fun j c=>?_) h k
 ·rw[vW w (cs++a) A T b j (by rw[iQ];omega),lg c]
 ·rw[vW w (cs++a) A T b (cs.length+j) (by rw[iQ];omega),kC O,sW]
theorem cc.kn{w:World}{a:Nat}{M:Nat->Prop}(h:cc w a cs)(b:Kn B M w w')(c:¬M a):cc w' a cs:=h.a6 (b.gM a h.1 c) b.size
theorem cc.bl{w:World}{a:Nat}(h:cc w a cs)(b:Below w.heap.size w w'):cc w' a cs:=h.a6 (b.block a h.1) b.size
structure pK(G:Gh)(M:Nat->Prop)(na:Option Addr)(nc:Nat)(fa:Option Addr)(fc:Nat)(Z:Array Value)(w:World)(t:Nat)(s:al)(i:World)(s1:al):Prop where
 kn:Kn G.B M w i
 ps:PS G M na nc fa fc i s1
 sc:s1.sc=s.sc
 mono:s.i<=s1.i
 res:cc i t Z
 lo:w.heap.size<=t
 hB:G.B<=w.heap.size
 mw:∀ k,M k->k<w.heap.size
section
variable {G:Gh} {M:Nat->Prop} {na:Option Addr} {nc:Nat} {fa:Option Addr} {fc:Nat} {Z:Array Value} {w w2 i y:World} {t:Nat} {s s1 J:al}
theorem pK.KP(a:PS G M na nc fa fc w s)(b:Below w.heap.size w w2)(T:TypeId):pK G M na nc fa fc Z w w2.heap.size s (w2.alloc (.cells Z T)) s:=
 ⟨Kn.of (b.trans ((ab w2 _).mono b.size)) a.bB,(a.new b).alloc _,rfl,aw _,cc.new w2 Z T,b.size,a.bB,fun k c=>(a.mB k c).2⟩
theorem pK.nm(h:pK G M na nc fa fc Z w t s i s1):¬M t:=fun q=>lQ (h.mw _ q) h.lo
theorem pK.go(h:pK G M na nc fa fc Z w t s i s1)(b:Kn G.B M i y)(c:PS G M na nc fa fc y J)(a:J.sc=s1.sc)(d:s1.i<=J.i):pK G M na nc fa fc Z w t s y J:=
 ⟨h.kn.go b,c,a.trans h.sc,fy h.mono d,h.res.kn b h.nm,h.lo,h.hB,h.mw⟩
theorem pK.below(h:pK G M na nc fa fc Z w t s i s1)(a:Below i.heap.size i y):pK G M na nc fa fc Z w t s y s1:=
 h.go (Kn.of a h.ps.bB) (h.ps.new a) rfl (aw _)
theorem pK.lt(h:pK G M na nc fa fc Z w t s i s1):t<i.heap.size:=h.res.1
theorem cc.lF{b:Nat}(h:cc w b cs)(j:Nat)(f:j<cs.size)(v:Value):cc (w.setCell ⟨b,j,none⟩ v) b (cs.setIfInBounds j v):=by
 refine⟨by simpa [World.setCell] using h.1,fun o=>by simpa using h.2.1 o,fun i d=>?_⟩;have a:i<cs.size:=by simpa using d
 unfold cellAt
 by_cases e:i=j
 ·subst e;have c:=h.2.2 i a;rw[gW] at c⊢;rw[kA _ _ _ c];simp[f]
 ·rw[eb _ _ _ _ (by intro q;simp at q;try omega),h.2.2 i a]
  unfold cellAt
  have:(cs.setIfInBounds j v)[i]! =cs[i]!:=by
   simp[a,Array.getElem_setIfInBounds,Ne.symm e]
  rw[this]
end
theorem IV{G:Gh}{M:Nat->Prop}{na:Option Addr}{nc:Nat}{fa:Option Addr}{fc:Nat}{Z:Array Value}{w i:World}{t:Nat}{s s1:al}{p:Nd}{F:Nat->Prop}{f:ByteArray}{g:Int}{a:Option Addr}{d c:Nat}(h:pK G M na nc fa fc Z w t s i s1)(x:Z.size=3)
 (z:ah i F p [.string f,.int .i64 g,.slice a d c]) (o:∀ b,F b->b<G.B\/(w.heap.size<=b/\b<i.heap.size/\b≠t)):
 cc (i.setCells t 0 [.string f,.int .i64 g,.slice a d c]) t #[.string f,.int .i64 g,.slice a d c]/\PN G M na nc fa fc oK w s (.ok (p,s1)) (.returned (.agg #[.string f,.int .i64 g,.slice a d c])) (i.setCells t 0 [.string f,.int .i64 g,.slice a d c]):=by
 obtain⟨r,m,u,n⟩:=h.res.store [.string f,.int .i64 g,.slice a d c] (by rw[x];rfl);have hB:=h.hB;have A:=h.kn.size;have l:=h.lo;have v:∀ k,M k->(i.setCells t 0 [.string f,.int .i64 g,.slice a d c]).heap[k]?=i.heap[k]?:=fun k y=>m k (fun e=>ba (h.mw _ y));refine⟨r,h.kn.low n O l,h.sc,h.mono,h.ps.a6 (n.mono O) v,_,rfl,f,g,a,d,c,rfl,z.on (fun b j=>m b ?_) (fun b j=>(o b j).imp id fun q=>⟨O,by rw[u];exact q.2.1,fun q=>q⟩)⟩
 rcases o b j with q|q<;>omega
theorem ES(b:Nat):∀ (cs:List Value)(k:Nat)(A:Array Value)(pre a:List Value),A.toList=pre++a->pre.length=b+k->cs.length<=a.length->((cs.zipIdx k).foldl (fun A (x:Value×Nat)=>A.setIfInBounds (b+x.2) x.1) A).toList=pre++cs++a.drop cs.length
 |[],k,A,pre,a,d,f,e=>by simpa using d
 |c::cs,k,A,pre,[],d,f,e=>by simp at e
 |c::cs,k,A,pre,s::a,d,f,e=>by
  have:=ES b cs (k+1) (A.setIfInBounds (b+k) c) (pre++[c]) a (by rw[Array.toList_setIfInBounds,d,<-f,List.set_append_right _ _ (aw _)];simp) b1 (by simpa using e)
  simpa[List.zipIdx_cons] using this
theorem Bg{sz:Nat}:∀ (b:List (List Value))(k:Nat)(A:Array Value)(pre a:List Value),A.toList=pre++a->pre.length=k*sz->(∀ v,v∈b->v.length=sz)->a.length=b.length*sz->Instr.fill (fun i=>some (i*sz,sz)) A ((b.zipIdx k).map fun x=>(x.2,.agg x.1.toArray))=some (pre++b.flatten).toArray
 |[],k,A,pre,a,c,f,d,e=>by
  have:a=[]:=List.eq_nil_of_length_eq_zero (by simpa using e);subst this
  show some A=_;rw[show A=A.toList.toArray from rfl,c];rfl
 |v::b,k,A,pre,a,c,f,d,e=>by
  have j:=d v (.head _);rw[ni,jd] at e
  have h:=ES (k*sz) v 0 A pre a c f O
  have:=Bg (sz:=sz) b (k+1) _ _ _ h (by rw[iQ,jd];omega) (fun x l=>d x (.tail _ l)) (by rw[Ag];omega)
  have m:A.size=pre.length+a.length:=by rw[<-Array.length_toList,c,iQ]
  rw[List.zipIdx_cons,List.map_cons];unfold Instr.fill;simp only []
  have g:(Value.agg v.toArray).cells=v.toArray:=rfl
  rw[g,if_neg (by simp[j];omega),show v.toArray.zipIdx=(v.zipIdx).toArray from ar,List.foldl_toArray];rw[q'] at this;exact this
theorem qT{P:Program}{o:Oper}{w:World}{K:Act->World->Prop}{Q:Exit->Act->World->Prop}{t e:TypeId}{z:Value}{bytes:Nat}{g:Array (Nat×Operand)}(b:List (List Value))(m:P.underlying t=some (.slice e))(c:(P.info? e).map (fun i=>(i.zero,i.size,i.bytes))=some (some z,sz,bytes))(j:∀ v,v∈b->v.length=sz)
 (h:K (a.put o.dst (.slice (some ⟨w.heap.size,0,none⟩) n n)) (w.alloc (.cells b.flatten.toArray e)))(k:b.length=n:=by rfl)(s:0<n*sz:=by omega)(u:n*sz<1000:=by omega)(l:o.op=.buildSlice t n g:=by rfl)(p:g.toList.map (fun x=>(x.1,a.eval x.2))=b.zipIdx.map fun x=>(x.2,.agg x.1.toArray):=by rfl):Oper.wp P o a w K Q:=by
 rcases d:P.info? e with _|r
 ·rw[d] at c;cases c
 rw[d] at c;simp only [Option.map_some,Option.some.injEq,Prod.mk.injEq] at c;obtain⟨q,f,_⟩:=c
 refine wp_buildSlice t e n g l _ r z m d q (by rw[f];omega) (by rw[f];omega) ?_ h
 rw[f,Array.toList_map,p];subst k
 have:=Bg (sz:=sz) b 0 ((Array.range (b.length*sz)).map (z.cells[·%z.cells.size]!)) [] _ rfl ar j ar
 exact this
theorem pL{P:Program}{p:Array Oper}{b:List Oper}{o:Oper}{w:World}{Q:Exit->Act->World->Prop}{t e:TypeId}{x:Operand}{z:Value}{bytes:Nat}{cs:List Value}
 (g:P.underlying t=some (.slice e)) (c:(P.info? e).map (fun i=>(i.zero,i.size,i.bytes))=some (some z,sz,bytes)) (d:cs.length=sz)
 (h:wpList P p Q b (a.put o.dst (.slice (some ⟨w.heap.size,0,none⟩) 1 1)) (w.alloc (.cells cs.toArray e))) (l:0<sz) (m:sz<1000)
 (f:o.op=.buildSlice t 1 #[(0,x)]:=by rfl) (k:a.eval x=.agg cs.toArray:=by rfl) (hg:o.guard=none:=by rfl):wpList P p Q (o::b) a w:=
 wpList_plain hg fun K hK=>qT (n:=1) [cs] g c (fun v j=>by rcases List.mem_singleton.1 j with rfl;exact d) (by rw[List.flatten_cons,List.flatten_nil,uJ];exact hK _ _ h) rfl O O f (by show[(0,a.eval x)]=_;rw[k];rfl)
section
set_option maxRecDepth 100000
set_option maxHeartbeats 4000000
def wZ(I:World->(Nat->Prop)->Nd->Value->Prop)(sz:Nat):Prop:=∀ w F nd v,I w F nd v->∃ cs:List Value,v=.agg cs.toArray/\cs.length=sz/\(∀ j,j<sz->(cellAt cs.toArray j).oneCell'=true)/\ah w F nd cs
theorem lN{p:Prop}(h:p:=by
 intro w F b v h;cases h with|intro _ h
 (repeat (with_reducible cases h with|intro _ h));exact⟨_,jW,rfl,fun j a=>List.all_eq_true.1 (show((List.range _).all fun j=>(cellAt _ j).oneCell')=true from rfl) j (List.mem_range.2 a),h⟩):p:=h
section
variable {G:Gh} {na:Option Addr} {nc:Nat} {fa:Option Addr} {fc:Nat} {σ Γ:Type} {pr:Γ->σ} {Mx:Γ->Nat->Prop} {St:World->Γ->Prop}
theorem mU.first{w d:World}{s s1:al}{g e:Γ}{nd:Nd}{cs:List Value}(n:oX G Mx St)(l:Kn G.B (Mx g) w d)(m:s1.sc=s.sc)(hi:s.i<=s1.i)(a:PS G (Mx e) na nc fa fc d s1)(k:St d e)(r:∀ j,Mx g j->Mx e j)(t:∀ j,Mx e j->Mx g j\/w.heap.size<=j)(u:ah d (Own G.B w.heap.size d.heap.size (Mx e)) nd cs)(hl:cs.length=sz)(x:G.B<=w.heap.size)(T:Nat):mU G na nc fa fc pr Mx St sz w s g (d.alloc (.cells cs.toArray T)) s1 e [nd] d.heap.size 1:=by
 subst hl;have o:=fun j f=>(a.mB j f).2;have i:=ab d (.cells cs.toArray T);refine⟨m,hi,ar,a.alloc _,n _ _ _ k (fun j f _=>i.block j (o j f)),r,t,fun h=>ba (o _ h),?_,l.low i (ba a.bB) l.size⟩;refine jP.one (cs:=cs) l.size ar (fun h=>h.elim (fun h=>ba a.bB) (fun h=>h.2.2.2 rfl)) (fun j f=>?_) (fun j _=>o6 _ _ _ _) (ah.on u (Kb.of i fun b c=>?_) (fun b c=>?_))
 ·rw[jl];simp
 ·rcases c with c|⟨_,c,_⟩
  ·have:=a.bB;omega
  ·exact c
 ·rcases c with c|⟨p,v,q⟩
  ·exact .inl c
  ·exact .inr ⟨p,b1,q,O⟩
theorem Bh{u T b:Nat}{z:Value}{I:World->(Nat->Prop)->Nd->Value->Prop}(a:Tryz.prog.underlying u=some (.slice T))(c:(Tryz.prog.info? T).map (fun i=>(i.zero,i.size,i.bytes))=some (some z,sz,b))(e:wZ I sz)(d:z.cells.size=sz:=by rfl)(f:0<sz:=by decide)(g:sz<1000:=by decide):∃ T z sz,Hid (Tryz.prog.underlying u=some (.slice T))/\Hid ((Tryz.prog.info? T).map (fun i=>(i.zero,i.size,i.bytes))=some (some z,sz,b))/\Hid (wZ I sz)/\Hid (z.cells.size=sz)/\Hid (0<sz)/\Hid (sz<1000):=⟨T,z,sz,a,c,e,d,f,g⟩
theorem ks{p:Prop}(h:p:=by
 have aQ:=HX.out;unfold list at aQ;have bF:=HP.bB;have aM:=HP.out;have aN:=l_.out;have aO:=lO.out
 rcases a_ aQ with⟨c,q,B,rfl⟩|⟨⟨bK,x⟩,s1,B,W⟩
 ·have aI:=U (aO w s g _ aM aN B);clear aQ B aM aN aO
  go_wp2_with (go_at_fn k;refine aI.mono ?_;rintro e aY ⟨aP,rfl⟩;unfold az)
  go_simp;exact⟨rfl,aP,rfl⟩
 ·have aI:=U (aO w s g _ aM aN B);have b6:=U W;clear aQ B W aM aN aO
  go_wp2_with (first
   |(go_at_fn k;refine aI.mono ?_;rintro e aY ⟨aP,I,aE,S,v,rfl,H,Y,aB,aG,J,X⟩;obtain⟨cs,rfl,b,f,aH⟩:=IK.out _ _ _ _ X;have bA:=U H;have u:=U b;have N:=U (mU.first (pr:=pr) kO aP I aE Y aB aG J aH b bF T);clear aP I aE H Y aB aG J aH b f X)
   |(refine pL u1 i1 u ?_ h0 h9))
  generalize aY.alloc (.cells cs.toArray T)=bX at N⊢;have Q:Hid (gy G.X mL one n [bK] (pr S) s1=some r):=U (by rw[bA.out];exact b6.out);clear b6 aI bA u
  go_loopg [7] n (fun gk bS wr=>∃ s1 S l A c,bS=.slice (some ⟨A,0,none⟩) l.length c/\Hid (gy G.X mL one gk l (pr S) s1=some r)/\Hid (mU G na nc fa fc pr Mx St sz w s g wr s1 S l A c))
  case atStart=>exact⟨s1,S,[bK],aY.heap.size,1,rfl,Q,N⟩
  case round=>
   clear Q N;obtain⟨bL,aL,l,A,c,rfl,u,R⟩:=hrel;cases gk with
   |zero=>exact absurd u.out (by rw[tE];simp)
   |succ m=>
   have o:PS G (Mx aL) na nc fa fc wr bL:=R.2.2.2.1;have C:St wr aL:=R.2.2.2.2.1
   by_cases P:ay G.X [mL] bL=true
   ·have b:=u.out;rw[mT P] at b;have aK:=U P
    rcases a_ b with⟨bY,bZ,B,rfl⟩|⟨⟨aX,cA⟩,bU,B,W⟩
    ·have aR:=U B;have a:=U (b4 o C);clear b B P u o C
     go_wp2_with (first
      |(go_at_call 21;refine(kh hG a.1 mL aK).mono ?_;rintro e i ⟨rfl,F,d⟩;have L:=U (lO.out i _ aL _ F (kO.out _ _ _ a.2 (fun j aF J=>d.gM j (a.1.mB j aF).2 J)) aR);have M:=U d;clear F d)
      |(go_at_fn k;refine L.mono ?_;rintro e y ⟨E,rfl⟩;have aU:=U E;clear E;unfold az))
     go_simp;exact⟨rfl,R.kn M aU,rfl⟩
    ·have aR:=U B;have bN:=U W;have a:=U (b4 o C);clear b B W P u o C
     go_wp2_with (first
      |(go_at_call 21;refine(kh hG a.1 mL aK).mono ?_;rintro e i ⟨rfl,F,d⟩;have L:=U (lO.out i _ aL _ F (kO.out _ _ _ a.2 (fun j aF J=>d.gM j (a.1.mB j aF).2 J)) aR);have M:=U d;clear F d)
      |(go_at_fn k;refine L.mono ?_;rintro e y ⟨E,I,aE,bQ,v,rfl,H,Z,aC,aG,J,X⟩;obtain⟨cs,rfl,b,f,aH⟩:=IK.out _ _ _ _ X;obtain⟨bR,la,bJ,bH,lc,bI⟩:=R.round (cs:=cs.toArray) (T:=T) (z:=z) hG kO bF M E I aE Z aC aG J aH (by simpa using b) h0;have aJ:=U (b4 la (b4 bJ (b4 bH bI)));have aV:=U H;have u:=U b;have bO:=U f;clear E I aE H Z aC aG J la bJ bH bI aH b f X)
      |(refine pL u1 i1 u ?_ h0 h9)
      |(at_builtin;refine hH _ rfl _ _ _ _ rfl T T z sz _ u1.out u1 i1 hz h0 w.heap.size aJ.2.2.1 (some ⟨A,0,none⟩) l.length c bR (cellAt cs.toArray) y.heap.size 0 1 rfl rfl aJ.1 aJ.2.1 ?hg bO O O ?_))
     case hg=>exact fun j aF=>ij y cs.toArray T j (by rw[List.size_toArray,u.out];exact aF)
     intro bP bE bT bV D aZ bC bD bG;obtain⟨bM,rfl,aA⟩:=aJ.2.2.2 bP bE bT bV (by rw[qp];exact D) aZ bC bD bG;have aW:=U aA;clear aA D aZ bC bD bG
     go_wp2_with fail
     go_roundg m
     case measure=>omega
     case rel=>exact⟨bU,bQ,l++[aX],bM,bE,by rw[List.length_append];rfl,U (by rw[aV.out];exact bN.out),aW⟩
   ·have b:=u.out;rw[oe P] at b;obtain rfl:=f_ b;have aK:=U P;have a:=U o;clear b P u o C
    go_wp2_with (go_at_call 21;refine(og hG a mL aK).mono ?_;rintro e i ⟨rfl,aD⟩;have aT:=U aD;clear aD)
    go_ret;exact mU.fin kO R aT):p:=h
def pN(f:Nat)(I:jL):Prop:=∀ {G:Gh}{na:Option Addr}{nc:Nat}{fa:Option Addr}{fc:Nat}{σ Γ:Type}{pr:Γ->σ}{Mx:Γ->Nat->Prop}{St:World->Γ->Prop}(hG:ei G)(yW:oX G Mx St)(k:Nat)(fb cp:Array Value)(eg:∀ args w,(callFunc k args).run Tryz.prog w=.ok (.enter k args) w)(mL:List UInt8)(one:σ->PM (Nd×σ))(hc:pM G na nc fa fc I k fb cp one pr Mx St)(n:Nat)(w:World)(s:al)(g:Γ)(r:Except (Nat×Nat) ((List Nd×σ)×al))(hP:PS G (Mx g) na nc fa fc w s)(hS:St w g)(hx:list G.X n mL one (pr g) s=some r),Calls Tryz.prog f #[.pointer (some ⟨G.bp,0,none⟩),.string ⟨mL.toArray⟩,.func (.func k) fb cp] w fun e w'=>lX G na nc fa fc pr Mx St w s g r e w'
end
theorem qa:pN 241 bc:=by
 intro G na nc fa fc σ Γ pr Mx St hG kO k c a b mL one lO n w s g r HP l_ HX;have HP:=U HP;have l_:=U l_;have HX:=U HX;have lO:=U lO;have kO:=U kO;obtain⟨T,z,sz,u1,i1,IK,hz,h0,h9⟩:=Bh Tryz.underlying35 Tryz.ny (lN:wZ bc _);go_enter Tryz.func241,Tryz.ntmps241
 exact ks
theorem Gc:pN 171 cy:=by
 intro G na nc fa fc σ Γ pr Mx St hG kO k c a b mL one lO n w s g r HP l_ HX;have HP:=U HP;have l_:=U l_;have HX:=U HX;have lO:=U lO;have kO:=U kO;obtain⟨T,z,sz,u1,i1,IK,hz,h0,h9⟩:=Bh Tryz.underlying34 Tryz.oJ (lN:wZ cy _);go_enter Tryz.func171,Tryz.ntmps171
 exact ks
theorem vZ:pN 146 cz:=by
 intro G na nc fa fc σ Γ pr Mx St hG kO k c a b mL one lO n w s g r HP l_ HX;have HP:=U HP;have l_:=U l_;have HX:=U HX;have lO:=U lO;have kO:=U kO;obtain⟨T,z,sz,u1,i1,IK,hz,h0,h9⟩:=Bh Tryz.underlying38 Tryz.zn (lN:wZ cz _);go_enter Tryz.func146,Tryz.ntmps146
 exact ks
theorem Gd:pN 109 qU:=by
 intro G na nc fa fc σ Γ pr Mx St hG kO k c a b mL one lO n w s g r HP l_ HX;have HP:=U HP;have l_:=U l_;have HX:=U HX;have lO:=U lO;have kO:=U kO;obtain⟨T,z,sz,u1,i1,IK,hz,h0,h9⟩:=Bh Tryz.underlying90 Tryz.IZ (lN:wZ qU _);go_enter Tryz.func109,Tryz.ntmps109
 exact ks
theorem C4:pN 70 kH:=by
 intro G na nc fa fc σ Γ pr Mx St hG kO k c a b mL one lO n w s g r HP l_ HX;have HP:=U HP;have l_:=U l_;have HX:=U HX;have lO:=U lO;have kO:=U kO;obtain⟨T,z,sz,u1,i1,IK,hz,h0,h9⟩:=Bh Tryz.underlying37 Tryz.EI (lN:wZ kH _);go_enter Tryz.func70,Tryz.ntmps70
 exact ks
theorem F5:pN 68 oK:=by
 intro G na nc fa fc σ Γ pr Mx St hG kO k c a b mL one lO n w s g r HP l_ HX;have HP:=U HP;have l_:=U l_;have HX:=U HX;have lO:=U lO;have kO:=U kO;obtain⟨T,z,sz,u1,i1,IK,hz,h0,h9⟩:=Bh Tryz.underlying36 Tryz.KQ (lN:wZ oK _);go_enter Tryz.func68,Tryz.ntmps68
 exact ks
theorem rM:pN 105 sH:=by
 intro G na nc fa fc σ Γ pr Mx St hG kO k c a b mL one lO n w s g r HP l_ HX;have HP:=U HP;have l_:=U l_;have HX:=U HX;have lO:=U lO;have kO:=U kO;obtain⟨T,z,sz,u1,i1,IK,hz,h0,h9⟩:=Bh Tryz.underlying43 Tryz.IY (lN:wZ sH _);go_enter Tryz.func105,Tryz.ntmps105
 exact ks
theorem Da:pN 139 oM:=by
 intro G na nc fa fc σ Γ pr Mx St hG kO k c a b mL one lO n w s g r HP l_ HX;have HP:=U HP;have l_:=U l_;have HX:=U HX;have lO:=U lO;have kO:=U kO;obtain⟨T,z,sz,u1,i1,IK,hz,h0,h9⟩:=Bh Tryz.underlying85 Tryz.IW (lN:wZ oM _);go_enter Tryz.func139,Tryz.ntmps139
 exact ks
end
section
open Go
section
variable {P:Program} {p:Array Oper} {Q:Exit->Act->World->Prop} {N:Region.Mode} {S:World->Prop} {T:Nat->Bool}
theorem gC{i j:Nat}{d e:Oper}{m:Nat}{L:Array Bool}{w:World}(l:Region.ready N p L=[i,j])(q:p[i]?=some d)(r:p[j]?=some e)
 (n:∀ K:Act->World->Prop,Shut (∀ b v,(T i=false->S v)->gb P N p Q S T m (L.setIfInBounds i true) b v->K b v)->if Region.wanted d (yielded p a.tmps)=true then Oper.wp P d a w K Q else K (a.put d.dst undef) w)
 (o:∀ K:Act->World->Prop,Shut (∀ b v,(T j=false->S v)->gb P N p Q S T m (L.setIfInBounds j true) b v->K b v)->if Region.wanted e (yielded p a.tmps)=true then Oper.wp P e a w K Q else K (a.put e.dst undef) w):
 gb P N p Q S T (m+1) L a w:=
 ⟨fun h=>(by rw[l] at h;cases h),fun k c=>by
  rw[l] at c;have c:k=i\/k=j:=by simpa using c
  rcases c with rfl|rfl
  ·exact wpOp_step q (fun K hK=>n K (fun b v g f=>hK b v ⟨g,f⟩))
  ·exact wpOp_step r (fun K hK=>o K (fun b v g f=>hK b v ⟨g,f⟩))⟩
end
end
end Go.Proofs.YtkblonfmjlopaaaGreatDoor
