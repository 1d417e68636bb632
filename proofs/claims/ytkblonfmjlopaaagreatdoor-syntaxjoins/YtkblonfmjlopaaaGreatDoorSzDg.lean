/-
  Structs whose cells stay unseen, within a walk under way. Plain.
-/
import Derived.Test.YtkblonfmjlopaaaGreatDoorSzFn
set_option linter.all false
set_option maxRecDepth 1000000
set_option maxHeartbeats 16000000
namespace Go.Proofs.YtkblonfmjlopaaaGreatDoor
open Go Go.RowKit
variable {Z:Array Value}{q m:Nat}{p:Prop}{I:jL}{X:Tx}
section
variable {G:Gh} {M:Nat->Prop} {na:Option Addr} {nc:Nat} {fa:Option Addr} {fc:Nat} {w u w2:World} {s s1 A:al} {b i:List (Nat×Array Value)} {ts:List (Nd×List Value)} {l:List (Nat×List Nd×Option Addr×Nat)} {cs:List Value}
theorem FN.bo{k sz:Nat}{args:Array Value}{x:PM Nd}{β:Type}{g:Nd->PM β}{r:Except (Nat×Nat) (β×al)}(n:FN G k args I x)(i:hM I)(j:sA I sz)(h:Bd G M na nc fa fc w s l b ts u s1)(t:(x>>=g) s1=some r):
 Calls Tryz.prog k args u fun e w2=>(∃ c q,r=.error (c,q)/\e=az c q/\Kn G.B M w w2)\/∃ nd A cs,e=.returned (.agg cs.toArray)/\Hid (n9 I sz nd cs)/\Hid (g nd A=some r)/\Hid (Bd G M na nc fa fc w s l b ((nd,cs)::ts) w2 A):=
 (FN.bd n i h t).mono fun e w2 q=>q.imp id fun⟨nd,A,v,m,a,d,f⟩=>by obtain⟨cs,rfl,o,p⟩:=j _ _ _ _ f;exact⟨nd,A,cs,m,U o,a,U (d.add p)⟩
theorem A8(g:ei G)(h:Bd G M na nc fa fc w s l b ts u s1)(a:List UInt8){d:Int}{f c:Bool}(k:mN s1.sc a=(d,f,c)):Calls Tryz.prog 134 #[.pointer (some ⟨G.bp,3,none⟩),.string ⟨a.toArray⟩] u fun e w2=>e=.returned (.tuple #[.agg (kz d f),.bool c])/\Hid (Bd G M na nc fa fc w s l b ts w2 s1):=by
 have:=wm g h.ps a;rw[k] at this;exact this.mono fun e w2 ⟨j,i⟩=>⟨j,U (h.below i)⟩
theorem Bd.tok(h:Bd G M na nc fa fc w s l b ts u s1)(t:Tok)(f:Bool)(c:Option Addr)(e d T:Nat):∃ a,cellAt a 0=.int .i64 (t.kind:Nat)/\cellAt a 1=.string ⟨t.text.toArray⟩/\cellAt a 6=.int .i64 (t.pos:Nat)/\6<a.size/\Hid (Bd G M na nc fa fc w s l ((u.heap.size,a)::b) ts (u.alloc (.cells #[.int .i64 (t.kind:Nat),.string ⟨t.text.toArray⟩,.bool f,.slice c e d,.int .u64 (t.bits:Nat),.int .i64 (t.n:Nat),.int .i64 (t.pos:Nat)] T)) s1):=⟨_,rfl,rfl,rfl,ar,U (h.box _ _)⟩
theorem Bd.jB(h:Bd G M na nc fa fc w s l b ts u s1)(n:Nat)(c:b[n]?=some (q,cs.toArray):=by rfl)(a:0<cs.length):u.rangeAt q 0 cs:=(h.bx _ (lj c) (fun e=>by have e:cs.toArray=#[]:=e;simp at e;subst e;simp at a)).range
theorem Bd.ne(h:Bd G M na nc fa fc w s l b ts u s1)(n:Nat){z:Array Value}(c:b[n]?=some (q,z):=by rfl):¬q=G.bp:=fun e=>by have a:=h.lo _ (lj c);have d:=h.bl;simp only at a;omega
variable {P:Program} {g:Array Oper} {rest:List Oper} {op:Oper} {a:Act} {Q:Exit->Act->World->Prop} {ty T:TypeId} {x y:Operand}
theorem rD{sz:Nat}{nd:Nd}(n:Nat)(h:Bd G M na nc fa fc w s l b ts u s1)(d:n9 I sz nd cs)(m:Z.size=sz)(A:0<sz)(t:(P.info? ty).map (fun x=>x.size)=some sz)(k:∀ W,Hid (Bd G M na nc fa fc w s l i ts W s1)->wpList P g Q rest (a.put op.dst undef) W)(j:b[n]?=some (q,Z):=by rfl)(o:b.set n (q,cs.toArray)=i:=by rfl)(r:op.guard=none:=by rfl)(v:op.op=.store ty x y:=by rfl)(p:a.eval x=.pointer (some ⟨q,0,none⟩):=by rfl)(z:a.eval y=.agg cs.toArray:=by rfl):wpList P g Q (op::rest) a u:=by
 have f:Z≠#[]:=fun e=>by subst e;simp at m;omega
 have c:cs.length=Z.size:=by rw[m,d.len]
 refine wpList_store_mid r ty x y v q 0 cs.toArray p z (by have:=(h.bx _ (lj j) f).there;simp only at this;rw[lZ,c];exact this) (by rw[lZ,d.len];exact t) (by rw[<-Aj];exact d.one) (k _ (U ?_))
 rw[<-o];exact h.store n cs j c f
theorem LJ{sz:Nat}{nd:Nd}(h:Bd G M na nc fa fc w s l b ts u s1)(d:n9 I sz nd cs)(n:Z.size=sz)(c:0<sz)(i:(P.info? ty).map (fun x=>x.size)=some sz)(k:∀ W,Hid (Bd G M na nc fa fc w s l ((u.heap.size,cs.toArray)::b) ts W s1)->wpList P g Q rest (a.put op.dst undef) W)(f:op.guard=none:=by rfl)(j:op.op=.store ty x y:=by rfl)(e:a.eval x=.pointer (some ⟨u.heap.size,0,none⟩):=by rfl)(m:a.eval y=.agg cs.toArray:=by rfl):wpList P g Q (op::rest) a (u.alloc (.cells Z T)):=
 rD 0 (h.box Z T) d n c i k rfl rfl f j e m
theorem zO{T:TypeId}{z:Value}(a:(P.info? T).map (fun i=>i.zero)=some (some z)):(Instr.alloc T true (.tuple #[])).run P w=.ok (.pointer (some ⟨w.heap.size,0,none⟩)) (w.alloc (.cells z.cells T)):=by
 rcases b:P.info? T with _|i
 ·rw[b] at a;cases a
 ·rw[b] at a;have c:i.zero=some z:=f_ a;simp[Instr.alloc,zeroValue,typeInfo,b,c,newVar,newRow,run_newObj_alloc,go_sem]
theorem IJ{sz:Nat}{nd:Nd}{z:Value}{c:Oper}(h:Bd G M na nc fa fc w s l b ts u s1)(o:n9 I sz nd cs)(j:0<sz)(f:(P.info? T).map (fun i=>(i.zero,i.size))=some (some z,sz))(A:z.cells.size=sz)(k:∀ W,Hid (Bd G M na nc fa fc w s l ((u.heap.size,cs.toArray)::b) ts W s1)->wpList P g Q rest ((a.put c.dst (.pointer (some ⟨u.heap.size,0,none⟩))).put op.dst undef) W)(d:c.guard=none:=by rfl)(e:c.op=.alloc T:=by rfl)(q:op.guard=none:=by rfl)(r:op.op=.store T x y:=by rfl)(p:∀ v,(a.put c.dst v).eval x=v:=by intro v;rfl)(t:∀ v,(a.put c.dst v).eval y=.agg cs.toArray:=by intro v;rfl):wpList P g Q (c::op::rest) a u:=by
 have m:(P.info? T).map (fun i=>i.zero)=some (some z):=by have:=congrArg (Option.map Prod.fst) f;simpa using this
 have n:(P.info? T).map (fun i=>i.size)=some sz:=by have:=congrArg (Option.map Prod.snd) f;simpa using this
 refine wpList_plain d fun K hK=>?_
 unfold Oper.wp execOp;rw[e];simp only[Sem.run_bind,zO m,Sem.run_pure,Result.andThen_ok]
 exact hK _ _ (LJ h o A j n k q r (p _) (t _))
theorem Bd.e(h:Bd G M na nc fa fc w s l b ts u s1)(n j:Nat){z:Array Value}{v:Value}(d:b[n]?=some (q,z):=by rfl)(c:z.toList[j]?=some v:=by rfl):u.cell? ⟨q,j,none⟩=some v:=by
 have a:=(List.getElem?_eq_some_iff.1 c).1;exact h.c n j d (by simpa using a) (by unfold cellAt;rw[getElem!_pos z j (by simpa using a)];have:=(List.getElem?_eq_some_iff.1 c).2;simpa using this)
theorem rF(h:p:=by exact⟨rfl,rfl,fun w F h=>by repeat (first|exact⟨rfl,h⟩|apply re)⟩):p:=h
theorem Bd.LY(h:Bd G M na nc fa fc w s l b ts u s1)(A B C:Array Value)(T:TypeId):∃ a c d W,u.heap.size+1+1=d/\u.heap.size+1=c/\u.heap.size=a/\((u.alloc (.cells A T)).alloc (.cells B T)).alloc (.cells C T)=W/\Hid (Bd G M na nc fa fc w s l ((d,C)::(c,B)::(a,A)::b) ts W s1):=⟨_,_,_,_,rfl,rfl,rfl,rfl,U (by have:=((h.box A T).box B T).box C T;simp only[World.size_alloc] at this;exact this)⟩
section
variable {c:Act->World->Prop} {t e:TypeId} {z:Value} {sz bytes:Nat} {nd R:Nd} {BP:List Value} {o:Oper}
theorem Bd.IH(h:Bd G M na nc fa fc w s l b ts u s1)(r:ah u (Own G.B w.heap.size u.heap.size (VM M w b)) nd cs)(f:ah u (Own G.B w.heap.size u.heap.size (VM M w b)) R BP)(A:P.underlying t=some (.slice e))(m:(P.info? e).map (fun i=>(i.zero,i.size,i.bytes))=some (some z,sz,bytes))(k:∀ j W,Hid (Bd G M na nc fa fc w s l b (([.sl [nd,R]],[.slice (some ⟨j,0,none⟩) 2 2])::ts) W s1)->c (a.put o.dst (.slice (some ⟨j,0,none⟩) 2 2)) W)(p:cs.length=sz:=by rfl)(d:BP.length=sz:=by rfl)(D:0<sz:=by omega)(E:sz<100:=by omega)(q:o.op=.buildSlice t 2 #[(0,x),(1,y)]:=by rfl)(B:a.eval x=.agg cs.toArray:=by rfl)(C:a.eval y=.agg BP.toArray:=by rfl):Oper.wp P o a u c Q:=
 qT (n:=2) [cs,BP] A m (fun v g=>by rcases List.mem_cons.1 g with rfl|g;exact p;rcases List.mem_singleton.1 g with rfl;exact d) (k _ _ (U (h.two e ar r f))) rfl O O q (by show[(0,a.eval x),(1,a.eval y)]=_;rw[B,C];rfl)
theorem Bd.MJ(h:Bd G M na nc fa fc w s l b ts u s1)(j:ah u (Own G.B w.heap.size u.heap.size (VM M w b)) nd cs)(m:P.underlying t=some (.slice e))(hi:(P.info? e).map (fun i=>(i.zero,i.size,i.bytes))=some (some z,sz,bytes))(k:∀ d W,Hid (Bd G M na nc fa fc w s l b (([.sl [nd]],[.slice (some ⟨d,0,none⟩) 1 1])::ts) W s1)->c (a.put o.dst (.slice (some ⟨d,0,none⟩) 1 1)) W)(f:cs.length=sz:=by rfl)(r:0<sz:=by omega)(y:sz<100:=by omega)(g:o.op=.buildSlice t 1 #[(0,x)]:=by rfl)(q:a.eval x=.agg cs.toArray:=by rfl):Oper.wp P o a u c Q:=
 qT (n:=1) [cs] m hi (fun v p=>by rcases List.mem_singleton.1 p with rfl;exact f) (by rw[List.flatten_cons,List.flatten_nil,uJ];exact k _ _ (U (h.one e j))) rfl O O g (by show[(0,a.eval x)]=_;rw[q];rfl)
theorem Bd.KE(h:Bd G M na nc fa fc w s l b ts u s1)(r:ah u (Own G.B w.heap.size u.heap.size (VM M w b)) nd cs)(v:P.underlying t=some (.slice e))(n:(P.info? e).map (fun i=>(i.zero,i.size,i.bytes))=some (some z,sz,bytes))(k:∀ c W,Hid (Bd G M na nc fa fc w s l b (([.sl [nd]],[.slice (some ⟨c,0,none⟩) 1 1])::ts) W s1)->wpList P g Q rest (a.put o.dst (.slice (some ⟨c,0,none⟩) 1 1)) W)(p:cs.length=sz:=by rfl)(f:0<sz:=by omega)(j:sz<100:=by omega)(q:o.op=.buildSlice t 1 #[(0,x)]:=by rfl)(y:a.eval x=.agg cs.toArray:=by rfl)(m:o.guard=none:=by rfl):wpList P g Q (o::rest) a u:=
 wpList_plain m fun K hK=>h.MJ r v n (fun c W d=>hK _ _ (k c W d)) p f j q y
end
variable {j:Region.Mode} {S:World->Prop} {r:Nat->Bool}
theorem Bd.sv(i n:Nat){nd:Nd}{o:Oper}{L:Array Bool}(h:Bd G M na nc fa fc w s l b ts u s1)(B:ah u (Own G.B w.heap.size u.heap.size (VM M w b)) nd cs)(k:∀ W,Hid (Bd G M na nc fa fc w s l (b.set n (q,cs.toArray)) ((nd,cs)::ts) W s1)->gb P j g Q S r m (L.setIfInBounds i true) (a.put o.dst undef) W)(e:b[n]?=some (q,Z):=by rfl)(f:cs.length=Z.size:=by rfl)(d:Z≠#[]:=by simp)
 (t:Region.ready j g L=[i]:=by kernel_rfl)(A:g[i]?=some o:=by rfl)(c:o.op=.store ty x y:=by rfl)(C:Region.wanted o (yielded g a.tmps)=true:=by rfl)(D:a.eval x=.pointer (some ⟨q,0,none⟩):=by rfl)(E:a.eval y=.agg cs.toArray:=by rfl)(hi:(P.info? ty).map (·.size)=some cs.length:=by kernel_rfl)(p:(cs.all fun v=>v.oneCell')=true:=by rfl)(z:r i=true:=by rfl):gb P j g Q S r (m+1) L a u:=
 vM i cs (h.bx _ (lj e) d) (k _ (U ((h.add B).store n cs e f d))) t A c C D E f hi p z
theorem IG(i:Nat){sz:Nat}{nd:Nd}{e:Oper}{L n:Array Bool}{b:Act}(s:n9 I sz nd cs)(C:(P.info? ty).map (fun x=>x.size)=some sz)(y:S u)(v:∀ w,S w->w.rangeAt q 0 cs)(h:gb P j g Q S r m n b u)
 (hi:g[i]?=some e:=by rfl)(hs:Region.noSelect g=true:=by kernel_rfl)(B:Region.free j g L i=true:=by kernel_rfl)(E:(Region.ready j g L).contains i=true:=by kernel_rfl)(F:lW j g r i=true:=by kernel_rfl)(p:l4 j g L i=true:=by kernel_rfl)
 (t:∀ c a w,Q (.panic c) (a.put e.dst (.agg cs.toArray)) w->Q (.panic c) a w:=by exact fun _ _ _ h=>h)(D:e.op=.load ty x:=by rfl)(A:a.eval x=.pointer (some ⟨q,0,none⟩):=by rfl)(l:Region.wanted e (yielded g a.tmps)=true:=by rfl)(f:(P.underlying ty).map TypeDesc.isRow=some true:=by kernel_rfl)
 (o:L.setIfInBounds i true=n:=by(try simp only[List.setIfInBounds_toArray,List.set_cons_zero,List.set_cons_succ]);(try rfl))(z:a.put e.dst (.agg cs.toArray)=b:=by(try simp only[Act.put,List.getElem_toArray,List.getElem_cons_zero,List.getElem_cons_succ,List.setIfInBounds_toArray,List.set_cons_zero,List.set_cons_succ]);(try rfl)):gb P j g Q S r (m+1) L a u:=by
 rcases k:P.underlying ty with _|d
 ·rw[k] at f;cases f
 ·rw[k] at f;exact tq i y h hi hs B E F p t (yieldsIf_load_mid l ty x D q 0 A cs d v k (f_ f) (by rw[s.len];exact C)) o z
end
theorem FN.fd{G:Gh}{k:Nat}{args:Array Value}{x:PM Nd}(j:hM I)(h:FN G k args I x):FD G k args I x:=fun na nc fa fc w s r g u=>(h (Mm G na fa) na nc fa fc w s r g u).mono fun e z d=>by
 obtain⟨i,d⟩:=d;cases r with
 |error e2=>exact⟨d,i⟩
 |ok p=>
  obtain⟨nd,y⟩:=p;obtain⟨c,o,a,v,n,t⟩:=d;have f:=a.sc.rC;rw[c] at f;exact⟨na,nc,fa,fc,v,n,⟨i,a.min,o,.inl ⟨rfl,rfl⟩,.inl ⟨rfl,rfl⟩,⟨[],by simp[c]⟩,f.1,f.2⟩,j _ _ _ _ _ _ t (Kb.refl _ _) fun b l=>l.imp id fun q=>⟨q.1,q.2.1,fun m=>ba ((g.mB b m).2)⟩⟩
section
variable {G:Gh} {f f':Fs} {n n':Nat}
set_option maxRecDepth 100000
set_option maxHeartbeats 16000000
theorem xN(h:p:=by
 go_wp2_with (first
  |(refine zl (HZ.bx _ (.head _) (HQ.nn bh)) HQ aq ?_)
  |(refine rD 0 HZ HQ (by rw[lZ];exact HQ.len) bh aq ?_))
 intro W a
 go_wp2_with fail
 exact oI (a.bx _ (.head _) (HQ.nn bh)) (a.res fw.ok (HQ.back _ _ (a.t 0))) (hi:=by rw[lZ,HQ.len];kernel_rfl)):p:=h
theorem Bd.dz{M:Nat->Prop}{na:Option Addr}{nc:Nat}{fa:Option Addr}{fc:Nat}{w u:World}{s s1:al}{l:List (Nat×List Nd×Option Addr×Nat)}{a:Nat}{b:List (Nat×Array Value)}{ts:List (Nd×List Value)}{cs:List Value}{nd:Nd}{z:Array Value}(h:Bd G M na nc fa fc w s l ((a,z)::b) ts u s1)(d:ah u (Own G.B w.heap.size u.heap.size (VM M w ((a,z)::b))) nd cs)(e:z=cs.toArray:=by rfl)(c:n9 fw 14 nd cs:=by exact rF):∃ cs,Hid (n9 fw 14 nd cs)/\Hid (Bd G M na nc fa fc w s l ((a,cs.toArray)::b) ((nd,cs)::ts) u s1):=⟨cs,U c,U (by subst e;exact h.add d)⟩
theorem IC(H:ei G)(l:FN G 65 (bq G) cy f.pat)(k:FN G 67 (bq G) bc f.exp):FN G 23 #[.pointer (some ⟨G.bp,0,none⟩),.string ⟨([118,97,108]:List UInt8).toArray⟩] fw (kR G.X f n [118,97,108]):=by
 intro M na nc fa fc w s r z A
 have g:=Bd.start z;have E:=U A;have q:Hid (sA cy 9):=U jq;have D:Hid (sA bc 12):=U jq;clear A z
 go_enter Tryz.func23,Tryz.ntmps23
 go_upto_region 1 with fail
 have g:=U (g.box q8 42)
 obtain⟨B,m⟩:∃ B,w.heap.size=B:=⟨_,rfl⟩
 generalize w.alloc _=u at g⊢;rw[m] at g⊢;clear m
 go_upto_region 17 with(first
  |(refine h.KE (h.t 0) Tryz.underlying34 Tryz.oJ (fun J N a=>?_) HQ.len;have P:=a.e 0 0;have Q:=a.e 0 6;have y:=a.f 0)
  |(go_at_call 65;refine oc (FN.bo l cy.ok q g E) ?_;rintro e C ⟨p,s1,F,rfl,HQ,t,h⟩))
 have i:=U ((a.eu 0 (.int .i64 1)).eu 6 (.slice (some ⟨J,0,none⟩) 1 1));generalize World.setCell _ _ _=L at i⊢;clear P Q y
 go_upto_region 46 with(first
  |(refine j.KE (j.t 0) Tryz.underlying35 Tryz.ny (fun I N c=>?_) q.len;have R:=c.e 0 7;have y:=c.f 0)
  |(go_at_call 67;refine oc (FN.bo k bc.ok D o v) ?_;rintro e C ⟨ex,s1,F,rfl,q,x,j⟩)
  |(go_at_call 66;refine oc (FU.bd (fi H [61]) i t) ?_;rintro e C ⟨s1,rfl,v,o⟩))
 have b:=U (c.eu 7 (.slice (some ⟨I,0,none⟩) 1 1));generalize World.setCell _ _ _=L at b⊢;clear R y
 cases aj x
 obtain⟨cs,HQ,HZ⟩:=b.dz (j9 (d:={kind:=1,oW:=[p],qz:=[ex]}) aa (b.t 2).hd (b.t 0).hd aa aa aa aa aa aa)
 exact xN
theorem ID(z:ei G)(i:FN G 69 (bq G) oK (lH G.X f n)):FN G 23 #[.pointer (some ⟨G.bp,0,none⟩),.string ⟨([102,117,110]:List UInt8).toArray⟩] fw ((df G.X n [97,110,100] (lH G.X f n)>>=fun l=>pure (d_ {kind:=2,l3:=l}))):=by
 intro M na nc fa fc w s r k m
 have c:=Bd.start k;have y:=U m;have A:∀ (p:Fn) (first g:Array Value) (w:World),(Instr.makeFunc p first g).run Tryz.prog w=.ok (.func p first g) w:=fun _ _ _ _=>rfl;have v:=U (kf (x:=(lH G.X f n)) fun M na nc fa fc w s r k m=>F5 z (fun _ _ _ h _=>h) 69 _ #[] (fun _ _=>rfl) [97,110,100] (lone (lH G.X f n)) (FN.pE oK.ok i) n w s () r k trivial m);clear m k
 go_enter Tryz.func23,Tryz.ntmps23
 go_upto_region 1 with fail
 have c:=U (c.box q8 42)
 obtain⟨q,j⟩:∃ q,w.heap.size=q:=⟨_,rfl⟩
 generalize w.alloc _=u at c⊢;rw[j] at c⊢;clear j
 go_upto_region 46 with(go_at_call 68;refine oc (gu.pF v c y) ?_;rintro e I ⟨l,s1,B,C,rfl,H,o,a⟩;have D:=a.e 0 0;have E:=a.e 0 8;have F:=a.f 0)
 have b:=U ((a.eu 0 (.int .i64 2)).eu 8 (.slice B l.length C));generalize World.setCell _ _ _=J at b⊢;clear D E F
 cases aj o
 obtain⟨cs,HQ,HZ⟩:=b.dz (j9 (d:={kind:=2,l3:=l}) aa aa aa (b.t 0).hd aa aa aa aa aa)
 exact xN
theorem wW(z:ei G)(c:FN G 71 (bq G) kH f.data):FN G 23 #[.pointer (some ⟨G.bp,0,none⟩),.string ⟨([100,97,116,97,116,121,112,101]:List UInt8).toArray⟩] fw ((df G.X n [97,110,100] f.data>>=fun l=>pure (d_ {kind:=3,iG:=l}))):=by
 intro M na nc fa fc w s r k m
 have g:=Bd.start k;have y:=U m;have A:∀ (p:Fn) (first i:Array Value) (w:World),(Instr.makeFunc p first i).run Tryz.prog w=.ok (.func p first i) w:=fun _ _ _ _=>rfl;have v:=U (kf (x:=f.data) fun M na nc fa fc w s r k m=>C4 z (fun _ _ _ h _=>h) 71 _ #[] (fun _ _=>rfl) [97,110,100] (lone f.data) (FN.pE kH.ok c) n w s () r k trivial m);clear m k
 go_enter Tryz.func23,Tryz.ntmps23
 go_upto_region 1 with fail
 have g:=U (g.box q8 42)
 obtain⟨q,j⟩:∃ q,w.heap.size=q:=⟨_,rfl⟩
 generalize w.alloc _=u at g⊢;rw[j] at g⊢;clear j
 go_upto_region 46 with(go_at_call 70;refine oc (gu.pF v g y) ?_;rintro e I ⟨l,s1,B,C,rfl,H,o,a⟩;have D:=a.e 0 0;have E:=a.e 0 9;have F:=a.f 0)
 have b:=U ((a.eu 0 (.int .i64 3)).eu 9 (.slice B l.length C));generalize World.setCell _ _ _=J at b⊢;clear D E F
 cases aj o
 obtain⟨cs,HQ,HZ⟩:=b.dz (j9 (d:={kind:=3,iG:=l}) aa aa aa aa (b.t 0).hd aa aa aa aa)
 exact xN
theorem vy(q:ei G)(n:FN G 74 (bq G) cz f.ty):FN G 23 #[.pointer (some ⟨G.bp,0,none⟩),.string ⟨([101,120,99,101,112,116,105,111,110]:List UInt8).toArray⟩] fw ((name G.X false>>=fun a=>qf G.X f>>=fun t=>pure (d_ {kind:=5,name:=a,types:=t}))):=by
 intro M na nc fa fc w s r v x
 have h:=Bd.start v;have z:=U x;clear x v
 go_enter Tryz.func23,Tryz.ntmps23
 go_upto_region 1 with fail
 have h:=U (h.box q8 42)
 obtain⟨y,j⟩:∃ y,w.heap.size=y:=⟨_,rfl⟩
 generalize w.alloc _=u at h⊢;rw[j] at h⊢;clear j
 go_upto_region 30 with(go_at_call 73;refine oc (FB.bd (fo q false) h z) ?_;rintro e C ⟨a,s1,rfl,k,b⟩;have E:=b.e 0 0;have F:=b.e 0 1;have p:=b.f 0)
 have i:=U ((b.eu 0 (.int .i64 5)).eu 1 (.string ⟨a.toArray⟩));generalize World.setCell _ _ _=D at i⊢;clear E F p
 go_upto_region 46 with(go_at_call 75;refine oc (gu.pF (zm q n) i k) ?_;rintro e C ⟨l,s1,A,B,rfl,H,m,c⟩;have o:=c.e 0 10;have p:=c.f 0)
 have g:=U (c.eu 10 (.slice A l.length B));generalize World.setCell _ _ _=D at g⊢;clear o p
 cases aj m
 obtain⟨cs,HQ,HZ⟩:=g.dz (j9 (d:={kind:=5,name:=a,types:=l}) aa aa aa aa aa (g.t 0).hd aa aa aa)
 exact xN
theorem vz(v:ei G)(x:gu G 77 (bq G) f.specs):FN G 23 #[.pointer (some ⟨G.bp,0,none⟩),.string ⟨([115,105,103,110,97,116,117,114,101]:List UInt8).toArray⟩] fw ((name G.X false>>=fun a=>a8 G.X [61]>>=fun _=>a8 G.X [115,105,103]>>=fun _=>f.specs>>=fun l=>pure (d_ {kind:=7,name:=a,specs:=l}))):=by
 intro M na nc fa fc w s r B C
 have h:=Bd.start B;have E:=U C;clear C B
 go_enter Tryz.func23,Tryz.ntmps23
 go_upto_region 1 with fail
 have h:=U (h.box q8 42)
 obtain⟨D,j⟩:∃ D,w.heap.size=D:=⟨_,rfl⟩
 generalize w.alloc _=u at h⊢;rw[j] at h⊢;clear j
 go_upto_region 35 with(go_at_call 73;refine oc (FB.bd (fo v false) h E) ?_;rintro e y ⟨a,s1,rfl,n,b⟩;have J:=b.e 0 0;have L:=b.e 0 1;have A:=b.f 0)
 have i:=U ((b.eu 0 (.int .i64 7)).eu 1 (.string ⟨a.toArray⟩));generalize World.setCell _ _ _=I at i⊢;clear J L A
 go_upto_region 46 with(first
  |(go_at_call 77;refine oc (gu.pF x m p) ?_;rintro e y ⟨l,s1,F,H,rfl,N,q,c⟩;have z:=c.e 0 13;have A:=c.f 0)
  |(go_at_call 66;refine oc (FU.bd (fi v [115,105,103]) k o) ?_;rintro e y ⟨s1,rfl,p,m⟩)
  |(go_at_call 66;refine oc (FU.bd (fi v [61]) i n) ?_;rintro e y ⟨s1,rfl,o,k⟩))
 have g:=U (c.eu 13 (.slice F l.length H));generalize World.setCell _ _ _=I at g⊢;clear z A
 cases aj q
 obtain⟨cs,HQ,HZ⟩:=g.dz (j9 (d:={kind:=7,name:=a,specs:=l}) aa aa aa aa aa aa aa aa (g.t 0).hd)
 exact xN
theorem F6(E:ei G)(h:gu G 72 (bq G) (jn f.vars))(B:FN G 74 (bq G) cz f.ty):FN G 23 #[.pointer (some ⟨G.bp,0,none⟩),.string ⟨([116,121,112,101]:List UInt8).toArray⟩] fw ((jn f.vars>>=fun v=>name G.X false>>=fun a=>a8 G.X [61]>>=fun _=>f.ty>>=fun t=>pure (d_ {kind:=4,iG:=[[.sl v,vS a,.sl []]],types:=[t]}))):=by
 intro M na nc fa fc w s r F H
 have i:=Bd.start F;have N:=U H;clear H F
 go_enter Tryz.func23,Tryz.ntmps23
 go_upto_region 1 with fail
 have i:=U (i.box q8 42)
 obtain⟨I,m⟩:∃ I,w.heap.size=I:=⟨_,rfl⟩
 generalize w.alloc _=u at i⊢;rw[m] at i⊢;clear m
 have p:Hid (sA cz 4):=U jq
 go_upto_region 26 with(first
  |(refine j.KE (nd:=[.sl v,vS a,.sl []]) (cs:=[.slice R v.length S,.string ⟨a.toArray⟩,.slice none 0 0]) (cr (j.t 0).hd (ej _ (cr aa gO))) Tryz.underlying37 Tryz.EI (fun P aC b=>?_);have T:=b.e 0 0;have W:=b.e 0 9;have D:=b.f 0)
  |(go_at_call 73;refine oc (FB.bd (fo E false) n q) ?_;rintro e aB ⟨a,Y,rfl,x,j⟩)
  |(go_at_call 72;refine oc (gu.pF h i N) ?_;rintro e w2 ⟨v,A,R,S,rfl,J,q,n⟩))
 have k:=U ((b.eu 0 (.int .i64 4)).eu 9 (.slice (some ⟨P,0,none⟩) 1 1));generalize World.setCell _ _ _=aD at k⊢;clear T W D
 go_upto_region 46 with(first
  |(refine l.KE (l.t 0) Tryz.underlying38 Tryz.zn (fun Q aG g=>?_) L.len;have C:=g.e 0 10;have D:=g.f 0)
  |(go_at_call 74;refine oc (FN.bo B cz.ok p o y) ?_;rintro e aF ⟨t,aA,X,rfl,L,z,l⟩)
  |(go_at_call 66;refine oc (FU.bd (fi E [61]) k x) ?_;rintro e aE ⟨Z,rfl,y,o⟩))
 have c:=g.eu 10 (.slice (some ⟨Q,0,none⟩) 1 1);generalize World.setCell _ _ _=aH at c⊢;clear C D
 cases aj z
 obtain⟨cs,HQ,HZ⟩:=c.dz (j9 (d:={kind:=4,iG:=[[.sl v,vS a,.sl []]],types:=[t]}) aa aa aa aa (c.t 2).hd (c.t 0).hd aa aa aa)
 exact xN
theorem vA(q:ei G)(j:FN G 76 (bq G) fw f.kS):FN G 23 #[.pointer (some ⟨G.bp,0,none⟩),.string ⟨([115,116,114,117,99,116,117,114,101]:List UInt8).toArray⟩] fw ((f.kS>>=fun d=>pure d)):=by
 intro M na nc fa fc w s r k l
 have b:=Bd.start k;have o:=U l;have n:Hid (sA fw 14):=U jq;clear l k
 go_enter Tryz.func23,Tryz.ntmps23
 go_upto_region 1 with fail
 have b:=U (b.box q8 42)
 obtain⟨m,c⟩:∃ m,w.heap.size=m:=⟨_,rfl⟩
 generalize w.alloc _=u at b⊢;rw[c] at b⊢;clear c
 go_wp2_with (first
  |(refine zl (g.bx _ (.head _) (a.nn bh)) a aq ?_)
  |(refine rD 0 h a rfl bh aq (fun W g=>?_))
  |(go_at_call 76;refine oc (FN.bo j fw.ok n b o) ?_;rintro e t ⟨d,s1,p,rfl,a,i,h⟩))
 cases aj i
 exact oI (g.bx _ (.head _) (a.nn bh)) (g.res fw.ok (a.back _ _ (g.t 0))) (hi:=by rw[lZ,a.len];kernel_rfl)
end
theorem vC{w:World}{F:Nat->Prop}{l:List ak}{a:Option Addr}{c:Nat}(h:b8 w F (.sl (strs l)) [.slice a m c])(j:Nat)(x:ak)(t:l[j]?=some x):∃ b o,a=some ⟨b,o,none⟩/\w.cell? ⟨b,o+j,none⟩=some (.string ⟨x.toArray⟩):=by
 have z:m=(strs l).length:=by
  have d:=h;unfold b8 at d;obtain⟨A,B,s,_⟩:=d;cases s
  rfl
 subst z
 have f:∀ (x:ak) (cs:List Value),ah w F [vS x] cs->cs=[.string ⟨x.toArray⟩]:=fun x cs h=>by
  unfold ah at h;obtain⟨p,q,rfl,i,d⟩:=h;unfold ah at d;subst d;unfold vS b8 at i;subst i
  rfl
 obtain⟨g,i,_,u⟩:=k3 (sz:=1) h (fun r n cs k=>by
  obtain⟨x,_,rfl⟩:=List.mem_map.1 n;rw[f x cs k]
  exact⟨rfl,fun v s=>by rw[List.mem_singleton.1 s];rfl⟩)
 have y:j<l.length:=(List.getElem?_eq_some_iff.1 t).1;obtain⟨b,o,e,k⟩:=i j (by simp[strs];omega);have n:(strs l)[j]?=some [vS x]:=by unfold strs;rw[qo,t];rfl
 have:=f x _ (u j _ n);simp at this;exact⟨b,o,e,by rw[k,<-this]⟩
section
variable {G:Gh} {na k E:Option Addr} {nc C H:Nat} {fa d D:Option Addr} {fc B F:Nat} {w u w2 J N:World} {s s1 A L:al} {l:List (Nat×List Nd×Option Addr×Nat)} {b:List (Nat×Array Value)} {ts:List (Nd×List Value)}
theorem Bd.LX{M:Nat->Prop}(c:PS G M na nc fa fc w s)(t:Tn G na nc fa fc w s k C d B N L)(j:J.heap.size=w.heap.size)(m:Kn G.B No J N)(h:Bd G (Mm G k d) k C d B J L l b ts u s1)(e:Tn G k C d B u s1 E H D F w2 A):
 ∃ a,Tn G na nc fa fc w s E H D F w2 A/\(a.heap.size=w.heap.size/\Kn G.B No a w2)/\Bd G (Mm G E D) E H D F a A l b ts w2 A:=by
 have n:=Tn.ue c t j m h;have i:w.heap.size<=w2.heap.size:=lQ h.kn.size e.kn.size
 have f:=iT.size i;have g:=iT.kn i c.bB;exact⟨iT w2 w.heap.size,Tn.trans c n e,⟨f,g⟩,h.zo e (f.trans j.symm) g⟩
end
section
variable {G:Gh} {f:Fs} {n:Nat}
set_option maxRecDepth 100000
set_option maxHeartbeats 16000000
theorem tw{β:Type}{x:PM (List ak)}{k:List ak->PM β}{s:al}:(x>>=k) s=(jn x>>=fun v=>k (texts v)) s:=by
 unfold jn;rw[<-db];show PM.bind _ _ _=PM.bind _ _ _;unfold PM.bind
 rcases x s with _|⟨e|⟨l,a⟩⟩
 ·rfl
 ·rfl
 ·show k l a=k (texts (strs l)) a;rw[nA]
theorem vD{x:PM (List ak)}{s A:al}{v:List Nd}(h:jn x s=some (.ok (v,A))):∃ l,v=strs l/\x s=some (.ok (l,A)):=by
 unfold jn at h
 rcases a_ h with⟨c,q,_,e⟩|⟨l,s1,a,b⟩
 ·cases e
 ·cases aj b;exact⟨l,rfl,a⟩
theorem AY(aU:ei G)(aL:gu G 78 (bq G) (jn f.jK))(aK:∀ s l aM,f.jK s=some (.ok (l,aM))->aM.sc=s.sc/\s.i+l.length<=aM.i):FD G 23 #[.pointer (some ⟨G.bp,0,none⟩),.string ⟨([110,111,110,102,105,120]:List UInt8).toArray⟩] fw (f.jK>>=fun l=>jh l (-1) false>>=fun _=>pure (d_ {kind:=9,names:=l})):=by
 intro na nc fa fc w s r aJ S;have I:=Bd.start aJ;have aE:=U aJ;rw[tw] at S;have aP:=U S;clear S aJ;go_enter Tryz.func23,Tryz.ntmps23
 go_upto_region 1 with fail
 have I:=U (I.box q8 42);obtain⟨i,aA⟩:∃ i,w.heap.size=i:=⟨_,rfl⟩;generalize w.alloc _=u at I⊢;rw[aA] at I⊢;clear aA;have bL:u.cell? ⟨i,0,none⟩=some (.int .i64 0):=I.c 0 0;have aO:=I.f 0
 go_upto_region 40 with fail
 have n:=U (I.eu 0 (.int .i64 9));generalize u.setCell ⟨i,0,none⟩ (.int .i64 9)=bI at n⊢;clear bL aO I
 go_upto_region 41 with(go_at_call 78;refine(gu.pF aL n aP).mono ?_;rintro e w2 (⟨bM,q,rfl,rfl,bC⟩|⟨v,A,M,P,rfl,W,Z,p⟩);(·unfold az;go_simp;exact⟨rfl,rfl,bC⟩);have aD:w2.cell? ⟨i,2,none⟩=some (.slice none 0 0):=p.c 0 2;have aO:=p.f 0)
 have a:=U (p.eu 2 (.slice M v.length P));generalize w2.setCell ⟨i,2,none⟩ (.slice M v.length P)=bJ at a⊢;obtain⟨l,rfl,aV⟩:=vD W;have aB:(strs l).length=l.length:=by simp[strs]
 rw[aB] at a⊢
 have aX:Hid (A.sc.length+l.length<=20+A.i):=U (by
  have aT:=aK _ _ _ aV;have aY:=n.ps.zp;rw[aT.1]
  omega)
 have aG:Hid (r=.ok (d_ {kind:=9,names:=l},{A with sc:=A.sc++l.map fun x=>⟨x,-1,false⟩})):=U (by
  have h:=Z.out;rw[nA] at h
  exact(f_ h).symm)
 clear aD aO p W Z aP n aV aB;have aD:bJ.cell? ⟨i,2,none⟩=some (.slice M l.length P):=a.c 0 2
 go_upto_block 42 with fail
 go_loopg [142] l.length (fun gk bD wr=>∃ T k C d B J N L j,bD=.int .i64 (j:Nat)/\Hid (j+gk=l.length)/\Hid (T={A with sc:=A.sc++(l.take j).map fun x=>⟨x,-1,false⟩})/\Hid (Tn G na nc fa fc w s k C d B N L)/\Hid (J.heap.size=w.heap.size/\Kn G.B No J N)/\Hid (Bd G (Mm G k d) k C d B J L [] [(i,#[.int .i64 9,.string ⟨#[]⟩,.slice M l.length P,.int .i64 0,.bool false,.bool false,.slice none 0 0,.slice none 0 0,.slice none 0 0,.slice none 0 0,.slice none 0 0,.slice none 0 0,.slice none 0 0,.slice none 0 0])] [([.sl (strs l)],[.slice M l.length P])] wr T))
 case atStart=>exact⟨A,na,nc,fa,fc,w,w,s,0,rfl,U ar,U ar,U (Tn.refl aE),U ⟨rfl,Kn.refl _ _ _⟩,a⟩
 case round=>
  obtain⟨T,k,C,d,B,J,N,L,j,rfl,aC,z,Y,g,c⟩:=hrel;cases gk with
  |zero=>
   clear a aD;have R:j=l.length:=ba aC.out
   subst R;have b6:T={A with sc:=A.sc++l.map fun x=>⟨x,-1,false⟩}:=by rw[z.out,Ej]
   clear z aC;subst b6
   go_upto_region 46 with fail
   obtain⟨bP,bQ,bR,bS,bT,bU,bV,bX,bY,bZ,bE,bF,bG,bH⟩:=xO (c.bx _ (.head _)).2.2;have cA:=c.f 0;cases aG.out
   go_wp2_with fail
   have y:=(c.add (nd:=d_ {kind:=9,names:=l}) (cs:=[.int .i64 9,.string ⟨#[]⟩,.slice M l.length P,.int .i64 0,.bool false,.bool false,.slice none 0 0,.slice none 0 0,.slice none 0 0,.slice none 0 0,.slice none 0 0,.slice none 0 0,.slice none 0 0,.slice none 0 0]) ((j9 (c.t 0).hd aa aa aa aa aa aa aa aa))).store 0 [.int .i64 9,.string ⟨#[]⟩,.slice M l.length P,.int .i64 0,.bool false,.bool false,.slice none 0 0,.slice none 0 0,.slice none 0 0,.slice none 0 0,.slice none 0 0,.slice none 0 0,.slice none 0 0,.slice none 0 0];change bodyPost _ _ _ _ _ (wr.setCells i 0 [.int .i64 9,.string ⟨#[]⟩,.slice M l.length P,.int .i64 0,.bool false,.bool false,.slice none 0 0,.slice none 0 0,.slice none 0 0,.slice none 0 0,.slice none 0 0,.slice none 0 0,.slice none 0 0,.slice none 0 0]);generalize wr.setCells i 0 _=cB at y⊢;refine oI (y.bx _ (.head _)) ⟨k,C,d,B,_,rfl,Tn.ue aE Y g.1 g.2 y,_,_,_,_,_,_,_,_,_,_,_,_,_,_,_,_,_,_,_,_,_,_,_,_,_,_,_,_,_,_,_,_,rfl,(y.t 0).on (Kb.refl _ _) fun b aZ=>aZ.imp id fun q=>⟨ba g.1,q.2.1,fun m=>q.2.2 (.inr ⟨m,q.1⟩)⟩⟩
  |succ m=>
   have R:j<l.length:=ba aC.out
   obtain⟨x,S⟩:∃ x,l[j]?=some x:=⟨_,fv R⟩;obtain⟨b,o,rfl,bO⟩:=vC (c.t 0).hd j x S;have aH:=U S;clear S
   have X:Hid (T.sc.length+1<=20+T.i/\j<100000):=U (by
    have aT:=aX.out;have aY:=a.ps.il;have bN:=aU.k0;rw[z.out];simp
    omega)
   clear a aD;have bA:=X.2
   go_upto_region 45 with(go_at_call 20;refine(EJ aU c.ps X.1 x (-1) false).mono ?_;rintro e bK ⟨rfl,E,H,D,F,aW⟩)
   obtain⟨aN,aQ,aR,Q⟩:=c.LX aE Y g.1 g.2 aW;have aF:=U aQ;have aI:=U aR;have Q:=U Q;clear aW aQ aR
   go_wp2_with fail
   go_roundg m
   case measure=>omega
   case rel=>exact⟨_,E,H,D,F,aN,bK,_,j+1,ar,U (ba aC.out),U (by rw[z.out,List.take_add_one,aH.out];simp),aF,aI,Q⟩
end
def qM(X:Tx):Prop:=∀ (i:Nat) (t:Tok) (c:UInt8),X.ts[i]?=some t->t.kind=4->t.text=[c]->48<=c.toNat
theorem C5{s:al}{c:UInt8}(k:(V X s).kind=4)(h:(V X s).text=[c]):ga X s=some (.ok ((c.toNat:Int)-48,{s with i:=s.i+1})):=by
 unfold ga;simp[k,h]
theorem zq{s:al}(k:¬(V X s).kind=4):ga X s=some (.ok (0,s)):=by
 unfold ga;simp[k]
theorem AZ{s:al}(k:(V X s).kind=4)(h:¬(V X s).text.length=1):ga X s=eo X s:=by
 unfold ga;simp[k,h]
section
variable {G:Gh} {f:Fs} {n:Nat}
set_option maxRecDepth 100000
set_option maxHeartbeats 16000000
theorem A0(h:p:=by
 have HX:Hid ((ga G.X>>=fun u=>f.jK>>=fun l=>jh l u bb>>=fun _=>pure (d_ {kind:=8,names:=l,n:=u,right:=bb})) s=some r):=U (by subst KF;exact HX.out);have II:Hid (Bd G (Mm G na fa) na nc fa fc w s [] [(rb,#[.int .i64 8,.string ⟨#[]⟩,.slice none 0 0,.int .i64 0,.bool bb,.bool false,.slice none 0 0,.slice none 0 0,.slice none 0 0,.slice none 0 0,.slice none 0 0,.slice none 0 0,.slice none 0 0,.slice none 0 0])] [] NH s):=U (by subst KF;exact II.out);clear KF
 go_upto_region 4 with(go_at_call 63;refine(e' hG II).mono ?_;rintro e w2 ⟨bN,bE,bM,bF,rfl,-,I⟩)
 have a:=U (I.box (lI G s bN bE bM bF) 75);obtain⟨aD,aQ⟩:∃ aD,w2.heap.size=aD:=⟨_,rfl⟩;rw[aQ] at a⊢;generalize w2.alloc _=Y at a⊢;clear aQ I II;have cG:Y.cell? ⟨aD,0,none⟩=some (.int .i64 ((V G.X s).kind:Nat)):=a.c 0 0
 go_upto_if 20 with fail
 clear cG
 go_cut [] from 21 to 39 (fun aV=>∃ u Q,Hid ((f.jK>>=fun l=>jh l u bb>>=fun _=>pure (d_ {kind:=8,names:=l,n:=u,right:=bb})) Q=some r)/\Hid (Bd G (Mm G na fa) na nc fa fc w s [] [(aD,(lI G s bN bE bM bF)),(rb,#[.int .i64 8,.string ⟨#[]⟩,.slice none 0 0,.int .i64 u,.bool bb,.bool false,.slice none 0 0,.slice none 0 0,.slice none 0 0,.slice none 0 0,.slice none 0 0,.slice none 0 0,.slice none 0 0,.slice none 0 0])] [] aV Q))
 case first=>
  by_cases aA:(V G.X s).kind=4
  case neg=>
   have bG:¬(((V G.X s).kind:Nat):Int)=4:=O
   have M:Hid ((f.jK>>=fun l=>jh l 0 bb>>=fun _=>pure (d_ {kind:=8,names:=l,n:=0,right:=bb})) s=some r):=U (by
    have h:PM.bind (ga G.X) _ s=some r:=HX.out;unfold PM.bind at h;rw[zq aA] at h
    exact h)
   clear aA
   go_upto_region 9 with fail
   go_meet
   case rel=>exact⟨0,s,M,a⟩
  by_cases aH:(V G.X s).text.length=1
  case neg=>
   have bC:Hid ((eo G.X>>=fun u=>f.jK>>=fun l=>jh l u bb>>=fun _=>pure (d_ {kind:=8,names:=l,n:=u,right:=bb})) s=some r):=U (by
    have h:PM.bind (ga G.X) _ s=some r:=HX.out;unfold PM.bind at h;rw[AZ aA aH] at h
    exact h)
   have bG:(((V G.X s).kind:Nat):Int)=4:=O
   have bV:Y.cell? ⟨aD,1,none⟩=some (.string ⟨(V G.X s).text.toArray⟩):=a.c 0 1;have cF:¬((V G.X s).text.length:Int)=1:=O
   clear aA aH HX
   go_wp2_with (go_at_call 13;refine(km hG a bC).mono ?_;rintro e aU ⟨cA,q,rfl,rfl,bH⟩;(unfold az;go_simp;exact⟨rfl,rfl,bH⟩))
  obtain⟨c,aI⟩:=List.length_eq_one_iff.1 aH
  have M:Hid ((f.jK>>=fun l=>jh l ((c.toNat:Int)-48) bb>>=fun _=>pure (d_ {kind:=8,names:=l,n:=(c.toNat:Int)-48,right:=bb})) {s with i:=s.i+1}=some r):=U (by
   have h:PM.bind (ga G.X) _ s=some r:=HX.out;unfold PM.bind at h;rw[C5 aA aI] at h
   exact h)
  have aY:=U (dd (X:=G.X) (s:=s) O)
  have aN:48<=c.toNat:=by
   obtain⟨t,bU⟩:∃ t,G.X.ts[s.i]?=some t:=⟨_,fv aY⟩;rw[ko bU] at aA aI;exact NI _ t c bU aA aI
  have bG:(((V G.X s).kind:Nat):Int)=4:=O
  have bV:Y.cell? ⟨aD,1,none⟩=some (.string ⟨#[c]⟩):=(a.c 0 1:Y.cell? ⟨aD,1,none⟩=some (.string ⟨(V G.X s).text.toArray⟩)).trans (by rw[aI]);have cM:Y.cell? ⟨rb,3,none⟩=some (.int .i64 0):=a.c 1 3;have bP:=a.f 1;have aX:=U aN;have aF:c.toNat<256:=c.toNat_lt;have bI:IntKind.u8.wrap ((c.toNat:Int)-48)=(c.toNat:Int)-48:=IntWalk.u8_in _ O;have bJ:IntKind.i64.wrap ((c.toNat:Int)-48)=(c.toNat:Int)-48:=gv _ O;clear aA aH aI HX aN
  go_upto_region 8 with fail
  change Code.wp _ _ _ _ (Y.setCell ⟨rb,3,none⟩ (.int .i64 (((c.toNat:Int)-48)%256)));rw[show((c.toNat:Int)-48)%256=(c.toNat:Int)-48 from ba aX.out];have g:=U (a.set 1 3 (.int .i64 ((c.toNat:Int)-48)));generalize Y.setCell ⟨rb,3,none⟩ (.int .i64 ((c.toNat:Int)-48))=bY at g⊢;clear cM bP bV bI bJ aF bG;have c1:=g.ps.c1;have fr:=g.ps.fr;have aP:=aY.out;have aO:=hG.k0
  go_upto_region 9 with fail
  have bQ:=((Kn.refl G.B (Jp G) bY).step g.ps rfl (.int .i64 ((s.i:Int)+1))).jp g.ps.mp;have z:=U (g.go bQ (g.ps.step1 aY) rfl (h5 _));clear bQ c1 fr aP aO;generalize bY.setCell ⟨G.bp,1,none⟩ (.int .i64 ((s.i:Int)+1))=aU at z⊢
  go_meet
  case rel=>exact⟨_,_,M,z⟩
 case rest=>
  obtain⟨u,Q,M,g⟩:=hcut;clear HX a;have Z:=U (tw.symm.trans M);clear M
  go_upto_region 10 with(go_at_call 78;refine(gu.pF NJ g Z).mono ?_;rintro e w2 (⟨cA,q,rfl,rfl,bH⟩|⟨v,A,aB,aC,rfl,aJ,aM,I⟩);(·unfold az;go_simp;exact⟨rfl,rfl,bH⟩);have aW:w2.cell? ⟨rb,2,none⟩=some (.slice none 0 0):=I.c 1 2;have bP:=I.f 1)
  have a:=U (I.set 1 2 (.slice aB v.length aC));generalize w2.setCell ⟨rb,2,none⟩ (.slice aB v.length aC)=Y at a⊢;obtain⟨l,rfl,aH⟩:=vD aJ;have aR:(strs l).length=l.length:=by simp[strs]
  rw[aR] at a⊢
  have bZ:Hid (A.sc.length+l.length<=20+A.i):=U (by
   have bT:=NK _ _ _ aH;have cB:=g.ps.zp;rw[bT.1]
   omega)
  have b6:Hid (r=.ok (d_ {kind:=8,names:=l,n:=u,right:=bb},{A with sc:=A.sc++l.map fun x=>⟨x,u,bb⟩})):=U (by
   have h:=aM.out;rw[nA] at h
   exact(f_ h).symm)
  clear aW bP I aJ aM Z g aH aR;have aW:Y.cell? ⟨rb,2,none⟩=some (.slice aB l.length aC):=a.c 1 2
  go_upto_block 11 with fail
  go_loopg [46] l.length (fun gk bL wr=>∃ Q k C d B J N L j,bL=.int .i64 (j:Nat)/\Hid (j+gk=l.length)/\Hid (Q={A with sc:=A.sc++(l.take j).map fun x=>⟨x,u,bb⟩})/\Hid (Tn G na nc fa fc w s k C d B N L)/\Hid (J.heap.size=w.heap.size/\Kn G.B No J N)/\Hid (Bd G (Mm G k d) k C d B J L [] [(aD,(lI G s bN bE bM bF)),(rb,#[.int .i64 8,.string ⟨#[]⟩,.slice aB l.length aC,.int .i64 u,.bool bb,.bool false,.slice none 0 0,.slice none 0 0,.slice none 0 0,.slice none 0 0,.slice none 0 0,.slice none 0 0,.slice none 0 0,.slice none 0 0])] [([.sl (strs l)],[.slice aB l.length aC])] wr Q))
  case atStart=>exact⟨A,na,nc,fa,fc,w,w,s,0,rfl,U ar,U ar,U (Tn.refl HP),U ⟨rfl,Kn.refl _ _ _⟩,a⟩
  case round=>
   obtain⟨Q,k,C,d,B,J,N,L,j,rfl,aT,W,aL,P,g⟩:=hrel;cases gk with
   |zero=>
    clear a aW;have aG:j=l.length:=ba aT.out
    subst aG;have cD:Q={A with sc:=A.sc++l.map fun x=>⟨x,u,bb⟩}:=by rw[W.out,Ej]
    clear W aT;subst cD
    go_upto_region 46 with fail
    obtain⟨cO,cP,cQ,cR,cS,cT,cU,cV,cW,cX,cH,cI,cJ,cK⟩:=xO (g.bx _ (.tail _ (.head _))).2.2;have cY:=g.f 1;cases b6.out
    go_wp2_with fail
    have R:=(g.add (nd:=d_ {kind:=8,names:=l,n:=u,right:=bb}) (cs:=[.int .i64 8,.string ⟨#[]⟩,.slice aB l.length aC,.int .i64 u,.bool bb,.bool false,.slice none 0 0,.slice none 0 0,.slice none 0 0,.slice none 0 0,.slice none 0 0,.slice none 0 0,.slice none 0 0,.slice none 0 0]) ((j9 (g.t 0).hd aa aa aa aa aa aa aa aa))).store 1 [.int .i64 8,.string ⟨#[]⟩,.slice aB l.length aC,.int .i64 u,.bool bb,.bool false,.slice none 0 0,.slice none 0 0,.slice none 0 0,.slice none 0 0,.slice none 0 0,.slice none 0 0,.slice none 0 0,.slice none 0 0];change bodyPost _ _ _ _ _ (wr.setCells rb 0 [.int .i64 8,.string ⟨#[]⟩,.slice aB l.length aC,.int .i64 u,.bool bb,.bool false,.slice none 0 0,.slice none 0 0,.slice none 0 0,.slice none 0 0,.slice none 0 0,.slice none 0 0,.slice none 0 0,.slice none 0 0]);generalize wr.setCells rb 0 _=cZ at R⊢;refine oI (R.bx _ (.tail _ (.head _))) ⟨k,C,d,B,_,rfl,Tn.ue HP aL P.1 P.2 R,_,_,_,_,_,_,_,_,_,_,_,_,_,_,_,_,_,_,_,_,_,_,_,_,_,_,_,_,_,_,_,_,rfl,(R.t 0).on (Kb.refl _ _) fun b cC=>cC.imp id fun q=>⟨ba P.1,q.2.1,fun m=>q.2.2 (.inr ⟨m,q.1⟩)⟩⟩
   |succ m=>
    have aG:j<l.length:=ba aT.out
    obtain⟨x,bK⟩:∃ x,l[j]?=some x:=⟨_,fv aG⟩;obtain⟨b,o,rfl,aI⟩:=vC (g.t 0).hd j x bK;have bA:=U bK;clear bK
    have aK:Hid (Q.sc.length+1<=20+Q.i/\j<100000):=U (by
     have bT:=bZ.out;have cB:=a.ps.il;have cN:=hG.k0;rw[W.out];simp
     omega)
    clear a aW;have cE:=aK.2
    go_upto_region 13 with fail
    refine b3 (S:=fun aV=>aV.cell? ⟨rb,3,none⟩=some (.int .i64 u)/\aV.cell? ⟨rb,4,none⟩=some (.bool bb)) (T:=fun j=>j==9) aq ?_;have z:=U g.drew;generalize wr.drew=aU at z⊢;have y:aU.cell? ⟨rb,3,none⟩=some (.int .i64 u)/\aU.cell? ⟨rb,4,none⟩=some (.bool bb):=⟨z.c 1 3,z.c 1 4⟩;refine tl 0 y ?_;refine tl 1 y ?_;refine tl 2 y ?_;refine tl 3 y ?_;refine tl 4 y ?_;refine tl 5 y ?_;refine tl 6 y ?_;refine tl 7 y ?_;refine tl 8 y ?_;refine cw 9 fun K hK=>?_;go_simp;refine(EJ hG z.ps aK.1 x u bb).mono ?_;rintro e cL ⟨rfl,E,H,D,F,bX⟩;obtain⟨bO,bR,bS,aE⟩:=z.LX HP aL P.1 P.2 bX;have aZ:=U bR;have bD:=U bS;have aE:=U aE;clear bX bR bS;refine oZ hK ?_;clear hK K y;refine bj aq ?_ _
    go_wp2_with fail
    go_roundg m
    case measure=>omega
    case rel=>exact⟨_,E,H,D,F,bO,cL,_,j+1,ar,U (ba aT.out),U (by rw[W.out,List.take_add_one,bA.out];simp),aZ,bD,aE⟩):p:=h
theorem C6(hG:ei G)(NI:qM G.X)(NJ:gu G 78 (bq G) (jn f.jK))(NK:∀ s l d,f.jK s=some (.ok (l,d))->d.sc=s.sc/\s.i+l.length<=d.i):FD G 23 #[.pointer (some ⟨G.bp,0,none⟩),.string ⟨([105,110,102,105,120]:List UInt8).toArray⟩] fw (ga G.X>>=fun g=>f.jK>>=fun l=>jh l g false>>=fun _=>pure (d_ {kind:=8,names:=l,n:=g,right:=false})):=by
 intro na nc fa fc w s r c e;have a:=Bd.start c;have HP:=U c;have HX:=U e;clear e c;go_enter Tryz.func23,Tryz.ntmps23
 go_upto_region 1 with fail
 have a:=U (a.box q8 42);obtain⟨rb,b⟩:∃ rb,w.heap.size=rb:=⟨_,rfl⟩;generalize w.alloc _=u at a⊢;rw[b] at a⊢;clear b;have h:u.cell? ⟨rb,0,none⟩=some (.int .i64 0):=a.c 0 0;have j:u.cell? ⟨rb,4,none⟩=some (.bool false):=a.c 0 4;have k:=a.f 0
 go_upto_region 3 with fail
 have II:=U ((a.eu 0 (.int .i64 8)).eu 4 (.bool false));generalize (u.setCell ⟨rb,0,none⟩ (.int .i64 8)).setCell ⟨rb,4,none⟩ (.bool false)=NH at II⊢;clear h j k a;obtain⟨bb,KF⟩:∃ bb,false=bb:=⟨_,rfl⟩;exact A0
theorem A1(hG:ei G)(NI:qM G.X)(NJ:gu G 78 (bq G) (jn f.jK))(NK:∀ s l d,f.jK s=some (.ok (l,d))->d.sc=s.sc/\s.i+l.length<=d.i):FD G 23 #[.pointer (some ⟨G.bp,0,none⟩),.string ⟨([105,110,102,105,120,114]:List UInt8).toArray⟩] fw (ga G.X>>=fun g=>f.jK>>=fun l=>jh l g true>>=fun _=>pure (d_ {kind:=8,names:=l,n:=g,right:=true})):=by
 intro na nc fa fc w s r c e;have a:=Bd.start c;have HP:=U c;have HX:=U e;clear e c;go_enter Tryz.func23,Tryz.ntmps23
 go_upto_region 1 with fail
 have a:=U (a.box q8 42);obtain⟨rb,b⟩:∃ rb,w.heap.size=rb:=⟨_,rfl⟩;generalize w.alloc _=u at a⊢;rw[b] at a⊢;clear b;have h:u.cell? ⟨rb,0,none⟩=some (.int .i64 0):=a.c 0 0;have j:u.cell? ⟨rb,4,none⟩=some (.bool false):=a.c 0 4;have k:=a.f 0
 go_upto_region 3 with fail
 have II:=U ((a.eu 0 (.int .i64 8)).eu 4 (.bool true));generalize (u.setCell ⟨rb,0,none⟩ (.int .i64 8)).setCell ⟨rb,4,none⟩ (.bool true)=NH at II⊢;clear h j k a;obtain⟨bb,KF⟩:∃ bb,true=bb:=⟨_,rfl⟩;exact A0
end
end Go.Proofs.YtkblonfmjlopaaaGreatDoor
