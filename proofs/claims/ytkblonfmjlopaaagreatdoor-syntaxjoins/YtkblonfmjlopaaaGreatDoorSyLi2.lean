/-
  Depths of nodes, walked; the shapes of what has a depth.
-/
import Derived.Test.YtkblonfmjlopaaaGreatDoorSzDl
set_option linter.all false
set_option maxRecDepth 1000000
set_option maxHeartbeats 16000000
namespace Go.Proofs.YtkblonfmjlopaaaGreatDoor
open Go Go.RowKit
variable {sc t:List Fx}{B c:Nat}{a:Option Addr}
theorem E2(w:World):∀ (l:List Nat) (x:Nat),(List.foldlM (m:=Sem) Builtin.max2 (.int .i64 (x:Nat)) (l.map fun y=>.int .i64 (y:Nat))).run Tryz.prog w=.ok (.int .i64 ((l.foldl max x:Nat):Int)) w
 |[],x=>rfl
 |y::l,x=>by
  have e:(Builtin.max2 (.int .i64 (x:Nat)) (.int .i64 (y:Nat))).run Tryz.prog w=.ok (.int .i64 ((max x y:Nat):Int)) w:=by
   have a:(if(y:Int)>(x:Int) then(y:Int) else(x:Int))=((max x y:Nat):Int):=by split<;>omega
   rw[<-a]
   rfl
  rw[List.map_cons,List.foldlM_cons,Sem.run_bind,e];exact E2 w l (max x y)
theorem yq(a:Array TypeId)(t:TypeId)(x:Nat)(l:List Nat)(w:World):(Builtin.max_ a t ((.int .i64 (x:Nat))::l.map fun y=>.int .i64 (y:Nat)).toArray).run Tryz.prog w=.ok (.int .i64 ((l.foldl max x:Nat):Int)) w:=E2 w l x
theorem kL{p:Prop}(h:p:=by
 cases n with
 |zero=>cases h
 |succ n=>
 unfold dep at h;simp only [] at h
 split at h
 case h_2=>cases h
 (repeat (first|(have q:=hr.v;clear hr;obtain⟨_,rfl,hr⟩:=q)|(have q:=hr.ls;clear hr;obtain⟨_,_,_,rfl,hr,_⟩:=q)|(have q:=hr.bg;clear hr;obtain⟨_,_,_,_,_,rfl,hr⟩:=q)));obtain rfl:=hr.nl;exact⟨rfl,List.all_eq_true.1 rfl⟩):p:=h
theorem ey.row{w:World}{F:Nat->Prop}{l:List Nd}{m:Nat}(h:ey w F l (.slice a m c)):b8 w F (.sl l) [.slice a m c]:=by
 obtain⟨b,d,e,h⟩:=h;cases e;exact h
theorem sN{w:World}{F:Nat->Prop}:∀ (a:List Tr) (b:List Tr) (cs:List Value),ah w F (a++b) cs->∃ c c2,cs=c++c2/\ah w F a c/\ah w F b c2
 |[],b,cs,h=>⟨[],cs,rfl,gO,h⟩
 |t::a,b,cs,h=>by
  rw[uI] at h;unfold ah at h;obtain⟨c,c2,rfl,i,j⟩:=h;obtain⟨d,e,rfl,f,g⟩:=sN a b c2 j;refine⟨c++d,e,by rw[q'],?_,g⟩;unfold ah;exact⟨c,d,rfl,i,f⟩
section
variable {n:Nat} {w:World} {F:Nat->Prop} {nd:Nd} {d:Nat} {cs:List Value}
theorem kx.app{m k:Nat}{c1 a:List Value}(b:kx m c1)(c:kx k a):kx (m+k) (c1++a):=⟨by rw[iQ,b.1,c.1],fun v d=>(List.mem_append.1 d).elim (b.2 v) (c.2 v)⟩
theorem K2(h:dep n .ty nd=some d)(hr:ah w F nd cs):kx 4 cs:=kL
theorem wq(h:dep n .pat nd=some d)(hr:ah w F nd cs):kx 9 cs:=kL
theorem pR(h:dep n .exp nd=some d)(hr:ah w F nd cs):kx 12 cs:=kL
theorem vm(h:dep n .dec nd=some d)(hr:ah w F nd cs):kx 14 cs:=kL
theorem K3(h:dep n .fn nd=some d)(hr:ah w F nd cs):kx 3 cs:=kL
theorem Gw(h:dep n .data nd=some d)(hr:ah w F nd cs):kx 3 cs:=kL
theorem Jf(h:dep n .o3 nd=some d)(hr:ah w F nd cs):kx 2 cs:=kL
theorem Jg(h:dep n .sig nd=some d)(hr:ah w F nd cs):kx 2 cs:=kL
theorem Gx(h:dep n .spec nd=some d)(hr:ah w F nd cs):kx 6 cs:=kL
theorem BD(h:dep n .clause nd=some d)(e:ah w F nd cs):kx 13 cs:=by
 cases n with
 |zero=>cases h
 |succ n=>
 unfold dep at h;simp only [] at h
 split at h
 case h_2=>cases h
 obtain⟨_,_,_,b,rfl⟩:=e_ h;obtain⟨a,c,_,rfl,f,_⟩:=e.ls;exact kx.app (c1:=[.slice a _ c]) ⟨rfl,List.all_eq_true.1 rfl⟩ (pR b f)
theorem Gy(h:dep n .jV nd=some d)(a:ah w F nd cs):kx 21 cs:=by
 cases n with
 |zero=>cases h
 |succ n=>
 obtain⟨_,_,b,c,rfl⟩:=e_ (show max2 (dep n .pat (nd.take 8)) (dep n .exp (nd.drop 8))=some d from h);rw[<-Ea 8 nd] at a;obtain⟨g,c2,rfl,e,f⟩:=sN _ _ _ a;exact kx.app (wq b e) (pR c f)
end
structure DN(w:World)(cs:List Value)(v:World):Prop where
 b:Below w.heap.size w v
 k:w.heap.size<v.heap.size
 r:v.rangeAt w.heap.size 0 cs
section
variable {w v b W:World} {F:Nat->Prop} {cs:List Value} {k I m:Nat} {one:Nd->Option Nat}
theorem DN.new(w:World)(cs:List Value)(T:TypeId):DN w cs (w.alloc (.cells cs.toArray T)):=⟨ab w _,ar,(cc.new w cs.toArray T).range⟩
theorem DN.bl(h:DN w cs v)(a:Below v.heap.size v b):DN w cs b:=⟨h.b.trans (a.mono h.b.size),gi h.k a.size,fun j x c=>(a.cell (p:=⟨w.heap.size,0+j,none⟩) h.k).trans (h.r j x c)⟩
theorem ji.st{l:List Nd}(h:ji k I one)(d:DN w cs W)(o:Hid (ey w F l (.slice a l.length c)))(f:∀ b,F b->b<w.heap.size)(n:eW one l 0=some m)(g:m<=1000000000000000000):Calls Tryz.prog k #[.slice a l.length c,.func (.func I) #[] #[]] W fun e w2=>e=.returned (.int .i64 (m:Nat))/\Hid (DN w cs w2):=
 (h _ F l _ m (o.on (Kb.of d.b f) fun b q=>q) (fun b q=>gi (f b q) d.b.size) n g).mono fun e w2 ⟨j,i⟩=>⟨j,U (d.bl i)⟩
theorem iP.st{nd:Nd}{c:List Value}(h:iP k one)(a:DN w cs W)(l:Hid (ah w F nd c))(d:∀ b,F b->b<w.heap.size)(j:one nd=some m)(f:m<=1000000000000000000):Calls Tryz.prog k #[.agg c.toArray] W fun e w2=>e=.returned (.int .i64 (m:Nat))/\Hid (DN w cs w2):=
 (h _ F nd c m (l.on (Kb.of a.b d) fun b q=>q) (fun b q=>gi (d b q) a.b.size) j f).mono fun e w2 ⟨i,g⟩=>⟨i,U (a.bl g)⟩
variable {P:Program} {e:Array Oper} {Q:Exit->Act->World->Prop} {f:Region.Mode}
theorem yr{d:Nat}{a:Act}(c:DN w cs W)(h:∀ v,Hid (DN w cs v)->gb P .any e Q (fun v=>v.rangeAt w.heap.size 0 cs) (fun _=>false) e.size (Array.replicate e.size false) a v)(b:P.follows .mixedOrders=true:=by kernel_rfl):(Code.region d e true).wp P Q a W:=b3 b (h _ (U (c.bl (eA _ _).drew)))
theorem qj(i j:Nat){b:Nat}{x:Value}{g:Oper}{L l:Array Bool}{a n:Act}(s:v.rangeAt b 0 cs)(h:gb P f e Q (fun v=>v.rangeAt b 0 cs) (fun _=>false) m l n v)(hj:cs[j]?=some x:=by rw[<-hc];rfl)
 (y:e[i]?=some g:=by rfl)(B:∀ d:World,d.cell? ⟨b,j,none⟩=some x->(execOp a.eval g).run P d=.ok (.value x) d:=by intro d o;go_simp;try with_reducible rfl)(A:Region.noSelect e=true:=by kernel_rfl)(u:Region.free f e L i=true:=by kernel_rfl)(z:(Region.ready f e L).contains i=true:=by kernel_rfl)(C:lW f e (fun _=>false) i=true:=by kernel_rfl)(q:l4 f e L i=true:=by kernel_rfl)
 (r:∀ c a w,Q (.panic c) (a.put g.dst x) w->Q (.panic c) a w:=by exact fun _ _ _ h=>h)(k:Region.wanted g (yielded e a.tmps)=true:=by rfl)
 (p:L.setIfInBounds i true=l:=by(try simp only[List.setIfInBounds_toArray,List.set_cons_zero,List.set_cons_succ]);(try rfl))(t:a.put g.dst x=n:=by(try simp only[Act.put,List.getElem_toArray,List.getElem_cons_zero,List.getElem_cons_succ,List.setIfInBounds_toArray,List.set_cons_zero,List.set_cons_succ]);(try rfl)):gb P f e Q (fun v=>v.rangeAt b 0 cs) (fun _=>false) (m+1) L a v:=
 tq i s h y A u z C q r (mq ⟨k,fun d o=>B d (by have:=o j x hj;rwa[gW] at this)⟩) p t
theorem K4(i o:Nat){b:Nat}{x:Operand}{k:TypeId}{g:Oper}{L r:Array Bool}{a s:Act}(c:List Value)(C:v.rangeAt b 0 cs)(h:gb P f e Q (fun v=>v.rangeAt b 0 cs) (fun _=>false) m r s v)(E:∀ j,j<c.length->cs[o+j]?=c[j]?)(J:(P.info? k).map (·.size)=some c.length)
 (H:e[i]?=some g:=by rfl)(M:g.op=.load k x:=by rfl)(F:a.eval x=.pointer (some ⟨b,o,none⟩):=by rfl)(l:(P.underlying k).map TypeDesc.isRow=some true:=by kernel_rfl)(R:Region.noSelect e=true:=by kernel_rfl)(G:Region.free f e L i=true:=by kernel_rfl)(N:(Region.ready f e L).contains i=true:=by kernel_rfl)(p:lW f e (fun _=>false) i=true:=by kernel_rfl)(A:l4 f e L i=true:=by kernel_rfl)
 (B:∀ t a w,Q (.panic t) (a.put g.dst (.agg c.toArray)) w->Q (.panic t) a w:=by exact fun _ _ _ h=>h)(q:Region.wanted g (yielded e a.tmps)=true:=by rfl)
 (z:L.setIfInBounds i true=r:=by(try simp only[List.setIfInBounds_toArray,List.set_cons_zero,List.set_cons_succ]);(try rfl))(D:a.put g.dst (.agg c.toArray)=s:=by(try simp only[Act.put,List.getElem_toArray,List.getElem_cons_zero,List.getElem_cons_succ,List.setIfInBounds_toArray,List.set_cons_zero,List.set_cons_succ]);(try rfl)):gb P f e Q (fun v=>v.rangeAt b 0 cs) (fun _=>false) (m+1) L a v:=by
 rcases n:P.underlying k with _|d
 ·rw[n] at l;cases l
 ·rw[n] at l;exact tq i C h H R G N p A B (yieldsIf_load_mid q k x M b o F c d (fun w p j y u=>by have I:=(List.getElem?_eq_some_iff.1 u).1;have:=p (o+j) y (by rw[E j I];exact u);rwa[gW] at this) n (f_ l) J) z D
end
section
set_option maxRecDepth 100000
set_option maxHeartbeats 8000000
theorem qb{p:Prop}(h:p:=by
 intro w F nd cs d a g h j;unfold dep at h;simp only [] at h
 split at h
 case h_2=>cases h
 (repeat (first|(have q:=a.v;clear a;obtain⟨_,rfl,a⟩:=q)|(have q:=a.ls;clear a;obtain⟨_,_,_,rfl,a,k⟩:=q)));obtain rfl:=a.nl
 have m:=U h0;have l:=U h;have o:=U k;have f:=U g;have n:=U j;clear g j a k h h0
 first|go_enter Tryz.func82,Tryz.ntmps82|go_enter Tryz.func33,Tryz.ntmps33|go_enter Tryz.func35,Tryz.ntmps35|go_enter Tryz.func37,Tryz.ntmps37
 go_wp2_with ((first|go_at_call 24|go_at_call 81|go_at_call 30|go_at_call 38);refine(m.out _ F _ _ d (o.on (Kb.of (ab w _) f) fun b q=>q) (fun b q=>gi (f.out b q) (ab w _).size) l (ba n.out)).mono ?_;rintro e w2 ⟨rfl,i⟩;have c:=U ((ab w _).trans (i.mono (ab w _).size));clear i)
 exact bodyPost_ret (v:=.int .i64 (d:Nat)) (by simp[results,Tryz.results82,Tryz.results33,Tryz.results35,Tryz.results37,go_sem]) rfl ⟨rfl,c.out⟩):p:=h
theorem Jh(n:Nat)(h0:ji 24 25 (dep n .ty)):iP 82 (dep (n+1) .o3):=qb
theorem Gz(n:Nat)(h0:ji 81 82 (dep n .o3)):iP 33 (dep (n+1) .data):=qb
theorem Ji(n:Nat)(h0:ji 30 31 (dep n .spec)):iP 35 (dep (n+1) .sig):=qb
theorem K5(n:Nat)(h0:ji 38 39 (dep n .clause)):iP 37 (dep (n+1) .fn):=qb
theorem K6(n:Nat)(f:ji 24 25 (dep n .ty)):iP 25 (dep (n+1) .ty):=by
 intro w F nd cs d a g h i;unfold dep at h;simp only [] at h
 split at h
 case h_2=>cases h
 obtain⟨p,c,rfl⟩:=k6 h;(repeat (first|(have q:=a.v;clear a;obtain⟨_,rfl,a⟩:=q)|(have q:=a.ls;clear a;obtain⟨_,_,_,rfl,a,j⟩:=q;replace j:=U j)));obtain rfl:=a.nl
 have l:=U f;have k:=U c;have m:=U g;have b:=U i;clear g i a h c f
 go_enter Tryz.func25,Tryz.ntmps25
 go_wp2_with (go_at_call 24;refine(l.st (DN.new w _ 78) jW m k (ba b.out)).mono ?_;rintro e w2 ⟨rfl,o⟩)
 exact bodyPost_ret (v:=.int .i64 (1+p:Nat)) (by simp[results,Tryz.results25,go_sem];try exact IntWalk.wrap64_in _ (ba b.out)) rfl ⟨rfl,o.b⟩
theorem Jj(n:Nat)(l:ji 26 27 (dep n .pat))(m:ji 24 25 (dep n .ty)):iP 27 (dep (n+1) .pat):=by
 intro w F nd cs d b p h r;unfold dep at h;simp only [] at h
 obtain⟨g,hc⟩:∃ g,cs=g:=⟨_,rfl⟩;rw[hc]
 split at h
 case h_2=>cases h
 obtain⟨_,t,rfl⟩:=k6 h;obtain⟨c,m1,j,k,rfl⟩:=e_ t;(repeat (first|(have q:=b.v;clear b;obtain⟨_,rfl,b⟩:=q)|(have q:=b.ls;clear b;obtain⟨_,_,_,rfl,b,s⟩:=q;replace s:=U s)|(have q:=b.bg;clear b;obtain⟨_,_,_,_,_,rfl,b⟩:=q)));obtain rfl:=b.nl
 have y:=U l;have u:=U j;have z:=U m;have x:=U k;have i:=U p;have f:=U r;clear p r b h t j l k m
 go_enter Tryz.func27,Tryz.ntmps27
 go_upto_region 1 with fail
 refine yr (DN.new w g 82) fun v a=>?_
 refine tq 0 a.r ?_;refine qj 1 7 a.r ?_;refine tq 3 a.r ?_;refine qj 4 8 a.r ?_
 refine cw 2 fun K hK=>?_;go_simp;refine(y.st a jW i u (ba f.out)).mono ?_;rintro e w2 ⟨rfl,a⟩;refine nx hK a.r ?_;clear hK K
 refine cw 5 fun K hK=>?_;go_simp;refine(z.st a jW i x (ba f.out)).mono ?_;rintro e o ⟨rfl,a⟩;refine nx hK a.r ?_;clear hK K
 refine tq 6 a.r ?_;refine tq 7 a.r ?_;refine tq 8 a.r ?_;refine bj aq ?_ _
 go_wp2_with fail
 have A:IntKind.i64.wrap (1+max (c:Int) (m1:Int))=1+((max c m1:Nat):Int):=by
  rw[show max (c:Int) (m1:Int)=((max c m1:Nat):Int) from O];exact gv _ (ba f.out)
 exact bodyPost_ret (v:=.int .i64 (1+max c m1:Nat)) (by simp[results,Tryz.results27,go_sem];try exact A) rfl ⟨rfl,a.b⟩
theorem Jk(n:Nat)(z:ji 28 29 (dep n .exp))(A:ji 24 25 (dep n .ty))(B:ji 14 15 (dep n .dec))(C:ji 79 80 (dep n .jV)):iP 29 (dep (n+1) .exp):=by
 intro w F nd cs d b D h E;unfold dep at h;simp only [] at h
 obtain⟨s,hc⟩:∃ s,cs=s:=⟨_,rfl⟩;rw[hc]
 split at h
 case h_2=>cases h
 obtain⟨_,H,rfl⟩:=k6 h;obtain⟨_,p,k,y,rfl⟩:=e_ H;obtain⟨_,m2,j,x,rfl⟩:=e_ k;obtain⟨m,m1,t,u,rfl⟩:=e_ j;(repeat (first|(have q:=b.v;clear b;obtain⟨_,rfl,b⟩:=q)|(have q:=b.ls;clear b;obtain⟨_,_,_,rfl,b,G⟩:=q;replace G:=U G)|(have q:=b.bg;clear b;obtain⟨_,_,_,_,_,rfl,b⟩:=q)));obtain rfl:=b.nl
 have N:=U z;have I:=U t;have P:=U A;have J:=U u;have Q:=U B;have L:=U x;have R:=U C;have M:=U y;have l:=U D;have g:=U E;clear D E b h H k j t z u A x B y C
 go_enter Tryz.func29,Tryz.ntmps29
 go_upto_region 1 with fail
 refine yr (DN.new w s 87) fun v a=>?_
 refine tq 0 a.r ?_;refine qj 1 8 a.r ?_;refine tq 3 a.r ?_;refine qj 4 11 a.r ?_;refine tq 6 a.r ?_;refine qj 7 10 a.r ?_;refine tq 9 a.r ?_;refine qj 10 9 a.r ?_
 refine cw 2 fun K hK=>?_;go_simp;refine(N.st a jW l I (ba g.out)).mono ?_;rintro e w2 ⟨rfl,a⟩;refine nx hK a.r ?_;clear hK K
 refine cw 5 fun K hK=>?_;go_simp;refine(P.st a jW l J (ba g.out)).mono ?_;rintro e o ⟨rfl,a⟩;refine nx hK a.r ?_;clear hK K
 refine cw 8 fun K hK=>?_;go_simp;refine(Q.st a jW l L (ba g.out)).mono ?_;rintro e X ⟨rfl,a⟩;refine nx hK a.r ?_;clear hK K
 refine cw 11 fun K hK=>?_;go_simp;refine(R.st a jW l M (ba g.out)).mono ?_;rintro e Y ⟨rfl,a⟩;refine nx hK a.r ?_;clear hK K
 obtain⟨c,i⟩:∃ c:Nat,c=[m1,m2,p].foldl max m:=⟨_,rfl⟩;have f:=U i;clear i
 refine tq 12 (v:=.int .i64 (c:Nat)) a.r ?_ (hy:=by refine mq ⟨by rfl,?_⟩;intro T W;go_simp;exact(congrArg (fun r=>Result.andThen r _) (yq _ _ m [m1,m2,p] T)).trans (by rw[<-f.out];rfl));refine tq 13 a.r ?_;refine tq 14 a.r ?_;refine bj aq ?_ _
 go_wp2_with fail
 have S:IntKind.i64.wrap (1+(c:Int))=1+(c:Int):=gv _ (by have:=g.out;have:c=max (max (max (m) m1) m2) p:=f.out;omega)
 exact bodyPost_ret (v:=.int .i64 ((1+c:Nat):Int)) (by simp[results,Tryz.results29,go_sem];try exact S) rfl ⟨by rw[show c=max (max (max (m) m1) m2) p from f.out],a.b⟩
theorem Jl(n:Nat)(N:ji 24 25 (dep n .ty))(P:ji 14 15 (dep n .dec))(Q:ji 26 27 (dep n .pat))(R:ji 28 29 (dep n .exp))(S:ji 30 31 (dep n .spec))(T:ji 32 33 (dep n .data))(W:ji 34 35 (dep n .sig))(X:ji 36 37 (dep n .fn)):iP 15 (dep (n+1) .dec):=by
 intro w F nd cs d b Y h Z;unfold dep at h;simp only [] at h
 obtain⟨C,hc⟩:∃ C,cs=C:=⟨_,rfl⟩;rw[hc]
 split at h
 case h_2=>cases h
 obtain⟨_,aB,rfl⟩:=k6 h;obtain⟨_,B,t,M,rfl⟩:=e_ aB;obtain⟨_,A,s,L,rfl⟩:=e_ t;obtain⟨_,z,p,J,rfl⟩:=e_ s;obtain⟨_,y,m,I,rfl⟩:=e_ p;obtain⟨_,x,l,H,rfl⟩:=e_ m;obtain⟨_,m2,k,G,rfl⟩:=e_ l;obtain⟨u,m1,D,E,rfl⟩:=e_ k;(repeat (first|(have q:=b.v;clear b;obtain⟨_,rfl,b⟩:=q)|(have q:=b.ls;clear b;obtain⟨_,_,_,rfl,b,aA⟩:=q;replace aA:=U aA)|(have q:=b.bg;clear b;obtain⟨_,_,_,_,_,rfl,b⟩:=q)));obtain rfl:=b.nl
 have aK:=U N;have aC:=U D;have aL:=U P;have aD:=U E;have aM:=U Q;have aE:=U G;have aN:=U R;have aF:=U H;have aO:=U S;have aG:=U I;have aP:=U T;have aH:=U J;have aQ:=U W;have aI:=U L;have aR:=U X;have aJ:=U M;have f:=U Y;have c:=U Z;clear Y Z b h aB t s p m l k D N E P G Q H R I S J T L W M X
 go_enter Tryz.func15,Tryz.ntmps15
 go_upto_region 1 with fail
 refine yr (DN.new w C 42) fun v a=>?_
 refine tq 0 a.r ?_;refine qj 1 10 a.r ?_;refine tq 3 a.r ?_;refine qj 4 11 a.r ?_;refine tq 6 a.r ?_;refine qj 7 6 a.r ?_;refine tq 9 a.r ?_;refine qj 10 7 a.r ?_;refine tq 12 a.r ?_;refine qj 13 13 a.r ?_;refine tq 15 a.r ?_;refine qj 16 9 a.r ?_;refine tq 18 a.r ?_;refine qj 19 12 a.r ?_;refine tq 21 a.r ?_;refine qj 22 8 a.r ?_
 refine cw 2 fun K hK=>?_;go_simp;refine(aK.st a jW f aC (ba c.out)).mono ?_;rintro e w2 ⟨rfl,a⟩;refine nx hK a.r ?_;clear hK K
 refine cw 5 fun K hK=>?_;go_simp;refine(aL.st a jW f aD (ba c.out)).mono ?_;rintro e o ⟨rfl,a⟩;refine nx hK a.r ?_;clear hK K
 refine cw 8 fun K hK=>?_;go_simp;refine(aM.st a jW f aE (ba c.out)).mono ?_;rintro e aW ⟨rfl,a⟩;refine nx hK a.r ?_;clear hK K
 refine cw 11 fun K hK=>?_;go_simp;refine(aN.st a jW f aF (ba c.out)).mono ?_;rintro e aX ⟨rfl,a⟩;refine nx hK a.r ?_;clear hK K
 refine cw 14 fun K hK=>?_;go_simp;refine(aO.st a jW f aG (ba c.out)).mono ?_;rintro e aY ⟨rfl,a⟩;refine nx hK a.r ?_;clear hK K
 refine cw 17 fun K hK=>?_;go_simp;refine(aP.st a jW f aH (ba c.out)).mono ?_;rintro e aZ ⟨rfl,a⟩;refine nx hK a.r ?_;clear hK K
 refine cw 20 fun K hK=>?_;go_simp;refine(aQ.st a jW f aI (ba c.out)).mono ?_;rintro e b6 ⟨rfl,a⟩;refine nx hK a.r ?_;clear hK K
 refine cw 23 fun K hK=>?_;go_simp;refine(aR.st a jW f aJ (ba c.out)).mono ?_;rintro e bA ⟨rfl,a⟩;refine nx hK a.r ?_;clear hK K
 obtain⟨g,j⟩:∃ g:Nat,g=[m1,m2,x,y,z,A,B].foldl max u:=⟨_,rfl⟩;have i:=U j;clear j
 refine tq 24 (v:=.int .i64 (g:Nat)) a.r ?_ (hy:=by refine mq ⟨by rfl,?_⟩;intro aU aV;go_simp;exact(congrArg (fun r=>Result.andThen r _) (yq _ _ u [m1,m2,x,y,z,A,B] aU)).trans (by rw[<-i.out];rfl));refine tq 25 a.r ?_;refine tq 26 a.r ?_;refine bj aq ?_ _
 go_wp2_with fail
 have aT:IntKind.i64.wrap (1+(g:Int))=1+(g:Int):=gv _ (by have:=c.out;have:g=max (max (max (max (max (max (max (u) m1) m2) x) y) z) A) B:=i.out;omega)
 exact bodyPost_ret (v:=.int .i64 ((1+g:Nat):Int)) (by simp[results,Tryz.results15,go_sem];try exact aT) rfl ⟨by rw[show g=max (max (max (max (max (max (max (u) m1) m2) x) y) z) A) B from i.out],a.b⟩
theorem BE(n:Nat)(m:ji 26 27 (dep n .pat))(p:iP 29 (dep n .exp)):iP 39 (dep (n+1) .clause):=by
 intro w F nd cs d f q h r;unfold dep at h;simp only [] at h
 split at h
 case h_2=>cases h
 obtain⟨B,m1,l,g,rfl⟩:=e_ h;obtain⟨a,c,z,rfl,f,s⟩:=f.ls;have A:=(pR g f).1;replace s:=U s;replace f:=U f
 have x:=U m;have t:=U l;have y:=U p;have u:=U g;have k:=U q;have i:=U r;clear q r h l m g p
 go_enter Tryz.func39,Tryz.ntmps39
 go_upto_region 1 with fail
 refine yr (DN.new w _ 105) fun v b=>?_
 refine tq 0 b.r ?_;refine qj 1 0 b.r ?_ (hj:=rfl);refine tq 3 b.r ?_;refine K4 4 1 z b.r ?_ (fun j hj=>by rw[ra];rfl) (by rw[A];kernel_rfl)
 refine cw 2 fun K hK=>?_;go_simp;refine(x.st b jW k t (ba i.out)).mono ?_;rintro e w2 ⟨rfl,b⟩;refine nx hK b.r ?_;clear hK K
 refine cw 5 fun K hK=>?_;go_simp;refine(y.st b jW k u (ba i.out)).mono ?_;rintro e o ⟨rfl,b⟩;refine nx hK b.r ?_;clear hK K
 refine tq 6 b.r ?_;refine tq 7 b.r ?_;refine bj aq ?_ _
 go_wp2_with fail
 exact bodyPost_ret (v:=.int .i64 (max B m1:Nat)) (by simp[results,Tryz.results39,go_sem];try omega) rfl ⟨rfl,b.b⟩
theorem GA(n:Nat)(k:ji 24 25 (dep n .ty))(l:iP 33 (dep n .data)):iP 31 (dep (n+1) .spec):=by
 intro w F nd cs d q m h p;unfold dep at h;simp only [] at h
 split at h
 case h_2=>cases h
 rename_i X Y P s Q W;obtain⟨_,r,rfl⟩:=k6 h;obtain⟨b,m1,g,i,rfl⟩:=e_ r;obtain⟨_,rfl,t⟩:=q.v;obtain⟨_,rfl,u⟩:=t.v;obtain⟨J,c2,_,rfl,x,D⟩:=u.ls;obtain⟨_,rfl,y⟩:=x.v;obtain⟨L,M,_,rfl,z,C⟩:=y.ls;obtain⟨R,S,_,rfl,A,B⟩:=z.ls;obtain rfl:=A.nl
 have T:=U (cr D.row (ej (.string s) (cr C.row gO)));replace B:=U B;clear D C t u x y z A q r
 have H:=U k;have E:=U g;have I:=U l;have G:=U i;have f:=U m;have c:=U p;clear m p h g k i l
 go_enter Tryz.func31,Tryz.ntmps31
 go_upto_region 1 with fail
 refine yr (DN.new w _ 94) fun v a=>?_
 refine tq 0 a.r ?_;refine qj 1 5 a.r ?_ (hj:=rfl);refine tq 3 a.r ?_;refine K4 4 2 [.slice J P.length c2,.string s,.slice L Q.length M] a.r ?_ (fun j hj=>by match j,hj with|0,_=>rfl|1,_=>rfl|2,_=>rfl) aq
 refine cw 2 fun K hK=>?_;go_simp;refine(H.st a jW f E (ba c.out)).mono ?_;rintro e w2 ⟨rfl,a⟩;refine nx hK a.r ?_;clear hK K
 refine cw 5 fun K hK=>?_;go_simp;refine(I.st a jW f G (ba c.out)).mono ?_;rintro e o ⟨rfl,a⟩;refine nx hK a.r ?_;clear hK K
 refine tq 6 a.r ?_;refine tq 7 a.r ?_;refine tq 8 a.r ?_;refine bj aq ?_ _
 go_wp2_with fail
 have N:IntKind.i64.wrap (1+max (b:Int) (m1:Int))=1+((max b m1:Nat):Int):=by
  rw[show max (b:Int) (m1:Int)=((max b m1:Nat):Int) from O];exact gv _ (ba c.out)
 exact bodyPost_ret (v:=.int .i64 (1+max b m1:Nat)) (by simp[results,Tryz.results31,go_sem];try exact N) rfl ⟨rfl,a.b⟩
theorem GB(n:Nat)(m:iP 27 (dep n .pat))(p:iP 29 (dep n .exp)):iP 80 (dep (n+1) .jV):=by
 intro w F nd cs d i q h r
 obtain⟨C,m1,b,c,rfl⟩:=e_ (show max2 (dep n .pat (nd.take 8)) (dep n .exp (nd.drop 8))=some d from h);rw[<-Ea 8 nd] at i;obtain⟨A,c2,rfl,f,g⟩:=sN _ _ _ i;have t:=(wq b f).1;have B:=(pR c g).1;replace f:=U f;replace g:=U g;clear i
 have y:=U m;have u:=U b;have z:=U p;have x:=U c;have l:=U q;have k:=U r;clear q r h b m c p
 go_enter Tryz.func80,Tryz.ntmps80
 go_upto_region 1 with fail
 refine yr (DN.new w _ 144) fun v a=>?_
 refine tq 0 a.r ?_;refine K4 1 0 A a.r ?_ (fun j s=>by rw[gW];exact lg s) (by rw[t];kernel_rfl);refine tq 3 a.r ?_;refine K4 4 9 c2 a.r ?_ (fun j s=>by rw[<-t,kC (Nat.le_add_right _ _),sW]) (by rw[B];kernel_rfl)
 refine cw 2 fun K hK=>?_;go_simp;refine(y.st a jW l u (ba k.out)).mono ?_;rintro e w2 ⟨rfl,a⟩;refine nx hK a.r ?_;clear hK K
 refine cw 5 fun K hK=>?_;go_simp;refine(z.st a jW l x (ba k.out)).mono ?_;rintro e o ⟨rfl,a⟩;refine nx hK a.r ?_;clear hK K
 refine tq 6 a.r ?_;refine tq 7 a.r ?_;refine bj aq ?_ _
 go_wp2_with fail
 exact bodyPost_ret (v:=.int .i64 (max C m1:Nat)) (by simp[results,Tryz.results80,go_sem];try omega) rfl ⟨rfl,a.b⟩
end
structure Oc(n:Nat):Prop where
 ty:iP 25 (dep n .ty)
 pat:iP 27 (dep n .pat)
 exp:iP 29 (dep n .exp)
 jV:iP 80 (dep n .jV)
 dec:iP 15 (dep n .dec)
 fn:iP 37 (dep n .fn)
 clause:iP 39 (dep n .clause)
 data:iP 33 (dep n .data)
 o3:iP 82 (dep n .o3)
 sig:iP 35 (dep n .sig)
 spec:iP 31 (dep n .spec)
theorem E3(q:∀ n,iP 80 (dep n .jV)->ji 79 80 (dep n .jV)):∀ n,Oc n
 |0=>⟨(fun w F nd cs d _ _ h _=>by cases h),(fun w F nd cs d _ _ h _=>by cases h),(fun w F nd cs d _ _ h _=>by cases h),(fun w F nd cs d _ _ h _=>by cases h),(fun w F nd cs d _ _ h _=>by cases h),(fun w F nd cs d _ _ h _=>by cases h),(fun w F nd cs d _ _ h _=>by cases h),(fun w F nd cs d _ _ h _=>by cases h),(fun w F nd cs d _ _ h _=>by cases h),(fun w F nd cs d _ _ h _=>by cases h),(fun w F nd cs d _ _ h _=>by cases h)⟩
 |n+1=>by
  have a:=E3 q n;have c:=K7 (dep n .ty) 25 (fun _ _=>rfl) (fun w F nd d cs h b=>K2 h b) a.ty;have f:=Jm (dep n .pat) 27 (fun _ _=>rfl) (fun w F nd d cs h b=>wq h b) a.pat;have j:=Jn (dep n .exp) 29 (fun _ _=>rfl) (fun w F nd d cs h b=>pR h b) a.exp;have l:=q n a.jV;have i:=vl (dep n .dec) 15 (fun _ _=>rfl) (fun w F nd d cs h b=>vm h b) a.dec;have p:=K8 (dep n .fn) 37 (fun _ _=>rfl) (fun w F nd d cs h b=>K3 h b) a.fn;have e:=BF (dep n .clause) 39 (fun _ _=>rfl) (fun w F nd d cs h b=>BD h b) a.clause;have k:=GC (dep n .data) 33 (fun _ _=>rfl) (fun w F nd d cs h b=>Gw h b) a.data;have m:=Jo (dep n .o3) 82 (fun _ _=>rfl) (fun w F nd d cs h b=>Jf h b) a.o3;have o:=Jq (dep n .sig) 35 (fun _ _=>rfl) (fun w F nd d cs h b=>Jg h b) a.sig;have g:=GD (dep n .spec) 31 (fun _ _=>rfl) (fun w F nd d cs h b=>Gx h b) a.spec;exact⟨K6 n c,Jj n f c,Jk n j c i l,GB n a.pat a.exp,Jl n c i f j g k o p,K5 n e,BE n f a.exp,Gz n m,Jh n c,Ji n g,GA n c a.data⟩
theorem xG(n:Nat):Oc n:=E3 (fun n h=>GF (dep n .jV) 80 (fun _ _=>rfl) (fun w F nd d cs h a=>Gy h a) h) n
def Mm(G:Gh)(u l:Option Addr):Nat->Prop:=fun k=>k=G.bp\/(∃ o,u=some ⟨k,o,none⟩)\/∃ o,l=some ⟨k,o,none⟩
def K9(w:World)(a:Option Addr)(c:Nat)(a':Option Addr)(c':Nat):Prop:=(a'=a/\c'=c)\/∀ b o,a'=some ⟨b,o,none⟩->w.heap.size<=b
def lY(w:World)(B:Nat)(a:Option Addr)(c:Nat)(sc:List Fx):Prop:=∃ h,d' w a sc.length c 1 h/\dh w B a (c*1)/\∀ (i:Nat) (f:Fx),sc[i]?=some f->h i=.string ⟨f.name.toArray⟩
def mY(w:World)(B:Nat)(a:Option Addr)(c:Nat)(sc:List Fx):Prop:=∃ h,d' w a sc.length c 2 h/\dh w B a (c*2)/\∀ (i:Nat) (f:Fx),sc[i]?=some f->h (2*i)=.int .i64 f.level/\h (2*i+1)=.bool f.right
theorem wV.rC{w:World}{u l:Option Addr}{C y:Nat}(h:wV w B u C l y sc):lY w B u C sc/\mY w B l y sc:=by
 obtain⟨k,j,b,c,d,g,a⟩:=h;exact⟨⟨k,b,d,fun i f e=>(a i f e).1⟩,⟨j,c,g,fun i f e=>(a i f e).2⟩⟩
theorem lY.both{w:World}{u l:Option Addr}{C y:Nat}(h:lY w B u C sc)(k:mY w B l y sc):wV w B u C l y sc:=by
 obtain⟨n,a,c,g⟩:=h;obtain⟨m,b,d,j⟩:=k;exact⟨n,m,a,b,c,d,fun i f e=>⟨g i f e,j i f e⟩⟩
theorem lY.blocks{w w':World}(h:lY w B a c sc)(e:∀ b d,a=some ⟨b,d,none⟩->w'.heap[b]?=w.heap[b]?):lY w' B a c sc:=by
 obtain⟨g,f,i,j⟩:=h;exact⟨g,f.blocks e,i.blocks e,j⟩
theorem mY.blocks{w w':World}(h:mY w B a c sc)(e:∀ b d,a=some ⟨b,d,none⟩->w'.heap[b]?=w.heap[b]?):mY w' B a c sc:=by
 obtain⟨g,f,i,j⟩:=h;exact⟨g,f.blocks e,i.blocks e,j⟩
theorem E4{i:Nat}{f:Fx}(h:sc[i]?=some f):(sc++t)[i]?=some f:=by
 rw[lg (List.getElem?_eq_some_iff.1 h).1];exact h
theorem lY.pre{w:World}(h:lY w B a c (sc++t)):lY w B a c sc:=by
 obtain⟨g,b,d,j⟩:=h;exact⟨g,⟨by have:=b.le;rw[iQ] at this;omega,b.mx,b.cell⟩,d,fun i f e=>j i f (E4 e)⟩
theorem mY.pre{w:World}(h:mY w B a c (sc++t)):mY w B a c sc:=by
 obtain⟨g,b,d,j⟩:=h;exact⟨g,⟨by have:=b.le;rw[iQ] at this;omega,b.mx,b.cell⟩,d,fun i f e=>j i f (E4 e)⟩
structure Tn(G:Gh)(u:Option Addr)(C:Nat)(l:Option Addr)(y:Nat)(w:World)(s:al)(MU:Option Addr)(Od:Nat)(MV:Option Addr)(Oe:Nat)(w':World)(s':al):Prop where
 kn:Kn G.B (Mm G u l) w w'
 ps:PS G (Mm G MU MV) MU Od MV Oe w' s'
 i:s.i<=s'.i
 nn:K9 w u C MU Od
 ff:K9 w l y MV Oe
 pre:∃ t,s'.sc=s.sc++t
 on:lY w' G.B u C s.sc
 of:mY w' G.B l y s.sc
section
variable {G:Gh} {M:Nat->Prop} {u g j:Option Addr} {C x A:Nat} {l r h:Option Addr} {y z H:Nat} {w i w2 o:World} {s s1 D J:al}
theorem PS.mm(h:PS G M u C l y w s){k:Nat}(a:Mm G u l k):M k:=by
 rcases a with rfl|⟨o,e⟩|⟨o,e⟩
 ·exact h.mp
 ·exact(h.mn k o e).1
 ·exact(h.mf k o e).1
theorem PS.min(h:PS G M u C l y w s):PS G (Mm G u l) u C l y w s:=
 h.less (fun k a=>h.mm a) (.inl rfl) (fun b o e=>.inr (.inl ⟨o,e⟩)) (fun b o e=>.inr (.inr ⟨o,e⟩))
theorem Tn.mm(t:Tn G u C l y w s g x r z i s1){k:Nat}(a:Mm G g r k):Mm G u l k\/w.heap.size<=k:=by
 rcases a with rfl|⟨o,e⟩|⟨o,e⟩
 ·exact .inl (.inl rfl)
 ·rcases t.nn with⟨q,_⟩|q
  ·exact .inl (.inr (.inl ⟨o,q▸e⟩))
  ·exact .inr (q k o e)
 ·rcases t.ff with⟨q,_⟩|q
  ·exact .inl (.inr (.inr ⟨o,q▸e⟩))
  ·exact .inr (q k o e)
theorem Tn.K_(p:PS G M u C l y w s)(i:∀ b o,g=some ⟨b,o,none⟩->w.heap.size<=b)(h:K9 w l y r z):∀ b o,u=some ⟨b,o,none⟩->b<w.heap.size/\¬Mm G g r b:=fun b o e=>by
 have d:=p.mn b o e;have f:=(p.mB b d.1).2;refine⟨f,?_⟩;rintro(q|⟨a,q⟩|⟨a,q⟩)
 ·exact d.2 q
 ·have:=i b a q;omega
 ·rcases h with⟨c,_⟩|c
  ·exact p.nf b o a e (c▸q)
  ·have:=c b a q;omega
theorem Tn.K'(p:PS G M u C l y w s)(h:∀ b o,r=some ⟨b,o,none⟩->w.heap.size<=b)(i:K9 w u C g x):∀ b o,l=some ⟨b,o,none⟩->b<w.heap.size/\¬Mm G g r b:=fun b o e=>by
 have d:=p.mf b o e;have f:=(p.mB b d.1).2;refine⟨f,?_⟩;rintro(q|⟨a,q⟩|⟨a,q⟩)
 ·exact d.2 q
 ·rcases i with⟨c,_⟩|c
  ·exact p.nf b a o (c▸q) e
  ·have:=c b a q;omega
 ·have:=h b a q;omega
theorem Tn.refl(p:PS G M u C l y w s):Tn G u C l y w s u C l y w s:=
 ⟨Kn.refl _ _ _,p.min,aw _,.inl ⟨rfl,rfl⟩,.inl ⟨rfl,rfl⟩,⟨[],ar⟩,p.sc.rC.1,p.sc.rC.2⟩
theorem Tn.Jr(p:PS G M u C l y w s)(t:Tn G u C l y w s g x r z i s1)(d:∀ k,Mm G u l k->¬Mm G g r k->w2.heap[k]?=i.heap[k]?)(q:lY w2 G.B g x s1.sc/\mY w2 G.B r z s1.sc):lY w2 G.B u C s.sc/\mY w2 G.B l y s.sc:=by
 obtain⟨h,f⟩:=t.pre;refine⟨?_,?_⟩
 ·rcases t.nn with⟨c,a⟩|e
  ·have:=q.1;rw[c,a,f] at this;exact this.pre
  ·exact t.on.blocks fun b o a=>d b (.inr (.inl ⟨o,a⟩)) (Tn.K_ p e t.ff b o a).2
 ·rcases t.ff with⟨c,a⟩|e
  ·have:=q.2;rw[c,a,f] at this;exact this.pre
  ·exact t.of.blocks fun b o a=>d b (.inr (.inr ⟨o,a⟩)) (Tn.K' p e t.nn b o a).2
theorem Tn.trans(p:PS G M u C l y w s)(c:Tn G u C l y w s g x r z i s1)(a:Tn G g x r z i s1 j A h H w2 D):Tn G u C l y w s j A h H w2 D:=by
 have L:=c.kn.size;obtain⟨F,t⟩:=c.pre;obtain⟨I,v⟩:=a.pre;have n:=c.Jr (w2:=w2) p (fun k B E=>a.kn.gM k (ba ((p.mB k (p.mm B)).2)) E) ⟨a.on,a.of⟩;refine⟨c.kn.trans a.kn (fun k J m=>(c.mm m).elim id fun q=>O),a.ps,fy c.i a.i,?_,?_,⟨F++I,by rw[v,t,q']⟩,n.1,n.2⟩
 ·rcases a.nn with⟨d,f⟩|e
  ·rw[d,f];exact c.nn
  ·exact .inr fun b o q=>ba (e b o q)
 ·rcases a.ff with⟨d,f⟩|e
  ·rw[d,f];exact c.ff
  ·exact .inr fun b o q=>ba (e b o q)
theorem EJ(X:ei G)(p:PS G M u C l y w s)(aC:s.sc.length+1<=20+s.i)(v:List UInt8)(n:Int)(A:Bool):Calls Tryz.prog 20 #[.pointer (some ⟨G.bp,3,none⟩),.string ⟨v.toArray⟩,.agg (kz n A)] w fun e T=>e=.returned (.tuple #[])/\∃ g x r z,Tn G u C l y w s g x r z T {s with sc:=s.sc++[⟨v,n,A⟩]}:=by
 obtain⟨R,I,an,af,wn,wf,D⟩:=p.sc;have S:=(p.mB _ p.mp).1
 have H:cc w G.bp #[.slice G.la G.X.ts.length G.lc,.int .i64 (s.i:Nat),.int .i64 (G.X.en:Nat),.slice u s.sc.length C,.slice l s.sc.length y]:=⟨p.lt,p.fr,fun j aA=>by
  rw[gW]
  have L:j=0\/j=1\/j=2\/j=3\/j=4:=by
   have:j<5:=aA;omega
  rcases L with rfl|rfl|rfl|rfl|rfl
  ·exact p.c0
  ·exact p.c1
  ·exact p.c2
  ·exact p.c3
  ·exact p.c4⟩
 refine(E5 w G.B G.bp 3 _ u C R l y I s.sc.length v n A (by have:=p.zp;have:=p.il;have:=X.k0;omega) S p.bB H (show 3+1<5 from O) rfl rfl an wn af wf (fun b o e=>⟨(p.mB b (p.mn b o e).1).2,(p.mn b o e).2⟩) (fun b o e=>⟨(p.mB b (p.mf b o e).1).2,(p.mf b o e).2⟩) p.nf).mono ?_;rintro e T ⟨Y,aL,g,x,aJ,r,z,aK,a,aI,aH⟩;refine⟨Y,g,x,r,z,?_⟩
 have P:∀ b o,g=some ⟨b,o,none⟩->G.B<=b:=fun b o e=>by
  obtain⟨W,aG,d,h,_⟩:=a.wn 0 (ba a.an.le);rw[e] at d;cases d;exact h
 have N:∀ b o,r=some ⟨b,o,none⟩->G.B<=b:=fun b o e=>by
  obtain⟨W,aG,d,h,_⟩:=a.wf 0 (ba a.af.le);rw[e] at d;cases d;exact h
 have c:(s.sc++[(⟨v,n,A⟩:Fx)]).length=s.sc.length+1:=ar
 refine⟨⟨a.bl,fun k aB Q=>a.kp k aB (fun e=>Q (.inl e)) (fun o e=>Q (.inr (.inl ⟨o,e⟩))) (fun o e=>Q (.inr (.inr ⟨o,e⟩)))⟩,?_,aw _,?_,?_,⟨_,rfl⟩,?_,?_⟩
 ·refine⟨p.low.trans a.bl,?_,.inl rfl,fun b o e=>⟨.inr (.inl ⟨o,e⟩),(a.ln b o e).2.1⟩,fun b o e=>⟨.inr (.inr ⟨o,e⟩),(a.lf b o e).2.1⟩,a.nf,a.c 0 (show 0<5 from O) rfl,a.c 1 (show 1<5 from O) rfl,a.c 2 (show 2<5 from O) rfl,?_,?_,a.bx.2.1,⟨_,_,by rw[c];exact a.an,by rw[c];exact a.af,a.wn,a.wf,fun i f m=>?_⟩,by rw[c];exact aC,p.il,by rw[c];omega⟩
  ·rintro k (rfl|⟨o,e⟩|⟨o,e⟩)
   ·exact⟨S,a.bx.1⟩
   ·exact⟨P k o e,(a.ln k o e).1⟩
   ·exact⟨N k o e,(a.lf k o e).1⟩
  ·rw[c];exact a.c 3 (show 3<5 from O) rfl
  ·rw[c];exact a.c 4 (show 4<5 from O) rfl
  ·by_cases q:i<s.sc.length
   ·rw[lg q] at m;obtain⟨aD,aE,aF⟩:=D i f m;unfold c6;rw[if_pos O,if_pos O,if_pos O];exact⟨aD,aE,aF⟩
   ·have J:i=s.sc.length:=by
     have:=(List.getElem?_eq_some_iff.1 m).1;rw[c] at this;omega
    subst J;rw[kC (aw _),qt] at m;have Z:(⟨v,n,A⟩:Fx)=f:=f_ m;subst Z;unfold c6;rw[if_neg O,if_pos O,if_neg O,if_pos O,if_neg O,if_pos O,show s.sc.length-s.sc.length*1=0 from O,show 2*s.sc.length-s.sc.length*2=0 from O,show 2*s.sc.length+1-s.sc.length*2=1 from O];exact⟨rfl,rfl,rfl⟩
 ·rcases a.n0 with q|q
  ·exact .inl ⟨congrArg Prod.fst q,congrArg Prod.snd q⟩
  ·exact .inr q
 ·rcases a.f0 with q|q
  ·exact .inl ⟨congrArg Prod.fst q,congrArg Prod.snd q⟩
  ·exact .inr q
 ·obtain⟨h,E,F,B⟩:=aI;exact⟨h,E,F,fun i f e=>(B i (ba ((List.getElem?_eq_some_iff.1 e).1))).trans (D i f e).1⟩
 ·obtain⟨h,E,F,B⟩:=aH;exact⟨h,E,F,fun i f e=>⟨(B (2*i) (ba ((List.getElem?_eq_some_iff.1 e).1))).trans (D i f e).2.1,(B (2*i+1) (ba ((List.getElem?_eq_some_iff.1 e).1))).trans (D i f e).2.2⟩⟩
end
section
variable {G:Gh} {u:Option Addr} {C:Nat} {l:Option Addr} {y:Nat} {σ Γ:Type} {pr:Γ->σ} {E:Γ->Nat->Prop} {p:World->Γ->Prop}
theorem GG(bC:ei G)(aK:oX G E p)(k:Nat)(bV bU:Array Value)(cQ:∀ args w,(callFunc k args).run Tryz.prog w=.ok (.enter k args) w)(d:List UInt8)(one:σ->PM (Nd×σ))(aX:pM G u C l y vX k bV bU one pr E p)(n:Nat)(w:World)(s:al)(g:Γ)(r:Except (Nat×Nat) ((List Nd×σ)×al))
 (aR:PS G (E g) u C l y w s) (bD:p w g) (bE:list G.X n d one (pr g) s=some r):
 Calls Tryz.prog 112 #[.pointer (some ⟨G.bp,0,none⟩),.string ⟨d.toArray⟩,.func (.func k) bV bU] w fun e cM=>lX G u C l y pr E p w s g r e cM:=by
 unfold list at bE;have cI:=aR.bB
 rcases a_ bE with⟨c,q,L,rfl⟩|⟨⟨nd,x⟩,s1,L,aN⟩
 ·have aY:=U (aX w s g _ aR bD L);clear bE L aR bD aX aK;go_enter Tryz.func112,Tryz.ntmps112
  go_wp2_with (go_at_fn k;refine aY.mono ?_;rintro e i ⟨aC,rfl⟩;unfold az)
  go_simp;exact⟨rfl,aC,rfl⟩
 ·have aY:=U (aX w s g _ aR bD L);have aO:=U aX;have P:=U aK;have bQ:=U aN;clear bE L aN aR bD aX aK;go_enter Tryz.func112,Tryz.ntmps112
  go_wp2_with (go_at_fn k;refine aY.mono ?_;rintro e i ⟨aC,F,aH,aM,v,rfl,N,f,Z,aI,W,aE,rfl,H⟩;have bJ:=U (b4 aC (b4 F (b4 aH (b4 N (b4 f (b4 Z (b4 aI W)))))));have aA:=U (H);clear aC F aH N f Z aI W)
  have bL:mU G u C l y pr E p 1 w s g (i.alloc (.cells #[.string aE] 9)) s1 aM [nd] i.heap.size 1:=by
   obtain⟨aC,F,aH,N,f,Z,aI,W⟩:=bJ.out;have bX:=fun j Y=>(f.mB j Y).2;have bM:=ab i (.cells #[.string aE] 9);refine⟨F,aH,ar,f.alloc _,P.out _ _ _ Z (fun j Y _=>bM.block j (bX j Y)),aI,W,fun h=>ba (bX _ h),?_,aC.low bM (ba f.bB) aC.size⟩;refine jP.one (cs:=[.string aE]) aC.size ar (fun h=>h.elim (fun h=>ba f.bB) (fun h=>h.2.2.2 rfl)) (fun j Y=>?_) (fun j _=>o6 _ _ _ _) (ah.on aA (Kb.of bM fun b aB=>?_) (fun b aB=>?_))
   ·rw[jl];simp
   ·rcases aB with aB|⟨_,aB,_⟩
    ·have:=f.bB;omega
    ·exact aB
   ·rcases aB with aB|⟨L,aN,cH⟩
    ·exact .inl aB
    ·exact .inr ⟨L,b1,cH,O⟩
  generalize i.alloc (.cells #[.string aE] 9)=cO at bL⊢;have aQ:=U bL;have aP:Hid (gy G.X d one n [nd] (pr aM) s1=some r):=U (by have h:=bQ.out;have e:=bJ.2.2.2.1;rw[e];exact h);clear bL bQ aY bJ aA
  go_loopg [7] n (fun gk cK wr=>∃ s1 aM I A c,cK=.slice (some ⟨A,0,none⟩) I.length c/\Hid (gy G.X d one gk I (pr aM) s1=some r)/\Hid (mU G u C l y pr E p 1 w s g wr s1 aM I A c))
  case atStart=>exact⟨s1,aM,[nd],i.heap.size,1,rfl,aP,aQ⟩
  case round=>
   clear aP aQ;obtain⟨D,bA,I,A,c,rfl,aL,aA⟩:=hrel;cases gk with
   |zero=>exact absurd aL.out (by rw[tE];simp)
   |succ m=>
   have M:PS G (E bA) u C l y wr D:=aA.2.2.2.1;have Q:p wr bA:=aA.2.2.2.2.1
   by_cases aJ:ay G.X [d] D=true
   ·have aD:=aL.out;rw[mT aJ] at aD;have b6:=U aJ
    rcases a_ aD with⟨cP,cS,L,rfl⟩|⟨⟨bN,cT⟩,J,L,aN⟩
    ·have bF:=U L;have a:=U (b4 M Q);clear aD L aJ aL M Q
     go_wp2_with (first
      |(go_at_call 21;refine(kh bC a.1 d b6).mono ?_;rintro e o ⟨rfl,X,B⟩;have aF:=U (aO.out o _ bA _ X (P.out _ _ _ a.2 (fun j Y W=>B.gM j (a.1.mB j Y).2 W)) bF);have aG:=U B;clear X B)
      |(go_at_fn k;refine aF.mono ?_;rintro e bO ⟨S,rfl⟩;have bH:=U S;clear S;unfold az))
     go_simp;exact⟨rfl,aA.kn aG bH,rfl⟩
    ·have bF:=U L;have cE:=U aN;have a:=U (b4 M Q);clear aD L aN aJ aL M Q
     go_wp2_with (first
      |(go_at_call 21;refine(kh bC a.1 d b6).mono ?_;rintro e o ⟨rfl,X,B⟩;have aF:=U (aO.out o _ bA _ X (P.out _ _ _ a.2 (fun j Y W=>B.gM j (a.1.mB j Y).2 W)) bF);have aG:=U B;clear X B)
      |(go_at_fn k;refine aF.mono ?_;rintro e bO ⟨S,F,aH,cG,v,rfl,N,aT,aV,aI,W,aE,rfl,H⟩;obtain⟨cJ,cC,cB,bZ,cR,cA⟩:=aA.round (cs:=#[.string aE]) (T:=9) (z:=pJ) bC P cI aG S F aH aT aV aI W (H) rfl O;have aZ:=U (b4 cC (b4 cB (b4 bZ cA)));have bI:=U N;clear S F aH N aT aV aI W cC cB bZ cA H)
      |(at_builtin;refine hH _ rfl _ _ 33 33 rfl 9 9 pJ 1 16 Tryz.underlying33 Tryz.underlying33 Tryz.sF rfl O w.heap.size aZ.2.2.1 (some ⟨A,0,none⟩) I.length c cJ (cellAt #[.string aE]) bO.heap.size 0 1 rfl rfl aZ.1 aZ.2.1 ?hg ?hone O O ?_))
     case hg=>exact ij bO #[.string aE] 9
     case hone=>
      intro j Y
      match j,Y with
      |0,_=>rfl
     intro cF bT cL cN R bP bR bS bY;obtain⟨cD,rfl,aU⟩:=aZ.2.2.2 cF bT cL cN (by rw[qp];exact R) (by rw[lp];exact bP) (by rw[lp];exact bR) bS (by rw[lp,lp];exact bY);have bK:=U aU;clear aU R bP bR bS bY
     go_wp2_with fail
     go_roundg m
     case measure=>omega
     case rel=>exact⟨J,cG,I++[bN],cD,bT,by rw[List.length_append];rfl,U (by rw[bI.out];exact cE.out),bK⟩
   ·have aD:=aL.out;rw[oe aJ] at aD;obtain rfl:=f_ aD;have b6:=U aJ;have a:=U M;clear aD aJ aL M Q
    go_wp2_with (go_at_call 21;refine(og bC a d b6).mono ?_;rintro e o ⟨rfl,aW⟩;have bG:=U aW;clear aW)
    go_ret;exact mU.fin P aA bG
end
end Go.Proofs.YtkblonfmjlopaaaGreatDoor
