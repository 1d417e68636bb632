/-
  A field of a record, walked: of types, patterns, expressions by one script.
-/
import Derived.Test.YtkblonfmjlopaaaGreatDoorSzT
set_option linter.all false
set_option maxRecDepth 1000000
set_option maxHeartbeats 16000000
namespace Go.Proofs.YtkblonfmjlopaaaGreatDoor
open Go Go.RowKit
variable {cs:Array Value}{n:Nat}{F:Nat->Prop}{nd:Nd}{x:PM Nd}{I:jL}{α:Type}
theorem jc(l:List ak):(strs l).length=l.length:=by simp[strs]
def rV(x:List ak->PM (Nd×List ak)):List ak->PM (Nd×List ak):=fun ls s=>if ls.length<=s.i then x ls s else none
theorem yy{x:List ak->PM (Nd×List ak)}{ls:List ak}{s:al}{r:Except (Nat×Nat) ((Nd×List ak)×al)}(h:rV x ls s=some r):ls.length<=s.i/\x ls s=some r:=by
 unfold rV at h
 split at h
 ·exact⟨‹_›,h⟩
 ·cases h
def kZ(G:Gh)(I:jL)(i:Value->Array Value)(k:Nat)(x:List ak->PM (Nd×List ak)):Prop:=
 ∀ (M:Nat->Prop) (C:Option Addr) (E:Nat) (B:Option Addr) (D:Nat) (pb d:Nat),M G.bp->(∀ b off,C=some ⟨b,off,none⟩->M b)->(∀ b off,B=some ⟨b,off,none⟩->M b)->¬M pb->¬M d->pb<d->(∀ j,M j->j<d+1)->
   pM G C E B D I k #[] (Cd d pb) (rV x) LG.ls (mc M pb d) (ug G i pb d (d+1))
theorem so{G:Gh}{i:Value->Array Value}{k:Nat}:kZ G I i k (fun _=>PM.none):=by
 intro M C E B D pb d _ _ _ _ _ _ _ w s g r _ _ h
 have:=(yy h).2
 cases this
def nH(X:Tx)(x:List ak->PM (Nd×List ak)):Prop:=∀ ls s a Om s',s.i<=X.ts.length->x ls s=some (.ok ((a,Om),s'))->Om.length=ls.length+1/\s.i+1<=s'.i/\s'.i<=X.ts.length
theorem BO{x:List ak->PM (Nd×List ak)}{ls:List ak}{s:al}(h:ls.length<=s.i):rV x ls s=x ls s:=by unfold rV;rw[if_pos h]
theorem wC{X:Tx}{x:List ak->PM (Nd×List ak)}(k:nH X x)(c:ak):∀ (n:Nat) (b:List Nd) (ls:List ak) (s:al),s.i<=X.ts.length->ls.length<=s.i->gy X c (rV x) n b ls s=gy X c x n b ls s
 |0,b,ls,s,o,m=>rfl
 |n+1,b,ls,s,o,m=>by
  by_cases h:ay X [c] s=true
  ·rw[mT h,mT h]
   have d:=ee h
   show PM.bind _ _ _=PM.bind _ _ _
   unfold PM.bind
   rw[BO (show ls.length<=s.i+1 from O)]
   rcases p:x ls {s with i:=s.i+1} with _|e|⟨⟨a,f⟩,g⟩
   ·rfl
   ·rfl
   ·obtain⟨q,j,l⟩:=k _ _ _ _ _ (show s.i+1<=X.ts.length from d) p
    have j:s.i+1+1<=g.i:=j
    exact wC k c n _ _ g l (show f.length<=g.i from O)
  ·rw[oe h,oe h]
theorem GO{X:Tx}{x:List ak->PM (Nd×List ak)}(d:nH X x)(n:Nat)(b:ak)(s:al)(j:s.i<=X.ts.length):hF X n b (rV x) [] s=hF X n b x [] s:=by
 by_cases h:ay X [b] s=true
 ·rw[sG h,sG h]
 ·rw[vT h,vT h]
  have:list X n [44] (rV x) [] s=list X n [44] x [] s:=by
   unfold list
   show PM.bind _ _ _=PM.bind _ _ _
   unfold PM.bind
   rw[BO (show([]:List ak).length<=s.i from hU _)]
   rcases k:x [] s with _|e|⟨⟨a,c⟩,f⟩
   ·rfl
   ·rfl
   ·obtain⟨g,l,i⟩:=d _ _ _ _ _ j k
    exact wC d [44] n _ _ f i (show c.length<=f.i by simp at g;omega)
  show PM.bind _ _ _=PM.bind _ _ _
  unfold PM.bind
  rw[this]
def ur:Value->Array Value:=fun v=>#[.int .i64 4,.string ⟨#[]⟩,.slice none 0 0,v]
def y6:Value->Array Value:=fun v=>#[.int .i64 7,.string ⟨#[]⟩,.bool false,.slice none 0 0,.int .i64 0,.string ⟨#[]⟩,v,.slice none 0 0,.slice none 0 0]
def vh:Value->Array Value:=fun v=>#[.int .i64 6,.string ⟨#[]⟩,.bool false,.slice none 0 0,.int .i64 0,.int .u64 0,.string ⟨#[]⟩,v,.slice none 0 0,.slice none 0 0,.slice none 0 0,.slice none 0 0]
section
variable {G:Gh} {M:Nat->Prop} {C:Option Addr} {E:Nat} {B:Option Addr} {D:Nat} {pb d lo:Nat} {m S:Nat->Prop} {K Z:Array Value} {ls:List ak} {a:Option Addr} {c:Nat} {w l:World} {s s1:al} {k:Nat} {args:Array Value} {β:Type} {r:Except (Nat×Nat) (β×al)}
theorem FB.rf{x:PM ak}{g:ak->PM β}(o:FB G k args x)(h:RF G M C E B D pb d lo m S K Z ls a c w s l s1)(u:(x>>=g) s1=some r):
 Calls Tryz.prog k args l fun e b=>(∃ c q,r=.error (c,q)/\e=az c q/\Kn G.B (mc M pb d ⟨[],none,0,m⟩) w b)\/∃ y J,e=.returned (.string ⟨y.toArray⟩)/\Hid (g y J=some r)/\Hid (Kn G.B M l b)/\Hid (RF G M C E B D pb d lo m S K Z ls a c w s b J):=by
 rcases a_ u with⟨c,q,i,rfl⟩|⟨y,J,i,p⟩
 ·exact(o M C E B D l s1 _ h.ps i).mono fun e b ⟨f,j⟩=>.inl ⟨c,q,rfl,j,h.kn.go (f.more fun _ q=>.inl q)⟩
 ·exact(o M C E B D l s1 _ h.ps i).mono fun e b ⟨f,j,n,v,t⟩=>.inr ⟨y,J,j,U p,U f,U (h.go f t n O)⟩
theorem FU.rf{x:PM Unit}{g:Unit->PM β}(o:FU G k args x)(h:RF G M C E B D pb d lo m S K Z ls a c w s l s1)(u:(x>>=g) s1=some r):
 Calls Tryz.prog k args l fun e b=>(∃ c q,r=.error (c,q)/\e=az c q/\Kn G.B (mc M pb d ⟨[],none,0,m⟩) w b)\/∃ J,e=.returned (.tuple #[])/\Hid (g () J=some r)/\Hid (RF G M C E B D pb d lo m S K Z ls a c w s b J):=by
 rcases a_ u with⟨c,q,f,rfl⟩|⟨y,J,f,p⟩
 ·exact(o M C E B D l s1 _ h.ps f).mono fun e b ⟨j,i⟩=>.inl ⟨c,q,rfl,i,h.kn.go (j.more fun _ q=>.inl q)⟩
 ·exact(o M C E B D l s1 _ h.ps f).mono fun e b ⟨j,i,n,v,t⟩=>.inr ⟨J,i,U p,U (h.go j t n O)⟩
theorem FN.rf{sz:Nat}{g:Nd->PM β}(p:FN G k args I x)(u:sA I sz)(h:RF G M C E B D pb d lo m S K Z ls a c w s l s1)(N:(x>>=g) s1=some r):
 Calls Tryz.prog k args l fun e f=>(∃ c q,r=.error (c,q)/\e=az c q/\Kn G.B (mc M pb d ⟨[],none,0,m⟩) w f)\/∃ nd J cs,e=.returned (.agg cs.toArray)/\Hid (g nd J=some r)/\Hid (n9 I sz nd cs)/\Hid (ah f (fun b=>b<G.B\/(w.heap.size<b/\b<f.heap.size/\¬S b)) nd cs)/\Hid (RF G M C E B D pb d lo m S K Z ls a c w s f J):=by
 rcases a_ N with⟨c,q,i,rfl⟩|⟨y,J,i,t⟩
 ·exact(p M C E B D l s1 _ h.ps i).mono fun e f ⟨n,j⟩=>.inl ⟨c,q,rfl,j,h.kn.go (n.more fun _ q=>.inl q)⟩
 ·refine(p M C E B D l s1 _ h.ps i).mono fun e f ⟨n,o,A,z,v,j,L⟩=>.inr ?_
  obtain⟨cs,rfl,F,H⟩:=u _ _ _ _ L;exact⟨y,J,cs,j,U t,U F,U (H.on (Kb.refl _ _) fun b q=>q.imp id fun q=>⟨lQ q.1 h.sz,q.2.1,fun P=>lQ ((h.qY b P).2) q.1⟩),U (h.go n z o A)⟩
theorem RF.Gu{f:ak}(h:RF G M C E B D pb d (d+1) m S K Z ls a c w s l s1)(aI:ls.length<=65536){Q:Exit->Act->World->Prop}{A:Act}{o:Oper}{H:Act->World->Prop}{x y:Operand}
 (aE:o.op=.call {callee:=.builtin .append,args:=#[x,y],argTypes:=#[33,33]})(aB:o.dst=some 8)(aF:A.eval x=.slice a ls.length c)(aG:A.eval y=.slice (some ⟨l.heap.size,0,none⟩) 1 1)
 (k:∀ g i n F,Hid (RF G M C E B D pb d (d+1) m n K Z (ls++[f]) g i w s F s1)->Hid (Below (d+1) l F)->H (A.put (some 8) (.slice g (ls.length+1) i)) F):Oper.wp Tryz.prog o A (l.alloc (m' f)) H Q:=by
 have p:=ab l (m' f)
 obtain⟨aC,J,aA,r,b⟩:=LN.round (z:=pJ) (T:=9) (cs:=(jk f)) (nd:=[vS f]) (zy:=l.heap.size) h.ln h.ln.lw (fun A e=>(h.qY A (h.aS A e)).2) (ej _ gO) rfl O
 rw[jc] at J b
 refine hO _ (some 8) aB _ _ 33 33 aE 9 9 pJ 1 16 Tryz.underlying33 Tryz.underlying33 Tryz.sF rfl O (d+1) r a ls.length c aC (cellAt (jk f)) l.heap.size 0 1 aF aG J aA (ij l (jk f) 9) (ib (jk f) (by rfl)) O O fun g i aH I N R W X P=>?_
 obtain⟨Y,L⟩:=b g i aH I N R W X P
 obtain⟨n,q⟩:=h.push Y L (fun j aD v=>(P.gM j (ba p.size) v).trans (p.block j aD)) (by
  rcases N with⟨_,e,_⟩|⟨_,e,u,_⟩
  ·exact .inl e
  ·exact .inr ⟨_,e,p.size,u⟩)
 exact k g i n I (U q) (U L)
def Nc(X:Tx)(wd:List UInt8)(x:PM Nd)(ls:List ak):PM (Nd×List ak):=label X>>=fun a=>a8 X wd>>=fun _=>x>>=fun t=>pure (t,ls++[a])
def Pb(G:Gh)(M:Nat->Prop)(C:Option Addr)(E:Nat)(B:Option Addr)(D pb d:Nat)(I:jL)(i:Value->Array Value)(w:World)(s:al)(g:LG)(r:Except (Nat×Nat) ((Nd×List ak)×al))(e:Ending)(w':World):Prop:=(∃ c q,r=.error (c,q)/\e=az c q/\Kn G.B (mc M pb d g) w w')\/∃ nd s' S2 Z ls a c v,r=.ok ((nd,ls),s')/\e=.returned v/\RF G M C E B D pb d (d+1) g.S S2 (i (.slice a ls.length c)) Z ls a c w s w' s'/\I w' (fun b=>b<G.B\/(w.heap.size<=b/\b<w'.heap.size/\¬S2 b)) nd v
theorem zL{i:Value->Array Value}{wd:List UInt8}(Z:Array Value)(T:TypeId)(j:Nat)(L:∀ v,j<(i v).size)(A:∀ v,cellAt (i v) j=v)(aB:∀ v N,(i v).setIfInBounds j N=i N)(R:hM I)(Q:ei G)
 (H:∀ M C E B D pb d w s (g:LG) r,Hid (g.ls.length<=65536)->Hid (Nc G.X wd x g.ls s=some r)->Hid (RF G M C E B D pb d (d+1) g.S g.S (i (.slice g.a g.ls.length g.c)) Z g.ls g.a g.c w s (w.alloc (.cells Z T)) s)->
  (∀ b ls a c v f,RF G M C E B D pb d (d+1) g.S b (i (.slice g.a g.ls.length g.c)) Z ls a c w s v f->v.cell? ⟨d,j,none⟩=some (.slice g.a g.ls.length g.c)/\v.cell? ⟨pb,0,none⟩=some (.pointer (some ⟨G.bp,0,none⟩)))->
  (∀ b l a c v f,RF G M C E B D pb d (d+1) g.S b (i (.slice g.a g.ls.length g.c)) Z (g.ls++[l]) a c w s v f->RF G M C E B D pb d (d+1) g.S b (i (.slice a (g.ls++[l]).length c)) Z (g.ls++[l]) a c w s (v.setCell ⟨d,j,none⟩ (.slice a (g.ls.length+1) c)) f)->
  Calls Tryz.prog k (Cd d pb) w fun e P=>Pb G M C E B D pb d I i w s g r e P):kZ G I i k (Nc G.X wd x):=by
 intro M C E B D pb d u p n z y aA o w s g r m S F
 obtain⟨Y,F⟩:=yy F;have W:=m.il;have J:=Q.k0
 show Calls Tryz.prog k (Cd d pb) w _
 refine(H M C E B D pb d w s g r (U O) (U F) (U (RF.start m S u p n z y O O (Nat.lt_succ_self d) o (m.mB d (.inr (.inl rfl))).2 Z T)) (fun b ls a c v f h=>⟨?_,h.bp.2.2 0 (show 0<1 from O)⟩) fun b l a c v f h=>?_).mono ?_
 rotate_left 2
 ·rintro e P (⟨c,q,rfl,rfl,X⟩|⟨nd,aC,b,Z,ls,a,c,v,rfl,rfl,h,A⟩)
  ·exact⟨X,rfl⟩
  ·exact⟨h.kn,h.fin A R⟩
 ·have:=h.bk.2.2 j (L _);rw[gW,A] at this;exact this
 ·have h:=h.Ob j (L _) (.slice a (g.ls.length+1) c);rw[aB] at h;rw[iQ];exact h
theorem wD{p:Prop}(h:p:=by
 have d:=U HR.drew;have c:=HS _ _ _ _ _ _ d.out
 generalize World.drew _=M at d c⊢;clear HR
 have x:=HX.out;unfold Nc at x;have HX:=U x;clear x
 refine tq 0 c ?_;refine tq 1 c ?_;refine tq 2 c ?_
 refine cw 3 fun K hK=>?_;go_simp
 refine(FB.rf (yo hG) d HX).mono ?_;rintro e N (⟨z,q,rfl,rfl,n⟩|⟨R,s1,rfl,s,C,f⟩)
 ·unfold az;go_simp;exact⟨rfl,mq ⟨_,_,rfl,rfl,n⟩⟩
 refine nx hK (HS _ _ _ _ _ _ f.out) ?_;clear hK K c
 refine cw 4 fun K hK=>?_;go_simp
 refine nx hK (HS _ _ _ _ _ _ (f.below (ab _ _))) ?_;clear hK K
 refine cw 5 fun K hK=>?_;rw[if_pos (by rfl)]
 refine f.Gu Nf rfl rfl rfl rfl fun P Q y D g B=>?_
 have j:=HS _ _ _ _ _ _ g.out
 refine nx hK j ?_;clear hK K
 refine tq 6 j ?_
 refine cw 7 fun K hK=>?_
 have I:=g.bk.2.1;go_simp;clear I j
 have i:=U (HK _ _ _ _ _ _ g.out);clear HK HS
 generalize World.setCell D _ _=E at i⊢
 refine oZ hK ?_;clear hK K
 refine bj aq ?_ _
 have S:E.cell? ⟨pb,0,none⟩=some (.pointer (some ⟨G.bp,0,none⟩)):=i.bp.2.2 0 (show 0<1 from O)
 go_wp2_with (first
  |(go_at_call 66;refine(FU.rf (fi hG _) i s).mono ?_;rintro e L (⟨z,q,rfl,rfl,n⟩|⟨J,rfl,u,k⟩);(·unfold az;go_simp;exact⟨rfl,mq ⟨_,_,rfl,rfl,n⟩⟩);have T:L.cell? ⟨pb,0,none⟩=some (.pointer (some ⟨G.bp,0,none⟩)):=k.bp.2.2 0 (show 0<1 from O))
  |((first|go_at_call 67|go_at_call 74|go_at_call 65);refine(FN.rf Ng Nh k u).mono ?_;rintro e A (⟨z,q,rfl,rfl,n⟩|⟨nd,W,cs,rfl,v,o,l,a⟩);(·unfold az;go_simp;exact⟨rfl,mq ⟨_,_,rfl,rfl,n⟩⟩))
  |(refine Nb a.res o rfl aq ?_))
 cases aj v
 obtain⟨r,F,H⟩:=a.store cs o.len
 have m:=l.on (fun b q=>F b (by have:=a.lw;have:=a.kl;have:=a.kB;omega)) (F':=fun b=>b<G.B\/(w.heap.size<=b/\b<(A.setCells w.heap.size 0 cs).heap.size/\¬y b)) (fun b q=>q.imp id fun q=>⟨O,by rw[H];exact q.2.1,q.2.2⟩)
 generalize A.setCells _ _ _=X at r m⊢
 exact oI r.res (Or.inr ⟨_,_,y,_,_,_,_,_,rfl,rfl,r,o.back _ _ m⟩) (hi:=by rw[lZ,o.len];kernel_rfl)):p:=h
variable {f:Fs}
set_option maxRecDepth 100000
set_option maxHeartbeats 16000000
theorem Il(hG:ei G)(Ng:FN G 67 (bq G) bc f.exp):kZ G bc vh 244 (iJ G.X f):=zL (wd:=[61]) (x:=f.exp) ke 87 7 (fun _=>by show 7<12;omega) (fun _=>rfl) (fun _ _=>rfl) bc.ok hG fun M C E B D pb d w s g r Nf HX HR HS HK=>by
 have Nh:Hid (sA bc 12):=U jq
 go_enter Tryz.func244,Tryz.ntmps244
 go_upto_region 1 with fail
 refine b3 (S:=fun v=>v.cell? ⟨d,7,none⟩=some (.slice g.a g.ls.length g.c)/\v.cell? ⟨pb,0,none⟩=some (.pointer (some ⟨G.bp,0,none⟩))) (T:=fun j=>j==7) aq ?_
 exact wD
theorem Ik(hG:ei G)(Ng:FN G 65 (bq G) cy f.pat):kZ G cy y6 144 (iI G.X f):=zL (wd:=[61]) (x:=f.pat) tY 82 6 (fun _=>by show 6<9;omega) (fun _=>rfl) (fun _ _=>rfl) cy.ok hG fun M C E B D pb d w s g r Nf HX HR HS HK=>by
 have Nh:Hid (sA cy 9):=U jq
 go_enter Tryz.func144,Tryz.ntmps144
 go_upto_region 1 with fail
 refine b3 (S:=fun v=>v.cell? ⟨d,6,none⟩=some (.slice g.a g.ls.length g.c)/\v.cell? ⟨pb,0,none⟩=some (.pointer (some ⟨G.bp,0,none⟩))) (T:=fun j=>j==7) aq ?_
 exact wD
theorem FO(hG:ei G)(Ng:FN G 74 (bq G) cz f.ty):kZ G cz ur 148 (jz G.X f):=zL (wd:=[58]) (x:=f.ty) tZ 78 3 (fun _=>by show 3<4;omega) (fun _=>rfl) (fun _ _=>rfl) cz.ok hG fun M C E B D pb d w s g r Nf HX HR HS HK=>by
 have Nh:Hid (sA cz 4):=U jq
 go_enter Tryz.func148,Tryz.ntmps148
 go_upto_region 1 with fail
 refine b3 (S:=fun v=>v.cell? ⟨d,3,none⟩=some (.slice g.a g.ls.length g.c)/\v.cell? ⟨pb,0,none⟩=some (.pointer (some ⟨G.bp,0,none⟩))) (T:=fun j=>j==7) aq ?_
 exact wD
end
theorem kf{G:Gh}{m:Nat}{args:Array Value}{a:ak}(H:∀ (M:Nat->Prop) (C:Option Addr) (E:Nat) (B:Option Addr) (D:Nat) (w:World) (s:al) (r:Except (Nat×Nat) ((List Nd×Unit)×al)),PS G M C E B D w s->list G.X n a (lone x) () s=some r->Calls Tryz.prog m args w fun e i=>lX G C E B D (fun _:Unit=>()) (fun _=>M) (fun _ _=>True) w s () r e i):gu G m args (df G.X n a x):=by
 intro M C E B D w s r j k;unfold df at k
 rcases a_ k with⟨c,q,d,rfl⟩|⟨⟨l,u⟩,s1,d,o⟩
 ·exact(H M C E B D w s _ j d).mono fun e i h=>h
 ·cases aj o;refine(H M C E B D w s _ j d).mono ?_;rintro e i ⟨z,g,y,F,v,t,_,f,_,_,_,A⟩;exact⟨z,g,y,f,v,t,A.on (Kb.refl _ _) fun b p=>p.imp id fun q=>⟨q.1,q.2.1,fun q=>q⟩⟩
theorem q3{G:Gh}{m:Nat}{args:Array Value}{a:ak}(H:∀ (M:Nat->Prop) (C:Option Addr) (E:Nat) (B:Option Addr) (D:Nat) (w:World) (s:al) (r:Except (Nat×Nat) ((List Nd×Unit)×al)),PS G M C E B D w s->hF G.X n a (lone x) () s=some r->Calls Tryz.prog m args w fun e i=>lX G C E B D (fun _:Unit=>()) (fun _=>M) (fun _ _=>True) w s () r e i):gu G m args (gd G.X n a x):=by
 intro M C E B D w s r j k;unfold gd at k
 rcases a_ k with⟨c,q,d,rfl⟩|⟨⟨l,u⟩,s1,d,o⟩
 ·exact(H M C E B D w s _ j d).mono fun e i h=>h
 ·cases aj o;refine(H M C E B D w s _ j d).mono ?_;rintro e i ⟨z,g,y,F,v,t,_,f,_,_,_,A⟩;exact⟨z,g,y,f,v,t,A.on (Kb.refl _ _) fun b p=>p.imp id fun q=>⟨q.1,q.2.1,fun q=>q⟩⟩
theorem pS:∀ {z:List (Nat×Array Value)},(z.Pairwise fun a b=>a.1≠b.1)->∀ {p q:Nat×Array Value},p∈z->q∈z->p.1=q.1->p=q
 |[],_,p,q,hp,_,_=>(qq hp).elim
 |x::xs,h,p,q,hp,c,e=>by
  cases h with
  |cons d f=>
  cases hp with
  |head=>
   cases c with
   |head=>rfl
   |tail _ c=>exact absurd e (d q c)
  |tail _ hp=>
   cases c with
   |head=>exact absurd e.symm (d p hp)
   |tail _ c=>exact pS f hp c e
section
variable {G:Gh} {M:Nat->Prop} {C:Option Addr} {E:Nat} {B:Option Addr} {D:Nat} {w y w2:World} {s s1 J:al} {z:List (Nat×Array Value)} {ts:List (Nd×List Value)} {L:List (Nat×List Nd×Option Addr×Nat)} {i:Value->Array Value} {pb d:Nat}
theorem kZ.pE{k:Nat}{x:List ak->PM (Nd×List ak)}(l:kZ G I i k x)(h:Bd G M C E B D w s L ((d,cs)::z) ts y s1)(c:∀ k,M k->k<w.heap.size)(g:(pb,(bq G))∈z)(a:pb<d):pM G C E B D I k #[] (Cd d pb) (rV x) LG.ls (mc M pb d) (ug G i pb d (d+1)):=
 l M C E B D pb d h.ps.mp (fun b o e=>(h.ps.mn b o e).1) (fun b o e=>(h.ps.mf b o e).1) (h.nm ⟨_,.tail _ g,rfl⟩) (h.nm ⟨_,.head _,rfl⟩) a (fun j f=>by have:=c j f;have:w.heap.size<=d:=h.lo _ (.head _);omega)
theorem zG{β:Type}{aP:Nat}{args:Array Value}{Q:ak}{x:List ak->PM (Nd×List ak)}{g:List Nd×List ak->PM β}{r:Except (Nat×Nat) (β×al)}
 (H:∀ aT,hF G.X n Q (rV x) [] s1=some aT->PS G (mc M pb d LG.zero) C E B D y s1->ug G i pb d (d+1) y LG.zero->oX G (mc M pb d) (ug G i pb d (d+1))->Calls Tryz.prog aP args y fun e aU=>lX G C E B D LG.ls (mc M pb d) (ug G i pb d (d+1)) y s1 LG.zero aT e aU)
 (bA:∀ k,M k->k<w.heap.size) (bD:nH G.X x) (W:∀ v,i v≠#[]) (h:Bd G M C E B D w s L ((d,i (.slice none 0 0))::z) ts y s1) (T:(pb,(bq G))∈z) (bH:pb<d) (F:(hF G.X n Q x []>>=g) s1=some r):
 Calls Tryz.prog aP args y fun e w2=>(∃ c q,r=.error (c,q)/\e=az c q/\Kn G.B M w w2)\/∃ l ls J a c aQ aR,e=.returned (.slice a l.length c)/\Hid (g (l,ls) J=some r)/\Hid (Bd G M C E B D w s L ((d,i (.slice aQ ls.length aR))::z) (([.sl l],[.slice a l.length c])::([.sl (strs ls)],[.slice aQ ls.length aR])::ts) w2 J):=by
 have aI:w.heap.size<=d:=h.lo _ (.head _);have bJ:w.heap.size<=pb:=h.lo (pb,_) (.tail _ T);have bF:d<y.heap.size:=(h.bw _ (.head _)).1;have bI:pb<y.heap.size:=(h.bw (pb,_) (.tail _ T)).1;have bC:=h.bl;have b6:=h.bB
 have Y:PS G (mc M pb d LG.zero) C E B D y s1:=h.ps.more (fun _ q=>.inl q) (fun k P=>by
  rcases P with q|q|q|q
  ·exact h.ps.mB k q
  ·exact⟨O,O⟩
  ·exact⟨O,O⟩
  ·cases q)
 have Z:ug G i pb d (d+1) y LG.zero:=⟨h.bx (pb,_) (.tail _ T),h.bx _ (.head _) (W _),.inl ⟨rfl,rfl,rfl⟩,fun k q=>by cases q⟩;have aM:oX G (mc M pb d) (ug G i pb d (d+1)):=ug.ok O O O
 have R:∀ j,mc M pb d LG.zero j->M j\/j=d\/j=pb:=fun j q=>by
  rcases q with q|q|q|q
  ·exact .inl q
  ·exact .inr (.inl q)
  ·exact .inr (.inr q)
  ·cases q
 have aC:∀ {w2:World},Kn G.B (mc M pb d LG.zero) y w2->Kn G.B M w w2:=fun P=>h.kn.trans P fun j bN q=>by
  rcases R j q with q|q|q
  ·exact q
  ·omega
  ·omega
 have aO:hF G.X n Q (rV x) [] s1=hF G.X n Q x [] s1:=GO bD n Q s1 h.ps.il
 rcases a_ F with⟨c,q,aE,rfl⟩|⟨⟨l,ls⟩,J,aE,aX⟩
 ·exact(H _ (aO.trans aE) Y Z aM).mono fun e aU ⟨P,q⟩=>.inl ⟨_,_,rfl,q,aC P⟩
 ·refine(H _ (aO.trans aE) Y Z aM).mono ?_;rintro e w2 ⟨P,aK,bE,u,v,rfl,S,aG,N,bG,aJ,bM⟩;have S:u.ls=ls:=S
  obtain⟨a,c,rfl,bL⟩:=bM.ue (Kb.refl _ _) (fun b aB=>(show Own G.B w.heap.size w2.heap.size (VM M w ((d,i (.slice u.a ls.length u.c))::z)) b from aB.imp id fun q=>⟨O,q.2.1,fun F=>F.elim (fun F=>by
   obtain⟨p,f,e⟩:=F;cases f with
   |head=>have e:d=b:=e;omega
   |tail _ f=>have:=(h.bw p (.tail _ f)).1;omega) (fun m=>ba ((h.ps.mB _ m.1).2))⟩))
  refine .inr ⟨l,ls,J,a,c,u.a,u.c,rfl,U aX,U ?_⟩
  have aD:ah w2 (Own G.B w.heap.size w2.heap.size (VM M w ((d,i (.slice u.a ls.length u.c))::z))) [.sl (strs ls)] [.slice u.a ls.length u.c]:=by
   refine cr ?_ gO
   rcases N.Gu with⟨aL,aV,aW⟩|⟨A,e,aA,aF⟩
   ·rw[S] at aL;subst aL;rw[aV,aW];exact aa
   ·rw[S] at aF;have I:A<w2.heap.size:=by obtain⟨_,_,q,_⟩:=aF;exact q
    have aY:=N.qY A aA
    have aZ:y.heap.size<=A:=by
     rcases aJ A (.inr (.inr (.inr aA))) with q|q
     ·rcases R A q with q|q|q
      ·have:=bA _ q;omega
      ·omega
      ·omega
     ·exact q
    have:=aF.rep (F':=Own G.B w.heap.size w2.heap.size (VM M w ((d,i (.slice u.a ls.length u.c))::z))) (fun _ q=>q.elim) (.inr ⟨O,I,fun F=>F.elim (fun F=>by
     obtain⟨p,f,e⟩:=F;cases f with
     |head=>have e:d=A:=e;omega
     |tail _ f=>have:=(h.bw p (.tail _ f)).1;omega) (fun m=>ba ((h.ps.mB _ m.1).2))⟩)
    rw[jc] at this;rw[<-e] at this;exact this
  have aH:Bd G M C E B D w s L ((d,i (.slice u.a ls.length u.c))::z) ts w2 J:=by
   have hK:Kb y w2 (Own G.B w.heap.size y.heap.size (VM M w ((d,i (.slice none 0 0))::z))):=fun b aB=>by
    rcases aB with q|q
    ·exact P.ia.block b q
    ·refine P.gM b q.2.1 (fun m=>?_)
     rcases R _ m with m|m|m
     ·exact q.2.2 (.inr ⟨m,q.1⟩)
     ·exact q.2.2 (.inl ⟨_,.head _,m.symm⟩)
     ·exact q.2.2 (.inl ⟨_,.tail _ T,m.symm⟩)
   have aN:∀ b,VM M w ((d,i (.slice u.a ls.length u.c))::z) b->VM M w ((d,i (.slice none 0 0))::z) b:=fun b F=>F.imp (fun F=>by
    obtain⟨p,f,e⟩:=F;cases f with
    |head=>exact⟨_,.head _,e⟩
    |tail _ f=>exact⟨p,.tail _ f,e⟩) id
   refine⟨aC P,aG.less (fun _ q=>.inl q) h.ps.mp (fun b o e=>(h.ps.mn b o e).1) (fun b o e=>(h.ps.mf b o e).1),aK.trans h.sc,fy h.i bE,h.bl,fun p f m=>?_,fun p f=>?_,fun p f=>?_,?_,fun p f=>(h.tr p f).on hK (fun b aB=>aB.imp id fun q=>⟨q.1,ba P.size,fun F=>q.2.2 (aN b F)⟩),fun q bK=>(h.rw q bK).on hK (fun A X=>?_) P.size (fun A X=>?_) (fun b _ v=>aN b v) b6⟩
   ·cases f with
    |head=>exact h.nq _ (.head _) m
    |tail _ f=>exact h.nq _ (.tail _ f) m
   ·cases f with
    |head=>rw[<-S];exact⟨N.bk.1,fun _=>N.bk⟩
    |tail _ f=>
     by_cases e:p.1=pb
     ·cases h.dj with
      |cons _ d2=>
      cases pS d2 f T e;exact⟨N.bp.1,fun _=>N.bp⟩
     ·refine(h.bw p (.tail _ f)).kn P (fun q=>?_)
      rcases R _ q with q|q|q
      ·exact h.nm ⟨p,.tail _ f,rfl⟩ q
      ·cases h.dj with
       |cons d1 _=>exact d1 p f q.symm
      ·exact e q
   ·cases f with
    |head=>exact aI
    |tail _ f=>exact h.lo p (.tail _ f)
   ·cases h.dj with
    |cons d1 d2=>exact .cons (fun p T=>d1 p T) d2
   ·refine P.gM A (h.bw _ X).1 (fun m=>?_)
    rcases List.mem_cons.1 X with e|I
    ·exact W _ (congrArg Prod.snd e).symm
    ·rcases R _ m with m|m|m
     ·exact h.nm ⟨_,X,rfl⟩ m
     ·exact(List.pairwise_cons.1 h.dj).1 _ I m.symm
     ·have:=pS (List.pairwise_cons.1 h.dj).2 I T m;cases this
   ·rcases List.mem_cons.1 X with e|I
    ·exact absurd (congrArg Prod.snd e).symm (W _)
    ·exact .tail _ I
  exact(aH.add aD).add bL
end
theorem ah.hd{w:World}{t:Tr}{v:Value}(h:ah w F [t] [v]):b8 w F t [v]:=by
 unfold ah at h;obtain⟨c,c2,e,b,a⟩:=h;unfold ah at a;subst a;rw[uJ] at e;rw[e];exact b
section
variable {G:Gh} {M:Nat->Prop} {C:Option Addr} {E:Nat} {B:Option Addr} {D:Nat} {w y w2:World} {s s1 J:al} {z:List (Nat×Array Value)} {ts:List (Nd×List Value)} {L:List (Nat×List Nd×Option Addr×Nat)}
theorem Bd.p(h:Bd G M C E B D w s L z ts y s1)(n:Nat){pb:Nat}(a:z[n]?=some (pb,(bq G)):=by rfl):y.cell? ⟨pb,0,none⟩=some (.pointer (some ⟨G.bp,0,none⟩)):=h.c n 0 a
theorem Bd.drop{b:Nat×Array Value}(h:Bd G M C E B D w s L (b::z) ts y s1)(j:b.2≠#[]:=by simp):Bd G M C E B D w s L z ts y s1:=
 have f:∀ c,VM M w z c->VM M w (b::z) c:=fun c v=>v.imp (fun⟨x,k,e⟩=>⟨x,.tail _ k,e⟩) id
 ⟨h.kn,h.ps,h.sc,h.i,h.bl,fun p a=>h.nq p (.tail _ a),fun p a=>h.bw p (.tail _ a),fun p a=>h.lo p (.tail _ a),(List.pairwise_cons.1 h.dj).2,fun p a=>(h.tr p a).on (Kb.refl _ _) (fun c g=>g.imp id fun q=>⟨q.1,q.2.1,fun x=>q.2.2 (f c x)⟩),fun q i=>(h.rw q i).on (Kb.refl _ _) (fun _ _=>rfl) (aw _) (fun A d=>by
   cases d with
   |head=>exact absurd rfl j
   |tail _ d=>exact d) (fun c _ x=>f c x) h.bB⟩
theorem Bd.tl{t:Nd×List Value}(h:Bd G M C E B D w s L z (t::ts) y s1):Bd G M C E B D w s L z ts y s1:=h.sub fun _ a=>.tail _ a
theorem Bd.one(h:Bd G M C E B D w s L z ts y s1)(T:TypeId)(d:ah y (Own G.B w.heap.size y.heap.size (VM M w z)) nd cs.toList):Bd G M C E B D w s L z (([.sl [nd]],[.slice (some ⟨y.heap.size,0,none⟩) 1 1])::ts) (y.alloc (.cells cs T)) s1:=by
 have a:=ab y (.cells cs T);have f:=h.ps.bB;have e:=h.kn.size;refine(h.below a).add (cr (Bf (cs:=cs.toList) ar (.inr ⟨e,ar,h.nx (aw _)⟩) (d.on (Kb.of a fun b c=>?_) fun b c=>c.imp id fun q=>⟨q.1,ba a.size,q.2.2⟩)) gO)
 rcases c with q|q
 ·omega
 ·exact q.2.1
theorem Bd.two(h:Bd G M C E B D w s L z ts y s1){a:Nd}{cs BP:List Value}{A:Array Value}(T:TypeId)(g:A=(cs++BP).toArray)(i:ah y (Own G.B w.heap.size y.heap.size (VM M w z)) nd cs)(e:ah y (Own G.B w.heap.size y.heap.size (VM M w z)) a BP):Bd G M C E B D w s L z (([.sl [nd,a]],[.slice (some ⟨y.heap.size,0,none⟩) 2 2])::ts) (y.alloc (.cells A T)) s1:=by
 have c:=ab y (.cells A T);have k:=h.ps.bB;have j:=h.kn.size
 have hK:Kb y (y.alloc (.cells A T)) (Own G.B w.heap.size y.heap.size (VM M w z)):=Kb.of c fun b d=>by
  rcases d with q|q
  ·omega
  ·exact q.2.1
 have f:∀ b,Own G.B w.heap.size y.heap.size (VM M w z) b->Own G.B w.heap.size (y.alloc (.cells A T)).heap.size (VM M w z) b:=fun b d=>d.imp id fun q=>⟨q.1,ba c.size,q.2.2⟩;exact(h.below c).add (cr (IU g (.inr ⟨j,ar,h.nx (aw _)⟩) (i.on hK f) (e.on hK f)) gO)
theorem bz{a:List UInt8}{b:Bool}(d:ei G)(h:Bd G M C E B D w s L z ts y s1)(j:a7 G.X a s1=some (.ok (b,J))):Calls Tryz.prog 21 (vE G a) y fun e w2=>e=.returned (.bool b)/\Hid (Bd G M C E B D w s L z ts w2 J):=by
 refine(qV d h.ps a b J j).mono ?_;rintro e w2 ⟨rfl,i,g,c,f⟩;exact⟨rfl,U (h.go g i c f)⟩
theorem Bd.res(h:Bd G M C E B D w s L z ts y s1)(c:hM I){v:Value}(e:I y (Own G.B w.heap.size y.heap.size (VM M w z)) nd v):Kn G.B M w y/\s1.sc=s.sc/\s.i<=s1.i/\PS G M C E B D y s1/\∃ a,Ending.returned v=.returned a/\I y (Own G.B w.heap.size y.heap.size No) nd a:=
 ⟨h.kn,h.sc,h.i,h.ps,v,rfl,c _ _ _ _ _ _ e (Kb.refl _ _) fun b d=>d.imp id fun q=>⟨q.1,q.2.1,fun q=>q⟩⟩
theorem Bd.iu(h:Bd G M C E B D w s L z ts y s1)(n:Nat){cs:List Value}{d b:Nat}{Z:Array Value}{g:Func}{a:Act}{f:TypeId}{W:World}(v:ah y (Own G.B w.heap.size y.heap.size (VM M w z)) nd cs)(m:hM I)(k:z[n]?=some (d,Z):=by rfl)(l:cs.length=Z.size:=by rfl)(j:Z≠#[]:=by simp)(o:n9 I cs.length nd cs:=by exact⟨rfl,rfl,fun w F h=>by repeat (first|exact⟨rfl,h⟩|apply re)⟩)(r:g.results=#[.cell b f]:=by rfl)(p:a.tmps.getD b undef=.pointer (some ⟨d,0,none⟩):=by rfl)(x:(Tryz.prog.underlying f).map TypeDesc.isRow=some true:=by kernel_rfl)(t:(Tryz.prog.info? f).map (·.size)=some cs.length:=by kernel_rfl)(q:a.defers=[]:=by rfl)(A:y.setCells d 0 cs=W:=by rfl):bodyPost Tryz.prog g (fun e w2=>PN G M C E B D I w s (.ok (nd,s1)) e w2) .ret a W:=by
 subst A
 have c:=(h.add v).store n cs k l j
 have u:(d,cs.toArray)∈z.set n (d,cs.toArray):=lj (i:=n) (by rw[List.getElem?_set_self (List.getElem?_eq_some_iff.1 k).1])
 exact oI (c.bx _ u (fun e=>j (by have e:cs.toArray=#[]:=e;have:=congrArg Array.size e;rw[lZ,l] at this;exact Array.eq_empty_of_size_eq_zero this))) (c.res m (o.back _ _ (c.t 0))) r p x (by rw[lZ];exact t) q
theorem oc{k:FuncId}{args:Array Value}{A B Q:Ending->World->Prop}(h:Calls Tryz.prog k args y fun e w=>A e w\/B e w)(b:∀ e w,B e w->Q e w)(a:∀ e w,A e w->Q e w:=by rintro e f ⟨d,q,rfl,rfl,c⟩;unfold az;go_simp;exact⟨rfl,c,rfl⟩):Calls Tryz.prog k args y Q:=h.mono fun e w h=>h.elim (a e w) (b e w)
theorem ow{k:FuncId}{args:Array Value}{A Q:Ending->World->Prop}(h:Calls Tryz.prog k args y A)(a:∀ e w,A e w->Q e w:=by rintro e d ⟨c,q,rfl,rfl,b⟩;unfold az;go_simp;exact⟨rfl,b,rfl⟩):Calls Tryz.prog k args y Q:=h.mono a
end
theorem db{β γ:Type}(x:PM α)(f:α->PM β)(g:β->PM γ)(s:al):(x>>=fun a=>f a>>=g) s=((x>>=f)>>=g) s:=by
 show PM.bind x (fun a=>PM.bind (f a) g) s=PM.bind (PM.bind x f) g s;unfold PM.bind
 rcases x s with _|e|⟨a,t⟩<;>rfl
section
variable {G:Gh} {M:Nat->Prop} {C:Option Addr} {E:Nat} {B:Option Addr} {D:Nat} {w y w2:World} {s s1 J:al} {z:List (Nat×Array Value)} {ts:List (Nd×List Value)} {L:List (Nat×List Nd×Option Addr×Nat)}
theorem Bd.ru{l:List Nd}{a:Option Addr}{c:Nat}(h:Bd G M C E B D w s L z (([.sl l],[.slice a l.length c])::ts) y s1):Kn G.B M w y/\s1.sc=s.sc/\s.i<=s1.i/\PS G M C E B D y s1/\∃ d,Ending.returned (.slice a l.length c)=.returned d/\ey y (Own G.B w.heap.size y.heap.size No) l d:=
 ⟨h.kn,h.sc,h.i,h.ps,_,rfl,a,c,rfl,(h.t 0).hd.on (Kb.refl _ _) fun b e=>e.imp id fun q=>⟨q.1,q.2.1,fun q=>q⟩⟩
theorem Bd.q{pb:Nat}(h:Bd G M C E B D w s L z ts y s1)(b:cc w pb cs)(a:¬M pb):cc y pb cs:=b.kn h.kn a
theorem cc.p{pb:Nat}(a:cc w pb (bq G)):w.cell? ⟨pb,0,none⟩=some (.pointer (some ⟨G.bp,0,none⟩)):=a.2.2 0 (show 0<1 from O)
def FP(G:Gh)(k:Nat)(I:jL)(x:PM Nd):Prop:=∀ (M:Nat->Prop) (C:Option Addr) (E:Nat) (B:Option Addr) (D:Nat) (w:World) (s:al) (r:Except (Nat×Nat) (Nd×al)) (pb:Nat),PS G M C E B D w s->¬M pb->cc w pb (bq G)->x s=some r->Calls Tryz.prog k (t_ pb) w fun e w'=>PN G M C E B D I w s r e w'
def MP(M:Nat->Prop)(pb:Nat):Nat->Prop:=fun k=>M k\/k=pb
theorem cc.ok{pb:Nat}(h:cc w pb cs)(e:w2.heap[pb]?=w.heap[pb]?):cc w2 pb cs:=
 ⟨by have b:=h.1;rw[D9 b] at e;exact(Array.getElem?_eq_some_iff.1 e).1,fun o=>(q9 (w:=w) (a:=⟨pb,o,none⟩) e).trans (h.2.1 o),fun j c=>(i' (w:=w) (a:=⟨pb,0+j,none⟩) e).trans (h.2.2 j c)⟩
theorem MP.ok{pb:Nat}{Γ:Type}(b:pb≠G.bp):oX G (fun _:Γ=>MP M pb) (fun w _=>cc w pb cs):=fun _ _ _ h a=>h.ok (a pb (.inr rfl) b)
theorem FP.pE{k pb:Nat}(P:hM I)(F:FP G k I x)(h:Bd G M C E B D w s L z ts y s1)(T:(pb,(bq G))∈z):
 pM G C E B D I k #[] (t_ pb) (lone x) (fun _:Unit=>()) (fun _=>MP M pb) (fun w _=>cc w pb (bq G)):=fun i A g r l p H=>by
 have d:¬M pb:=h.nm ⟨_,T,rfl⟩;have f:PS G M C E B D i A:=l.less (fun _ q=>.inl q) h.ps.mp (fun b o e=>(h.ps.mn b o e).1) (fun b o e=>(h.ps.mf b o e).1)
 have t:∀ {w2:World} {J:al},i.heap.size<=w2.heap.size->PS G M C E B D w2 J->PS G (MP M pb) C E B D w2 J:=fun X q=>q.more (fun _ q=>.inl q) (fun k a=>by
  have:=l.mB k a
  exact⟨this.1,O⟩)
 unfold lone at H
 rcases a_ H with⟨c,q,j,rfl⟩|⟨nd,s1,j,N⟩
 ·exact(F M C E B D i A _ pb f d p j).mono fun e w2 ⟨a,R⟩=>⟨a.more fun _ q=>.inl q,R⟩
 ·cases aj N;refine(F M C E B D i A _ pb f d p j).mono ?_;rintro e w2 ⟨a,u,S,n,v,rfl,W⟩;exact⟨a.more fun _ q=>.inl q,u,S,(),v,rfl,rfl,t a.size n,p.kn a d,fun _ q=>q,fun _ q=>.inl q,P _ _ _ _ _ _ W (Kb.refl _ _) fun b Q=>Q.imp id fun q=>⟨q.1,q.2.1,fun m=>ba ((l.mB b m).2)⟩⟩
theorem EM{β:Type}{X pb:Nat}{args:Array Value}{t:ak}{g:List Nd->PM β}{r:Except (Nat×Nat) (β×al)}
 (H:∀ Y,list G.X n t (lone x) () s1=some Y->PS G (MP M pb) C E B D y s1->cc y pb (bq G)->oX G (fun _:Unit=>MP M pb) (fun w _=>cc w pb (bq G))->Calls Tryz.prog X args y fun e Z=>lX G C E B D (fun _:Unit=>()) (fun _=>MP M pb) (fun w _=>cc w pb (bq G)) y s1 () Y e Z)
 (h:Bd G M C E B D w s L z ts y s1) (i:(pb,(bq G))∈z) (W:(df G.X n t x>>=g) s1=some r):
 Calls Tryz.prog X args y fun e w2=>(∃ c q,r=.error (c,q)/\e=az c q/\Kn G.B M w w2)\/∃ l J a c,e=.returned (.slice a l.length c)/\Hid (g l J=some r)/\Hid (Bd G M C E B D w s L z (([.sl l],[.slice a l.length c])::ts) w2 J):=by
 have aF:w.heap.size<=pb:=h.lo _ i;have aE:pb<y.heap.size:=(h.bw _ i).1;have aC:=h.bl;have aB:=h.bB
 have F:PS G (MP M pb) C E B D y s1:=h.ps.more (fun _ q=>.inl q) (fun k d=>by
  rcases d with q|q
  ·exact h.ps.mB k q
  ·exact⟨O,O⟩)
 have N:∀ {w2:World},Kn G.B (MP M pb) y w2->Kn G.B M w w2:=fun d=>h.kn.trans d fun j aK q=>by
  rcases q with q|q
  ·exact q
  ·omega
 unfold df at W;rw[<-db] at W
 rcases a_ W with⟨c,q,P,rfl⟩|⟨⟨l,u⟩,J,P,aA⟩
 ·exact(H _ P F (h.bx _ i) (MP.ok O)).mono fun e Z ⟨d,q⟩=>.inl ⟨_,_,rfl,q,N d⟩
 ·refine(H _ P F (h.bx _ i) (MP.ok O)).mono ?_;rintro e w2 ⟨d,T,aD,aJ,v,rfl,_,R,I,_,_,aI⟩;obtain⟨a,c,rfl,aH⟩:=aI.ue (Kb.refl _ _) (h.own (aw _))
  have hK:Kb y w2 (Own G.B w.heap.size y.heap.size (VM M w z)):=fun b S=>by
   rcases S with q|q
   ·exact d.ia.block b q
   ·refine d.gM b q.2.1 (fun m=>?_)
    rcases m with m|m
    ·exact q.2.2 (.inr ⟨m,q.1⟩)
    ·exact q.2.2 (.inl ⟨_,i,m.symm⟩)
  refine .inr ⟨l,J,a,c,rfl,U aA,U (Bd.add ⟨N d,R.less (fun _ q=>.inl q) h.ps.mp (fun b o e=>(h.ps.mn b o e).1) (fun b o e=>(h.ps.mf b o e).1),T.trans h.sc,fy h.i aD,h.bl,h.nq,fun p f=>?_,h.lo,h.dj,fun p f=>(h.tr p f).on hK (fun b S=>S.imp id fun q=>⟨q.1,ba d.size,q.2.2⟩),fun q aG=>(h.rw q aG).on hK (fun A Q=>?_) d.size (fun _ q=>q) (fun _ _ q=>q) aB⟩ aH)⟩
  ·by_cases e:p.1=pb
   ·cases pS h.dj f i e;exact⟨I.1,fun _=>I⟩
   ·refine(h.bw p f).kn d (fun q=>?_)
    rcases q with q|q
    ·exact h.nm ⟨p,f,rfl⟩ q
    ·exact e q
  ·refine d.gM A (h.bw _ Q).1 (fun m=>?_)
   rcases m with m|m
   ·exact h.nm ⟨_,Q,rfl⟩ m
   ·have:=pS h.dj Q i m;cases this
end
def jE(nd:Nd):Prop:=∃ k n a l,nd=[vI k,vS n,.sl a,.sl l]
theorem jE.mk{k:Int}{n:ak}{a:List Nd}{l:List ak}:jE (ho k n a l):=⟨k,n,a,strs l,rfl⟩
theorem jE.cells{w:World}{cs:List Value}(h:jE nd)(b:ah w F nd cs):∃ (r:Int) (s:ByteArray) (c:Option Addr) (e d:Nat) (f:Option Addr) (i g:Nat),cs=[.int .i64 r,.string s,.slice c e d,.slice f i g]:=by
 obtain⟨k,n,a,l,rfl⟩:=h;unfold ah ah ah ah ah at b;obtain⟨v,c2,rfl,j,x,y,rfl,m,z,A,rfl,o,B,C,rfl,p,q⟩:=b;unfold vI vS b8 at*;obtain⟨t,D,rfl,_⟩:=o;obtain⟨u,E,rfl,_⟩:=p;subst j m q;exact⟨_,_,_,_,_,_,_,_,rfl⟩
theorem qZ{w:World}{x:Nd}{a:Option Addr}{c:Nat}(h:ah w F [.sl [x]] [.slice a 1 c]):∃ b o cs,a=some ⟨b,o,none⟩/\(∀ j,j<cs.length->w.cell? ⟨b,o+j,none⟩=cs[j]?)/\ah w F x cs:=by
 have h:=h.hd;unfold b8 at h;obtain⟨_,_,g,_,_,h⟩:=h;cases g
 rcases h with h|⟨b,o,rfl,i,e⟩
 ·cases h
 unfold gZ at e;obtain⟨⟨cs,d,f⟩,_⟩:=e;exact⟨b,o,cs,rfl,d,f⟩
theorem pI(x:PM α)(s:al):(x>>=fun a=>(pure a:PM α)) s=x s:=by
 show PM.bind x PM.ret s=x s;unfold PM.bind
 rcases x s with _|_|⟨_,_⟩<;>rfl
theorem Ni{β:Type}{c:Prop}[Decidable c](x y:PM α)(g:α->PM β)(s:al):((if c then x else y)>>=g) s=(if c then x>>=g else y>>=g) s:=by split<;>rfl
theorem tm(c d:Addr)(w:World):CallsD Tryz.prog 10 #[.pointer (some c),.pointer (some d)] .returning w fun e f g=>e=.returned (.tuple #[])/\f=.returning/\g=w:=by
 refine callsD_of_wpS Tryz.func10 rfl fun a cs b=>?_;apply wpS_seq;apply wpS_region;simp[wpOpsS,go_sem,recoverD,b,Tryz.ntmps10,Exit.thenS];refine wpS_of_wp ?_
 go_wp2_with fail
 cases a
 simp_all [bodyPostS,results,Tryz.results10]
theorem wG(c q:Nat)(w:World):(Instr.typeAssert (.iface 26 (.agg (jj c q))) 20 26 true).run Tryz.prog w=.ok (.tuple #[.agg (jj c q),.bool true]) w:=aq
theorem qy(d b:Nat)(c q:Nat)(x:Value)(y0 y1:Int)(j:List PanicEntry)(w:World)(F:w.cell? ⟨d,0,none⟩=some x)(r:w.cell? ⟨b,0,none⟩=some (.int .i64 y0))(A:w.cell? ⟨b,1,none⟩=some (.int .i64 y1))
 (J:∀ o,w.frozen? ⟨d,o,none⟩=false) (L:∀ o,w.frozen? ⟨b,o,none⟩=false) (s:¬d=b):
 CallsD Tryz.prog 10 (Cd d b) (.panicking ({v:=.iface 26 (.agg (jj c q)),recovered:=false}::j)) w fun e Y Z=>
  e=.returned (.tuple #[])/\Y=.panicking ({v:=.iface 26 (.agg (jj c q)),recovered:=true}::j)/\∃ f,Below w.heap.size w f/\Z=((f.setCell ⟨d,0,none⟩ (.slice none 0 0)).setCell ⟨b,0,none⟩ (.int .i64 (c:Nat))).setCell ⟨b,1,none⟩ (.int .i64 (q:Nat)):=by
 refine callsD_of_wpS Tryz.func10 rfl fun I cs X=>?_;apply wpS_seq;apply wpS_region;simp[wpOpsS,go_sem,recoverD,X,Tryz.ntmps10,Exit.thenS];refine wpS_of_wp ?_;have W:=wG c q
 go_upto_region 7 with fail
 have D:=cc.new w (jj c q) 26;have g:=ab w (.cells (jj c q) 26);have n:d<w.heap.size:=kU w _ F;have k:b<w.heap.size:=kU w _ r;have y:Hid (Below w.heap.size w (w.alloc (.cells (jj c q) 26)).drew):=U g.drew;obtain⟨h,i⟩:∃ h,w.heap.size=h:=⟨_,rfl⟩;have l:h≠d/\h≠b:=⟨O,O⟩;have G:(w.alloc (.cells (jj c q) 26)).drew.cell? ⟨h,0,none⟩=some (.int .i64 (c:Nat)):=by rw[<-i];exact D.2.2 0 (show 0<2 from O)
 have H:(w.alloc (.cells (jj c q) 26)).drew.cell? ⟨h,1,none⟩=some (.int .i64 (q:Nat)):=by rw[<-i];exact D.2.2 1 (show 1<2 from O)
 have N:(w.alloc (.cells (jj c q) 26)).drew.cell? ⟨d,0,none⟩=some x:=(g.cell (p:=⟨d,0,none⟩) n).trans F;have B:(w.alloc (.cells (jj c q) 26)).drew.cell? ⟨b,0,none⟩=some (.int .i64 y0):=(g.cell (p:=⟨b,0,none⟩) k).trans r;have m1:(w.alloc (.cells (jj c q) 26)).drew.cell? ⟨b,1,none⟩=some (.int .i64 y1):=(g.cell (p:=⟨b,1,none⟩) k).trans A;have P:∀ o,(w.alloc (.cells (jj c q) 26)).drew.frozen? ⟨d,o,none⟩=false:=fun o=>(g.frozen (p:=⟨d,o,none⟩) n).trans (J o);have C:∀ o,(w.alloc (.cells (jj c q) 26)).drew.frozen? ⟨b,o,none⟩=false:=fun o=>(g.frozen (p:=⟨b,o,none⟩) k).trans (L o);rw[i];have M:=i;clear D g F r A J L n k;refine b3 (S:=fun Q=>Q.cell? ⟨h,0,none⟩=some (.int .i64 (c:Nat))/\Q.cell? ⟨h,1,none⟩=some (.int .i64 (q:Nat))) (T:=fun R=>R==2) aq ?_;generalize (w.alloc (.cells (jj c q) 26)).drew=f at G H N B m1 P C y⊢;have i:=l;clear l;have m:=b4 (G) (H);refine tq 0 m ?_;refine cw 1 fun K hK=>?_;go_simp;clear N P;have u:(f.setCell ⟨d,0,none⟩ (.slice none 0 0)).heap[h]?=f.heap[h]?:=h3 _ _ _ _ (show h≠d from i.1);have z:=b4 ((i' (w:=f) (a:=⟨h,0,none⟩) u).trans (m).1) ((i' (w:=f) (a:=⟨h,1,none⟩) u).trans (m).2);have B:(f.setCell ⟨d,0,none⟩ (.slice none 0 0)).cell? ⟨b,0,none⟩=some (.int .i64 y0):=(i' (w:=f) (a:=⟨b,0,none⟩) (h3 _ _ _ _ (show b≠d from fun e=>s e.symm))).trans B;have m1:(f.setCell ⟨d,0,none⟩ (.slice none 0 0)).cell? ⟨b,1,none⟩=some (.int .i64 y1):=(i' (w:=f) (a:=⟨b,1,none⟩) (h3 _ _ _ _ (show b≠d from fun e=>s e.symm))).trans m1;have C:∀ o,(f.setCell ⟨d,0,none⟩ (.slice none 0 0)).frozen? ⟨b,o,none⟩=false:=fun o=>(q9 (w:=f) (a:=⟨b,o,none⟩) (h3 _ _ _ _ (show b≠d from fun e=>s e.symm))).trans (C o);clear u;generalize E:f.setCell ⟨d,0,none⟩ (.slice none 0 0)=aA at z B m1 C⊢;refine nx hK z ?_;clear hK K;refine cw 2 fun K hK=>?_;go_simp;refine oZ hK ?_;clear hK K;refine bj aq ?_ _;subst E
 go_wp2_with fail
 refine⟨rfl,_,rfl,.tuple #[],?_,rfl,rfl,f,y.out,rfl⟩;simp[results,Tryz.results10]
end Go.Proofs.YtkblonfmjlopaaaGreatDoor
