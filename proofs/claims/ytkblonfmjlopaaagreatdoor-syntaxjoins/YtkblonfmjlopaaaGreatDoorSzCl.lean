/-
  The shape of what each reader answers. Plain.
-/
import Derived.Test.YtkblonfmjlopaaaGreatDoorSxS3
set_option linter.all false
set_option maxRecDepth 1000000
set_option maxHeartbeats 16000000
namespace Go.Proofs.YtkblonfmjlopaaaGreatDoor
section
open Go
def Gv{α:Type}(P:α->Prop)(x:PM α):Prop:=∀ s a s',x s=some (.ok (a,s'))->P a
section
variable {α β:Type} {X:Tx} {P:α->Prop} {Q:β->Prop}
theorem br:Gv P (PM.none):=fun s a b h=>by cases h
theorem ag{a:α}(h:P a):Gv P (pure a):=fun s b c e=>by cases aj e;exact h
theorem jQ:Gv P (eo X):=fun s a b h=>by rw[kY] at h;cases h
theorem ao{x:PM β}{f:β->PM α}(g:Gv Q x)(e:∀ b,Q b->Gv P (f b)):Gv P (x>>=f):=fun s a i h=>by
 obtain⟨b,j,c,d⟩:=di h;exact e b (g _ _ _ c) _ _ _ d
theorem ae{x:PM β}{f:β->PM α}(d:∀ b,Gv P (f b)):Gv P (x>>=f):=fun s a g h=>by
 obtain⟨b,i,e,c⟩:=di h;exact d b _ _ _ c
theorem av{c:Prop}[Decidable c]{x y:PM α}(a:c->Gv P x)(b:¬c->Gv P y):Gv P (if c then x else y):=by
 by_cases h:c
 ·rw[if_pos h];exact a h
 ·rw[if_neg h];exact b h
end
theorem yG{X:Tx}{n:Nat}{b:ak}{x:PM Nd}{P:Nd->Prop}(h:Gv P x):Gv (fun l=>l≠[]/\∀ a,a∈l->P a) (df X n b x):=fun s l c e=>k8 h e
section
variable {X:Tx} {f:Fs} {n:Nat}
theorem r4:∀ (m:Nat) (l:List Nd),(∀ a,a∈l->jE a)->Gv (fun l=>∀ a,a∈l->jE a) (ek X m l)
 |0,l,h=>br
 |m+1,l,h=>by
  unfold ek;refine ae fun t=>av (fun _=>ae fun a=>r4 m _ fun b c=>?_) (fun _=>ag h)
  rcases List.mem_singleton.1 c with rfl
  exact jE.mk
theorem B5{P:Nd->Prop}{a:Nd}(h:P a):∀ b,b∈[a]->P b:=fun b c=>by rcases List.mem_singleton.1 c with rfl;exact h
theorem nv(h:Gv jE f.ty):Gv jE (fe X f n):=by
 unfold fe;refine ae fun t=>ao (Q:=fun l=>∀ a,a∈l->jE a) ?_ fun l b=>ao (r4 _ l b) fun l b=>?_
 ·refine av (fun _=>ae fun a=>ag (B5 jE.mk)) (fun _=>av (fun _=>ae fun a=>ag (B5 jE.mk)) (fun _=>ae fun o=>av (fun _=>ao (yG h) fun l b=>ae fun _=>ag b.2) (fun _=>ae fun _=>ae fun r=>ag (B5 jE.mk))))
 ·split
  ·exact ag (b _ (.head _))
  ·exact jQ
theorem yH(h:Gv jE f.ty):∀ (m:Nat) (l:List Nd),(∀ a,a∈l->jE a)->Gv (fun l=>∀ a,a∈l->jE a) (ik X f n m l)
 |0,l,c=>br
 |m+1,l,c=>by
  unfold ik;refine ae fun t=>av (fun _=>ae fun _=>ao (nv h) fun a d=>yH h m _ fun b e=>?_) (fun _=>ag c)
  rcases List.mem_append.1 e with q|q
  ·exact c b q
  ·exact B5 d b q
theorem LL(h:Gv jE f.ty):Gv jE (qh X f n):=by
 unfold qh;refine ao (nv h) fun a c=>ao (yH h _ _ (B5 c)) fun l d=>?_;refine ae fun o=>av (fun _=>ae fun b=>ag jE.mk) (fun _=>ag ?_)
 split
 ·exact d _ (.head _)
 ·exact jE.mk
theorem ep.mk'{c:Int}{name:ak}{z n:Int}{d:ak}{e:List ak}{b a:List Nd}:ep (c_ c name z n d e b a):=⟨_,_,_,_,_,_,_,_,rfl⟩
theorem ep.E8{l:ak}:ep (named l):=by
 unfold named
 split<;>exact ep.mk'
theorem DY(w:ak):Gv ep (h' X f n w):=by
 unfold h';exact av (fun _=>ag ep.mk') fun _=>av (fun _=>ae fun a=>ag ep.E8) fun _=>ae fun r=>ag ep.mk'
theorem G2{b:ak}{x:PM Nd}{P:Nd->Prop}(h:Gv P x):Gv (fun l=>∀ a,a∈l->P a) (gd X n b x):=by
 unfold gd hF;refine ao (Q:=fun r:List Nd×Unit=>∀ a,a∈r.1->P a) ?_ fun r c=>ag c;refine ae fun o=>av (fun _=>ag fun a d=>by cases d) fun _=>ao (Q:=fun r:List Nd×Unit=>∀ a,a∈r.1->P a) (fun s r f e=>?_) fun r c=>ae fun _=>ag c;obtain⟨l,u⟩:=r
 exact(k8 h (show df X n [44] x s=some (.ok (l,f)) from by
  show PM.bind _ _ _=_;unfold PM.bind;rw[e]
  rfl)).2
theorem xD(e:Gv ep f.pat)(b:∀ w,Gv ep (f.l7 w))(c:∀ l,Gv ep (f.lU l)):Gv ep (fp X f n):=by
 unfold fp;intro s a g h;simp only [] at h
 split at h
 ·revert h
  refine(av (fun _=>ag ep.mk') fun _=>av (fun _=>ag ep.mk') fun _=>av (fun _=>ag ep.mk') fun _=>av (fun _=>av (fun _=>ao (G2 e) fun l d=>?_) fun _=>av (fun _=>ae fun l=>ag ep.mk') fun _=>b _) fun _=>ag ep.E8) _ _ _
  split
  ·exact ag (d _ (.head _))
  ·exact c _
 ·exact jQ (P:=ep) _ _ _ h
theorem DZ(h:Gv ep (fp X f n)):Gv ep (jg X f n):=by
 unfold jg;intro s a c e;exact(ao h fun x b=>ae fun c=>av (fun _=>ae fun y=>ag ep.mk') fun _=>ag b) _ _ _ e
theorem q6{P:Nd->Prop}{e:Int}{f k:Bool}{d:Int->Bool->PM Nd}{g:ak->Nd->Nd->Nd}(j:∀ t a b,P (g t a b)):∀ (m:Nat) (a:Nd) (c:Int×Bool),P a->Gv P (fg X e f k d g m a c)
 |0,a,c,i=>br
 |m+1,a,c,i=>by
  unfold fg;intro s b l h;simp only [] at h
  split at h
  ·cases h;exact i
  ·split at h
   ·cases h;exact i
   ·split at h
    ·cases h;exact i
    ·split at h
     ·cases h
     ·split at h
      ·cases h
      ·exact(ae fun _=>ae fun b=>q6 j m _ _ (j _ _ _)) _ _ _ h
theorem B6(h:Gv ep (fp X f n))(l:Int)(b:Bool):Gv ep (ic X f n l b):=by
 unfold ic;exact ao (DZ h) fun a c=>q6 (fun _ _ _=>ep.mk') _ _ _ c
theorem tT:∀ (m:Nat) (x:Nd),ep x->Gv ep (fq X f m x)
 |0,x,a=>br
 |m+1,x,a=>by
  unfold fq;exact ae fun o=>av (fun _=>ae fun t=>tT m _ ep.mk') fun _=>ag a
theorem G3(w:ak):Gv ep (jY f w):=by
 unfold jY;exact ae fun _=>ae fun _=>ae fun y=>ag ep.mk'
theorem JW(d:∀ l b,Gv ep (f.e8 l b))(c:∀ w,Gv ep (f.mG w)):Gv ep (nC X f n):=by
 unfold nC;intro s a h e;exact(ao (av (fun _=>c _) fun _=>d _ _) fun x g=>tT _ _ g) _ _ _ e
theorem bW.mk'{f:Int}{name:ak}{z n:Int}{c:Nat}{g:ak}{h:List ak}{e a d b:List Nd}:bW (b9 f name z n c g h e a d b):=⟨_,_,_,_,_,_,_,_,_,_,_,rfl⟩
theorem bW.seq{l:List Nd}(h:∀ a,a∈l->bW a):bW (lL l):=by
 unfold lL
 split
 ·exact h _ (.head _)
 ·exact bW.mk'
theorem D0(e:Nd)(c:bW e)(h:Gv bW f.exp):Gv bW (iw X f n e):=by
 unfold iw;refine ao (yG h) fun l d=>ag (bW.seq fun a b=>?_)
 rcases List.mem_cons.1 b with rfl|q
 ·exact c
 ·exact d.2 a q
theorem D3(e:Nd):Gv bW (ix X f n e):=by
 unfold ix;exact ae fun l=>ag bW.mk'
theorem G4(h:Gv bW f.exp)(c:∀ e,bW e->Gv bW (f.lS e))(g:∀ e,Gv bW (f.lC e)):Gv bW (paren X f):=by
 unfold paren;exact ae fun o=>av (fun _=>ag bW.mk') fun _=>ao h fun e a=>ae fun hX=>ao (av (fun _=>c e a) fun _=>ae fun b=>av (fun _=>g e) fun _=>ag a) fun r d=>ae fun _=>ag d
theorem G5(w:ak):Gv bW (jo X f n w):=by
 unfold jo;exact av (fun _=>ae fun a=>ag bW.mk') fun _=>av (fun _=>ae fun a=>ag bW.mk') fun _=>av (fun _=>ae fun _=>ae fun _=>ae fun _=>ae fun _=>ae fun _=>ae fun _=>ae fun _=>ag bW.mk') fun _=>av (fun _=>ae fun _=>ag bW.mk') fun _=>ae fun _=>ag bW.mk'
theorem JX(c:Gv bW (paren X f))(b:∀ w,Gv bW (f.mF w)):Gv bW (atom X f):=by
 unfold atom;intro s a d h;simp only [] at h
 split at h
 ·exact(av (fun _=>ag bW.mk') fun _=>av (fun _=>ag bW.mk') fun _=>av (fun _=>ag bW.mk') fun _=>av (fun _=>ag bW.mk') fun _=>av (fun _=>av (fun _=>c) fun _=>b _) fun _=>ag bW.mk') _ _ _ h
 ·exact jQ (P:=bW) _ _ _ h
theorem B7:∀ (m:Nat) (a:Nd),bW a->Gv bW (j' X f m a)
 |0,a,c=>br
 |m+1,a,c=>by
  unfold j';intro s b d h;simp only [] at h
  split at h
  ·exact(ae fun b=>B7 m _ bW.mk') _ _ _ h
  ·cases h;exact c
theorem B8(h:Gv bW (atom X f))(l:Int)(b:Bool):Gv bW (ie X f n l b):=by
 unfold ie app;exact ao (ao h fun a c=>B7 _ _ c) fun a c=>q6 (fun _ _ _=>bW.mk') _ _ _ c
theorem tU:∀ (m:Nat) (x:Nd),bW x->Gv bW (gV X f m x)
 |0,x,a=>br
 |m+1,x,a=>by
  unfold gV;exact ae fun o=>av (fun _=>ae fun t=>tU m _ bW.mk') fun _=>ag a
theorem D4(a:∀ l b,Gv bW (f.fB l b)):Gv bW (iz X f n):=by
 unfold iz;exact ao (a _ _) fun e c=>tU _ _ c
theorem D5(w:ak):Gv bW (h_ X f w):=by
 unfold h_;exact av (fun _=>ae fun _=>ae fun _=>ae fun _=>ae fun _=>ae fun _=>ag bW.mk') fun _=>av (fun _=>ae fun _=>ae fun _=>ae fun _=>ag bW.mk') fun _=>av (fun _=>ae fun _=>ae fun _=>ae fun _=>ag bW.mk') fun _=>ae fun _=>ag bW.mk'
theorem G6(h:∀ w,Gv bW (f.hd w)):Gv bW (ahead X f):=by
 unfold ahead;intro s a b e;exact(av (fun _=>ae fun a=>ag bW.mk') fun _=>h _) _ _ _ e
theorem yI{g:ak}{d:Int}{e c:PM Nd}(j:Gv bW e):Gv bW (j3 X f g d e c):=by
 unfold j3;exact ao j fun a i=>ae fun o=>av (fun _=>ae fun h=>av (fun _=>ae fun b=>ag bW.mk') fun _=>ae fun b=>ag bW.mk') fun _=>ag i
theorem tV:∀ (m:Nat) (x:Nd),bW x->Gv bW (gH X f m x)
 |0,x,a=>br
 |m+1,x,a=>by
  unfold gH;exact ae fun o=>av (fun _=>ae fun t=>tV m _ bW.mk') fun _=>ag a
theorem JY(h:∀ w,Gv bW (f.hd w))(a:Gv bW f.either):Gv bW (mM X f n):=by
 unfold mM;exact ae fun o=>av (fun _=>G6 h) fun _=>ao a fun e a=>tV _ _ a
end
structure Sp(f:Fs):Prop where
 ty:Gv jE f.ty
 pat:Gv ep f.pat
 exp:Gv bW f.exp
 e8:∀ l b,Gv ep (f.e8 l b)
 fB:∀ l b,Gv bW (f.fB l b)
 either:Gv bW f.either
 both:Gv bW f.both
 hd:∀ w,Gv bW (f.hd w)
 mF:∀ w,Gv bW (f.mF w)
 l7:∀ w,Gv ep (f.l7 w)
 lS:∀ e,bW e->Gv bW (f.lS e)
 lC:∀ e,Gv bW (f.lC e)
 lU:∀ l,Gv ep (f.lU l)
 mG:∀ w,Gv ep (f.mG w)
theorem Sp.deep{X:Tx}{f:Fs}{n:Nat}(h:Sp f):Sp (k' X f n):=
 have a:Gv ep (fp X f n):=xD h.pat h.l7 h.lU;have c:Gv bW (atom X f):=JX (G4 h.exp h.lS h.lC) h.mF
 ⟨LL h.ty,JW h.e8 h.mG,JY h.hd h.either,B6 a,B8 c,yI h.both,yI (D4 h.fB),D5,G5,DY,fun e b=>D0 e b h.exp,D3,fun l=>ag ep.mk',G3⟩
theorem Sp.all(X:Tx):∀ n,Sp (iZ X n)
 |0=>⟨br,br,br,fun _ _=>br,fun _ _=>br,br,br,fun _=>br,fun _=>br,fun _=>br,fun _ _=>br,fun _=>br,fun _=>br,fun _=>br⟩
 |n+1=>(Sp.all X n).deep
end
open Go Go.RowKit
variable {p:Prop}
section
variable {G:Gh} {f:Fs} {n:Nat}
set_option maxRecDepth 100000
set_option maxHeartbeats 16000000
theorem IF(bH:ei G)(J:FN G 65 (bq G) cy f.pat)(I:FN G 67 (bq G) bc f.exp):FP G 140 oM (nN G.X f):=by
 intro M bN bO bM fc w s r bJ bA k aU bC;have bG:=U bC;have bE:=Bd.start bA;have i:=U aU;clear bC bA;go_enter Tryz.func140,Tryz.ntmps140
 go_upto_region 1 with fail
 have d:=bE.box #[.int .i64 0,.string ⟨#[]⟩,.bool false,.slice none 0 0,.int .i64 0,.string ⟨#[]⟩,.slice none 0 0,.slice none 0 0,.slice none 0 0,.int .i64 0,.string ⟨#[]⟩,.bool false,.slice none 0 0,.int .i64 0,.int .u64 0,.string ⟨#[]⟩,.slice none 0 0,.slice none 0 0,.slice none 0 0,.slice none 0 0,.slice none 0 0] 144;generalize w.alloc _=bL at d⊢;have d:=U d;have bP:=(d.q i k).p
 go_upto_region 2 with(go_at_call 65;refine oc (FN.bd J cy.ok d bG) ?_;rintro e bD ⟨x,bR,_,rfl,Y,X,N,P,Q,t,v,u,R,W,z,B,A,C,E,D,F,p,H,rfl,L⟩)
 have a:=(X.add L).box (qd N P Q t v u R W z B A C E D F p H) 82;generalize bD.heap.size=l at a⊢;generalize bD.alloc _=bU at a⊢;have a:=U a;have bQ:=(a.q i k).p;clear L
 go_upto_region 3 with(go_at_call 66;refine oc (FU.bd (fi bH [61,62]) a Y) ?_;rintro e bV ⟨bS,rfl,Z,m⟩)
 refine b3 (S:=fun h=>h.cell? ⟨bJ,0,none⟩=some (.pointer (some ⟨G.bp,0,none⟩))/\h.cell? ⟨l,0,none⟩=some (.int .i64 N)/\h.cell? ⟨l,1,none⟩=some (.string P)/\h.cell? ⟨l,2,none⟩=some (.bool Q)/\h.cell? ⟨l,3,none⟩=some (.slice t v u)/\h.cell? ⟨l,4,none⟩=some (.int .i64 R)/\h.cell? ⟨l,5,none⟩=some (.string W)/\h.cell? ⟨l,6,none⟩=some (.slice z B A)/\h.cell? ⟨l,7,none⟩=some (.slice C E D)/\h.cell? ⟨l,8,none⟩=some (.slice F p H)) (T:=fun j=>j==4) aq ?_;have n:=b4 (m.drew.q i k).p (lM (m.drew.bx _ (.head _)).2.2);refine tq 0 n ?_;refine tq 1 n ?_;refine cw 2 fun K hK=>?_;go_simp;refine(FN.bd I bc.ok m.drew Z).mono ?_;rintro e bK (⟨c,q,rfl,rfl,bI⟩|⟨y,bT,_,rfl,aA,g,aV,aW,aX,aC,aE,aD,aY,aZ,b6,aF,aH,aG,aI,aK,aJ,aL,aN,aM,aO,aQ,aP,aR,aB,aT,rfl,L⟩)
 ·unfold az;go_simp;exact⟨rfl,bI,rfl⟩
 have o:=b4 (g.q i k).p (lM (g.bx _ (.head _)).2.2);have bF:=U L;clear L;refine nx hK o ?_;clear hK K;refine tq 3 o ?_;refine vM 4 [.int .i64 N,.string P,.bool Q,.slice t v u,.int .i64 R,.string W,.slice z B A,.slice C E D,.slice F p H,.int .i64 aV,.string aW,.bool aX,.slice aC aE aD,.int .i64 aY,.int .u64 aZ,.string b6,.slice aF aH aG,.slice aI aK aJ,.slice aL aN aM,.slice aO aQ aP,.slice aR aB aT] (g.bx _ (.tail _ (.head _))) ?_;have b:=(g.add (nd:=x++y) (cs:=[.int .i64 N,.string P,.bool Q,.slice t v u,.int .i64 R,.string W,.slice z B A,.slice C E D,.slice F p H]++(ot aV aW aX aC aE aD aY aZ b6 aF aH aG aI aK aJ aL aN aM aO aQ aP aR aB aT)) (ah.app (g.t 0) bF)).store 1 [.int .i64 N,.string P,.bool Q,.slice t v u,.int .i64 R,.string W,.slice z B A,.slice C E D,.slice F p H,.int .i64 aV,.string aW,.bool aX,.slice aC aE aD,.int .i64 aY,.int .u64 aZ,.string b6,.slice aF aH aG,.slice aI aK aJ,.slice aL aN aM,.slice aO aQ aP,.slice aR aB aT];clear n o;generalize bK.setCells _ 0 _=bX at b⊢;refine bj aq ?_ _;have b:=U b;cases aj aA
 go_wp2_with fail
 exact oI (b.bx _ (.tail _ (.head _))) (b.res oM.ok ⟨_,_,_,_,_,_,_,_,_,_,_,_,_,_,_,_,_,_,_,_,_,_,_,_,_,_,_,_,_,_,_,_,_,_,_,_,_,_,_,_,_,rfl,b.t 0⟩)
theorem CL(i:ei G)(c:FN G 65 (bq G) cy f.pat)(b:FN G 67 (bq G) bc f.exp):gu G 104 (bq G) (kd G.X f n):=by
 intro M A B x fc w s r d j;have m:=U ((pI (kd G.X f n) s).trans j);have k:=Bd.start d;clear j d;go_enter Tryz.func104,Tryz.ntmps104
 go_upto_region 1 with fail
 have a:=U (k.box (bq G) 49);generalize w.alloc _=o at a⊢;have C:=a.p 0
 go_wp2_with (go_at_call 139;refine oc (EM (fun v u d q p=>Da i p 140 #[] _ (fun _ _=>rfl) [124] (lone (nN G.X f)) ((IF i c b).pE oM.ok a (.head _)) n o _ () v d q u) a (.head _) m) ?_;rintro e E ⟨l,D,y,z,rfl,h,g⟩)
 go_ret;cases aj h;exact g.ru
end
section
set_option maxRecDepth 100000
set_option maxHeartbeats 16000000
def EN(G:Gh)(k2:Nat)(I:jL)(sz:Nat)(two:ak->Nd->Nd->Nd):Prop:=∀ (M:Nat->Prop)(na:Option Addr)(nc:Nat)(fa:Option Addr)(fc:Nat)(w w1:World)(s s1:al)(bs:List (Nat×Array Value))(ts:List (Nd×List Value))(a b:Nd)(ca cb:List Value)(nm:ak),Bd G M na nc fa fc w s [] bs ts w1 s1->n9 I sz a ca->n9 I sz b cb->ah w1 (Own G.B w.heap.size w1.heap.size (VM M w bs)) a ca->ah w1 (Own G.B w.heap.size w1.heap.size (VM M w bs)) b cb->
 Calls Tryz.prog k2 #[.string ⟨nm.toArray⟩,.agg ca.toArray,.agg cb.toArray] w1 fun e w2=>∃ cs,e=.returned (.agg cs.toArray)/\Hid (n9 I sz (two nm a b) cs)/\Hid (Bd G M na nc fa fc w s [] bs ((two nm a b,cs)::ts) w2 s1)
theorem MA{G:Gh}(P:ei G):EN G 194 bc 12 Eu:=by
 intro M aI aJ aF fc w aP s aK aE aL a b k l Y h Q R z A
 go_enter Tryz.func194,Tryz.ntmps194
 go_upto_region 1 with fail
 obtain⟨Z,aA,aG,W,L,J,I,N,F⟩:=((h.add A).add z).LY k.toArray l.toArray ke 87
 rw[L,J,I,N];have o:=U Q;have r:=U R;clear h Q R z A I J L N
 have m:0<k.length:=by rw[o.len];omega
 have n:0<l.length:=by rw[r.len];omega
 have X:(Tryz.prog.info? 87).map (fun x=>x.size)=some 12:=aq
 have u:=U X;clear X
 refine b3 (S:=fun v=>v.rangeAt Z 0 k/\v.rangeAt aA 0 l) (T:=fun j=>j==9) aq ?_
 have f:=U F.drew;clear F
 generalize W.drew=aM at f⊢
 have B:=b4 (f.jB (cs:=k) 2 rfl m) (f.jB (cs:=l) 1 rfl n)
 refine tq 0 B ?_;refine tq 1 B ?_;refine IG 3 o u B (fun _ h=>h.1) ?_;refine IG 4 r u B (fun _ h=>h.2) ?_
 refine gC (i:=2) (j:=5) aq rfl rfl (fun K hK=>?_) (fun K hK=>?_)
 focus
  go_simp
  refine(jC P 2 O f).mono ?_;rintro e aC ⟨D,E,rfl,d⟩
  refine nx hK ⟨d.jB (cs:=k) 2 rfl m,d.jB (cs:=l) 1 rfl n⟩ ?_;clear hK K
  refine cw 5 fun K hK=>?_;rw[if_pos (by rfl)]
  refine d.IH (d.t 1) (d.t 2) Tryz.underlying35 Tryz.ny (fun aB aD c=>?_) o.len r.len
  have y:=U (c.t 1).hd;have H:=U (c.t 0).hd
  refine nx hK ⟨c.jB (cs:=k) 2 rfl m,c.jB (cs:=l) 1 rfl n⟩ ?_;clear hK K d
 rotate_left 1
 focus
  rw[if_pos (by rfl)]
  refine f.IH (f.t 0) (f.t 1) Tryz.underlying35 Tryz.ny (fun aB aC d=>?_) o.len r.len
  refine nx hK ⟨d.jB (cs:=k) 2 rfl m,d.jB (cs:=l) 1 rfl n⟩ ?_;clear hK K
  refine cw 2 fun K hK=>?_;go_simp
  refine(jC P 2 O d).mono ?_;rintro e aD ⟨D,E,rfl,c⟩
  have y:=U (c.t 0).hd;have H:=U (c.t 1).hd
  refine nx hK ⟨c.jB (cs:=k) 2 rfl m,c.jB (cs:=l) 1 rfl n⟩ ?_;clear hK K d
 all_goals
  refine tq 6 ⟨c.jB (cs:=k) 2 rfl m,c.jB (cs:=l) 1 rfl n⟩ ?_
  refine cw 7 fun K hK=>?_;rw[if_pos (by rfl)]
  refine c.IH (dq cv aa aa aa aa aa:ah _ _ (tC Y) _) (dq cv y H aa aa aa:ah _ _ (b9 6 [] 0 0 0 [] (labels 2) [a,b] [] [] []) _) Tryz.underlying35 Tryz.ny (fun aH aN g=>?_)
  refine nx hK ⟨g.jB (cs:=k) 2 rfl m,g.jB (cs:=l) 1 rfl n⟩ ?_;clear hK K c
  refine tq 8 ⟨g.jB (cs:=k) 2 rfl m,g.jB (cs:=l) 1 rfl n⟩ ?_
  refine g.sv 9 0 (dq cv aa (g.t 0).hd aa aa aa:ah _ _ (Eu Y a b) _) fun aO q=>?_
  refine bj aq ?_ _
  go_wp2_with fail
  exact oI (q.bx _ (.head _)) ⟨_,rfl,U rF,U ((q.drop.drop (r.nn O)|>.drop (o.nn O)).sub fun p C=>by rcases List.mem_cons.1 C with rfl|C;exact .head _;simp[C])⟩
theorem Mz{G:Gh}(P:ei G):EN G 100 cy 9 Et:=by
 intro M aI aJ aF fc w aP s aK aE aL a b k l aB h Q R z A
 go_enter Tryz.func100,Tryz.ntmps100
 go_upto_region 1 with fail
 obtain⟨Y,Z,aG,W,L,J,I,N,F⟩:=((h.add A).add z).LY k.toArray l.toArray tY 82
 rw[L,J,I,N];have o:=U Q;have r:=U R;clear h Q R z A I J L N
 have m:0<k.length:=by rw[o.len];omega
 have n:0<l.length:=by rw[r.len];omega
 have X:(Tryz.prog.info? 82).map (fun x=>x.size)=some 9:=aq
 have u:=U X;clear X
 refine b3 (S:=fun v=>v.rangeAt Y 0 k/\v.rangeAt Z 0 l) (T:=fun j=>j==8) aq ?_
 have f:=U F.drew;clear F
 generalize W.drew=aM at f⊢
 have B:=b4 (f.jB (cs:=k) 2 rfl m) (f.jB (cs:=l) 1 rfl n)
 refine tq 0 B ?_;refine IG 2 o u B (fun _ h=>h.1) ?_;refine IG 3 r u B (fun _ h=>h.2) ?_
 refine gC (i:=1) (j:=4) aq rfl rfl (fun K hK=>?_) (fun K hK=>?_)
 focus
  go_simp
  refine(jC P 2 O f).mono ?_;rintro e aC ⟨D,E,rfl,d⟩
  refine nx hK ⟨d.jB (cs:=k) 2 rfl m,d.jB (cs:=l) 1 rfl n⟩ ?_;clear hK K
  refine cw 4 fun K hK=>?_;rw[if_pos (by rfl)]
  refine d.IH (d.t 1) (d.t 2) Tryz.underlying34 Tryz.oJ (fun aA aD c=>?_) o.len r.len
  have y:=U (c.t 1).hd;have H:=U (c.t 0).hd
  refine nx hK ⟨c.jB (cs:=k) 2 rfl m,c.jB (cs:=l) 1 rfl n⟩ ?_;clear hK K d
 rotate_left 1
 focus
  rw[if_pos (by rfl)]
  refine f.IH (f.t 0) (f.t 1) Tryz.underlying34 Tryz.oJ (fun aA aC d=>?_) o.len r.len
  refine nx hK ⟨d.jB (cs:=k) 2 rfl m,d.jB (cs:=l) 1 rfl n⟩ ?_;clear hK K
  refine cw 1 fun K hK=>?_;go_simp
  refine(jC P 2 O d).mono ?_;rintro e aD ⟨D,E,rfl,c⟩
  have y:=U (c.t 0).hd;have H:=U (c.t 1).hd
  refine nx hK ⟨c.jB (cs:=k) 2 rfl m,c.jB (cs:=l) 1 rfl n⟩ ?_;clear hK K d
 all_goals
  refine tq 5 ⟨c.jB (cs:=k) 2 rfl m,c.jB (cs:=l) 1 rfl n⟩ ?_
  refine cw 6 fun K hK=>?_;rw[if_pos (by rfl)]
  refine c.MJ (gL cv y H aa:ah _ _ (c_ 7 [] 0 0 [] (labels 2) [a,b] []) _) Tryz.underlying34 Tryz.oJ (fun aH aN g=>?_)
  refine nx hK ⟨g.jB (cs:=k) 2 rfl m,g.jB (cs:=l) 1 rfl n⟩ ?_;clear hK K c
  refine tq 7 ⟨g.jB (cs:=k) 2 rfl m,g.jB (cs:=l) 1 rfl n⟩ ?_
  refine g.sv 8 0 (gL cv aa (g.t 0).hd aa:ah _ _ (Et aB a b) _) fun aO q=>?_
  refine bj aq ?_ _
  go_wp2_with fail
  exact oI (q.bx _ (.head _)) ⟨_,rfl,U rF,U ((q.drop.drop (r.nn O)|>.drop (o.nn O)).sub fun p C=>by rcases List.mem_cons.1 C with rfl|C;exact .head _;simp[C])⟩
end
def sD(X:Tx)(eq:Bool)(s:al):Bool:=(V X s).kind==1||(V X s).kind==2||(eq&&ay X [[61]] s)
def KH(level:Int)(kr:Bool)(last:Int×Bool)(L0:Int)(R0:Bool):Bool:=decide (L0=last.1/\R0≠last.2\/kr=true/\L0=level/\R0=false)
theorem KI{X:Tx}{a:Bool}{s:al}(h:sD X a s=true):s.i<X.ts.length:=by
 unfold sD at h;simp only [Bool.or_eq_true,beq_iff_eq,Bool.and_eq_true] at h
 rcases h with(h|h)|⟨_,h⟩
 ·exact dd O
 ·exact dd O
 ·exact ee h
theorem Db{X:Tx}{level:Int}{d k:Bool}{f:Int->Bool->PM Nd}{l:List UInt8->Nd->Nd->Nd}{n:Nat}{a:Nd}{c:Int×Bool}{s:al}{r:Except (Nat×Nat) (Nd×al)}
 (h:fg X level d k f l (n+1) a c s=some r):
 (sD X k s=false/\r=.ok (a,s))\/(sD X k s=true/\∃ j m u,mN s.sc (V X s).text=(j,m,u)/\
   (((u=false\/j<level)/\r=.ok (a,s))\/(u=true/\¬j<level/\(0<=j/\j<1000)/\((KH level d c j m=true/\r=.error (41,(V X s).pos))\/
     (KH level d c j m=false/\
       (f (if m then j else j+1) m>>=fun b=>fg X level d k f l n (l (V X s).text a b) (j,m):PM Nd) {s with i:=s.i+1}=some r))))):=by
 have e:sD X k s=decide ((V X s).kind=1\/(V X s).kind=2\/k=true/\ay X [[61]] s=true):=by
  unfold sD;rw[yN];simp only [Bool.or_eq_true,beq_iff_eq,Bool.and_eq_true,decide_eq_true_eq,or_assoc]
 conv at h=>lhs;unfold fg
 simp only [] at h
 by_cases t:(V X s).kind=1\/(V X s).kind=2\/k=true/\ay X [[61]] s=true
 ·rw[if_neg (fun q=>q t)] at h;refine .inr ⟨by rw[e];exact decide_eq_true t,?_⟩;unfold mN
  rcases x:j2 s.sc (V X s).text with _|g
  ·rw[x] at h;exact⟨0,false,false,rfl,.inl ⟨.inl rfl,(f_ h).symm⟩⟩
  ·rw[x] at h;refine⟨g.level,g.right,decide (0<=g.level),rfl,?_⟩;simp only [] at h
   by_cases o:g.level<0\/g.level<level
   ·rw[if_pos o] at h;refine .inl ⟨o.imp (fun q=>decide_eq_false O) id,(f_ h).symm⟩
   ·rw[if_neg o] at h;have y:¬g.level<0:=fun q=>o (.inl q);have v:¬g.level<level:=fun q=>o (.inr q)
    by_cases w:1000<=g.level
    ·rw[if_pos w] at h;cases h
    ·rw[if_neg w] at h
     by_cases p:g.level=c.1/\g.right≠c.2\/d=true/\g.level=level/\g.right=false
     ·rw[if_pos p] at h;exact .inr ⟨decide_eq_true O,v,⟨O,O⟩,.inl ⟨decide_eq_true p,(f_ h).symm⟩⟩
     ·rw[if_neg p] at h;exact .inr ⟨decide_eq_true O,v,⟨O,O⟩,.inr ⟨decide_eq_false p,h⟩⟩
 ·rw[if_pos t] at h;exact .inl ⟨by rw[e];exact decide_eq_false t,(f_ h).symm⟩
section
set_option maxRecDepth 100000
set_option maxHeartbeats 16000000
theorem sE(h:p:=by
 go_wp2_with (first
  |(refine zl (HZ.bx _ (.tail _ (.head _)) (oN.nn wX)) oN F7 ?_)
  |(refine rD 2 HZ oN NM wX F7 ?_))
 intro W a
 go_wp2_with fail
 exact oI (a.bx _ (.tail _ (.tail _ (.head _))) (oN.nn wX)) (a.res HI (oN.back _ _ (a.t 0))) (hi:=by rw[lZ,oN.len];exact F7.out)):p:=h
theorem mO(h:p:=by
 go_wp2_with fail
 go_meet
 case rel=>exact⟨by simp[KH,hA,hC]<;>(intros;omega),rfl⟩):p:=h
theorem xT(h:p:=by
 have n:=U hx;clear hx HR KJ
 go_upto_region 15 with fail
 clear c1 fr aa2 o1
 generalize W5.setCell _ _=r at MK⊢;clear HB hlen NO NP NQ
 refine b3 (S:=fun v=>v.rangeAt ka 0 cs/\v.cell? ⟨tb,1,none⟩=some (.string ⟨(V G.X s2).text.toArray⟩)/\v.cell? ⟨ob,1,none⟩=some (.bool R1)) (T:=fun j=>j==13) aq ?_
 have d:=U MK.drew;clear MK
 generalize r.drew=D at d⊢
 have c:=b4 (d.jB (cs:=cs) 3 rfl (by rw[oN.len];exact wX)) (b4 (d.c 1 1 rfl O q1) (o0 (d.bx _ (.head _)).2.2).2)
 refine tq 0 c ?_;refine tq 1 c ?_;refine tq 2 c ?_;refine IG 3 oN F7 c (fun _ h=>h.1) ?_
 refine tq 4 c ?_;refine tq 5 c ?_;refine tq 6 c ?_;refine tq 7 c ?_;refine tq 8 c ?_;refine tq 9 c ?_;refine tq 10 c ?_
 refine cw 11 fun K hK=>?_;go_simp
 refine(FN.bo (HC.out _ _) HI HO d n).mono ?_;rintro e E (⟨z,q,rfl,rfl,t⟩|⟨w,x,s,rfl,l,o,a⟩)
 ·unfold az;go_simp;exact⟨rfl,t,rfl⟩
 have k:=b4 (a.jB (cs:=cs) 3 rfl (by rw[oN.len];exact wX)) (b4 (a.c 1 1 rfl O q1) (o0 (a.bx _ (.head _)).2.2).2)
 refine nx hK k ?_;clear hK K
 refine cw 12 fun K hK=>?_;go_simp
 refine(H2.out _ _ _ _ _ _ _ _ _ _ _ _ _ _ _ _ a.out oN l (a.t 1) (a.t 0)).mono ?_;rintro e y ⟨i,rfl,g,b⟩
 refine nx hK (b4 (b.jB (cs:=cs) 3 rfl (by rw[oN.len];exact wX)) (b4 (b.c 1 1 rfl O q1) (o0 (b.bx _ (.head _)).2.2).2)) ?_;clear hK K c k
 refine vM 13 i (b.bx _ (.tail _ (.tail _ (.tail _ (.head _)))) (oN.nn wX)) ?_ (hs:=by rw[g.len,lZ,oN.len]) (hi:=by rw[g.len];exact F7.out) (h1:=g.one)
 have f:=U (b.store 3 i rfl (by rw[g.len,lZ,oN.len]) (oN.nn wX));generalize y.setCells _ _ _=F at f⊢;clear b a
 refine bj aq ?_ _
 have⟨aa2,o1⟩:=o0 (f.bx _ (.head _)).2.2;have⟨A,B⟩:=o0 (f.bx _ (.tail _ (.tail _ (.head _)))).2.2;have C:=f.f 2
 go_wp2_with fail
 go_roundg m
 case measure=>omega
 case rel=>
  have h:=f.store 2 [.int .i64 L0,.bool R1]
  exact⟨x,_,L0,R1,i,o,g,U ((h.drop.drop qn).sub (wY:=[(_,i)]) (fun p u=>by rcases List.mem_singleton.1 u with rfl;exact .head _))⟩):p:=h
theorem vN(h:p:=by
 obtain⟨J,H⟩:∃ J,w.heap.size=J:=⟨_,rfl⟩
 generalize w.alloc _=bI at II⊢;rw[H] at II⊢;clear H HB
 go_wp2_with (first
  |(go_at_fn k1;refine(FN.bo LZ HI HO II HX).mono ?_;rintro e bH (⟨bL,q,rfl,rfl,aX⟩|⟨o,bE,cs,rfl,oN,E,B⟩);(·unfold az;go_simp;exact⟨rfl,aX,rfl⟩))
  |(refine IJ B oN wX ML.1 ML.2 ?_))
 intro W u;generalize bH.heap.size=ka at u⊢;clear B
 go_wp2_with fail
 have d:=U (u.box #[.int .i64 10,.bool false] 66)
 generalize W.heap.size=aD at d⊢;generalize W.alloc _=bJ at d⊢;clear u
 go_loopg [] n (fun gk wr=>∃ s2 o y t cs,Hid (fg G.X level kr eq again two gk o (y,t) s2=some r)/\Hid (n9 I sz o cs)/\Hid (Bd G M na nc fa fc w s [] [(aD,(kz y t)),(ka,cs.toArray),(J,Z)] [(o,cs)] wr s2))
 case atStart=>exact⟨bE,o,10,false,cs,E,oN,d⟩
 case round=>
 clear d E oN HX II
 obtain⟨s2,o,y,t,cs,X,oN,HR⟩:=hrel
 cases gk with
 |zero=>exact absurd X.out (by simp[fg,PM.none])
 |succ m=>
 have k:=Db X;clear X
 go_upto_region 4 with(go_at_call 63;refine(e' hG HR).mono ?_;rintro e aO ⟨bF,aP,b6,aU,rfl,_,aH⟩)
 obtain⟨aE,bC,q1,bD,aL,l⟩:=aH.tok (V G.X s2) bF aP b6 aU 75
 generalize aO.heap.size=tb at l⊢;generalize aO.alloc _=bK at l⊢;clear aH HR
 have qn:aE≠#[]:=fun e=>by subst e;simp at aL
 have bG:=l.c 0 0 rfl O bC
 go_cut [40] from 22 to 117 (fun aA L=>aA=.bool (!sD G.X eq s2)/\Hid (Bd G M na nc fa fc w s [] [(tb,aE),(aD,(kz y t)),(ka,cs.toArray),(J,Z)] [(o,cs)] L s2))
 case first=>
  clear k
  by_cases h1:(V G.X s2).kind=1
  ·have F:(((V G.X s2).kind:Nat):Int)=1:=O
   have z:=U (show sD G.X eq s2=true by unfold sD;rw[h1];rfl);clear h1
   go_wp2_with fail
   go_meet
   case rel=>exact⟨by rw[z.out];first|rfl|simp[F],l⟩
  have F:¬(((V G.X s2).kind:Nat):Int)=1:=O
  by_cases P:(V G.X s2).kind=2
  ·have N:(((V G.X s2).kind:Nat):Int)=2:=O
   have z:=U (show sD G.X eq s2=true by unfold sD;rw[P];rfl);clear h1 P
   go_wp2_with fail
   go_meet
   case rel=>exact⟨by rw[z.out];first|rfl|simp[F,N],l⟩
  have N:¬(((V G.X s2).kind:Nat):Int)=2:=O
  have z:=U (show sD G.X eq s2=(eq&&ay G.X [[61]] s2) by unfold sD;rw[show((V G.X s2).kind==1)=false by simpa using h1,show((V G.X s2).kind==2)=false by simpa using P];rfl);clear h1 P
  cases eq with
  |false=>
   go_wp2_with fail
   go_meet
   case rel=>exact⟨by rw[z.out];first|rfl|simp[F,N],l⟩
  |true=>
   obtain⟨b,aJ⟩:∃ b,ay G.X [[61]] s2=b:=⟨_,rfl⟩
   have D:=U aJ;clear aJ
   go_wp2_with (go_at_call 22;refine(j_ hG [[61]] bh l D rfl rfl).mono ?_;rintro e bP ⟨rfl,Y⟩)
   go_meet
   case rel=>exact⟨by rw[z.out,D.out];first|rfl|simp[F,N],Y⟩
 case rest=>
 rename World=>W4
 obtain⟨rfl,c⟩:=hcut;clear bG l
 rcases k with⟨A,rfl⟩|⟨A,L0,f,Q,aB,k⟩
 ·rw[A];clear A
  have HZ:=U (c.drop qn);clear c
  exact sE
 ·rw[A];have C:=U (KI A);clear A
  have aM:=c.c 0 1 rfl O q1
  go_upto_region 6 with fail
  go_cut [16,17] from 22 to 117 (fun bA aV L=>∃ ob,bA=.pointer (some ⟨ob,0,none⟩)/\aV=.bool Q/\Hid (Bd G M na nc fa fc w s [] [(ob,(kz L0 f)),(tb,aE),(aD,(kz y t)),(ka,cs.toArray),(J,Z)] [(o,cs)] L s2))
  case first=>
   clear k
   refine b3 (S:=fun v=>v.cell? ⟨tb,1,none⟩=some (.string ⟨(V G.X s2).text.toArray⟩)) (T:=fun _=>false) aq ?_
   have c:=U c.drew
   generalize W4.drew=aN at c⊢;have a:=c.c 0 1 rfl O q1;clear aM
   refine tq 0 a ?_;refine tq 1 a ?_;refine tq 2 a ?_;refine tq 3 a ?_;refine tq 4 a ?_
   refine gC (i:=5) (j:=9) aq rfl rfl (fun K hK=>?_) (fun K hK=>?_)
   ·go_simp
    refine(A8 hG c _ aB).mono ?_;rintro e aF ⟨rfl,HB⟩;have a:=HB.c 0 1 rfl O q1
    refine nx hK a ?_;clear hK K
    refine tq 6 a ?_;refine tq 7 a ?_;refine tq 8 a ?_
    refine cw 9 fun K hK=>?_;go_simp
    refine nx hK ((HB.box _ _).c 1 1 rfl O q1) ?_;clear hK K
    refine cw 10 fun K hK=>?_;go_simp
    have HC:=U (HB.box (kz L0 f) 66);generalize aF.heap.size=ob at HC⊢;generalize aF.alloc _=aG at HC⊢;have a:=HC.c 1 1 rfl O q1
    refine nx hK a ?_;clear hK K
    refine tq 11 a ?_
    refine bj aq ?_ _
    go_wp2_with fail
    go_meet
    case rel=>exact⟨ob,rfl,rfl,HC⟩
   ·go_simp
    have HB:=U (c.box #[.int .i64 0,.bool false] 66);generalize aN.heap.size=ob at HB⊢;generalize aN.alloc _=aF at HB⊢;have a:=HB.c 1 1 rfl O q1
    refine nx hK a ?_;clear hK K
    refine cw 5 fun K hK=>?_;go_simp
    refine(A8 hG HB _ aB).mono ?_;rintro e aG ⟨rfl,HC⟩;have a:=HC.c 1 1 rfl O q1
    refine nx hK a ?_;clear hK K
    refine tq 6 a ?_;refine tq 7 a ?_;refine tq 8 a ?_
    refine cw 10 fun K hK=>?_
    have aQ:=HC.c 0 0;have aR:=HC.c 0 1;have aT:=HC.f 0;go_simp;clear aQ aR aT
    have R:=U (HC.store 0 [.int .i64 L0,.bool f]);change K _ (aG.setCells ob 0 [.int .i64 L0,.bool f]);generalize aG.setCells ob 0 _=bO at R⊢;have a:=R.c 1 1 rfl O q1
    refine nx hK a ?_;clear hK K
    refine tq 11 a ?_
    refine bj aq ?_ _
    go_wp2_with fail
    go_meet
    case rel=>exact⟨ob,rfl,rfl,R⟩
  case rest=>
  rename World=>W5
  obtain⟨ob,rfl,rfl,HB⟩:=hcut;clear c aM aB
  have⟨aa2,o1⟩:=o0 (HB.bx _ (.head _)).2.2
  rcases k with⟨hs,rfl⟩|⟨rfl,bM,aW,aK⟩
  ·have HZ:=U ((HB.drop).drop qn);clear HB
   have k:Q=true->L0<level:=fun h=>hs.resolve_left (by rw[h];simp)
   cases Q with
   |false=>
    clear k hs;exact sE
   |true=>
    have k:=k rfl;clear hs;exact sE
  have⟨aY,aZ⟩:=o0 (HB.bx _ (.tail _ (.tail _ (.head _)))).2.2
  go_upto_region 9 with fail
  go_cut [85] from 22 to 117 (fun aA L=>aA=.bool (KH level kr (y,t) L0 f)/\W5=L)
  case first=>
   clear aK HC
   by_cases hA:L0=y
   ·by_cases aI:f=t
    ·subst aI;by_cases hC:kr=true/\L0=level
     ·obtain⟨rfl,hC⟩:=hC;exact mO
     ·cases kr with
      |false=>exact mO
      |true=>have hC:¬L0=level:=fun h=>hC ⟨rfl,h⟩;exact mO
    ·have hC:True:=trivial;cases f<;>cases t<;>first|exact absurd rfl aI|exact mO
   ·by_cases hC:kr=true/\L0=level
    ·obtain⟨rfl,hC⟩:=hC;exact mO
    ·cases kr with
     |false=>exact mO
     |true=>have hC:¬L0=level:=fun h=>hC ⟨rfl,h⟩;exact mO
  case rest=>
  obtain⟨rfl,rfl⟩:=hcut
  rcases aK with⟨g,rfl⟩|⟨g,aC⟩
  ·rw[g];have bN:=HB.c 1 6 rfl aL bD
   go_wp2_with fail
   go_simp
   exact⟨rfl,HB.kn,rfl⟩
  rw[g];clear g
  have c1:=HB.ps.c1;have fr:=HB.ps.fr;have hlen:=C.out;have NO:=hG.k0
  have NP:=HB.ne 0;have NQ:¬G.bp=ob:=fun e=>NP e.symm
  obtain⟨R1,KJ⟩:∃ R1,f=R1:=⟨_,rfl⟩
  have x:=HB.step C;rw[KJ] at x aC;have MK:=U x;have HR:=U aC;clear aC x aY aZ
  cases f with
  |false=>
   have hx:=HR.out;rw[if_neg (by rw[<-KJ];decide)] at hx;exact xT
  |true=>
   have hx:=HR.out;rw[if_pos KJ.symm] at hx;exact xT):p:=h
theorem Ij{G:Gh}{n:Nat}{I:jL}{sz:Nat}(c:sz=12)(o:hM I)(p:sA I sz)(eq:Bool)(two:ak->Nd->Nd->Nd)(k:EN G 194 I sz two)(hG:ei G)(level:Int)(kr:Bool)(h:PM Nd)(again:Int->Bool->PM Nd)(k1:Nat)(e d:Array Value)(v:∀ args w,(callFunc k1 args).run Tryz.prog w=.ok (.enter k1 args) w)(u:FN G k1 (e++d) I h)
 (t:∀ l b,FN G 192 #[.pointer (some ⟨G.bp,0,none⟩),.int .i64 l,.bool b,.func (.func k1) e d,.bool eq,.func (.func 194) #[] #[]] I (again l b)):
 FN G 192 #[.pointer (some ⟨G.bp,0,none⟩),.int .i64 level,.bool kr,.func (.func k1) e d,.bool eq,.func (.func 194) #[] #[]] I (h>>=fun a=>fg G.X level kr eq again two n a (10,false)):=by
 intro M na nc fa fc w s r q hx
 have HB:=Bd.start q;have HX:=U hx;clear q hx
 have g:(Tryz.prog.info? 87).map (fun i=>(i.zero,i.size))=some (some rG,sz)/\rG.cells.size=sz:=by rw[c];exact⟨aq,rfl⟩
 have wX:0<sz:=O
 go_enter Tryz.func192,Tryz.ntmps192
 go_upto_region 1 with fail
 obtain⟨Z,NM,II⟩:∃ Z:Array Value,Hid (Z.size=sz)/\Hid (Bd G M na nc fa fc w s [] [(w.heap.size,Z)] [] (w.alloc (.cells ke 87)) s):=⟨_,U (by subst c;rfl),U (HB.box _ _)⟩
 have f:(Tryz.prog.info? 87).map (fun x=>x.size)=some sz:=by rw[c];kernel_rfl
 have F7:=U f;have ML:=U g;have HC:=U t;have H2:=U k;have HI:=U o;have HO:=U p;have LZ:=U u;clear f c g t k o p u
 exact vN
theorem Ii{G:Gh}{n:Nat}{I:jL}{sz:Nat}(c:sz=9)(o:hM I)(p:sA I sz)(eq:Bool)(two:ak->Nd->Nd->Nd)(k:EN G 100 I sz two)(hG:ei G)(level:Int)(kr:Bool)(h:PM Nd)(again:Int->Bool->PM Nd)(k1:Nat)(e d:Array Value)(v:∀ args w,(callFunc k1 args).run Tryz.prog w=.ok (.enter k1 args) w)(u:FN G k1 (e++d) I h)
 (t:∀ l b,FN G 98 #[.pointer (some ⟨G.bp,0,none⟩),.int .i64 l,.bool b,.func (.func k1) e d,.bool eq,.func (.func 100) #[] #[]] I (again l b)):
 FN G 98 #[.pointer (some ⟨G.bp,0,none⟩),.int .i64 level,.bool kr,.func (.func k1) e d,.bool eq,.func (.func 100) #[] #[]] I (h>>=fun a=>fg G.X level kr eq again two n a (10,false)):=by
 intro M na nc fa fc w s r q hx
 have HB:=Bd.start q;have HX:=U hx;clear q hx
 have g:(Tryz.prog.info? 82).map (fun i=>(i.zero,i.size))=some (some xU,sz)/\xU.cells.size=sz:=by rw[c];exact⟨aq,rfl⟩
 have wX:0<sz:=O
 go_enter Tryz.func98,Tryz.ntmps98
 go_upto_region 1 with fail
 obtain⟨Z,NM,II⟩:∃ Z:Array Value,Hid (Z.size=sz)/\Hid (Bd G M na nc fa fc w s [] [(w.heap.size,Z)] [] (w.alloc (.cells tY 82)) s):=⟨_,U (by subst c;rfl),U (HB.box _ _)⟩
 have f:(Tryz.prog.info? 82).map (fun x=>x.size)=some sz:=by rw[c];kernel_rfl
 have F7:=U f;have ML:=U g;have HC:=U t;have H2:=U k;have HI:=U o;have HO:=U p;have LZ:=U u;clear f c g t k o p u
 exact vN
end
end Go.Proofs.YtkblonfmjlopaaaGreatDoor
