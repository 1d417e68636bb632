/-
  ahead, walked: an expression that begins with a word of its own.
-/
import Derived.Test.YtkblonfmjlopaaaGreatDoorSzO
set_option linter.all false
set_option maxRecDepth 1000000
set_option maxHeartbeats 16000000
namespace Go.Proofs.YtkblonfmjlopaaaGreatDoor
open Go Go.RowKit
variable {a:List (Nat×Array Value)}{i:List (Nat×List Nd×Option Addr×Nat)}{ts:List (Nd×List Value)}{u:Nat}{M:Nat->Prop}{d y:Option Addr}{s s1:al}{w z:World}
def zR(G:Gh)(k:Nat)(args:Array Value)(I:jL)(x:PM Nd):Prop:=∀ (M:Nat->Prop) (y:Option Addr) (u:Nat) (d:Option Addr) (fc:Nat) (w:World) (s:al) (r:Except (Nat×Nat) (Nd×al)),PS G M y u d fc w s->s.i<G.X.ts.length->x s=some r->Calls Tryz.prog k args w fun e w'=>PN G M y u d fc I w s r e w'
theorem zR.bd{G:Gh}{j:Nat}{k:Nat}{args:Array Value}{I:jL}{x:PM Nd}{β:Type}{g:Nd->PM β}{r:Except (Nat×Nat) (β×al)}(A:zR G k args I x)(C:hM I)(h:Bd G M y u d j w s i a ts z s1)(f:s1.i<G.X.ts.length)(H:(x>>=g) s1=some r):
 Calls Tryz.prog k args z fun e b=>(∃ c q,r=.error (c,q)/\e=az c q/\Kn G.B M w b)\/∃ l m v,e=.returned v/\Hid (g l m=some r)/\Hid (Bd G M y u d j w s i a ts b m)/\I b (Own G.B w.heap.size b.heap.size (VM M w a)) l v:=by
 rcases a_ H with⟨c,q,n,rfl⟩|⟨l,m,n,B⟩
 ·exact(A M y u d j z s1 _ h.ps f n).mono fun e b ⟨p,o⟩=>.inl ⟨c,q,rfl,o,h.kn.go p⟩
 ·exact(A M y u d j z s1 _ h.ps f n).mono fun e b ⟨p,t,E,D,v,o,F⟩=>.inr ⟨l,m,v,o,U B,U (h.go p D t E),C _ _ _ _ _ _ F (Kb.refl _ _) (h.own (aw _))⟩
section
variable {G:Gh} {f:Fs} {n:Nat}
set_option maxRecDepth 100000
set_option maxHeartbeats 16000000
theorem AO(W:ei G)(aI:FN G 67 (bq G) bc f.exp)(H:Fs)(bS:∀ w s r,f.hd w s=some r->h_ G.X H w s=some r)(o:FN G 67 (bq G) bc H.exp)(aM:gu G 104 (bq G) H.iq):zR G 102 (bq G) bc (ahead G.X f):=by
 intro M y u d fc w s r cG aK I;have N:=Bd.start cG;have bO:=U aK;obtain⟨C,aD⟩:∃ C,(V G.X s).text=C:=⟨_,rfl⟩;have bQ:Hid ((if C=[114,97,105,115,101] then(f.exp>>=fun a=>pure (fh 15 [a])) else f.hd C:PM Nd) {s with i:=s.i+1}=some r):=U (by rw[<-aD];exact I);clear cG I aK;go_enter Tryz.func102,Tryz.ntmps102
 go_upto_region 1 with fail
 have N:=(N.box (bq G) 49).box ke 87;rw[show(w.alloc (.cells (bq G) 49)).heap.size=w.heap.size+1 from ar] at N;obtain⟨k,aN⟩:∃ k,w.heap.size+1=k:=⟨_,rfl⟩;rw[aN] at N⊢;generalize (w.alloc (.cells (bq G) 49)).alloc (.cells ke 87)=cI at N⊢;have N:=U N;have cJ:=N.p 1;clear aN;have c1:=N.ps.c1;have fr:=N.ps.fr;have aL:=bO.out;have aJ:=W.k0
 go_upto_region 2 with fail
 have D:=U (N.step bO);generalize cI.setCell ⟨G.bp,1,none⟩ (.int .i64 ((s.i:Int)+1))=z at D⊢;clear cJ c1 fr;obtain⟨t,bV⟩:∃ t,G.X.ts[s.i]?=some t:=⟨_,fv bO⟩;obtain⟨aT,aR,cU,cK,cQ,cL,aH,bZ,⟨_,cH,_⟩,_⟩:=D.ps.tok W bV;have cF:z.cell? ⟨aT,aR+s.i*7+1,none⟩=some (.string ⟨C.toArray⟩):=by rw[cH,<-ko bV,aD]
 have bR:=D.ps.c0;rw[aH] at bR;have cE:z.cell? ⟨G.bp,1,none⟩=some (.int .i64 ((s.i:Int)+1)):=D.ps.c1;have cD:=D.p 1;have bX:IntKind.i64.wrap ((s.i:Int)+1-1)=(s.i:Int):=by rw[Ae];exact gv _ O
 have bY:IntKind.i64.wrap (s.i:Int)=(s.i:Int):=gv _ O;have bT:(s.i:Int)<(G.X.ts.length:Int):=O
 have bU:(0:Int)<=(s.i:Int):=O
 clear cH bV aH aL aJ aD bZ
 go_upto_region 3 with fail
 refine b3 (S:=fun bN=>bN.cell? ⟨w.heap.size,0,none⟩=some (.pointer (some ⟨G.bp,0,none⟩))/\bN.cell? ⟨G.bp,0,none⟩=some (.slice (some ⟨aT,aR,none⟩) G.X.ts.length G.lc)/\bN.cell? ⟨G.bp,1,none⟩=some (.int .i64 ((s.i:Int)+1))/\bN.cell? ⟨aT,aR+s.i*7+1,none⟩=some (.string ⟨C.toArray⟩)) (T:=fun _=>false) aq ?_;have n:z.drew.cell? ⟨w.heap.size,0,none⟩=some (.pointer (some ⟨G.bp,0,none⟩))/\z.drew.cell? ⟨G.bp,0,none⟩=some (.slice (some ⟨aT,aR,none⟩) G.X.ts.length G.lc)/\z.drew.cell? ⟨G.bp,1,none⟩=some (.int .i64 ((s.i:Int)+1))/\z.drew.cell? ⟨aT,aR+s.i*7+1,none⟩=some (.string ⟨C.toArray⟩):=⟨cD,bR,cE,cF⟩;refine tq 0 n ?_;refine tq 1 n ?_;refine tq 2 n ?_;refine tq 3 n ?_;refine tq 4 n ?_;refine tq 5 n ?_;refine tq 6 n ?_;refine tq 7 n ?_;refine tq 8 n ?_;refine tq 9 n ?_;refine tq 10 n ?_;refine tq 11 n ?_;refine bj aq ?_ _;have m:=U D.drew;clear n cD bR cE cF bX bY bT bU D N;generalize z.drew=aA at m⊢;have aU:aA.cell? ⟨k,0,none⟩=some (.int .i64 0):=m.c 0 0;have aV:=m.f 0
 by_cases bH:C=[114,97,105,115,101]
 ·subst bH;have B:Hid ((f.exp>>=fun a=>pure (fh 15 [a])) {s with i:=s.i+1}=some r):=bQ
  go_upto_region 7 with fail
  have j:Hid (Bd G M y u d fc w s [(12,[],none,0)] ((k,#[.int .i64 15,.string ⟨#[]⟩,.bool false,.slice none 0 0,.int .i64 0,.int .u64 0,.string ⟨#[]⟩,.slice none 0 0,.slice none 0 0,.slice none 0 0,.slice none 0 0,.slice none 0 0])::(w.heap.size,(bq G))::[]) [] (aA.setCell ⟨k,0,none⟩ (.int .i64 15)) _):=U ((m.eu 0 (.int .i64 15)).tz 12);generalize aA.setCell ⟨k,0,none⟩ (.int .i64 15)=aE at j⊢;clear aU aV m
  go_wp2_with (go_at_call 136;refine oc (oR (word:=[]) (l:=[]) (js:=[]) W aI j ar ar B) ?_;rintro e aB ⟨h,Z,J,c1,v,rfl,x,E,g⟩;obtain⟨aW,aX,aY,aZ,b6,bA,bC,bD,bE,bF,X,Y⟩:=dy (g.bx _ (.head _)).2.2;have bG:=g.f 0)
  have g:Hid (Bd G M y u d fc w s [(12,[h],J,c1)] ((k,#[.int .i64 15,.string ⟨#[]⟩,.bool false,.slice none 0 0,.int .i64 0,.int .u64 0,.string ⟨#[]⟩,.slice none 0 0,.slice J 1 c1,.slice none 0 0,.slice none 0 0,.slice none 0 0])::(w.heap.size,(bq G))::v) [] aB Z):=U g.out;have q:=Bd.nM (fx:=[_,_]) (js:=v) g E ar;cases aj x;exact q.iu 0 (dq cv aa (q.t 0).hd aa aa aa) bc.ok
 have I:=bS _ _ _ (show f.hd C {s with i:=s.i+1}=some r by have:=bQ.out;rw[if_neg bH] at this;exact this);have cM:(C==[114,97,105,115,101])=false:=by simp[bH]
 clear bQ bH;unfold h_ at I
 by_cases bI:C=[105,102]
 ·subst bI;have B:Hid ((H.exp>>=fun a=>a8 G.X [116,104,101,110]>>=fun _=>H.exp>>=fun b=>a8 G.X [101,108,115,101]>>=fun _=>H.exp>>=fun c=>pure (fh 11 [a,b,c])) {s with i:=s.i+1}=some r):=U I;clear I
  go_upto_region 10 with fail
  have j:Hid (Bd G M y u d fc w s [(12,[],none,0)] ((k,#[.int .i64 11,.string ⟨#[]⟩,.bool false,.slice none 0 0,.int .i64 0,.int .u64 0,.string ⟨#[]⟩,.slice none 0 0,.slice none 0 0,.slice none 0 0,.slice none 0 0,.slice none 0 0])::(w.heap.size,(bq G))::[]) [] (aA.setCell ⟨k,0,none⟩ (.int .i64 11)) _):=U ((m.eu 0 (.int .i64 11)).tz 12);generalize aA.setCell ⟨k,0,none⟩ (.int .i64 11)=aE at j⊢;clear aU aV m
  go_upto_region 11 with(go_at_call 136;refine oc (oR (word:=[]) (l:=[]) (js:=[]) W o j ar ar B) ?_;rintro e aB ⟨h,Z,J,c1,v,rfl,x,E,g⟩)
  have g:Hid (Bd G M y u d fc w s [(12,[h],J,c1)] ((k,#[.int .i64 11,.string ⟨#[]⟩,.bool false,.slice none 0 0,.int .i64 0,.int .u64 0,.string ⟨#[]⟩,.slice none 0 0,.slice J 1 c1,.slice none 0 0,.slice none 0 0,.slice none 0 0])::(w.heap.size,(bq G))::v) [] aB Z):=U g.out;have x:Hid (((a8 G.X [116,104,101,110]>>=fun _=>H.exp)>>=fun b=>a8 G.X [101,108,115,101]>>=fun _=>H.exp>>=fun c=>pure (fh 11 [h,b,c])) Z=some r):=U (by have:=x.out;rw[db] at this;exact this)
  go_upto_region 12 with(go_at_call 136;refine oc (oR (word:=[116,104,101,110]) (l:=[h]) (js:=v) W o g E ar x) ?_;rintro e bL ⟨L,aP,aG,c2,Q,rfl,F,aC,p⟩)
  have p:Hid (Bd G M y u d fc w s [(12,[h,L],aG,c2)] ((k,#[.int .i64 11,.string ⟨#[]⟩,.bool false,.slice none 0 0,.int .i64 0,.int .u64 0,.string ⟨#[]⟩,.slice none 0 0,.slice aG 2 c2,.slice none 0 0,.slice none 0 0,.slice none 0 0])::(w.heap.size,(bq G))::Q) [] bL aP):=U p.out;have F:Hid (((a8 G.X [101,108,115,101]>>=fun _=>H.exp)>>=fun c=>pure (fh 11 [h,L,c])) aP=some r):=U (by have:=F.out;rw[db] at this;exact this)
  go_wp2_with (go_at_call 136;refine oc (oR (word:=[101,108,115,101]) (l:=[h,L]) (js:=Q) W o p aC ar F) ?_;rintro e bM ⟨cA,aQ,cB,cC,aO,rfl,P,bP,A⟩;obtain⟨aW,aX,aY,aZ,b6,bA,bC,bD,bE,bF,X,Y⟩:=dy (A.bx _ (.head _)).2.2;have bG:=A.f 0)
  have A:Hid (Bd G M y u d fc w s [(12,[h,L,cA],cB,cC)] ((k,#[.int .i64 11,.string ⟨#[]⟩,.bool false,.slice none 0 0,.int .i64 0,.int .u64 0,.string ⟨#[]⟩,.slice none 0 0,.slice cB 3 cC,.slice none 0 0,.slice none 0 0,.slice none 0 0])::(w.heap.size,(bq G))::aO) [] bM aQ):=U A.out;have q:=Bd.nM (fx:=[_,_]) (js:=aO) A bP ar;cases aj P;exact q.iu 0 (dq cv aa (q.t 0).hd aa aa aa) bc.ok
 rw[if_neg bI] at I;have cN:(C==[105,102])=false:=by simp[bI]
 clear bI
 by_cases bJ:C=[119,104,105,108,101]
 ·subst bJ;have B:Hid ((H.exp>>=fun a=>a8 G.X [100,111]>>=fun _=>H.exp>>=fun b=>pure (fh 12 [a,b])) {s with i:=s.i+1}=some r):=U I;clear I
  go_upto_region 15 with fail
  have j:Hid (Bd G M y u d fc w s [(12,[],none,0)] ((k,#[.int .i64 12,.string ⟨#[]⟩,.bool false,.slice none 0 0,.int .i64 0,.int .u64 0,.string ⟨#[]⟩,.slice none 0 0,.slice none 0 0,.slice none 0 0,.slice none 0 0,.slice none 0 0])::(w.heap.size,(bq G))::[]) [] (aA.setCell ⟨k,0,none⟩ (.int .i64 12)) _):=U ((m.eu 0 (.int .i64 12)).tz 12);generalize aA.setCell ⟨k,0,none⟩ (.int .i64 12)=aE at j⊢;clear aU aV m
  go_upto_region 16 with(go_at_call 136;refine oc (oR (word:=[]) (l:=[]) (js:=[]) W o j ar ar B) ?_;rintro e aB ⟨h,Z,J,c1,v,rfl,x,E,g⟩)
  have g:Hid (Bd G M y u d fc w s [(12,[h],J,c1)] ((k,#[.int .i64 12,.string ⟨#[]⟩,.bool false,.slice none 0 0,.int .i64 0,.int .u64 0,.string ⟨#[]⟩,.slice none 0 0,.slice J 1 c1,.slice none 0 0,.slice none 0 0,.slice none 0 0])::(w.heap.size,(bq G))::v) [] aB Z):=U g.out;have x:Hid (((a8 G.X [100,111]>>=fun _=>H.exp)>>=fun b=>pure (fh 12 [h,b])) Z=some r):=U (by have:=x.out;rw[db] at this;exact this)
  go_wp2_with (go_at_call 136;refine oc (oR (word:=[100,111]) (l:=[h]) (js:=v) W o g E ar x) ?_;rintro e bL ⟨L,aP,aG,c2,Q,rfl,F,aC,p⟩;obtain⟨aW,aX,aY,aZ,b6,bA,bC,bD,bE,bF,X,Y⟩:=dy (p.bx _ (.head _)).2.2;have bG:=p.f 0)
  have p:Hid (Bd G M y u d fc w s [(12,[h,L],aG,c2)] ((k,#[.int .i64 12,.string ⟨#[]⟩,.bool false,.slice none 0 0,.int .i64 0,.int .u64 0,.string ⟨#[]⟩,.slice none 0 0,.slice aG 2 c2,.slice none 0 0,.slice none 0 0,.slice none 0 0])::(w.heap.size,(bq G))::Q) [] bL aP):=U p.out;have q:=Bd.nM (fx:=[_,_]) (js:=Q) p aC ar;cases aj F;exact q.iu 0 (dq cv aa (q.t 0).hd aa aa aa) bc.ok
 rw[if_neg bJ] at I;have cO:(C==[119,104,105,108,101])=false:=by simp[bJ]
 clear bJ
 by_cases bK:C=[99,97,115,101]
 ·subst bK;have B:Hid ((H.exp>>=fun a=>a8 G.X [111,102]>>=fun _=>H.iq>>=fun b=>pure (b9 10 [] 0 0 0 [] [] [a] b [] [])) {s with i:=s.i+1}=some r):=U I;clear I
  go_upto_region 19 with fail
  have j:Hid (Bd G M y u d fc w s [(12,[],none,0)] ((k,#[.int .i64 10,.string ⟨#[]⟩,.bool false,.slice none 0 0,.int .i64 0,.int .u64 0,.string ⟨#[]⟩,.slice none 0 0,.slice none 0 0,.slice none 0 0,.slice none 0 0,.slice none 0 0])::(w.heap.size,(bq G))::[]) [] (aA.setCell ⟨k,0,none⟩ (.int .i64 10)) _):=U ((m.eu 0 (.int .i64 10)).tz 12);generalize aA.setCell ⟨k,0,none⟩ (.int .i64 10)=aE at j⊢;clear aU aV m
  go_upto_region 20 with(go_at_call 136;refine oc (oR (word:=[]) (l:=[]) (js:=[]) W o j ar ar B) ?_;rintro e aB ⟨h,Z,J,c1,v,rfl,x,E,g⟩)
  have g:Hid (Bd G M y u d fc w s [(12,[h],J,c1)] ((k,#[.int .i64 10,.string ⟨#[]⟩,.bool false,.slice none 0 0,.int .i64 0,.int .u64 0,.string ⟨#[]⟩,.slice none 0 0,.slice J 1 c1,.slice none 0 0,.slice none 0 0,.slice none 0 0])::(w.heap.size,(bq G))::v) [] aB Z):=U g.out;have cS:=g.p 1
  go_upto_region 21 with(go_at_call 66;refine oc (FU.bd (fi W [111,102]) g x) ?_;rintro e bL ⟨aP,rfl,F,p⟩;have cT:=p.p 1)
  go_wp2_with (go_at_call 104;refine oc (gu.bd aM p F) ?_;rintro e bM ⟨l,aQ,R,lc,rfl,P,A⟩;obtain⟨aW,aX,aY,aZ,b6,bA,bC,bD,bE,bF,X,Y⟩:=dy (A.bx _ (.head _)).2.2;have bG:=A.f 0)
  have aF:Hid (Bd G M y u d fc w s [(12,[h],J,c1)] ((k,#[.int .i64 10,.string ⟨#[]⟩,.bool false,.slice none 0 0,.int .i64 0,.int .u64 0,.string ⟨#[]⟩,.slice none 0 0,.slice J 1 c1,.slice R l.length lc,.slice none 0 0,.slice none 0 0])::(w.heap.size,(bq G))::v) [([.sl l],[.slice R l.length lc])] (bM.setCell ⟨k,9,none⟩ (.slice R l.length lc)) aQ):=U (A.eu 9 (.slice R l.length lc));generalize bM.setCell ⟨k,9,none⟩ (.slice R l.length lc)=cV at aF⊢;have q:=Bd.nM (fx:=[_,_]) (js:=v) aF E ar;cases aj P;exact q.iu 0 (dq cv aa (q.t 0).hd (q.t 1).hd aa aa) bc.ok
 rw[if_neg bK] at I;have cP:(C==[99,97,115,101])=false:=by simp[bK]
 clear bK;have B:Hid ((H.iq>>=fun b=>pure (b9 9 [] 0 0 0 [] [] [] b [] [])) {s with i:=s.i+1}=some r):=U I;clear I;have cR:=m.p 1
 go_wp2_with (go_at_call 104;refine oc (gu.bd aM m B) ?_;rintro e aE ⟨l,aQ,R,lc,rfl,P,j⟩;obtain⟨aW,aX,aY,aZ,b6,bA,bC,bD,bE,bF,X,Y⟩:=dy (j.bx _ (.head _)).2.2;have bG:=j.f 0)
 cases aj P;have g:Hid (Bd G M y u d fc w s [] ((k,#[.int .i64 9,.string ⟨#[]⟩,.bool false,.slice none 0 0,.int .i64 0,.int .u64 0,.string ⟨#[]⟩,.slice none 0 0,.slice none 0 0,.slice R l.length lc,.slice none 0 0,.slice none 0 0])::(w.heap.size,(bq G))::[]) [([.sl l],[.slice R l.length lc])] ((aE.setCell ⟨k,0,none⟩ (.int .i64 9)).setCell ⟨k,9,none⟩ (.slice R l.length lc)) aQ):=U ((j.eu 0 (.int .i64 9)).eu 9 (.slice R l.length lc));generalize (aE.setCell ⟨k,0,none⟩ (.int .i64 9)).setCell ⟨k,9,none⟩ (.slice R l.length lc)=aB at g⊢;exact g.iu 0 (dq cv aa aa (g.t 0).hd aa aa) bc.ok
end
def Md(l:List ak):Array Value:=(l.map fun x=>Value.string ⟨x.toArray⟩).toArray
section
variable {G:Gh} {f:Fs} {n:Nat}
set_option maxRecDepth 100000
set_option maxHeartbeats 16000000
theorem j_{g:Nat}(k:ei G)(l:List ak)(q:l.length<=100)(h:Bd G M y u d g w s i a ts z s1){b:Bool}(m:ay G.X l s1=b){n:Nat}{cs:Array Value}(o:l.length=n)(f:cs=Md l):Calls Tryz.prog 22 #[.pointer (some ⟨G.bp,0,none⟩),.slice (some ⟨z.heap.size,0,none⟩) n n] (z.alloc (.cells cs 9)) fun e j=>e=.returned (.bool b)/\Hid (Bd G M y u d g w s i a ts j s1):=by
 have p:=h.ps.bB;refine(k4 k (h.ps.alloc _) z.heap.size n (l.map fun x=>⟨x.toArray⟩) (by simpa using o) O (l5.vP _ _ _ _ _ rfl (by rw[f,Md,List.map_map];rfl))).mono ?_;rintro e j ⟨rfl,c⟩;refine⟨?_,U ((h.below (ab _ _)).below (c.mono (aw _)))⟩;rw[<-m,List.map_map];simp[Function.comp_def]
theorem oS{f:Nat}(j:ei G)(h:Bd G M y u d f w s i a ts z s1){b:Bool}(c:ed G.X s1=b):Calls Tryz.prog 219 (bq G) z fun e g=>e=.returned (.bool b)/\Hid (Bd G M y u d f w s i a ts g s1):=by
 subst c;exact(BC j h.ps).mono fun e g ⟨k,c⟩=>⟨k,U (h.below c)⟩
theorem q4{X:Tx}{l:List ak}{β:Type}{g:Bool->PM β}{r:Except (Nat×Nat) (β×al)}(h:(iE X l>>=g) s=some r):g (ay X l s) s=some r:=h
theorem wF(R:ei G)(t:List UInt8)(kind:Int)(F c:PM Nd)(Z aC:Nat)(P L Q N:Array Value)(cI:∀ args w,(callFunc Z args).run Tryz.prog w=.ok (.enter Z args) w)(cJ:∀ args w,(callFunc aC args).run Tryz.prog w=.ok (.enter aC args) w)
 (b6:zR G 102 (bq G) bc (ahead G.X f)) (cO:FN G Z (P++L) bc F) (cM:FN G aC (Q++N) bc c):
 FN G 137 #[.pointer (some ⟨G.bp,0,none⟩),.string ⟨t.toArray⟩,.int .i64 kind,.func (.func Z) P L,.func (.func aC) Q N] bc (j3 G.X f t kind F c):=by
 intro M y u d fc w s r bI k;have bO:Hid ((F>>=fun a=>a7 G.X t>>=fun o=>if o=true then(iE G.X kg>>=fun h=>if h=true then(ahead G.X f>>=fun b=>pure (fh kind [a,b])) else c>>=fun b=>pure (fh kind [a,b])) else pure a) s=some r):=U k;have H:=Bd.start bI;clear k bI;go_enter Tryz.func137,Tryz.ntmps137
 go_upto_region 1 with fail
 have H:=U (H.box ke 87);obtain⟨bA,X⟩:∃ bA,w.heap.size=bA:=⟨_,rfl⟩;generalize w.alloc _=cY at H⊢;rw[X] at H⊢;clear X
 go_upto_region 2 with(go_at_fn Z;refine oc (FN.bd cO bc.ok H bO) ?_;rintro e z ⟨a,s1,_,rfl,J,aD,bC,bD,bE,aR,aU,aT,bF,bG,bH,aV,aX,aW,aY,aH,aZ,aI,aK,aJ,aL,aN,aM,aO,aQ,aP,rfl,W⟩)
 have p:=U ((aD.add W).box (kv bC bD bE aR aU aT bF bG bH aV aX aW aY aH aZ aI aK aJ aL aN aM aO aQ aP) 87);generalize z.heap.size=l at p⊢;generalize z.alloc _=dY at p⊢;clear W;obtain⟨b,aA,bJ,k⟩:=cx J;have aF:=U bJ;clear bJ J;cases b with
 |false=>
  cases aj k;clear k
  go_wp2_with (go_at_call 21;refine(bz R p aF).mono ?_;rintro e bK ⟨rfl,g⟩;obtain⟨dA,dB,dC,dD,dE,dF,dG,dH,dI,dJ,cK,cL⟩:=dy (g.bx _ (.head _)).2.2;obtain⟨dL,dM,dO,dP,dQ,dR,dS,dU,dV,dW,cP,cQ⟩:=dy (g.bx _ (.tail _ (.head _))).2.2;have dX:=g.f 1)
  exact g.iu 1 (g.t 0) bc.ok
 |true=>
  have k:=q4 (show(iE G.X kg>>=fun h=>if h=true then(ahead G.X f>>=fun b=>pure (fh kind [a,b])) else c>>=fun b=>pure (fh kind [a,b])) aA=some r from k)
  by_cases B:ay G.X kg aA=true
  case' pos=>
   have D:Hid ((ahead G.X f>>=fun b=>pure (fh kind [a,b])) aA=some r):=U (by rw[if_pos B] at k;exact k);have aE:=U B;have bN:=U (ee B);clear k B
   go_upto_region 5 with(first
    |(go_at_call 21;refine(bz R p aF).mono ?_;rintro e bK ⟨rfl,g⟩)
    |(go_at_call 22;refine(j_ R kg bh g aE rfl rfl).mono ?_;rintro e bL ⟨rfl,I⟩))
  case' neg=>
   have B:ay G.X kg aA=false:=by simpa using B
   have D:Hid ((c>>=fun b=>pure (fh kind [a,b])) aA=some r):=U (by rw[B] at k;exact k);have aE:=U B;clear k B
   go_upto_region 6 with(first
    |(go_at_call 21;refine(bz R p aF).mono ?_;rintro e bK ⟨rfl,g⟩)
    |(go_at_call 22;refine(j_ R kg bh g aE rfl rfl).mono ?_;rintro e bL ⟨rfl,I⟩))
  all_goals
   refine b3 (S:=fun m=>m.cell? ⟨l,0,none⟩=some (.int .i64 bC)/\m.cell? ⟨l,1,none⟩=some (.string bD)/\m.cell? ⟨l,2,none⟩=some (.bool bE)/\m.cell? ⟨l,3,none⟩=some (.slice aR aU aT)/\m.cell? ⟨l,4,none⟩=some (.int .i64 bF)/\m.cell? ⟨l,5,none⟩=some (.int .u64 bG)/\m.cell? ⟨l,6,none⟩=some (.string bH)/\m.cell? ⟨l,7,none⟩=some (.slice aV aX aW)/\m.cell? ⟨l,8,none⟩=some (.slice aY aH aZ)/\m.cell? ⟨l,9,none⟩=some (.slice aI aK aJ)/\m.cell? ⟨l,10,none⟩=some (.slice aL aN aM)/\m.cell? ⟨l,11,none⟩=some (.slice aO aQ aP)) (T:=fun j=>j==6) aq ?_;have v:=U I.drew;generalize bL.drew=dZ at v⊢;have E:=dy (v.bx _ (.head _)).2.2;refine tq 0 E ?_;refine tq 1 E ?_;refine tq 2 E ?_;refine cw 3 fun K hK=>?_;go_simp
  case' pos=>refine(zR.bd b6 bc.ok v bN D).mono ?_
  case' neg=>
   refine(FN.bd cM bc.ok v D).mono ?_
  all_goals
   rintro e bM (⟨cZ,q,rfl,rfl,cN⟩|⟨b,dK,_,rfl,aG,C,cS,cT,cU,bQ,bS,bR,cV,cW,cX,bT,bV,bU,bX,bZ,bY,cA,cC,cB,cD,cF,cE,cG,bP,cH,rfl,W⟩)
   ·unfold az;go_simp;exact⟨rfl,cN,rfl⟩
   refine nx hK (dy (C.bx _ (.head _)).2.2) ?_;clear hK K;refine cw 4 fun K hK=>?_;go_simp;have i:=U (C.two (A:=#[.int .i64 bC,.string bD,.bool bE,.slice aR aU aT,.int .i64 bF,.int .u64 bG,.string bH,.slice aV aX aW,.slice aY aH aZ,.slice aI aK aJ,.slice aL aN aM,.slice aO aQ aP,.int .i64 cS,.string cT,.bool cU,.slice bQ bS bR,.int .i64 cV,.int .u64 cW,.string cX,.slice bT bV bU,.slice bX bZ bY,.slice cA cC cB,.slice cD cF cE,.slice cG bP cH]) 87 rfl (C.t 0) W);obtain⟨aB,Y⟩:∃ aB,bM.heap.size=aB:=⟨_,rfl⟩;rw[Y] at i⊢;generalize bM.alloc _=cR at i⊢;clear W Y;refine nx hK (dy (i.bx _ (.head _)).2.2) ?_;clear hK K;refine tq 5 (dy (i.bx _ (.head _)).2.2) ?_;refine vM 6 (Mp kind aB) (i.bx _ (.tail _ (.head _))) ?_;have x:=U ((i.add (nd:=fh kind [a,b]) (cs:=(Mp kind aB)) (dq (kind:=kind) (n:=0) (bits:=0) (name:=[]) (text:=[]) (ls:=[]) (kids:=[a,b]) (rules:=[]) (dr:=[]) (types:=[]) cv aa (i.t 0).hd aa aa aa)).store 1 (Mp kind aB));generalize cR.setCells bA 0 _=eB at x⊢;refine bj aq ?_ _;cases aj aG
   go_wp2_with fail
   exact oI (x.bx _ (.tail _ (.head _))) (x.res bc.ok ⟨_,_,_,_,_,_,_,_,_,_,_,_,_,_,_,_,_,_,_,_,_,_,_,_,rfl,x.t 0⟩)
theorem CK(q:ei G)(i:zR G 102 (bq G) bc (ahead G.X f))(v:FN G 170 (bq G) bc (iz G.X f n))(t:FN G 138 (bq G) bc (f.both)):FN G 138 (bq G) bc (sC G.X f n):=by
 intro M y u d fc w s r j l;have p:=U ((pI (sC G.X f n) s).trans l);have c:=Bd.start j;clear j l;go_enter Tryz.func138,Tryz.ntmps138
 go_upto_region 1 with fail
 have c:=U (c.box ke 87);obtain⟨m,g⟩:∃ m,w.heap.size=m:=⟨_,rfl⟩;generalize w.alloc _=Z at c⊢;rw[g] at c⊢;clear g
 go_wp2_with (go_at_call 137;refine oc (FN.bd (wF q [97,110,100,97,108,115,111] 17 (iz G.X f n) (f.both) 170 138 (bq G) #[] (bq G) #[] (fun _ _=>rfl) (fun _ _=>rfl) i v t) bc.ok c p) ?_;rintro e z ⟨a,s1,_,rfl,h,b,aL,aM,aN,P,R,Q,aO,aP,aQ,S,W,T,X,B,Y,C,E,D,F,I,H,J,N,L,rfl,k⟩;have o:=U k;clear k;obtain⟨aA,aB,aC,aD,aE,aF,aG,aH,aI,aJ,x,A⟩:=dy (b.bx _ (.head _)).2.2;have aK:=b.f 0)
 cases aj h;exact b.iu 0 o bc.ok
theorem y8(p:ei G)(i:zR G 102 (bq G) bc (ahead G.X f))(t:FN G 138 (bq G) bc (f.both))(q:FN G 103 (bq G) bc (f.either)):FN G 103 (bq G) bc (oa G.X f):=by
 intro M y u d fc w s r j l;have o:=U ((pI (oa G.X f) s).trans l);have c:=Bd.start j;clear j l;go_enter Tryz.func103,Tryz.ntmps103
 go_upto_region 1 with fail
 have c:=U (c.box ke 87);obtain⟨m,g⟩:∃ m,w.heap.size=m:=⟨_,rfl⟩;generalize w.alloc _=Y at c⊢;rw[g] at c⊢;clear g
 go_wp2_with (go_at_call 137;refine oc (FN.bd (wF p [111,114,101,108,115,101] 18 (f.both) (f.either) 138 103 (bq G) #[] (bq G) #[] (fun _ _=>rfl) (fun _ _=>rfl) i t q) bc.ok c o) ?_;rintro e z ⟨a,s1,_,rfl,h,b,aK,aL,aM,N,Q,P,aN,aO,aP,R,T,S,W,A,X,B,D,C,E,H,F,I,L,J,rfl,k⟩;have n:=U k;clear k;obtain⟨Z,aA,aB,aC,aD,aE,aF,aG,aH,aI,v,x⟩:=dy (b.bx _ (.head _)).2.2;have aJ:=b.f 0)
 cases aj h;exact b.iu 0 n bc.ok
end
section
variable {G:Gh} {f:Fs} {n:Nat}
set_option maxRecDepth 100000
set_option maxHeartbeats 16000000
theorem FL(bA:ei G)(bH:zR G 102 (bq G) bc (ahead G.X f))(bI:FN G 103 (bq G) bc f.either)(bR:gu G 104 (bq G) f.iq):FN G 67 (bq G) bc (mM G.X f n):=by
 intro M y u d fc w s r bQ v;have aN:=Bd.start bQ;have v:=q4 (show(iE G.X kg>>=fun h=>if h=true then ahead G.X f else f.either>>=fun e=>gH G.X f n e) s=some r from v);clear bQ;go_enter Tryz.func67,Tryz.ntmps67
 go_upto_region 1 with fail
 have aN:=U (aN.box ke 87);obtain⟨bK,aX⟩:∃ bK,w.heap.size=bK:=⟨_,rfl⟩;generalize w.alloc _=cP at aN⊢;rw[aX] at aN⊢;clear aX
 by_cases aL:ay G.X kg s=true
 ·have b6:Hid ((ahead G.X f>>=fun b=>pure b) s=some r):=U (by rw[if_pos aL] at v;rw[pI];exact v);have bG:=U aL;have bX:=U (ee aL);clear v aL
  go_wp2_with (first
   |(go_at_call 22;refine(j_ bA kg bh aN bG rfl rfl).mono ?_;rintro e z ⟨rfl,aI⟩)
   |(go_at_call 102;refine oc (zR.bd bH bc.ok aI bX b6) ?_;rintro e bN ⟨nd,bT,_,rfl,aK,c,aC,aD,aE,Q,W,R,aF,aG,aH,X,Z,Y,aA,C,aB,D,F,E,H,J,I,L,P,N,rfl,aW⟩;have bY:=U aW;clear aW;obtain⟨cE,cF,cG,cH,cI,cJ,cK,cL,cM,cN,bL,bM⟩:=dy (c.bx _ (.head _)).2.2;have cO:=c.f 0))
  cases aj aK;exact c.iu 0 bY bc.ok
 have aL:ay G.X kg s=false:=by simpa using aL
 have b6:Hid ((f.either>>=fun e=>gH G.X f n e) s=some r):=U (by rw[aL] at v;exact v);have bG:=U aL;clear v aL
 go_wp2_with (first
  |(go_at_call 22;refine(j_ bA kg bh aN bG rfl rfl).mono ?_;rintro e dA ⟨rfl,aR⟩)
  |(go_at_call 103;refine oc (FN.bd bI bc.ok aR b6) ?_;rintro e z ⟨nd,s1,_,rfl,aU,aI,aC,aD,aE,Q,W,R,aF,aG,aH,X,Z,Y,aA,C,aB,D,F,E,H,J,I,L,P,N,rfl,aW⟩))
 have aJ:=U ((aI.add aW).box (kv aC aD aE Q W R aF aG aH X Z Y aA C aB D F E H J I L P N) 87);generalize z.heap.size=x at aJ⊢;generalize z.alloc _=dB at aJ⊢;clear aW
 go_loopg [] n (fun gk wr=>∃ (bC:al) (nd:Nd) (aC:Int) (aD:ByteArray) (aE:Bool) (Q:Option Addr) (W R:Nat) (aF:Int) (aG:Int) (aH:ByteArray) (X:Option Addr) (Z Y:Nat) (aA:Option Addr) (C aB:Nat) (D:Option Addr) (F E:Nat) (H:Option Addr) (J I:Nat) (L:Option Addr) (P N:Nat),Hid (gH G.X f gk nd bC=some r)/\Hid (Bd G M y u d fc w s [] [(x,(kv aC aD aE Q W R aF aG aH X Z Y aA C aB D F E H J I L P N)),(bK,ke)] [(nd,(ot aC aD aE Q W R aF aG aH X Z Y aA C aB D F E H J I L P N))] wr bC))
 case atStart=>exact⟨s1,nd,aC,aD,aE,Q,W,R,aF,aG,aH,X,Z,Y,aA,C,aB,D,F,E,H,J,I,L,P,N,aU,aJ⟩
 case round=>
  clear aJ aU aI aR aN b6;obtain⟨bC,nd,aC,aD,aE,Q,W,R,aF,aG,aH,X,Z,Y,aA,C,aB,D,F,E,H,J,I,L,P,N,aP,aT⟩:=hrel;cases gk with
  |zero=>exact absurd aP.out (by intro h;cases h)
  |succ m=>
  obtain⟨b,bT,bS,v⟩:=cx (show(a7 G.X [104,97,110,100,108,101]>>=fun o=>if o=true then f.iq>>=fun t=>gH G.X f m (b9 16 [] 0 0 0 [] [] [nd] t [] []) else pure nd) bC=some r from aP.out);have bP:=U bS;clear bS aP;cases b with
  |false=>
   cases aj v;clear v
   go_wp2_with (go_at_call 21;refine(bz bA aT bP).mono ?_;rintro e bN ⟨rfl,c⟩;obtain⟨cQ,cR,cS,cT,cU,cV,cW,cX,cY,cZ,cA,cB⟩:=dy (c.bx _ (.head _)).2.2;obtain⟨cE,cF,cG,cH,cI,cJ,cK,cL,cM,cN,bL,bM⟩:=dy (c.bx _ (.tail _ (.head _))).2.2;have cO:=c.f 1)
   exact c.iu 1 (c.t 0) bc.ok
  |true=>
   have aK:Hid ((f.iq>>=fun t=>gH G.X f m (b9 16 [] 0 0 0 [] [] [nd] t [] [])) bT=some r):=U v;clear v
   go_upto_region 5 with(go_at_call 21;refine(bz bA aT bP).mono ?_;rintro e bN ⟨rfl,c⟩)
   refine b3 (S:=fun A=>A.cell? ⟨x,0,none⟩=some (.int .i64 aC)/\A.cell? ⟨x,1,none⟩=some (.string aD)/\A.cell? ⟨x,2,none⟩=some (.bool aE)/\A.cell? ⟨x,3,none⟩=some (.slice Q W R)/\A.cell? ⟨x,4,none⟩=some (.int .i64 aF)/\A.cell? ⟨x,5,none⟩=some (.int .u64 aG)/\A.cell? ⟨x,6,none⟩=some (.string aH)/\A.cell? ⟨x,7,none⟩=some (.slice X Z Y)/\A.cell? ⟨x,8,none⟩=some (.slice aA C aB)/\A.cell? ⟨x,9,none⟩=some (.slice D F E)/\A.cell? ⟨x,10,none⟩=some (.slice H J I)/\A.cell? ⟨x,11,none⟩=some (.slice L P N)) (T:=fun j=>j==5) aq ?_;have k:=U c.drew;generalize bN.drew=bU at k⊢;have aQ:=dy (k.bx _ (.head _)).2.2;refine tq 0 aQ ?_;refine tq 2 aQ ?_;refine gC (i:=1) (j:=3) aq rfl rfl (fun K hK=>?_) (fun K hK=>?_)
   focus
    go_simp;have g:=U (k.one (cs:=(kv aC aD aE Q W R aF aG aH X Z Y aA C aB D F E H J I L P N)) 87 (k.t 0));obtain⟨aM,B⟩:∃ aM,bU.heap.size=aM:=⟨_,rfl⟩;rw[B] at g⊢;generalize bU.alloc _=bO at g⊢;clear B;refine nx hK (dy (g.bx _ (.head _)).2.2) ?_;clear hK K;refine cw 3 fun K hK=>?_;go_simp;refine(gu.bd bR g aK).mono ?_;rintro e bV (⟨bZ,q,rfl,rfl,bJ⟩|⟨l,cD,aY,aZ,rfl,aV,a⟩)
    ·unfold az;go_simp;exact⟨rfl,bJ,rfl⟩
    have bE:=U (a.t 1).hd;have bF:=U (a.t 0).hd;refine nx hK (dy (a.bx _ (.head _)).2.2) ?_;clear hK K g
   rotate_left 1
   focus
    go_simp;refine(gu.bd bR k aK).mono ?_;rintro e bO (⟨bZ,q,rfl,rfl,bJ⟩|⟨l,cD,aY,aZ,rfl,aV,g⟩)
    ·unfold az;go_simp;exact⟨rfl,bJ,rfl⟩
    refine nx hK (dy (g.bx _ (.head _)).2.2) ?_;clear hK K;refine cw 1 fun K hK=>?_;go_simp;have a:=U (g.one (cs:=(kv aC aD aE Q W R aF aG aH X Z Y aA C aB D F E H J I L P N)) 87 (g.t 1));obtain⟨aM,B⟩:∃ aM,bO.heap.size=aM:=⟨_,rfl⟩;rw[B] at a⊢;generalize bO.alloc _=bV at a⊢;have bE:=U (a.t 0).hd;have bF:=U (a.t 1).hd;refine nx hK (dy (a.bx _ (.head _)).2.2) ?_;clear hK K g B
   all_goals
    refine tq 4 (dy (a.bx _ (.head _)).2.2) ?_;refine vM 5 [.int .i64 16,.string ⟨#[]⟩,.bool false,.slice none 0 0,.int .i64 0,.int .u64 0,.string ⟨#[]⟩,.slice none 0 0,.slice (some ⟨aM,0,none⟩) 1 1,.slice aY l.length aZ,.slice none 0 0,.slice none 0 0] (a.bx _ (.head _)) ?_;have aO:=(a.add (nd:=b9 16 [] 0 0 0 [] [] [nd] l [] []) (cs:=[.int .i64 16,.string ⟨#[]⟩,.bool false,.slice none 0 0,.int .i64 0,.int .u64 0,.string ⟨#[]⟩,.slice none 0 0,.slice (some ⟨aM,0,none⟩) 1 1,.slice aY l.length aZ,.slice none 0 0,.slice none 0 0]) (dq (kind:=16) (n:=0) (bits:=0) (name:=[]) (text:=[]) (ls:=[]) (kids:=[nd]) (rules:=l) (dr:=[]) (types:=[]) cv aa bE bF aa aa)).store 0 [.int .i64 16,.string ⟨#[]⟩,.bool false,.slice none 0 0,.int .i64 0,.int .u64 0,.string ⟨#[]⟩,.slice none 0 0,.slice (some ⟨aM,0,none⟩) 1 1,.slice aY l.length aZ,.slice none 0 0,.slice none 0 0];generalize bV.setCells _ 0 _=dC at aO⊢;have bD:=U (aO.sub (wY:=[(b9 16 [] 0 0 0 [] [] [nd] l [] [],[.int .i64 16,.string ⟨#[]⟩,.bool false,.slice none 0 0,.int .i64 0,.int .u64 0,.string ⟨#[]⟩,.slice none 0 0,.slice (some ⟨aM,0,none⟩) 1 1,.slice aY l.length aZ,.slice none 0 0,.slice none 0 0])]) fun p cC=>by rcases List.mem_singleton.1 cC with rfl;exact .head _);clear aO bE bF a k aQ;refine bj aq ?_ _
    go_wp2_with fail
    go_roundg m
    case measure=>omega
    case rel=>exact⟨_,_,_,_,_,_,_,_,_,_,_,_,_,_,_,_,_,_,_,_,_,_,_,_,_,_,aV,bD⟩
theorem FI(bA:ei G)(aQ:FN G 218 (bq G) bc (atom G.X f)):FN G 193 (bq G) bc (app G.X f n):=by
 intro M y u d fc w s r bC v;have b6:Hid ((atom G.X f>>=fun a=>j' G.X f n a) s=some r):=U v;have aL:=Bd.start bC;clear bC v;go_enter Tryz.func193,Tryz.ntmps193
 go_upto_region 1 with fail
 have aL:=U (aL.box ke 87);obtain⟨aZ,aU⟩:∃ aZ,w.heap.size=aZ:=⟨_,rfl⟩;generalize w.alloc _=cL at aL⊢;rw[aU] at aL⊢;clear aU
 go_wp2_with (go_at_call 218;refine oc (FN.bd aQ bc.ok aL b6) ?_;rintro e z ⟨nd,s1,_,rfl,aP,aN,aC,aD,aE,P,R,Q,aF,aG,aH,W,Y,X,Z,B,aA,C,E,D,F,I,H,J,N,L,rfl,aT⟩)
 have l:=U ((aN.add aT).box (kv aC aD aE P R Q aF aG aH W Y X Z B aA C E D F I H J N L) 87);generalize z.heap.size=i at l⊢;generalize z.alloc _=dJ at l⊢;clear aT
 go_loopg [] n (fun gk wr=>∃ (x:al) (nd:Nd) (aC:Int) (aD:ByteArray) (aE:Bool) (P:Option Addr) (R Q:Nat) (aF:Int) (aG:Int) (aH:ByteArray) (W:Option Addr) (Y X:Nat) (Z:Option Addr) (B aA:Nat) (C:Option Addr) (E D:Nat) (F:Option Addr) (I H:Nat) (J:Option Addr) (N L:Nat),Hid (j' G.X f gk nd x=some r)/\Hid (Bd G M y u d fc w s [] [(i,(kv aC aD aE P R Q aF aG aH W Y X Z B aA C E D F I H J N L)),(aZ,ke)] [(nd,(ot aC aD aE P R Q aF aG aH W Y X Z B aA C E D F I H J N L))] wr x))
 case atStart=>exact⟨s1,nd,aC,aD,aE,P,R,Q,aF,aG,aH,W,Y,X,Z,B,aA,C,E,D,F,I,H,J,N,L,aP,l⟩
 case round=>
  clear l aP aN aL b6;obtain⟨x,nd,aC,aD,aE,P,R,Q,aF,aG,aH,W,Y,X,Z,B,aA,C,E,D,F,I,H,J,N,L,aJ,aO⟩:=hrel;cases gk with
  |zero=>exact absurd aJ.out (by intro h;cases h)
  |succ m=>
  have v:(if ed G.X x=true then(atom G.X f>>=fun b=>j' G.X f m (fh 8 [nd,b])) x else some (.ok (nd,x)))=some r:=aJ.out;clear aJ
  by_cases aB:ed G.X x=true
  ·have aX:Hid ((atom G.X f>>=fun b=>j' G.X f m (fh 8 [nd,b])) x=some r):=U (by rw[if_pos aB] at v;exact v);have aW:=U aB;clear v aB
   go_upto_region 3 with(go_at_call 219;refine(oS bA aO aW).mono ?_;rintro e bD ⟨rfl,g⟩)
   refine b3 (S:=fun k=>k.cell? ⟨i,0,none⟩=some (.int .i64 aC)/\k.cell? ⟨i,1,none⟩=some (.string aD)/\k.cell? ⟨i,2,none⟩=some (.bool aE)/\k.cell? ⟨i,3,none⟩=some (.slice P R Q)/\k.cell? ⟨i,4,none⟩=some (.int .i64 aF)/\k.cell? ⟨i,5,none⟩=some (.int .u64 aG)/\k.cell? ⟨i,6,none⟩=some (.string aH)/\k.cell? ⟨i,7,none⟩=some (.slice W Y X)/\k.cell? ⟨i,8,none⟩=some (.slice Z B aA)/\k.cell? ⟨i,9,none⟩=some (.slice C E D)/\k.cell? ⟨i,10,none⟩=some (.slice F I H)/\k.cell? ⟨i,11,none⟩=some (.slice J N L)) (T:=fun j=>j==5) aq ?_;have o:=U g.drew;generalize bD.drew=dK at o⊢;have aK:=dy (o.bx _ (.head _)).2.2;refine tq 0 aK ?_;refine tq 1 aK ?_;refine cw 2 fun K hK=>?_;go_simp;refine(FN.bd aQ bc.ok o aX).mono ?_;rintro e bE (⟨cM,q,rfl,rfl,cA⟩|⟨b,cX,_,rfl,aY,t,cF,cG,cH,bG,bI,bH,cI,cJ,cK,bJ,bL,bK,bM,bO,bN,bP,bR,bQ,bS,bU,bT,bV,bF,bX,rfl,aT⟩)
   ·unfold az;go_simp;exact⟨rfl,cA,rfl⟩
   refine nx hK (dy (t.bx _ (.head _)).2.2) ?_;clear hK K;refine cw 3 fun K hK=>?_;go_simp;have c:=U (t.two (A:=#[.int .i64 aC,.string aD,.bool aE,.slice P R Q,.int .i64 aF,.int .u64 aG,.string aH,.slice W Y X,.slice Z B aA,.slice C E D,.slice F I H,.slice J N L,.int .i64 cF,.string cG,.bool cH,.slice bG bI bH,.int .i64 cI,.int .u64 cJ,.string cK,.slice bJ bL bK,.slice bM bO bN,.slice bP bR bQ,.slice bS bU bT,.slice bV bF bX]) 87 rfl (t.t 0) aT);obtain⟨aM,aR⟩:∃ aM,bE.heap.size=aM:=⟨_,rfl⟩;rw[aR] at c⊢;generalize bE.alloc _=cE at c⊢;clear aT aR;refine nx hK (dy (c.bx _ (.head _)).2.2) ?_;clear hK K;refine tq 4 (dy (c.bx _ (.head _)).2.2) ?_;refine vM 5 (J7 aM) (c.bx _ (.head _)) ?_;have aI:=(c.add (nd:=fh 8 [nd,b]) (cs:=(J7 aM)) (dq (kind:=8) (n:=0) (bits:=0) (name:=[]) (text:=[]) (ls:=[]) (kids:=[nd,b]) (rules:=[]) (dr:=[]) (types:=[]) cv aa (c.t 0).hd aa aa aa)).store 0 (J7 aM);generalize cE.setCells _ 0 _=dL at aI⊢;have aV:=U (aI.sub (wY:=[(fh 8 [nd,b],(J7 aM))]) fun p cB=>by rcases List.mem_singleton.1 cB with rfl;exact .head _);clear aI c o aK t;refine bj aq ?_ _
   go_wp2_with fail
   go_roundg m
   case measure=>omega
   case rel=>exact⟨_,_,_,_,_,_,_,_,_,_,_,_,_,_,_,_,_,_,_,_,_,_,_,_,_,_,aY,aV⟩
  ·have aB:ed G.X x=false:=by simpa using aB
   have aW:=U aB;rw[aB] at v;obtain rfl:=f_ v;clear v aB
   go_wp2_with (go_at_call 219;refine(oS bA aO aW).mono ?_;rintro e bD ⟨rfl,g⟩;obtain⟨cN,cO,cP,cQ,cR,cS,cT,cU,cV,cW,bY,bZ⟩:=dy (g.bx _ (.head _)).2.2;obtain⟨cY,cZ,dA,dB,dC,dD,dE,dF,dG,dH,cC,cD⟩:=dy (g.bx _ (.tail _ (.head _))).2.2;have dI:=g.f 1)
   exact g.iu 1 (g.t 0) bc.ok
end
end Go.Proofs.YtkblonfmjlopaaaGreatDoor
