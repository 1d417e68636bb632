/-
  structure, walked.
-/
import Derived.Test.YtkblonfmjlopaaaGreatDoorSzL
set_option linter.all false
set_option maxRecDepth 1000000
set_option maxHeartbeats 16000000
namespace Go.Proofs.YtkblonfmjlopaaaGreatDoor
open Go Go.RowKit
variable {w:World}
theorem j9{F:Nat->Prop}{d:A7}{j k l m n a b c e:Value}(o:b8 w F (.sl (strs d.names)) [j])(p:b8 w F (.sl d.oW) [k])(q:b8 w F (.sl d.qz) [l])(r:b8 w F (.sl d.l3) [m])(s:b8 w F (.sl d.iG) [n])(f:b8 w F (.sl d.types) [a])(g:b8 w F (.sl d.dr) [b])(h:b8 w F (.sl d.sigs) [c])(i:b8 w F (.sl d.specs) [e]):
 ah w F (d_ d) [.int .i64 d.kind,.string ⟨d.name.toArray⟩,j,.int .i64 d.n,.bool d.right,.bool d.qg,k,l,m,n,a,b,c,e]:=
 ej _ (ej _ (cr o (ej _ (ej _ (ej _ (cr p (cr q (cr r (cr s (cr f (cr g (cr h (cr i gO)))))))))))))
def GP(X:Tx)(f:Fs)(a:ak)(qg:Bool)(sg:List Nd):PM Nd:=a8 X [61]>>=fun _=>a7 X [115,116,114,117,99,116]>>=fun st=>if st=true then PM.get>>=fun IE=>f.dr true>>=fun ds=>PM.get>>=fun now=>PM.set {now with sc:=IE.sc}>>=fun _=>a8 X [101,110,100]>>=fun _=>pure (d_ {kind:=6,name:=a,qg:=qg,sigs:=sg,dr:=ds}) else gR X>>=fun b=>pure (d_ {kind:=6,name:=a,qg:=qg,sigs:=sg,names:=[b]})
def GQ(X:Tx)(f:Fs)(n:Nat)(a:ak)(qg:Bool)(o:Bool):PM Nd:=(if o=true then(a7 X [115,105,103]>>=fun s=>if s=true then jN X f n>>=fun l=>pure [j1 [] l] else name X false>>=fun b=>pure [j1 b []]) else pure []:PM (List Nd))>>=fun sg=>GP X f a qg sg
section
variable {G:Gh} {f:Fs} {n:Nat}
set_option maxRecDepth 100000
set_option maxHeartbeats 16000000
theorem ub(z:ei G)(cH:n<=1000000)(b6:FN G 74 (bq G) cz f.ty)(aG:AH G 12 #[.pointer (some ⟨G.bp,0,none⟩),.bool true] (f.dr true)):FN G 76 (bq G) fw (gm G.X f n):=by
 intro M aM aN aK fc w s r aY g;have W:=Bd.start aY;have aR:Hid (∀ k,M k->k<w.heap.size):=U fun k cG=>(aY.mB k cG).2;have aU:=U (vj z cH b6);have bN:Hid ((name G.X false>>=fun a=>iE G.X [[58,62]]>>=fun qg=>a7 G.X [58,62]>>=fun o=>(if o=true then pure true else a7 G.X [58]:PM Bool)>>=fun o=>GQ G.X f n a qg o) s=some r):=U g;clear g aY;go_enter Tryz.func76,Tryz.ntmps76
 go_upto_region 1 with fail
 have W:=U (W.box q8 42);obtain⟨aO,aI⟩:∃ aO,w.heap.size=aO:=⟨_,rfl⟩;generalize w.alloc _=dJ at W⊢;rw[aI] at W⊢;clear aI
 go_upto_region 2 with(first
  |(go_at_call 73;refine oc (FB.bd (fo z false) W bN) ?_;rintro e dK ⟨a,bT,rfl,aA,Y⟩;obtain⟨qg,bQ⟩:∃ b,ay G.X [[58,62]] bT=b:=⟨_,rfl⟩;have aT:=U bQ;clear bQ)
  |(go_at_call 22;refine(j_ z [[58,62]] bh Y aT rfl rfl).mono ?_;rintro e bU ⟨rfl,Z⟩))
 have I:Hid ((a7 G.X [58,62]>>=fun o=>(if o=true then pure true else a7 G.X [58]:PM Bool)>>=fun o=>GQ G.X f n a qg o) bT=some r):=U (by have:=q4 aA;rw[aT.out] at this;exact this);clear aA bN aT Y W;have B:=U (Z.box #[.int .i64 6,.string ⟨a.toArray⟩,.slice none 0 0,.int .i64 0,.bool false,.bool qg,.slice none 0 0,.slice none 0 0,.slice none 0 0,.slice none 0 0,.slice none 0 0,.slice none 0 0,.slice none 0 0,.slice none 0 0] 42);obtain⟨D,aF⟩:∃ D,bU.heap.size=D:=⟨_,rfl⟩;rw[aF] at B⊢;generalize bU.alloc _=dL at B⊢;clear aF Z
 go_cut [16] from 11 to 16 (fun cW bL=>∃ o E,cW=.bool o/\Hid (GQ G.X f n a qg o E=some r)/\Hid (Bd G M aM aN aK fc w s [] [(D,#[.int .i64 6,.string ⟨a.toArray⟩,.slice none 0 0,.int .i64 0,.bool false,.bool qg,.slice none 0 0,.slice none 0 0,.slice none 0 0,.slice none 0 0,.slice none 0 0,.slice none 0 0,.slice none 0 0,.slice none 0 0]),(aO,q8)] [] bL E))
 case first=>
  obtain⟨o,E,C,g⟩:=cx I;have bM:=U C;clear C;cases o with
  |true=>
   have y:Hid (GQ G.X f n a qg true E=some r):=U g;clear g I
   go_upto_if 16 with(go_at_call 21;refine(bz z B bM).mono ?_;rintro e dG ⟨rfl,q⟩)
   go_meet
   case rel=>exact⟨true,E,rfl,y,q⟩
  |false=>
   obtain⟨o,J,C,g⟩:=cx (show(a7 G.X [58]>>=fun o=>GQ G.X f n a qg o) E=some r from g);have H:=U C;have j:=U g;clear C g I
   go_upto_if 16 with(first
    |(go_at_call 21;refine(bz z q H).mono ?_;rintro e bV ⟨rfl,u⟩)
    |(go_at_call 21;refine(bz z B bM).mono ?_;rintro e dG ⟨rfl,q⟩))
   go_meet
   case rel=>exact⟨o,J,rfl,j,u⟩
 case rest=>
  obtain⟨o,E,rfl,y,q⟩:=hcut;clear I B
  go_upto_if 16 with fail
  go_cut [] from 17 to 28 (fun bL=>∃ F J bC sc,Hid (GP G.X f a qg F J=some r)/\Hid (Bd G M aM aN aK fc w s [] [(D,#[.int .i64 6,.string ⟨a.toArray⟩,.slice none 0 0,.int .i64 0,.bool false,.bool qg,.slice none 0 0,.slice none 0 0,.slice none 0 0,.slice none 0 0,.slice none 0 0,.slice none 0 0,.slice bC F.length sc,.slice none 0 0]),(aO,q8)] [([.sl F],[.slice bC F.length sc])] bL J))
  case first=>
   cases o with
   |false=>
    have j:Hid (GP G.X f a qg [] E=some r):=y;clear y
    go_upto_region 6 with fail
    go_meet
    case rel=>exact⟨[],E,none,0,j,U (q.add (nd:=[.sl []]) (cs:=[.slice none 0 0]) (cr aa gO))⟩
   |true=>
    obtain⟨o,J,C,g⟩:=cx (show(a7 G.X [115,105,103]>>=fun s=>(if s=true then jN G.X f n>>=fun l=>pure [j1 [] l] else name G.X false>>=fun b=>pure [j1 b []]:PM (List Nd))>>=fun F=>GP G.X f a qg F) E=some r from by have h:=y.out;unfold GQ at h;rw[if_pos rfl,<-db] at h;exact h);have H:=U C;clear C y;cases o with
    |true=>
     have j:Hid ((jN G.X f n>>=fun l=>GP G.X f a qg [j1 [] l]) J=some r):=U (by first|(rw[if_pos rfl,<-db] at g;exact g)|(rw[if_neg ar,<-db] at g;exact g));clear g
     go_upto_region 6 with(first
      |(go_at_call 77;refine oc (gu.pF aU u j) ?_;rintro e X ⟨l,aP,bR,bS,rfl,bY,A,v⟩;have d:=U (v.one (nd:=j1 [] l) (cs:=#[.string ⟨#[]⟩,.slice bR l.length bS]) 100 (ej _ (cr (v.t 0).hd gO)));have S:(X.alloc (.cells #[.string ⟨#[]⟩,.slice bR l.length bS] 100)).cell? ⟨D,12,none⟩=some (.slice none 0 0):=d.c 0 12;have T:=d.f 0)
      |(go_at_call 21;refine(bz z q H).mono ?_;rintro e bV ⟨rfl,u⟩))
     have i:=U (d.set 0 12 (.slice (some ⟨X.heap.size,0,none⟩) 1 1))
     go_meet
     case rel=>exact⟨_,aP,_,_,A,U (i.sub fun p aZ=>by rcases List.mem_singleton.1 aZ with rfl;exact .head _)⟩
    |false=>
     have j:Hid ((name G.X false>>=fun b=>GP G.X f a qg [j1 b []]) J=some r):=U (by first|(rw[if_pos rfl,<-db] at g;exact g)|(rw[if_neg ar,<-db] at g;exact g));clear g
     go_upto_region 6 with(first
      |(go_at_call 73;refine oc (FB.bd (fo z false) u j) ?_;rintro e X ⟨b,aP,rfl,A,v⟩;have d:=U (v.one (nd:=j1 b []) (cs:=#[.string ⟨b.toArray⟩,.slice none 0 0]) 100 (ej _ (cr aa gO)));have S:(X.alloc (.cells #[.string ⟨b.toArray⟩,.slice none 0 0] 100)).cell? ⟨D,12,none⟩=some (.slice none 0 0):=d.c 0 12;have T:=d.f 0)
      |(go_at_call 21;refine(bz z q H).mono ?_;rintro e bV ⟨rfl,u⟩))
     have i:=U (d.set 0 12 (.slice (some ⟨X.heap.size,0,none⟩) 1 1))
     go_meet
     case rel=>exact⟨_,aP,_,_,A,U (i.sub fun p aZ=>by rcases List.mem_singleton.1 aZ with rfl;exact .head _)⟩
  case rest=>
   obtain⟨F,J,bC,sc,j,u⟩:=hcut;clear y q
   go_upto_region 7 with(go_at_call 66;refine oc (FU.bd (fi z [61]) u j) ?_;rintro e X ⟨aP,rfl,A,v⟩)
   obtain⟨o,L,C,g⟩:=cx A;have P:=U C;clear C A j u;cases o with
   |false=>
    have Q:Hid ((gR G.X>>=fun b=>pure (d_ {kind:=6,name:=a,qg:=qg,sigs:=F,names:=[b]})) L=some r):=U g;clear g
    go_upto_region 9 with(first
     |(go_at_call 114;refine oc (FB.bd (wo z) d Q) ?_;rintro e aJ ⟨b,dH,rfl,aW,i⟩;have m:=U (i.one (nd:=[vS b]) (cs:=(jk b)) 9 (ej _ gO));have bJ:(aJ.alloc (m' b)).cell? ⟨D,2,none⟩=some (.slice none 0 0):=m.c 0 2;have T:=m.f 0)
     |(go_at_call 21;refine(bz z v P).mono ?_;rintro e bK ⟨rfl,d⟩))
    have c:=U (m.set 0 2 (.slice (some ⟨aJ.heap.size,0,none⟩) 1 1));generalize (aJ.alloc (m' b)).setCell ⟨D,2,none⟩ (.slice (some ⟨aJ.heap.size,0,none⟩) 1 1)=aQ at c⊢;clear bJ T m;obtain⟨cX,cY,bJ,cZ,dA,dB,dC,dD,dE,dF,bH,R,S,bI⟩:=xO (c.bx _ (.head _)).2.2;have T:=c.f 0;obtain⟨cL,cM,cN,cO,cP,cQ,cR,cS,cT,cU,bD,bE,bF,bG⟩:=xO (c.bx _ (.tail _ (.head _))).2.2;have cV:=c.f 1;cases aj aW
    go_wp2_with fail
    exact c.iu 1 (j9 (c.t 0).hd aa aa aa aa aa aa (c.t 1).hd aa) fw.ok
   |true=>
    have Q:Hid ((f.dr true>>=fun aE=>PM.get>>=fun bA=>PM.set {bA with sc:=L.sc}>>=fun _=>a8 G.X [101,110,100]>>=fun _=>pure (d_ {kind:=6,name:=a,qg:=qg,sigs:=F,dr:=aE})) L=some r):=U g;clear g
    go_upto_region 10 with(go_at_call 21;refine(bz z v P).mono ?_;rintro e bK ⟨rfl,d⟩)
    have c3:=d.ps.c3;have c4:=d.ps.c4
    go_upto_region 11 with fail
    have i:=U (d.box #[.slice aM L.sc.length aN,.slice aK L.sc.length fc] 52);obtain⟨aL,aH⟩:∃ aL,bK.heap.size=aL:=⟨_,rfl⟩;rw[aH] at i⊢;generalize bK.alloc _=aJ at i⊢;clear c3 c4 aH v d P
    go_upto_region 12 with(go_at_call 12;refine oc (AH.bd aG i Q) ?_;rintro e bX ⟨aE,cK,bO,bP,cI,cJ,cE,cF,dO,rfl,aB,aV,aD,m⟩;have R:bX.cell? ⟨D,11,none⟩=some (.slice none 0 0):=m.c 1 11;have T:=m.f 1)
    have c:=U (m.set 1 11 (.slice bO aE.length bP));generalize bX.setCell ⟨D,11,none⟩ (.slice bO aE.length bP)=aQ at c⊢;clear R T m;have bZ:aQ.cell? ⟨aL,0,none⟩=some (.slice aM L.sc.length aN):=c.c 0 0;have cA:aQ.cell? ⟨aL,1,none⟩=some (.slice aK L.sc.length fc):=c.c 0 1;have cB:=c.ps.c3;have cC:=c.ps.c4;have cD:=c.ps.fr;have N:=U (i.back aR aV aD.1 aD.2 c);have aC:Hid ((a8 G.X [101,110,100]>>=fun _=>pure (d_ {kind:=6,name:=a,qg:=qg,sigs:=F,dr:=aE})) {cK with sc:=L.sc}=some r):=U aB.out;clear aB
    go_upto_region 13 with fail
    generalize (aQ.setCell ⟨G.bp,3,none⟩ _).setCell ⟨G.bp,4,none⟩ _=wc at N⊢;clear bZ cA cB cC cD c
    go_upto_region 14 with(go_at_call 66;refine oc (FU.bd (fi z [101,110,100]) N aC) ?_;rintro e dM ⟨dI,rfl,aX,x⟩)
    clear N aC;obtain⟨cX,cY,bJ,cZ,dA,dB,dC,dD,dE,dF,bH,R,S,bI⟩:=xO (x.bx _ (.tail _ (.head _))).2.2;have T:=x.f 1;obtain⟨cL,cM,cN,cO,cP,cQ,cR,cS,cT,cU,bD,bE,bF,bG⟩:=xO (x.bx _ (.tail _ (.tail _ (.head _)))).2.2;have cV:=x.f 2;cases aj aX
    go_wp2_with fail
    exact x.iu 2 (j9 aa aa aa aa aa aa (x.t 0).hd (x.t 1).hd aa) fw.ok
end
section
variable {G:Gh} {f:Fs} {n:Nat}
set_option maxRecDepth 100000
set_option maxHeartbeats 16000000
theorem AN(bO:ei G)(b6:FN G 74 (bq G) cz f.ty)(cC:FN G 192 #[.pointer (some ⟨G.bp,0,none⟩),.int .i64 0,.bool false,.func (.func 193) (bq G) #[],.bool true,.func (.func 194) #[] #[]] bc (f.fB 0 false)):FN G 170 (bq G) bc (iz G.X f n):=by
 intro M cE cF bZ fc w s r bP aO;have bX:Hid ((f.fB 0 false>>=fun e=>gV G.X f n e) s=some r):=U aO;have bV:=Bd.start bP;clear aO bP;go_enter Tryz.func170,Tryz.ntmps170
 go_upto_region 1 with fail
 have aI:=bV.box ke 87;generalize w.alloc _=cL at aI⊢;have aI:=U aI
 go_wp2_with (go_at_call 192;refine oc (FN.bd cC bc.ok aI bX) ?_;rintro e bS ⟨nd,cG,_,rfl,aX,bK,aC,aD,aE,Q,W,R,aF,aG,aH,X,Z,Y,aA,C,aB,D,F,E,H,J,I,L,P,N,rfl,aK⟩)
 have aJ:=U ((bK.add aK).box (kv aC aD aE Q W R aF aG aH X Z Y aA C aB D F E H J I L P N) 87);generalize bS.heap.size=y at aJ⊢;generalize bS.alloc _=dH at aJ⊢;clear aK
 go_loopg [] n (fun gk wr=>∃ (bH:al) (nd:Nd) (aC:Int) (aD:ByteArray) (aE:Bool) (Q:Option Addr) (W R:Nat) (aF:Int) (aG:Int) (aH:ByteArray) (X:Option Addr) (Z Y:Nat) (aA:Option Addr) (C aB:Nat) (D:Option Addr) (F E:Nat) (H:Option Addr) (J I:Nat) (L:Option Addr) (P N:Nat),Hid (gV G.X f gk nd bH=some r)/\Hid (Bd G M cE cF bZ fc w s [] [(y,(kv aC aD aE Q W R aF aG aH X Z Y aA C aB D F E H J I L P N)),(w.heap.size,ke)] [(nd,(ot aC aD aE Q W R aF aG aH X Z Y aA C aB D F E H J I L P N))] wr bH))
 case atStart=>exact⟨cG,nd,aC,aD,aE,Q,W,R,aF,aG,aH,X,Z,Y,aA,C,aB,D,F,E,H,J,I,L,P,N,aX,aJ⟩
 case round=>
  clear aJ aX;obtain⟨bH,nd,aC,aD,aE,Q,W,R,aF,aG,aH,X,Z,Y,aA,C,aB,D,F,E,H,J,I,L,P,N,aL,aW⟩:=hrel;cases gk with
  |zero=>exact absurd aL.out (by intro h;cases h)
  |succ m=>
  obtain⟨b,cH,bQ,aO⟩:=cx (show(a7 G.X [58]>>=fun o=>if o=true then f.ty>>=fun t=>gV G.X f m (b9 19 [] 0 0 0 [] [] [nd] [] [] [t]) else pure nd) bH=some r from aL.out);have bN:=U bQ;clear bQ aL;cases b with
  |false=>
   cases aj aO;clear aO
   go_upto_region 4 with(go_at_call 21;refine(bz bO aW bN).mono ?_;rintro e bT ⟨rfl,x⟩)
   obtain⟨cM,cN,cO,cP,cQ,cR,cS,cT,cU,cV,cA,cB⟩:=dy (x.bx _ (.head _)).2.2;obtain⟨cW,cX,cY,cZ,dA,dB,dC,dD,dE,dF,cI,cJ⟩:=dy (x.bx _ (.tail _ (.head _))).2.2;have dG:=x.f 1
   go_wp2_with fail
   exact x.iu 1 (x.t 0) bc.ok
  |true=>
   have aY:Hid ((f.ty>>=fun t=>gV G.X f m (b9 19 [] 0 0 0 [] [] [nd] [] [] [t])) cH=some r):=U aO;clear aO
   go_upto_region 3 with(go_at_call 21;refine(bz bO aW bN).mono ?_;rintro e bT ⟨rfl,x⟩)
   refine b3 (S:=fun z=>z.cell? ⟨y,0,none⟩=some (.int .i64 aC)/\z.cell? ⟨y,1,none⟩=some (.string aD)/\z.cell? ⟨y,2,none⟩=some (.bool aE)/\z.cell? ⟨y,3,none⟩=some (.slice Q W R)/\z.cell? ⟨y,4,none⟩=some (.int .i64 aF)/\z.cell? ⟨y,5,none⟩=some (.int .u64 aG)/\z.cell? ⟨y,6,none⟩=some (.string aH)/\z.cell? ⟨y,7,none⟩=some (.slice X Z Y)/\z.cell? ⟨y,8,none⟩=some (.slice aA C aB)/\z.cell? ⟨y,9,none⟩=some (.slice D F E)/\z.cell? ⟨y,10,none⟩=some (.slice H J I)/\z.cell? ⟨y,11,none⟩=some (.slice L P N)) (T:=fun j=>j==6) aq ?_;have B:=U x.drew;generalize bT.drew=bU at B⊢;have aM:=dy (B.bx _ (.head _)).2.2;refine tq 0 aM ?_;refine tq 2 aM ?_;refine gC (i:=1) (j:=3) aq rfl rfl (fun K hK=>?_) (fun K hK=>?_)
   focus
    go_simp;have c:=U (B.one (cs:=(kv aC aD aE Q W R aF aG aH X Z Y aA C aB D F E H J I L P N)) 87 (B.t 0));have v:=dy (c.bx _ (.head _)).2.2;generalize bU.heap.size=aR at c⊢;generalize bU.alloc _=aU at c v⊢;refine nx hK v ?_;clear hK K;refine cw 3 fun K hK=>?_;go_simp;refine(FN.bd b6 cz.ok c aY).mono ?_;rintro e aQ (⟨bY,q,rfl,rfl,bM⟩|⟨u,bR,_,rfl,aZ,d,bI,bJ,bA,bD,bC,bE,bG,bF,rfl,aK⟩)
    ·unfold az;go_simp;exact⟨rfl,bM,rfl⟩
    have bL:=U aK;clear aK;have aN:=dy (d.bx _ (.head _)).2.2;refine nx hK aN ?_;clear hK K;refine cw 4 fun K hK=>?_;go_simp;have a:=U (d.one (cs:=(nF bI bJ bA bD bC bE bG bF)) 78 bL);have g:=dy (a.bx _ (.head _)).2.2;have l:=U (a.t 1).hd;have k:=U (a.t 0).hd;generalize aQ.heap.size=aT at a k⊢;generalize aQ.alloc _=aP at a g l k⊢;refine nx hK g ?_;clear hK K
   rotate_left 1
   focus
    go_simp;refine(FN.bd b6 cz.ok B aY).mono ?_;rintro e aQ (⟨bY,q,rfl,rfl,bM⟩|⟨u,bR,_,rfl,aZ,d,bI,bJ,bA,bD,bC,bE,bG,bF,rfl,aK⟩)
    ·unfold az;go_simp;exact⟨rfl,bM,rfl⟩
    have d:=U (d.add aK);clear aK;have aN:=dy (d.bx _ (.head _)).2.2;refine nx hK aN ?_;clear hK K;refine gC (i:=1) (j:=4) aq rfl rfl (fun K hK=>?_) (fun K hK=>?_)
    focus
     go_simp;have c:=U (d.one (cs:=(kv aC aD aE Q W R aF aG aH X Z Y aA C aB D F E H J I L P N)) 87 (d.t 1));have v:=dy (c.bx _ (.head _)).2.2;generalize aQ.heap.size=aR at c⊢;generalize aQ.alloc _=aU at c v⊢;refine nx hK v ?_;clear hK K;refine cw 4 fun K hK=>?_;go_simp;have a:=U (c.one (cs:=(nF bI bJ bA bD bC bE bG bF)) 78 (c.t 1));have g:=dy (a.bx _ (.head _)).2.2;have l:=U (a.t 1).hd;have k:=U (a.t 0).hd;generalize aU.heap.size=aT at a k⊢;generalize aU.alloc _=aP at a g l k⊢;refine nx hK g ?_;clear hK K
    rotate_left 1
    focus
     go_simp;have c:=U (d.one (cs:=(nF bI bJ bA bD bC bE bG bF)) 78 (d.t 0));have v:=dy (c.bx _ (.head _)).2.2;generalize aQ.heap.size=aT at c⊢;generalize aQ.alloc _=aU at c v⊢;refine nx hK v ?_;clear hK K;refine cw 1 fun K hK=>?_;go_simp;have a:=U (c.one (cs:=(kv aC aD aE Q W R aF aG aH X Z Y aA C aB D F E H J I L P N)) 87 (c.t 2));have g:=dy (a.bx _ (.head _)).2.2;have l:=U (a.t 0).hd;have k:=U (a.t 1).hd;generalize aU.heap.size=aR at a l⊢;generalize aU.alloc _=aP at a g l k⊢;refine nx hK g ?_;clear hK K
   all_goals
    refine tq 5 g ?_;refine vM 6 (J6 aR aT) (a.bx _ (.head _)) ?_;have A:=(a.add (nd:=b9 19 [] 0 0 0 [] [] [nd] [] [] [u]) (cs:=(J6 aR aT)) (dq (kind:=19) (n:=0) (bits:=0) (name:=[]) (text:=[]) (ls:=[]) (kids:=[nd]) (rules:=[]) (dr:=[]) (types:=[u]) cv aa l aa aa k)).store 0 (J6 aR aT);generalize aP.setCells _ 0 _=cK at A⊢;refine bj aq ?_ _;have aV:=U (A.sub (wY:=[(b9 19 [] 0 0 0 [] [] [nd] [] [] [u],(J6 aR aT))]) fun p cD=>by rcases List.mem_singleton.1 cD with rfl;exact .head _);clear aM g A l k
    go_wp2_with fail
    go_roundg m
    case measure=>omega
    case rel=>exact⟨bR,_,_,_,_,_,_,_,_,_,_,_,_,_,_,_,_,_,_,_,_,_,_,_,_,_,aZ,aV⟩
end
section
variable {G:Gh} {f:Fs} {n:Nat}
set_option maxRecDepth 100000
set_option maxHeartbeats 16000000
theorem mP{M:Nat->Prop}{i:Option Addr}{j:Nat}{f:Option Addr}{g:Nat}{m:World}{s c:al}{k:List (Nat×List Nd×Option Addr×Nat)}{d:List (Nat×Array Value)}{l:List (Nd×List Value)}(o:ei G)(h:Bd G M i j f g w s k d l m c){b:Bool}(a:du G.X c=b):Calls Tryz.prog 107 (bq G) m fun e n=>e=.returned (.bool b)/\Hid (Bd G M i j f g w s k d l n c):=by
 subst a;exact(BB o h.ps).mono fun e n ⟨p,a⟩=>⟨p,U (h.below a)⟩
theorem BS{X:Tx}{s:al}(h:du X s=true):s.i<X.ts.length:=by
 apply dd;intro k;unfold du ea ay at h;rw[k] at h;simp at h
def ep(nd:Nd):Prop:=∃ k n z m t l a b,nd=[vI k,vS n,.kN z,vI m,vS t,.sl l,.sl a,.sl b]
theorem ep.cells{F:Nat->Prop}{nd:Nd}{cs:List Value}(h:ep nd)(c:ah w F nd cs):∃ (I:Int) (J:ByteArray) (L:Bool) (e:Option Addr) (g f:Nat) (M:Int) (N:ByteArray) (i:Option Addr) (o j:Nat) (p:Option Addr) (r q:Nat) (s:Option Addr) (d u:Nat),cs=[.int .i64 I,.string J,.bool L,.slice e g f,.int .i64 M,.string N,.slice i o j,.slice p r q,.slice s d u]:=by
 obtain⟨k,n,z,m,t,l,a,b,rfl⟩:=h;unfold ah ah ah ah ah ah ah ah ah at c;obtain⟨T,aC,rfl,x,c2,aD,rfl,y,W,aE,rfl,A,X,aF,rfl,B,Y,aG,rfl,C,Z,aH,rfl,D,aA,aI,rfl,E,aB,aJ,rfl,G,H⟩:=c;unfold vI vS b8 at*;obtain⟨aP,P,aO,v,aN,rfl,_⟩:=A;obtain⟨Q,aK,rfl,_⟩:=D;obtain⟨R,aL,rfl,_⟩:=E;obtain⟨S,aM,rfl,_⟩:=G;subst x y B C H;exact⟨_,_,_,_,_,_,_,_,_,_,_,_,_,_,_,_,_,rfl⟩
theorem AK(I:ei G)(aF:FN G 65 (bq G) cy f.pat)(aT:Fs)(cD:Nat)(aU:∀ w s r,f.l7 w s=some r->h' G.X aT cD w s=some r)(aG:∀ l s r,f.lU l s=some r->r=.ok (AJ l,s))(cC:∀ s a cF,fp G.X f n s=some (.ok (a,cF))->ep a)(E:∀ s l cF,gd G.X n [41] f.pat s=some (.ok (l,cF))->l.length<=65540)(aY:kZ G cy y6 144 aT.prec)(cA:nH G.X aT.prec):FN G 108 (bq G) cy (fp G.X f n):=by
 intro M bC bD bA fc w s r aD g;have bJ:=U g;have P:=Bd.start aD;have aQ:=U (fun k dJ=>(aD.mB k dJ).2:∀ k,M k->k<w.heap.size);clear aD;go_enter Tryz.func108,Tryz.ntmps108
 go_upto_region 1 with fail
 have P:=(P.box (bq G) 49).box tY 82;rw[show(w.alloc (.cells (bq G) 49)).heap.size=w.heap.size+1 from ar] at P;obtain⟨bE,aL⟩:∃ bE,w.heap.size+1=bE:=⟨_,rfl⟩;rw[aL] at P⊢;generalize (w.alloc (.cells (bq G) 49)).alloc (.cells tY 82)=dX at P⊢;have aJ:=U aL;have P:=U P;have dP:=P.p 1;clear aL;unfold fp at g
 by_cases aN:du G.X s=true
 ·rw[if_pos aN] at g;have g:(if(V G.X s).kind=4 then pure (c_ 3 [] (V G.X s).num 0 [] [] [] []) else if(V G.X s).kind=6 then pure (c_ 4 [] 0 (V G.X s).n [] [] [] []) else if(V G.X s).kind=7 then pure (c_ 5 [] 0 0 (V G.X s).text [] [] []) else if(V G.X s).kind=8 then(if(V G.X s).text=[40] then gd G.X n [41] f.pat>>=fun l=>(match l with|[a]=>pure a|_=>f.lU l) else if(V G.X s).text=[91] then gd G.X n [93] f.pat>>=fun l=>pure (c_ 10 [] 0 0 [] [] l []) else f.l7 (V G.X s).text) else pure (named (V G.X s).text):PM Nd) {s with i:=s.i+1}=some r:=g;have cO:=U (BS aN);have bG:=U aN
  go_upto_region 4 with(first
   |(go_at_call 107;refine(mP I P bG).mono ?_;rintro e dV ⟨rfl,H⟩;have dQ:=H.p 1)
   |(go_at_call 63;refine(e' I H).mono ?_;rintro e cZ ⟨cH,bY,cE,bZ,rfl,bI,bH⟩))
  have u:=bH.box (lI G s cH bY cE bZ) 75;generalize cZ.heap.size=cY at u⊢;generalize cZ.alloc _=dW at u⊢;have u:=U u;have dR:=u.p 2;have c1:=u.ps.c1;have fr:=u.ps.fr;have E:=cO.out;have aV:=I.k0
  go_upto_region 5 with fail
  have j:=U (u.step cO);generalize dW.setCell ⟨G.bp,1,none⟩ (.int .i64 ((s.i:Int)+1))=cI at j⊢;clear dR c1 fr E aV dP;obtain⟨eV,bF,eX,eY,eZ,fA,fC⟩:=KN (j.bx _ (.head _)).2.2;have eK:=j.p 2
  by_cases cR:(V G.X s).kind=4
  ·have dC:(((V G.X s).kind:Nat):Int)=4:=O
   rw[if_pos cR] at g;have q:=U g;clear g;cases aj q;obtain⟨Q,R,S,T,W,X,Y,Z,aA⟩:=lM (j.bx _ (.tail _ (.head _))).2.2;have aB:=j.f 1
   go_wp2_with fail
   exact j.iu 1 (gL (IT j.ps bI fun b aK=>.inl aK) aa aa aa) cy.ok
  have dC:¬(((V G.X s).kind:Nat):Int)=4:=O
  rw[if_neg cR] at g
  by_cases cS:(V G.X s).kind=6
  ·have dD:(((V G.X s).kind:Nat):Int)=6:=O
   rw[if_pos cS] at g;have q:=U g;clear g;cases aj q;obtain⟨Q,R,S,T,W,X,Y,Z,aA⟩:=lM (j.bx _ (.tail _ (.head _))).2.2;have aB:=j.f 1
   go_wp2_with fail
   exact j.iu 1 (gL cv aa aa aa) cy.ok
  have dD:¬(((V G.X s).kind:Nat):Int)=6:=O
  rw[if_neg cS] at g
  by_cases cT:(V G.X s).kind=7
  ·have dE:(((V G.X s).kind:Nat):Int)=7:=O
   rw[if_pos cT] at g;have q:=U g;clear g;cases aj q;obtain⟨Q,R,S,T,W,X,Y,Z,aA⟩:=lM (j.bx _ (.tail _ (.head _))).2.2;have aB:=j.f 1
   go_wp2_with fail
   exact j.iu 1 (gL cv aa aa aa) cy.ok
  have dE:¬(((V G.X s).kind:Nat):Int)=7:=O
  rw[if_neg cT] at g
  by_cases cU:(V G.X s).kind=8
  ·have dF:(((V G.X s).kind:Nat):Int)=8:=O
   rw[if_pos cU] at g
   by_cases J:(V G.X s).text=[40]
   ·rw[if_pos J] at g;have q:Hid ((gd G.X n [41] f.pat>>=fun l=>(match l with|[a]=>pure a|_=>f.lU l)) {s with i:=s.i+1}=some r):=U g;clear g;rw[J] at bF;have aI:Hid (gu G 143 #[.pointer (some ⟨G.bp,0,none⟩),.string ⟨[41].toArray⟩,.func (.func 65) (bq G) #[]] (gd G.X n [41] f.pat)):=U (q3 fun M bC bD bA fc w s r aD g=>sP I (fun _ _ _ h _=>h) 65 _ #[] (fun _ _=>rfl) [41] (lone f.pat) (FN.pE cy.ok aF) n w s () r aD trivial g)
    go_upto_region 21 with(go_at_call 143;refine oc (gu.pF aI j q) ?_;rintro e B ⟨l,cG,cP,cQ,rfl,aP,D,d⟩)
    rcases l with _|⟨x,_|⟨y,l⟩⟩
    ·cases aG _ _ _ D.out;have cB:¬((0:Nat):Int)=1:=by simp;try omega
     go_wp2_with (go_at_call 101;refine(jC I (0) (by have:=E _ _ _ aP.out;simpa using this) d).mono ?_;rintro e b6 ⟨la,lc,rfl,m⟩;obtain⟨Q,R,S,T,W,X,Y,Z,aA⟩:=lM (m.bx _ (.tail _ (.head _))).2.2;have aB:=m.f 1)
     exact m.iu 1 (cs:=[.int .i64 7,.string ⟨#[]⟩,.bool false,.slice none 0 0,.int .i64 0,.string ⟨#[]⟩,.slice la (0) lc,.slice cP (0) cQ,.slice none 0 0]) (by have e:(strs (labels (0))).length=0:=(by rw[jc];simp[labels]);have:=gL (kind:=7) (n:=0) (name:=[]) (text:=[]) (z:=0) (ls:=labels (0)) (kids:=[]) (types:=[]) (w:=b6) (F:=Own G.B w.heap.size b6.heap.size (VM M w _)) (la:=la) (lc:=lc) cv (by rw[e];exact(m.t 0).hd) (m.t 1).hd aa;rw[e] at this;exact this) cy.ok
    ·obtain rfl:r=.ok (x,cG):=aj (a:=x) D;obtain⟨aC,aE,dB,rfl,o,aM⟩:=qZ (d.t 0);obtain⟨cJ,cK,cL,bM,bO,bN,cM,cN,bP,bR,bQ,bS,bU,bT,bV,bL,bX,rfl⟩:=(cC _ _ _ bJ.out).cells aM;have eM:B.cell? ⟨aC,aE,none⟩=some (.int .i64 cJ):=o 0 ar;have eN:B.cell? ⟨aC,aE+1,none⟩=some (.string cK):=o 1 ar;have cW:B.cell? ⟨aC,aE+2,none⟩=some (.bool cL):=o 2 ar;have eO:B.cell? ⟨aC,aE+3,none⟩=some (.slice bM bO bN):=o 3 ar;have eP:B.cell? ⟨aC,aE+4,none⟩=some (.int .i64 cM):=o 4 ar;have eQ:B.cell? ⟨aC,aE+5,none⟩=some (.string cN):=o 5 ar;have eS:B.cell? ⟨aC,aE+6,none⟩=some (.slice bP bR bQ):=o 6 ar;have eT:B.cell? ⟨aC,aE+7,none⟩=some (.slice bS bU bT):=o 7 ar;have eU:B.cell? ⟨aC,aE+8,none⟩=some (.slice bV bL bX):=o 8 ar;have aJ:=U aM;clear o aM;obtain⟨Q,R,S,T,W,X,Y,Z,aA⟩:=lM (d.bx _ (.tail _ (.head _))).2.2;have aB:=d.f 1
     go_wp2_with fail
     exact d.iu 1 aJ cy.ok
    ·cases aG _ _ _ D.out;have cB:¬((l.length+1+1:Nat):Int)=1:=by simp;try omega
     go_wp2_with (go_at_call 101;rw[show(((l.length:Nat):Int)+1+1)=((l.length+1+1:Nat):Int) by omega];refine(jC I (l.length+1+1) (by have:=E _ _ _ aP.out;simpa using this) d).mono ?_;rintro e b6 ⟨la,lc,rfl,m⟩;obtain⟨Q,R,S,T,W,X,Y,Z,aA⟩:=lM (m.bx _ (.tail _ (.head _))).2.2;have aB:=m.f 1)
     exact m.iu 1 (cs:=[.int .i64 7,.string ⟨#[]⟩,.bool false,.slice none 0 0,.int .i64 0,.string ⟨#[]⟩,.slice la (l.length+1+1) lc,.slice cP (l.length+1+1) cQ,.slice none 0 0]) (by have e:(strs (labels (l.length+1+1))).length=l.length+1+1:=(by rw[jc];simp[labels]);have:=gL (kind:=7) (n:=0) (name:=[]) (text:=[]) (z:=0) (ls:=labels (l.length+1+1)) (kids:=(x::y::l)) (types:=[]) (w:=b6) (F:=Own G.B w.heap.size b6.heap.size (VM M w _)) (la:=la) (lc:=lc) cv (by rw[e];exact(m.t 0).hd) (m.t 1).hd aa;rw[e] at this;exact this) cy.ok
   rw[if_neg J] at g
   by_cases L:(V G.X s).text=[91]
   ·rw[if_pos L] at g;have q:Hid ((gd G.X n [93] f.pat>>=fun l=>pure (c_ 10 [] 0 0 [] [] l [])) {s with i:=s.i+1}=some r):=U g;clear g;rw[L] at bF;have aI:Hid (gu G 143 #[.pointer (some ⟨G.bp,0,none⟩),.string ⟨[93].toArray⟩,.func (.func 65) (bq G) #[]] (gd G.X n [93] f.pat)):=U (q3 fun M bC bD bA fc w s r aD g=>sP I (fun _ _ _ h _=>h) 65 _ #[] (fun _ _=>rfl) [93] (lone f.pat) (FN.pE cy.ok aF) n w s () r aD trivial g)
    go_wp2_with (go_at_call 143;refine oc (gu.bd aI j q) ?_;rintro e B ⟨l,cG,la,lc,rfl,D,d⟩;obtain⟨Q,R,S,T,W,X,Y,Z,aA⟩:=lM (d.bx _ (.tail _ (.head _))).2.2;have aB:=d.f 1)
    cases aj D;exact d.iu 1 (gL cv aa (d.t 0).hd aa) cy.ok
   rw[if_neg L] at g;have g:=aU _ _ _ g;unfold h' at g
   by_cases N:(V G.X s).text=[95]
   ·rw[if_pos N] at g;have q:=U g;clear g;rw[N] at bF;cases aj q;obtain⟨Q,R,S,T,W,X,Y,Z,aA⟩:=lM (j.bx _ (.tail _ (.head _))).2.2;have aB:=j.f 1
    go_wp2_with fail
    exact j.iu 1 (gL cv aa aa aa) cy.ok
   rw[if_neg N] at g
   by_cases A:(V G.X s).text=[111,112]
   ·rw[if_pos A] at g;have q:Hid ((name G.X true>>=fun a=>pure (named a)) {s with i:=s.i+1}=some r):=U g;clear g;rw[A] at bF
    go_wp2_with (first
     |(go_at_call 73;refine oc (FB.bd (fo I true) j q) ?_;rintro e B ⟨x,cG,rfl,D,d⟩)
     |(go_at_call 142;refine(vV x B).mono ?_;rintro e aO ⟨v,rfl,aK,aZ⟩;have p:=U (d.below aK);obtain⟨cJ,cK,cL,bM,bO,bN,cM,cN,bP,bR,bQ,bS,bU,bT,bV,bL,bX,rfl,aX⟩:=aZ (Own G.B w.heap.size aO.heap.size (VM M w [(cY,(lI G s cH bY cE bZ)),(bE,tY),(w.heap.size,(bq G))]));have aJ:=U aX;clear aX aZ aK;obtain⟨Q,R,S,T,W,X,Y,Z,aA⟩:=lM (p.bx _ (.tail _ (.head _))).2.2;have aB:=p.f 1))
    cases aj D;exact p.iu 1 (aJ.out) cy.ok
   rw[if_neg A] at g;have q:Hid ((hF G.X cD [125] aT.prec []>>=fun r=>pure (c_ 7 [] 0 0 [] r.2 r.1 [])) {s with i:=s.i+1}=some r):=U g;clear g;have dO:((V G.X s).text==[95])=false:=by simp[N]
   have cV:((V G.X s).text==[111,112])=false:=by simp[A]
   have dL:((V G.X s).text==[40])=false:=by simp[J]
   have dM:((V G.X s).text==[91])=false:=by simp[L]
   clear N A J L
   go_upto_region 27 with fail
   have d:=j.box #[.int .i64 7,.string ⟨#[]⟩,.bool false,.slice none 0 0,.int .i64 0,.string ⟨#[]⟩,.slice none 0 0,.slice none 0 0,.slice none 0 0] 82;obtain⟨aH,aW⟩:∃ aH,cI.heap.size=aH:=⟨_,rfl⟩;rw[aW] at d⊢;have aR:Hid (w.heap.size<aH):=U (by have eI:=aJ.out;have dG:=(j.bw _ (.tail _ (.head _))).1;have eJ:=j.kn.size;simp at dG;omega);generalize cI.alloc _=B at d⊢;have d:=U d;have eL:=d.p 3;clear aW
   go_upto_region 28 with(go_at_call 143;refine oc (zG (fun dU dK aD dI dH=>sP I dH 144 #[] _ (fun _ _=>rfl) [125] (rV aT.prec) (aY.pE d aQ (.tail _ (.tail _ (.head _))) aR) cD B _ LG.zero dU aD dI dK) aQ cA (fun v h=>absurd (congrArg Array.size h) (by simp[y6])) d (.tail _ (.tail _ (.head _))) aR q) ?_;rintro e aO ⟨l,ls,cX,a,c,la,lc,rfl,bK,p⟩;have p:=U (show Bd G M bC bD bA fc w s [] ((aH,#[.int .i64 7,.string ⟨#[]⟩,.bool false,.slice none 0 0,.int .i64 0,.string ⟨#[]⟩,.slice la ls.length lc,.slice none 0 0,.slice none 0 0])::_) _ aO cX from p.out);have cW:aO.cell? ⟨aH,7,none⟩=some (.slice none 0 0):=p.c 0 7;have dS:=p.f 0)
   have C:Hid (Bd G M bC bD bA fc w s [] ((aH,#[.int .i64 7,.string ⟨#[]⟩,.bool false,.slice none 0 0,.int .i64 0,.string ⟨#[]⟩,.slice la ls.length lc,.slice a l.length c,.slice none 0 0])::_) _ (aO.setCell ⟨aH,7,none⟩ (.slice a l.length c)) cX):=U (p.set 0 7 (.slice a l.length c) rfl ar);generalize aO.setCell ⟨aH,7,none⟩ (.slice a l.length c)=dA at C⊢;clear cW dS;obtain⟨dY,dZ,eB,eC,eD,eE,eF,eG,eH⟩:=lM (C.bx _ (.head _)).2.2;obtain⟨Q,R,S,T,W,X,Y,Z,aA⟩:=lM (C.bx _ (.tail _ (.tail _ (.head _)))).2.2;have aB:=C.f 2;cases aj bK
   go_wp2_with fail
   exact C.iu 2 (cs:=[.int .i64 7,.string ⟨#[]⟩,.bool false,.slice none 0 0,.int .i64 0,.string ⟨#[]⟩,.slice la ls.length lc,.slice a l.length c,.slice none 0 0]) (by have:=gL (kind:=7) (n:=0) (name:=[]) (text:=[]) (z:=0) (ls:=ls) (kids:=l) (types:=[]) (w:=dA) (F:=Own G.B w.heap.size dA.heap.size (VM M w _)) cv (by rw[jc];exact(C.t 1).hd) (C.t 0).hd aa;rw[jc] at this;exact this) cy.ok
  have dF:¬(((V G.X s).kind:Nat):Int)=8:=O
  rw[if_neg cU] at g;have q:=U g;clear g;cases aj q
  go_wp2_with (go_at_call 142;refine(vV (V G.X s).text cI).mono ?_;rintro e B ⟨v,rfl,aK,aZ⟩;have d:=U (j.below aK);obtain⟨cJ,cK,cL,bM,bO,bN,cM,cN,bP,bR,bQ,bS,bU,bT,bV,bL,bX,rfl,aX⟩:=aZ (Own G.B w.heap.size B.heap.size (VM M w [(cY,(lI G s cH bY cE bZ)),(bE,tY),(w.heap.size,(bq G))]));have aJ:=U aX;clear aX aZ aK;obtain⟨Q,R,S,T,W,X,Y,Z,aA⟩:=lM (d.bx _ (.tail _ (.head _))).2.2;have aB:=d.f 1)
  exact d.iu 1 (aJ.out) cy.ok
 ·rw[if_neg aN] at g;have q:Hid ((eo G.X:PM Nd) s=some r):=U g;have bG:Hid (du G.X s=false):=U (by simpa using aN);clear g aN
  go_wp2_with (first
   |(go_at_call 107;refine(mP I P bG).mono ?_;rintro e dV ⟨rfl,H⟩;have dQ:=H.p 1)
   |(go_at_call 13;exact ow (km I H q)))
end
end Go.Proofs.YtkblonfmjlopaaaGreatDoor
