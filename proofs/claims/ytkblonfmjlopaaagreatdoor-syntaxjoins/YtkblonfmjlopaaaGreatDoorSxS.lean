/-
  decs, walked.
-/
import Derived.Test.YtkblonfmjlopaaaGreatDoorSzDg
set_option linter.all false
set_option maxRecDepth 1000000
set_option maxHeartbeats 16000000
namespace Go.Proofs.YtkblonfmjlopaaaGreatDoor
open Go Go.RowKit
variable {b:Bool}{l:List ak}
theorem FD.le{G:Gh}{k:Nat}{args:Array Value}{I:jL}{x y:PM Nd}(h:FD G k args I y)(c:∀ s r,x s=some r->y s=some r):FD G k args I x:=fun e f a fc w s r b d=>h e f a fc w s r b (c s r d)
theorem KG{α:Type}{x:PM α}{s:al}:(x>>=fun d=>pure d) s=x s:=by
 show PM.bind _ _ _=_;unfold PM.bind
 rcases x s with _|⟨e|⟨l,a⟩⟩<;>rfl
def gY:List ak:=[[118,97,108],[102,117,110],[100,97,116,97,116,121,112,101],[116,121,112,101],[101,120,99,101,112,116,105,111,110],[105,110,102,105,120],[105,110,102,105,120,114],[110,111,110,102,105,120]]
def hZ:List ak:=[[115,116,114,117,99,116,117,114,101],[115,105,103,110,97,116,117,114,101]]
section
variable {G:Gh} {f i:Fs} {n c:Nat}
theorem FM(d:ei G)(k:qM G.X)(y:FN G 65 (bq G) cy f.pat)(m:FN G 67 (bq G) bc f.exp)(o:FN G 69 (bq G) oK (lH G.X f n))
 (u:gu G 78 (bq G) (jn f.jK)) (p:∀ s l j,f.jK s=some (.ok (l,j))->j.sc=s.sc/\s.i+l.length<=j.i)
 (b:∀ w s r,f.oD w s=some r->l0 G.X i c w s=some r)
 (e:FN G 71 (bq G) kH i.data) (g:gu G 72 (bq G) (jn i.vars)) (z:FN G 74 (bq G) cz i.ty) (B:FN G 76 (bq G) fw i.kS) (A:gu G 77 (bq G) i.specs)
 (x:gu G 78 (bq G) (jn i.jK)) (q:∀ s l j,i.jK s=some (.ok (l,j))->j.sc=s.sc/\s.i+l.length<=j.i)
 (C:ak) (D:C∈gY++hZ):FD G 23 (vE G C) fw (kR G.X f n C):=by
 simp only [gY,hZ,List.cons_append,List.nil_append,List.mem_cons,List.not_mem_nil,or_false] at D
 rcases D with rfl|rfl|rfl|rfl|rfl|rfl|rfl|rfl|rfl|rfl
 ·exact FN.fd fw.ok (IC d y m)
 ·exact FN.fd fw.ok (ID d o)
 ·exact(FN.fd fw.ok (wW d e)).le fun s r h=>b _ s r h
 ·exact(FN.fd fw.ok (F6 d g z)).le fun s r h=>by
   have h:(i.vars>>=fun v=>name G.X false>>=fun a=>a8 G.X [61]>>=fun _=>i.ty>>=fun t=>pure (d_ {kind:=4,iG:=[[.sl (strs v),vS a,.sl []]],types:=[t]})) s=some r:=b _ s r h;unfold jn;rw[<-db];exact h
 ·exact(FN.fd fw.ok (vy d z)).le fun s r h=>b _ s r h
 ·exact(C6 d k u p).le fun s r h=>h
 ·exact(A1 d k u p).le fun s r h=>h
 ·exact(AY d x q).le fun s r h=>b _ s r h
 ·exact(FN.fd fw.ok (vA d B)).le fun s r h=>by rw[KG];exact b _ s r h
 ·exact(FN.fd fw.ok (vz d A)).le fun s r h=>b _ s r h
end
theorem vF{X:Tx}:∀ (n:Nat) (s:al) (e:Nat×Nat),fz X n s≠some (.error e)
 |0,s,e=>fun h=>by cases h
 |n+1,s,e=>fun h=>by
  by_cases a:ay X [[59]] s=true
  ·unfold fz at h;rw[lJ a,if_pos rfl] at h;exact vF n _ e h
  ·unfold fz at h;rw[jx a,if_neg bh] at h;cases h
theorem A2{X:Tx}{n:Nat}{s b:al}(h:fz X (n+1) s=some (.ok ((),b))):(ay X [[59]] s=true/\fz X n {s with i:=s.i+1}=some (.ok ((),b)))\/(¬ay X [[59]] s=true/\s=b):=by
 by_cases a:ay X [[59]] s=true
 ·unfold fz at h;rw[lJ a,if_pos rfl] at h;exact .inl ⟨a,h⟩
 ·unfold fz at h;rw[jx a,if_neg bh] at h;exact .inr ⟨a,by cases h;rfl⟩
theorem C7{X:Tx}{f:Fs}{n m:Nat}{b:Bool}{e:List Nd}{s:al}{r:Except (Nat×Nat) (List Nd×al)}(h:eR X f n b (m+1) e s=some r):
 ∃ a,fz X n s=some (.ok ((),a))/\((ay X gY a||(b&&ay X hZ a))=false/\r=.ok (e,a)\/(ay X gY a||(b&&ay X hZ a))=true/\(kR X f n (V X a).text>>=fun d=>eR X f n b m (e++[d])) {a with i:=a.i+1}=some r):=by
 conv at h=>lhs;unfold eR
 rcases a_ h with⟨c,q,k,_⟩|⟨u,a,k,g⟩
 ·exact absurd k (vF _ _ _)
 ·refine⟨a,k,?_⟩;rw[vG,vG] at g;have g:(if ¬(ay X gY a=true\/b=true/\ay X hZ a=true) then pure e else next X>>=fun t=>step1>>=fun _=>kR X f n t.text>>=fun d=>eR X f n b m (e++[d])) a=some r:=g
  by_cases j:ay X gY a=true\/b=true/\ay X hZ a=true
  ·rw[if_neg (fun q=>q j),jy] at g;exact .inr ⟨by simpa using j,g⟩
  ·rw[if_pos j] at g
   exact .inl ⟨by cases l:(ay X gY a||(b&&ay X hZ a)) with
    |false=>rfl
    |true=>exact absurd (by simpa using l) j,aj g⟩
section
variable {G:Gh} {f:Fs} {n:Nat}
set_option maxRecDepth 100000
set_option maxHeartbeats 16000000
theorem CJ(Q:ei G)(eD:n<=1000000)(E:Bool)(cC:∀ dJ:ak,dJ∈gY++hZ->FD G 23 (vE G dJ) fw (kR G.X f n dJ)):AH G 12 (AI G E) (vH G.X f n E):=by
 intro eI eJ dX fc w s r dD eE;have dO:=U ((Bd.start dD).tz 14);have bU:=U dD;have dQ:Hid (eR G.X f n E n [] s=some r):=U eE;have dP:=U eD;clear eE dD eD;go_enter Tryz.func12,Tryz.ntmps12
 go_wp2_with fail
 go_loopg [5] n (fun gk eZ wr=>∃ cR l a c js u D i C bJ dL cK,eZ=.slice a l.length c/\Hid (eR G.X f n E gk l cR=some r)/\Hid (∀ q,q∈js->q.2=#[])/\Hid (l.length+gk<=n)/\Hid (Tn G eI eJ dX fc w s u D i C dL cK)/\Hid (bJ.heap.size=w.heap.size/\Kn G.B No bJ dL)/\Hid (Bd G (Mm G u i) u D i C bJ cK [(14,l,a,c)] js [] wr cR))
 case atStart=>exact⟨s,[],none,0,[],eI,eJ,dX,fc,w,w,s,rfl,dQ,U ar,U ar,U (Tn.refl bU),U ⟨rfl,Kn.refl _ _ _⟩,dO⟩
 case round=>
  clear dQ dO;obtain⟨cR,l,a,c,js,u,D,i,C,bJ,dL,cK,rfl,aB,bT,aA,N,x,bP⟩:=hrel;cases gk with
  |zero=>exact absurd aB.out (by intro h;cases h)
  |succ m=>
  obtain⟨fC,cH,X⟩:=C7 aB;have y:=U cH;have F:=U X;clear cH X aB
  go_wp2_with fail
  go_loopg [] n (fun dC dK=>∃ d,Hid (fz G.X dC d=some (.ok ((),fC)))/\Hid (Bd G (Mm G u i) u D i C bJ cK [(14,l,a,c)] js [] dK d))
  case atStart=>exact⟨cR,y,bP⟩
  case round=>
   clear y bP;obtain⟨d,y,Y⟩:=hrel;cases gk with
   |zero=>exact absurd y.out (by intro h;cases h)
   |succ k=>
   rcases A2 y with⟨cG,W⟩|⟨cG,rfl⟩
   ·have cQ:=U (py cG);have cU:=U W;clear cG W y F
    go_wp2_with (go_at_call 21;refine(bz Q Y cQ).mono ?_;rintro e fE ⟨rfl,A⟩)
    go_roundg k
    case measure=>omega
    case rel=>exact⟨_,cU,A⟩
   ·have cQ:=U (pz cG);clear cG y
    go_upto_region 3 with(go_at_call 21;refine(bz Q Y cQ).mono ?_;rintro e fE ⟨rfl,A⟩)
    clear Y cQ
    go_cut [20] from 8 to 20 (fun fD cM=>∃ bX,fD=.bool bX/\Hid (bX=!(ay G.X gY d||(E&&ay G.X hZ d)))/\Hid (Bd G (Mm G u i) u D i C bJ cK [(14,l,a,c)] js [] cM d))
    case first=>
     obtain⟨eN,cA⟩:∃ b,ay G.X gY d=b:=⟨_,rfl⟩;obtain⟨fH,cB⟩:∃ b,ay G.X hZ d=b:=⟨_,rfl⟩;have aF:=U cA;have bQ:=U cB;clear cA cB F;cases eN with
     |true=>
      go_upto_if 20 with(go_at_call 22;refine(j_ Q gY bh A aF rfl rfl).mono ?_;rintro e eK ⟨rfl,g⟩)
      go_meet
      case rel=>exact⟨_,rfl,U (by rw[aF.out];simp),g⟩
     |false=>
      cases E with
      |false=>
       go_upto_if 20 with(go_at_call 22;refine(j_ Q gY bh A aF rfl rfl).mono ?_;rintro e eK ⟨rfl,g⟩)
       go_meet
       case rel=>exact⟨_,rfl,U (by rw[aF.out];simp),g⟩
      |true=>
       go_upto_if 20 with(first
        |(go_at_call 22;refine(j_ Q hZ bh g bQ rfl rfl).mono ?_;rintro e fM ⟨rfl,cT⟩)
        |(go_at_call 22;refine(j_ Q gY bh A aF rfl rfl).mono ?_;rintro e eK ⟨rfl,g⟩))
       go_meet
       case rel=>exact⟨_,rfl,U (by rw[aF.out,bQ.out];simp),cT⟩
    case rest=>
     obtain⟨bX,rfl,L,g⟩:=hcut;clear A
     rcases F.out with⟨eF,rfl⟩|⟨dE,cF⟩
     ·obtain rfl:bX=true:=by have:=L.out;rw[eF] at this;exact this
      clear eF F L
      go_wp2_with fail
      have bR:=g.nM (fx:=[]) bT (by intro q eV;cases eV);refine bodyPost_ret (v:=.slice a l.length c) (by simp[results,Tryz.results12,go_sem]) rfl ?_;exact⟨u,D,i,C,_,rfl,Tn.ue bU N x.1 x.2 bR,a,c,rfl,(bR.t 0).hd.on (Kb.refl _ _) fun b eO=>eO.imp id fun q=>⟨ba x.1,q.2.1,fun m=>q.2.2 (.inr ⟨m,q.1⟩)⟩⟩
     ·obtain rfl:bX=false:=by have:=L.out;rw[dE] at this;exact this
      have cP:Hid (d.i<G.X.ts.length/\(V G.X d).text∈gY++hZ):=U (by
       have P:∀ l,ay G.X l d=true->d.i<G.X.ts.length/\(V G.X d).text∈l:=fun l h=>⟨ee h,by
        unfold ay at h;simp only [Bool.and_eq_true] at h
        simpa [List.elem_iff] using h.2⟩
       rcases Bool.or_eq_true_iff.1 dE with q|q
       ·exact⟨(P _ q).1,List.mem_append_left _ (P _ q).2⟩
       ·have q:=(Bool.and_eq_true_iff.1 q).2
        exact⟨(P _ q).1,Ce _ (P _ q).2⟩)
      have eM:=U cF;clear dE cF F L;have c1:=g.ps.c1;have fr:=g.ps.fr;have eC:=cP.1;have eB:=Q.k0
      go_upto_region 6 with fail
      have dR:=((Kn.refl G.B (Jp G) wc).step g.ps rfl (.int .i64 ((d.i:Int)+1))).jp g.ps.mp;have B:=U (g.go dR (g.ps.step1 cP.1) rfl (h5 _));clear dR c1 fr;generalize wc.setCell ⟨G.bp,1,none⟩ (.int .i64 ((d.i:Int)+1))=bI at B⊢;obtain⟨t,dG⟩:∃ t,G.X.ts[d.i]?=some t:=⟨_,fv cP.1⟩;obtain⟨cO,cN,fL,fG,fK,fJ,bY,dH,⟨_,eG,_⟩,_⟩:=B.ps.tok Q dG;have dV:bI.cell? ⟨cO,cN+d.i*7+1,none⟩=some (.string ⟨(V G.X d).text.toArray⟩):=by rw[eG,<-ko dG]
      have dB:=B.ps.c0;rw[bY] at dB;have dW:bI.cell? ⟨G.bp,1,none⟩=some (.int .i64 ((d.i:Int)+1)):=B.ps.c1;have eX:IntKind.i64.wrap ((d.i:Int)+1-1)=(d.i:Int):=by rw[Ae];exact gv _ O
      have eY:IntKind.i64.wrap (d.i:Int)=(d.i:Int):=gv _ O;have eT:(d.i:Int)<(G.X.ts.length:Int):=O
      have eU:(0:Int)<=(d.i:Int):=O
      clear eG dG bY dH;refine b3 (S:=fun cM=>cM.cell? ⟨G.bp,0,none⟩=some (.slice (some ⟨cO,cN,none⟩) G.X.ts.length G.lc)/\cM.cell? ⟨G.bp,1,none⟩=some (.int .i64 ((d.i:Int)+1))/\cM.cell? ⟨cO,cN+d.i*7+1,none⟩=some (.string ⟨(V G.X d).text.toArray⟩)) (T:=fun j=>j==0||j==1||j==2||j==3||j==4||j==6||j==7||j==8||decide (14<=j)) aq ?_;have J:=U B.drew;have o:bI.drew.cell? ⟨G.bp,0,none⟩=some (.slice (some ⟨cO,cN,none⟩) G.X.ts.length G.lc)/\bI.drew.cell? ⟨G.bp,1,none⟩=some (.int .i64 ((d.i:Int)+1))/\bI.drew.cell? ⟨cO,cN+d.i*7+1,none⟩=some (.string ⟨(V G.X d).text.toArray⟩):=⟨dB,dW,dV⟩;generalize bI.drew=fF at J o⊢;clear dB dV dW;refine tp 0 ?_;refine tp 1 ?_;refine tp 2 ?_;refine tp 3 ?_;refine tp 4 ?_;refine tp 6 ?_;refine tp 7 ?_;refine tp 8 ?_;refine tl 5 o ?_;refine cw 9 fun K hK=>?_;have dF:=o.2.1;go_simp;refine nx hK o ?_;clear hK K dF;refine tl 10 o ?_;refine tl 11 o ?_;refine tl 12 o ?_;refine tl 13 o ?_;refine cw 14 fun K hK=>?_;go_simp;refine(FD.bd (cC _ cP.2) fw.ok J eM).mono ?_;rintro e cL (⟨fI,q,rfl,rfl,eS⟩|⟨dI,cS,_,aE,cJ,aD,bZ,H,rfl,cX,bV,aC,M,bK,bL,aX,aZ,aY,bM,bN,bO,b6,bC,bA,bD,bF,bE,bG,aG,bH,aH,aJ,aI,aK,aM,aL,aN,aP,aO,aQ,aT,aR,aU,aW,aV,rfl,cF⟩)
      ·unfold az;go_simp;exact⟨rfl,rfl,Kn.qP N.kn x.1 x.2 eS (fun k q=>N.mm q) bU.bB⟩
      have cW:=U (Tn.trans bU (Tn.ue bU N x.1 x.2 J) bV);have cY:Hid (H.heap.size=w.heap.size/\Kn G.B No H cL):=U ⟨aC.1.trans x.1,aC.2⟩;have M:=U (M.add cF);clear cF o J B bV aC;refine oZ hK ?_;clear hK K;refine cw 15 fun K hK=>?_;go_simp;refine oZ hK ?_;clear hK K;obtain⟨eP,dY,dZ,cE,R⟩:=Bd.push (fx:=[]) (js:=js) (z:=A3) (cs:=#[.int .i64 bK,.string bL,.slice aX aZ aY,.int .i64 bM,.bool bN,.bool bO,.slice b6 bC bA,.slice bD bF bE,.slice bG aG bH,.slice aH aJ aI,.slice aK aM aL,.slice aN aP aO,.slice aQ aT aR,.slice aU aW aV]) 42 M bT (M.t 0) rfl O;have I:=U (b4 dY (b4 dZ cE));have bS:=U R;clear dY dZ cE R;refine cw 16 fun K hK=>?_;rw[if_pos (by rfl)];refine hO (cL.alloc (.cells #[.int .i64 bK,.string bL,.slice aX aZ aY,.int .i64 bM,.bool bN,.bool bO,.slice b6 bC bA,.slice bD bF bE,.slice bG aG bH,.slice aH aJ aI,.slice aK aM aL,.slice aN aP aO,.slice aQ aT aR,.slice aU aW aV] 42)) (some 45) rfl _ _ 23 23 rfl 42 42 A3 14 256 Tryz.underlying23 Tryz.underlying23 Tryz.zu rfl O H.heap.size I.2.2 a l.length c eP (cellAt #[.int .i64 bK,.string bL,.slice aX aZ aY,.int .i64 bM,.bool bN,.bool bO,.slice b6 bC bA,.slice bD bF bE,.slice bG aG bH,.slice aH aJ aI,.slice aK aM aL,.slice aN aP aO,.slice aQ aT aR,.slice aU aW aV]) cL.heap.size 0 1 (by rfl) (by rfl) I.1 I.2.1 (fun j eQ=>by have:=ij cL #[.int .i64 bK,.string bL,.slice aX aZ aY,.int .i64 bM,.bool bN,.bool bO,.slice b6 bC bA,.slice bD bF bE,.slice bG aG bH,.slice aH aJ aI,.slice aK aM aL,.slice aN aP aO,.slice aQ aT aR,.slice aU aW aV] 42 j eQ;simpa using this) (ib #[.int .i64 bK,.string bL,.slice aX aZ aY,.int .i64 bM,.bool bN,.bool bO,.slice b6 bC bA,.slice bD bF bE,.slice bG aG bH,.slice aH aJ aI,.slice aK aM aL,.slice aN aP aO,.slice aQ aT aR,.slice aU aW aV] rfl) (lQ aA.out dP.out) (lQ aA.out dP.out) ?_;intro cZ dA fA eL p dM dS dU eH;obtain⟨cI,cD,Z⟩:=bS.out cZ dA fA eL (by rw[qp];first|exact p|(rw[qp] at p;exact p)) dM dS dU eH
      have Z:Hid (Bd G (Mm G aE aD) aE cJ aD bZ H cS [(14,l++[dI],cZ,dA)] cI [(dI,[.int .i64 bK,.string bL,.slice aX aZ aY,.int .i64 bM,.bool bN,.bool bO,.slice b6 bC bA,.slice bD bF bE,.slice bG aG bH,.slice aH aJ aI,.slice aK aM aL,.slice aN aP aO,.slice aQ aT aR,.slice aU aW aV])] eL cS):=U Z;have cV:=U cD;clear p dM dS dU eH bS I cD;refine oZ hK ?_;clear hK K;refine tp 17 ?_;refine bj aq ?_ _
      go_wp2_with fail
      go_roundg m
      case measure=>omega
      case rel=>exact⟨cS,l++[dI],cZ,dA,cI,aE,cJ,aD,bZ,H,cL,cS,ar,cX,cV,U (by have:=aA.out;simp;omega),cW,cY,U Z.tl⟩
end
section
open Go
def C8(t t':Tok):Prop:=t'.kind=t.kind/\t'.text=t.text/\t'.num=t.num/\t'.bits=t.bits/\t'.n=t.n
structure Ext(X d:Tx)(k:Nat):Prop where
 NL:∀ i t,X.ts[i]?=some t->∃ t',d.ts[k+i]?=some t'/\C8 t t'
 fin:∀ t',d.ts[k+X.ts.length]?=some t'->t'.kind=8/\t'.text=[59]
def gl(k:Nat)(s:al):al:=⟨k+s.i,s.sc⟩
def Wk(X d:Tx)(k:Nat):Prop:=d.ts[k+X.ts.length]?=none
section
variable {X d:Tx} {k:Nat}
theorem Ext.next(E:Ext X d k){s:al}(g:s.i<=X.ts.length):s.i<X.ts.length/\C8 (V X s) (V d (gl k s))\/s.i=X.ts.length/\V X s=tA/\(V d (gl k s)=tA\/(V d (gl k s)).kind=8/\(V d (gl k s)).text=[59]):=by
 rcases gr s.i X.ts.length with h|h
 ·obtain⟨a,b,c⟩:=E.NL s.i _ (fv h);refine .inl ⟨h,?_⟩;unfold V gl;rw[b,fv h];exact c
 ·have e:s.i=X.ts.length:=O
  refine .inr ⟨e,by unfold V;rw[j4 h];rfl,?_⟩;unfold V gl;rw[e]
  rcases f:d.ts[k+X.ts.length]? with _|a
  ·exact .inl rfl
  ·exact .inr (E.fin a f)
theorem Ext.same(E:Ext X d k){s:al}(a:s.i<=X.ts.length)(h:(V X s).kind≠0):C8 (V X s) (V d (gl k s)):=by
 rcases E.next a with⟨_,h⟩|⟨_,e,_⟩
 ·exact h
 ·rw[e] at h;exact absurd rfl h
theorem Ext.kind(E:Ext X d k){s:al}(g:s.i<=X.ts.length){c:Nat}(b:c≠0)(f:c≠8):(V d (gl k s)).kind=c↔(V X s).kind=c:=by
 rcases E.next g with⟨_,h⟩|⟨_,e,a|⟨a,_⟩⟩
 ·rw[h.1]
 ·rw[e,a]
 ·rw[e,a];exact⟨fun h=>absurd h.symm f,fun h=>absurd h.symm b⟩
theorem Ext.lV(E:Ext X d k){s:al}(e:s.i<=X.ts.length){c:Nat}(a:c≠0)(b:c≠8):((V d (gl k s)).kind==c)=((V X s).kind==c):=by
 have:=E.kind e a b;rw[yN,beq_iff_eq,beq_iff_eq];exact this
theorem Ext.iE(E:Ext X d k){s:al}(g:s.i<=X.ts.length)(f:([59]:ak)∉l):ay d l (gl k s)=ay X l s:=by
 unfold ay
 rcases E.next g with⟨_,h⟩|⟨_,e,a|⟨b,c⟩⟩
 ·rw[h.1,h.2.1]
 ·rw[e,a]
 ·rw[e,b,c]
  have:l.contains ([59]:ak)=false:=by
   rw[List.contains_eq_mem];exact decide_eq_false f
  rw[this];rfl
theorem Ext.CE(E:Ext X d k){s:al}(b:s.i<=X.ts.length)(c:s.i<X.ts.length\/Wk X d k):ay d l (gl k s)=ay X l s:=by
 unfold ay
 rcases E.next b with⟨_,h⟩|⟨a,e,_⟩
 ·rw[h.1,h.2.1]
 ·rcases c with h|h
  ·omega
  ·have:V d (gl k s)=tA:=by unfold V gl;rw[a,h];rfl
   rw[e,this]
theorem Ext.short(E:Ext X d k){s:al}(a:s.i<=X.ts.length)(b:Bool):dw d b (gl k s)=dw X b s:=by
 unfold dw;rw[E.iE a bh,E.lV a bh bh,E.lV a bh bh]
 by_cases h:(V X s).kind=1
 ·rw[(E.same a O).2.1]
 ·have:((V X s).kind==1)=false:=by simpa using h
  rw[this];simp
theorem Ext.operand(E:Ext X d k){s:al}(a:s.i<=X.ts.length):ea d (gl k s)=ea X s:=by
 unfold ea;rw[E.lV a bh bh,E.lV a bh bh]
 by_cases h:(V X s).kind=1\/(V X s).kind=2
 ·rw[(E.same a O).2.1];rfl
 ·have b:((V X s).kind==1)=false:=by simpa using fun e=>h (.inl e)
  have c:((V X s).kind==2)=false:=by simpa using fun e=>h (.inr e)
  rw[b,c];simp
theorem Ext.atomic(E:Ext X d k){s:al}(a:s.i<=X.ts.length):du d (gl k s)=du X s:=by
 unfold du;rw[E.lV a bh bh,E.lV a bh bh,E.lV a bh bh,E.operand a,E.iE a bh]
theorem Ext.EK(E:Ext X d k){s:al}(a:s.i<=X.ts.length):ed d (gl k s)=ed X s:=by
 unfold ed;rw[E.lV a bh bh,E.lV a bh bh,E.lV a bh bh,E.lV a bh bh,E.operand a,E.iE a bh]
theorem Ext.label(E:Ext X d k){s:al}(a:s.i<=X.ts.length):iH (V d (gl k s))=iH (V X s):=by
 unfold iH;rw[E.lV a bh bh]
 by_cases h:(V X s).kind=4
 ·rw[(E.same a O).2.1]
 ·have:((V X s).kind==4)=false:=by simpa using h
  rw[this];simp
theorem Ext.hR(E:Ext X d k){s:al}(i:s.i<X.ts.length):hR d (gl k s)=hR X s:=by
 unfold Go.Proofs.YtkblonfmjlopaaaGreatDoor.hR;have c:(gl k s).i+1=k+(s.i+1):=rfl;rw[c]
 rcases gr (s.i+1) X.ts.length with h|h
 ·obtain⟨a,f,b⟩:=E.NL (s.i+1) _ (fv h);rw[f,fv h];show(a.kind==8&&a.text==[97,115])=_;rw[b.1,b.2.1]
 ·have e:s.i+1=X.ts.length:=O
  rw[j4 h,e]
  rcases g:d.ts[k+X.ts.length]? with _|a
  ·rfl
  ·show(a.kind==8&&a.text==[97,115])=false;rw[(E.fin a g).2];simp
variable (X k) in
def b7{α:Type}(P Q:Prop)(x x':PM α)(s:al):Prop:=s.i<=X.ts.length->∀ a t,x s=some (.ok (a,t))->s.i<=t.i/\t.i<=X.ts.length/\(Q->t.sc=s.sc)/\(t.i<X.ts.length\/P->x' (gl k s)=some (.ok (a,gl k t)))
variable {α β:Type} {P Q P' Q':Prop} {s:al}
theorem b7.le{x b:PM α}(h:b7 X k P Q x b s)(j:P'->P)(l:Q'->Q):b7 X k P' Q' x b s:=fun m a t e=>by
 obtain⟨d,f,g,i⟩:=h m a t e;exact⟨d,f,fun q=>g (l q),fun c=>i (c.imp id j)⟩
theorem a1{a:α}:b7 X k P Q (pure a) (pure a) s:=fun c b t e=>by
 cases C9 e;exact⟨aw _,c,fun _=>rfl,fun _=>rfl⟩
where
 C9 {α:Type} {a b:α} {s t:al} (h:(pure a:PM α) s=some (.ok (b,t))):(a,s)=(b,t):=by cases h;rfl
theorem c8{b:PM α}:b7 X k P Q (PM.none:PM α) b s:=fun _ a t e=>by cases e
theorem n_{x':PM α}:b7 X k P Q (eo X:PM α) x' s:=fun _ a t e=>by cases e
theorem di{x:PM α}{f:α->PM β}{s t:al}{b:β}(h:(x>>=f) s=some (.ok (b,t))):∃ a e,x s=some (.ok (a,e))/\f a e=some (.ok (b,t)):=by
 have h:PM.bind x f s=some (.ok (b,t)):=h;unfold PM.bind at h
 rcases d:x s with _|⟨c,q⟩|⟨a,g⟩
 ·rw[d] at h;cases h
 ·rw[d] at h;cases h
 ·rw[d] at h;exact⟨a,g,rfl,h⟩
theorem e4{x:PM α}{f:α->PM β}{s s1:al}{a:α}(h:x s=some (.ok (a,s1))):(x>>=f) s=f a s1:=by
 show PM.bind x f s=_;unfold PM.bind;rw[h]
theorem ad{x x':PM α}{f i:α->PM β}(h:b7 X k P Q x x' s)(g:∀ a t,x s=some (.ok (a,t))->s.i<=t.i->t.i<=X.ts.length->b7 X k P Q (f a) (i a) t):b7 X k P Q (x>>=f) (x'>>=i) s:=fun w b t e=>by
 obtain⟨a,l,d,m⟩:=di e;obtain⟨r,j,u,v⟩:=h w a l d;obtain⟨y,n,o,p⟩:=g a l d r j j b t m;refine⟨O,n,fun q=>(o q).trans (u q),fun c=>?_⟩;rw[e4 (v (c.imp O id))];exact p c
theorem mh{x o:PM α}{f i:α->PM β}(h:b7 X k P' Q x o s)(g:∀ a t,x s=some (.ok (a,t))->s.i<=t.i->t.i<=X.ts.length->b7 X k P Q (f a) (i a) t)(B:∀ a t,t.i=X.ts.length->∀ r,f a t≠some (.ok r)):b7 X k P Q (x>>=f) (o>>=i) s:=fun A b t e=>by
 obtain⟨a,d,l,m⟩:=di e;obtain⟨w,n,y,z⟩:=h A a d l
 have j:d.i<X.ts.length:=by
  rcases gr d.i X.ts.length with c|c
  ·exact c
  ·exact absurd m (B a d O _)
 obtain⟨C,p,u,v⟩:=g a d l w n n b t m;refine⟨O,p,fun q=>(u q).trans (y q),fun c=>?_⟩;rw[e4 (z (.inl j))];exact v c
theorem kK{c a:Prop}[Decidable c][Decidable a](b:a↔c){x y x' y':PM α}(d:c->b7 X k P Q x x' s)(e:¬c->b7 X k P Q y y' s):b7 X k P Q (if c then x else y) (if a then x' else y') s:=by
 by_cases h:c
 ·rw[if_pos h,if_pos (b.2 h)];exact d h
 ·rw[if_neg h,if_neg (fun q=>h (b.1 q))];exact e h
theorem cj{c:Prop}[Decidable c]{x y x' y':PM α}(a:c->b7 X k P Q x x' s)(b:¬c->b7 X k P Q y y' s):b7 X k P Q (if c then x else y) (if c then x' else y') s:=kK Iff.rfl a b
theorem sm_at{x d y f:PM α}(h:b7 X k P Q y f s)(e:x s=y s)(g:s.i<=X.ts.length->d (gl k s)=f (gl k s)):b7 X k P Q x d s:=fun b a t q=>by
 rw[e] at q;obtain⟨i,j,l,m⟩:=h b a t q;exact⟨i,j,l,fun c=>(g b).trans (m c)⟩
theorem nB{a:α}{x d:PM α}(c:s.i<X.ts.length)(e:x s=some (.ok (a,⟨s.i+1,s.sc⟩)))(f:d (gl k s)=some (.ok (a,⟨(gl k s).i+1,s.sc⟩))):b7 X k P Q x d s:=fun _ b t h=>by
 rw[e] at h;cases h;exact⟨h5 _,c,fun _=>rfl,fun _=>f⟩
section
variable (E:Ext X d k)
include E
theorem cu{w:ak}(f:w≠[59]):b7 X k P Q (a7 X w) (a7 d w) s:=fun b=>by
 have h:=E.iE b (l:=[w]) (by simpa using fun e=>f e.symm)
 by_cases c:ay X [w] s=true
 ·exact nB (P:=P) (Q:=Q) (a:=true) (ee c) (by unfold Go.Proofs.YtkblonfmjlopaaaGreatDoor.a7;rw[if_pos c]) (by unfold Go.Proofs.YtkblonfmjlopaaaGreatDoor.a7;rw[if_pos (h.trans c)];rfl) b
 ·intro a t e;unfold Go.Proofs.YtkblonfmjlopaaaGreatDoor.a7 at e⊢;rw[if_neg c] at e;cases e;exact⟨aw _,b,fun _=>rfl,fun _=>by rw[if_neg (by rw[h];exact c)]⟩
theorem mK:b7 X k (Wk X d k) Q (Go.Proofs.YtkblonfmjlopaaaGreatDoor.a7 X [59]) (Go.Proofs.YtkblonfmjlopaaaGreatDoor.a7 d [59]) s:=fun b=>by
 by_cases c:ay X [[59]] s=true
 ·have h:=E.CE b (l:=[[59]]) (.inl (ee c));exact nB (P:=Wk X d k) (Q:=Q) (a:=true) (ee c) (by unfold Go.Proofs.YtkblonfmjlopaaaGreatDoor.a7;rw[if_pos c]) (by unfold Go.Proofs.YtkblonfmjlopaaaGreatDoor.a7;rw[if_pos (h.trans c)];rfl) b
 ·intro a t e;unfold Go.Proofs.YtkblonfmjlopaaaGreatDoor.a7 at e⊢;rw[if_neg c] at e;cases e;refine⟨aw _,b,fun _=>rfl,fun f=>?_⟩;rw[if_neg (by rw[E.CE b f];exact c)]
theorem pG(c:([59]:ak)∉l):b7 X k P Q (iE X l) (iE d l) s:=fun b a t e=>by
 cases e;refine⟨aw _,b,fun _=>rfl,fun _=>?_⟩;show some (Except.ok (ay d l (gl k s),gl k s))=_;rw[E.iE b c]
theorem C_:b7 X k P Q (p5 X b) (p5 d b) s:=fun c a t e=>by
 cases e;refine⟨aw _,c,fun _=>rfl,fun _=>?_⟩;show some (Except.ok (dw d b (gl k s),gl k s))=_;rw[E.short c]
theorem et{w:ak}(b:w≠[59]):b7 X k P Q (a8 X w) (a8 d w) s:=by
 unfold Go.Proofs.YtkblonfmjlopaaaGreatDoor.a8;exact ad (cu E b) fun a t _ _ _=>cj (fun _=>a1) (fun _=>n_)
theorem g_:b7 X k P Q (name X b) (name d b) s:=fun g=>by
 by_cases c:dw X b s=true
 ·have f:=p_ c
  have i:(V X s).kind≠0:=fun h=>by
   unfold dw at c;simp only [Bool.or_eq_true,Bool.and_eq_true,beq_iff_eq] at c
   rcases c with c|⟨_,c|c⟩
   ·omega
   ·omega
   ·unfold ay at c;simp only [Bool.and_eq_true,beq_iff_eq] at c;omega
  refine nB (P:=P) (Q:=Q) (a:=(V X s).text) f (by unfold Go.Proofs.YtkblonfmjlopaaaGreatDoor.name;rw[if_pos c]) ?_ g;unfold Go.Proofs.YtkblonfmjlopaaaGreatDoor.name;rw[if_pos ((E.short g b).trans c),(E.same g i).2.1];rfl
 ·intro a t e;unfold Go.Proofs.YtkblonfmjlopaaaGreatDoor.name at e;rw[if_neg c] at e;cases e
theorem sB:b7 X k P Q (hv X) (hv d) s:=fun b=>by
 by_cases c:(V X s).kind=3
 ·refine nB (P:=P) (Q:=Q) (a:=(V X s).text) (dd O) (by unfold Go.Proofs.YtkblonfmjlopaaaGreatDoor.hv;rw[if_pos c]) ?_ b;unfold Go.Proofs.YtkblonfmjlopaaaGreatDoor.hv;rw[if_pos ((E.kind b bh bh).2 c),(E.same b O).2.1];rfl
 ·intro a t e;unfold Go.Proofs.YtkblonfmjlopaaaGreatDoor.hv at e;rw[if_neg c] at e;cases e
theorem qQ:b7 X k P Q (gR X) (gR d) s:=fun b=>by
 by_cases c:(V X s).kind=1
 ·refine nB (P:=P) (Q:=Q) (a:=(V X s).text) (dd O) (by unfold Go.Proofs.YtkblonfmjlopaaaGreatDoor.gR;rw[if_pos c]) ?_ b;unfold Go.Proofs.YtkblonfmjlopaaaGreatDoor.gR;rw[if_pos ((E.kind b bh bh).2 c),(E.same b O).2.1];rfl
 ·intro a t e;unfold Go.Proofs.YtkblonfmjlopaaaGreatDoor.gR at e;rw[if_neg c] at e;cases e
omit E in
theorem A4{t:Tok}(h:iH t=true):t.kind=4:=by
 unfold iH at h;simp only [Bool.and_eq_true,beq_iff_eq] at h;exact h.1.1
theorem n6:b7 X k P Q (label X) (label d) s:=fun e=>by
 by_cases c:iH (V X s)=true
 ·have f:=A4 c;refine nB (P:=P) (Q:=Q) (a:=(V X s).text) (dd O) (by unfold Go.Proofs.YtkblonfmjlopaaaGreatDoor.label;rw[if_pos c]) ?_ e;unfold Go.Proofs.YtkblonfmjlopaaaGreatDoor.label;rw[if_pos ((E.label e).trans c),(E.same e O).2.1];rfl
 ·exact sm_at (P:=P) (Q:=Q) (g_ E (b:=false)) (by unfold Go.Proofs.YtkblonfmjlopaaaGreatDoor.label;rw[if_neg c]) (fun e=>by unfold Go.Proofs.YtkblonfmjlopaaaGreatDoor.label;rw[if_neg (by rw[E.label e];exact c)]) e
theorem pH{f i:Tok->PM α}(h:s.i<=X.ts.length->b7 X k P Q (f (V X s)) (i (V d (gl k s))) s):b7 X k P Q (next X>>=f) (next d>>=i) s:=fun a=>h a a
end
theorem lK(a:s.i<X.ts.length):b7 X k P Q step1 step1 s:=nB a rfl rfl
theorem vJ{c:Int}(d:¬Q):b7 X k P Q (jh l c b) (jh l c b) s:=fun f a t e=>by
 cases e;exact⟨aw _,f,fun q=>absurd q d,fun _=>rfl⟩
end
end
end Go.Proofs.YtkblonfmjlopaaaGreatDoor
