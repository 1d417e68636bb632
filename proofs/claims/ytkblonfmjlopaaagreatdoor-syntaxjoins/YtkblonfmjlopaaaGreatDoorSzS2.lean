/-
  What stands in parentheses, walked.
-/
import Derived.Test.YtkblonfmjlopaaaGreatDoorSzQ2
set_option linter.all false
set_option maxRecDepth 1000000
set_option maxHeartbeats 16000000
namespace Go.Proofs.YtkblonfmjlopaaaGreatDoor
open Go Go.RowKit
variable {args:Array Value}{k:Nat}{x:PM (List Nd)}{β:Type}{r:Except (Nat×Nat) (β×al)}
section
variable {P:Program}
theorem pV{o:Oper}{K:Act->World->Prop}{k:Act}{Q:Exit->Act->World->Prop}(w:World)(D:Option Tmp)(Y:o.dst=D)(M x:Operand)(t I:TypeId)
 (aB:o.op=.call {callee:=.builtin .append,args:=#[M,x],argTypes:=#[t,I]})
 (e L:TypeId) (z:Value) (s bytes:Nat) (aD:P.underlying t=some (.slice e)) (G:P.underlying I=some (.slice L))
 (aA:(P.info? e).map (fun i=>(i.zero,i.size,i.bytes))=some (some z,s,bytes)) (aF:z.cells.size=s) (F:0<s) (f:Nat) (u:f<=w.heap.size)
 (a:Option Addr) (n c:Nat) (h g:Nat->Value) (J:Option Addr) (m d:Nat) (aC:k.eval M=.slice a n c) (aE:k.eval x=.slice J m d) (A:d' w a n c s h) (N:dh w f a (c*s)) (Z:∀ j,j<m*s->∃ b C,J=some ⟨b,C,none⟩/\w.cell? ⟨b,C+j,none⟩=some (g j)) (H:∀ j,j<m*s->(g j).oneCell'=true)
 (y:(n+m)*(2*bytes)<=281474976710656) (E:n+m<=140737488355328)
 (hK:∀ q v r l,(r=h/\q=a/\v=c\/r=jH z/\q=some ⟨w.heap.size,0,none⟩/\w.heap.size<l.heap.size/\∀ p:Addr,p.block<w.heap.size->l.cell? p=w.cell? p)->d' l q (n+m) v s (c6 h (n*s) (m*s) g r)->dh l f q (v*s)->Below f w l->Kq w l a (n*s) ((n+m)*s)->K (k.put D (.slice q (n+m) v)) l):
 Oper.wp P o k w K Q:=by
 subst Y;obtain⟨q,v,r,l,B,R,S,T,W,X⟩:=qF (P:=P) w t I o.type e L z s bytes aD G aA aF F f u a n c h g J m d A N Z H y E;unfold Oper.wp;simp[execOp,aB,resolve,invoke,builtin,aC,aE,B,Result.andThen];exact hK q v r l R S T W X
end
def bW(nd:Nd):Prop:=∃ k n z m b t l a r d ty,nd=[vI k,vS n,.kN z,vI m,vU b,vS t,.sl l,.sl a,.sl r,.sl d,.sl ty]
theorem bW.cells{w:World}{F:Nat->Prop}{nd:Nd}{cs:List Value}(h:bW nd)(c:ah w F nd cs):∃ (X:Int) (Y:ByteArray) (Z:Bool) (v:Option Addr) (y x:Nat) (aA:Int) (aB:Int) (aC:ByteArray) (A:Option Addr) (C B:Nat) (D:Option Addr) (e E:Nat) (f:Option Addr) (i g:Nat) (j:Option Addr) (p o:Nat) (q:Option Addr) (u s:Nat),cs=(ot X Y Z v y x aA aB aC A C B D e E f i g j p o q u s):=by
 obtain⟨k,n,z,m,b,t,l,a,r,d,bN,rfl⟩:=h;unfold ah ah ah ah ah ah ah ah ah ah ah ah at c;obtain⟨aJ,aU,rfl,H,c2,aV,rfl,I,aK,aW,rfl,J,aL,aX,rfl,L,aM,aY,rfl,M,aN,aZ,rfl,N,aO,b6,rfl,P,aP,bA,rfl,Q,aQ,bC,rfl,R,aR,bD,rfl,S,aT,bE,rfl,T,W⟩:=c;unfold vI vS vU b8 at*;obtain⟨bM,aD,bL,G,bK,rfl,_⟩:=J;obtain⟨aE,bF,rfl,_⟩:=P;obtain⟨aF,bG,rfl,_⟩:=Q;obtain⟨aG,bH,rfl,_⟩:=R;obtain⟨aH,bI,rfl,_⟩:=S;obtain⟨aI,bJ,rfl,_⟩:=T;subst H I L M N W;exact⟨_,_,_,_,_,_,_,_,_,_,_,_,_,_,_,_,_,_,_,_,_,_,_,_,rfl⟩
theorem bW.one{w:World}{F:Nat->Prop}{nd:Nd}{cs:List Value}(h:bW nd)(b:ah w F nd cs):cs.length=12/\∀ v,v∈cs->v.oneCell'=true:=by
 obtain⟨x,y,z,n,p,o,A,B,C,q,s,r,t,c,u,d,f,e,g,j,i,k,m,l,rfl⟩:=h.cells b;refine⟨rfl,fun v a=>?_⟩;simp only [List.mem_cons,List.not_mem_nil,or_false] at a
 rcases a with rfl|rfl|rfl|rfl|rfl|rfl|rfl|rfl|rfl|rfl|rfl|rfl<;>rfl
theorem wR{y:PM Nd}{t:List Nd->Nd}{g:Nd->PM β}(h:∀ s r,y s=some r->(x>>=fun l=>pure (t l)) s=some r){s:al}(i:(y>>=g) s=some r):(x>>=fun l=>g (t l)) s=some r:=by
 rcases a_ i with⟨c,q,e,f⟩|⟨a,m,e,f⟩
 ·rcases a_ (h _ _ e) with⟨c2,j,d,b⟩|⟨l,k,d,b⟩
  ·cases b;show PM.bind _ _ _=_;unfold PM.bind;rw[d,f]
  ·cases aj b
 ·rcases a_ (h _ _ e) with⟨c2,j,d,b⟩|⟨l,k,d,b⟩
  ·cases b
  ·cases aj b;show PM.bind _ _ _=_;unfold PM.bind;rw[d];exact f
theorem wS{X:Tx}{e:ak}{x:PM Nd}{P:Nd->Prop}(k:∀ s a v,x s=some (.ok (a,v))->P a):∀ (n:Nat) (d:List Nd) (s:al) (r:(List Nd×Unit)×al),gy X e (lone x) n d () s=some (.ok r)->d≠[]->(∀ a,a∈d->P a)->r.1.1≠[]/\∀ a,a∈r.1.1->P a
 |0,d,s,r,h,_,_=>by cases h
 |n+1,d,s,r,h,m,l=>by
  obtain⟨b,s1,w,h⟩:=cx (show(a7 X e>>=fun t=>if t=true then lone x ()>>=fun q=>gy X e (lone x) n (d++[q.1]) q.2 else pure (d,())) s=some (.ok r) from h);cases b with
  |false=>
   cases aj h;exact⟨m,l⟩
  |true=>
   rcases a_ h with⟨c,q,f,g⟩|⟨⟨y,u⟩,H,f,g⟩
   ·cases g
   ·unfold lone at f
    rcases a_ f with⟨c,q,j,i⟩|⟨p,I,j,i⟩
    ·cases i
    ·cases aj i;refine wS k n _ _ r g ar fun a o=>?_
     rcases List.mem_append.1 o with q|q
     ·exact l a q
     ·rcases List.mem_singleton.1 q with rfl
      exact k _ _ _ j
theorem k8{X:Tx}{b:ak}{x:PM Nd}{P:Nd->Prop}(m:∀ s a j,x s=some (.ok (a,j))->P a){n:Nat}{s j:al}{l:List Nd}(h:df X n b x s=some (.ok (l,j))):l≠[]/\∀ a,a∈l->P a:=by
 unfold df at h
 rcases a_ h with⟨c,q,d,e⟩|⟨⟨r,u⟩,H,d,e⟩
 ·cases e
 ·cases aj e;unfold list at d
  rcases a_ d with⟨c,q,f,g⟩|⟨⟨t,w⟩,I,f,g⟩
  ·cases g
  ·unfold lone at f
   rcases a_ f with⟨c,q,k,i⟩|⟨p,v,k,i⟩
   ·cases i
   ·cases aj i
    exact wS m n _ _ _ g ar fun a o=>by
     rcases List.mem_singleton.1 o with rfl
     exact m _ _ _ k
section
variable {G:Gh} {f:Fs} {n:Nat}
set_option maxRecDepth 100000
set_option maxHeartbeats 16000000
theorem gu.pF{M:Nat->Prop}{B:Option Addr}{D:Nat}{y:Option Addr}{C:Nat}{w E:World}{s s1:al}{L:List (Nat×List Nd×Option Addr×Nat)}{J:List (Nat×Array Value)}{ts:List (Nd×List Value)}{g:List Nd->PM β}(j:gu G k args x)(h:Bd G M B D y C w s L J ts E s1)(u:(x>>=g) s1=some r):
 Calls Tryz.prog k args E fun e w2=>(∃ c q,r=.error (c,q)/\e=az c q/\Kn G.B M w w2)\/∃ l H a c,e=.returned (.slice a l.length c)/\Hid (x s1=some (.ok (l,H)))/\Hid (g l H=some r)/\Hid (Bd G M B D y C w s L J (([.sl l],[.slice a l.length c])::ts) w2 H):=by
 rcases a_ u with⟨c,q,b,rfl⟩|⟨z,H,b,m⟩
 ·exact(j M B D y C E s1 _ h.ps b).mono fun e w2 ⟨f,d⟩=>.inl ⟨c,q,rfl,d,h.kn.go f⟩
 ·refine(j M B D y C E s1 _ h.ps b).mono fun e w2 ⟨f,i,o,n,v,d,t⟩=>.inr ?_;obtain⟨a,c,rfl,p⟩:=t.ue (Kb.refl _ _) (h.own (aw _));exact⟨z,H,a,c,d,U b,U m,U ((h.go f n i o).add p)⟩
theorem E9{M:Nat->Prop}{B:Option Addr}{D:Nat}{y:Option Addr}{C:Nat}{w E:World}{s s1:al}{L:List (Nat×List Nd×Option Addr×Nat)}{J:List (Nat×Array Value)}{ts:List (Nd×List Value)}(h:Bd G M B D y C w s L J (ts) E s1){l:List Nd}{a:Option Addr}{m c:Nat}(aU:l.length=m)(aP:ah E (Own G.B w.heap.size E.heap.size (VM M w J)) [.sl l] [.slice a l.length c])(A:∀ x,l=[x]->bW x):
 Calls Tryz.prog 240 #[.slice a m c] E fun e w2=>∃ v,e=.returned v/\Hid (Bd G M B D y C w s L J ts w2 s1)/\bc w2 (Own G.B w.heap.size w2.heap.size (VM M w J)) (lL l) v:=by
 subst aU;have k:=h.add aP;have aN:=U A;have aQ:=U h;clear h aP A;go_enter Tryz.func240,Tryz.ntmps240
 go_upto_region 1 with fail
 have k:=U (k.box ke 87);obtain⟨o,z⟩:∃ o,E.heap.size=o:=⟨_,rfl⟩;rw[z] at k⊢;generalize E.alloc _=f at k⊢;have bC:∀ b,Own G.B w.heap.size f.heap.size (VM M w ((o,ke)::J)) b->Own G.B w.heap.size f.heap.size (VM M w J) b:=fun b t=>t.imp id fun q=>⟨q.1,q.2.1,fun v=>q.2.2 (v.imp (fun⟨p,u,e⟩=>⟨p,.tail _ u,e⟩) id)⟩;clear z;obtain⟨bN,bO,bP,bQ,bR,bS,bT,bU,bV,bX,aZ,b6⟩:=dy (k.bx _ (.head _)).2.2;have bY:=k.f 0
 by_cases aF:∃ x,l=[x]
 ·obtain⟨x,rfl⟩:=aF;obtain⟨i,j,aT,rfl,d,r⟩:=qZ (k.t 0);obtain⟨aG,aH,aI,X,Z,Y,aJ,aK,aL,aA,aC,aB,aD,F,aE,H,N,I,P,R,Q,S,W,T,rfl⟩:=(aN.out _ rfl).cells r;have bD:f.cell? ⟨i,j,none⟩=some (.int .i64 aG):=d 0 ar;have bE:f.cell? ⟨i,j+1,none⟩=some (.string aH):=d 1 ar;have bF:f.cell? ⟨i,j+2,none⟩=some (.bool aI):=d 2 ar;have bG:f.cell? ⟨i,j+3,none⟩=some (.slice X Z Y):=d 3 ar;have bH:f.cell? ⟨i,j+4,none⟩=some (.int .i64 aJ):=d 4 ar;have bI:f.cell? ⟨i,j+5,none⟩=some (.int .u64 aK):=d 5 ar;have bJ:f.cell? ⟨i,j+6,none⟩=some (.string aL):=d 6 ar;have bK:f.cell? ⟨i,j+7,none⟩=some (.slice aA aC aB):=d 7 ar;have bL:f.cell? ⟨i,j+8,none⟩=some (.slice aD F aE):=d 8 ar;have bM:f.cell? ⟨i,j+9,none⟩=some (.slice H N I):=d 9 ar;have aX:f.cell? ⟨i,j+10,none⟩=some (.slice P R Q):=d 10 ar;have aY:f.cell? ⟨i,j+11,none⟩=some (.slice S W T):=d 11 ar;have aR:=U r;clear d r
  go_wp2_with fail
  have g:=(k.add aR).store 0 (ot aG aH aI X Z Y aJ aK aL aA aC aB aD F aE H N I P R Q S W T);change bodyPost _ _ _ _ _ (f.setCells o 0 (ot aG aH aI X Z Y aJ aK aL aA aC aB aD F aE H N I P R Q S W T));have aW:(f.setCells o 0 (ot aG aH aI X Z Y aJ aK aL aA aC aB aD F aE H N I P R Q S W T)).heap.size=f.heap.size:=by simp[World.setCells,World.setCell]
  generalize f.setCells o 0 _=bA at g aW⊢;exact oI (g.bx _ (.head _)) ⟨_,rfl,U g.drop.tl.tl,_,_,_,_,_,_,_,_,_,_,_,_,_,_,_,_,_,_,_,_,_,_,_,_,rfl,(g.t 0).on (Kb.refl _ _) fun b t=>t.imp id fun q=>⟨q.1,q.2.1,fun v=>q.2.2 (v.imp (fun⟨p,u,e⟩=>⟨p,.tail _ u,e⟩) id)⟩⟩
 ·have aV:¬(l.length:Int)=1:=fun h=>aF (List.length_eq_one_iff.1 O)
  have aO:lL l=fh 14 l:=by
   unfold lL
   split
   ·exact absurd ⟨_,rfl⟩ aF
   ·rfl
  have aM:=U aO;clear aF aO
  go_wp2_with fail
  have g:=(k.add (nd:=fh 14 l) (cs:=[.int .i64 14,.string ⟨#[]⟩,.bool false,.slice none 0 0,.int .i64 0,.int .u64 0,.string ⟨#[]⟩,.slice none 0 0,.slice a l.length c,.slice none 0 0,.slice none 0 0,.slice none 0 0]) (dq (kind:=14) (n:=0) (bits:=0) (name:=[]) (text:=[]) (ls:=[]) (kids:=l) (rules:=[]) (dr:=[]) (types:=[]) cv aa (k.t 0).hd aa aa aa)).store 0 [.int .i64 14,.string ⟨#[]⟩,.bool false,.slice none 0 0,.int .i64 0,.int .u64 0,.string ⟨#[]⟩,.slice none 0 0,.slice a l.length c,.slice none 0 0,.slice none 0 0,.slice none 0 0];change bodyPost _ _ _ _ _ (f.setCells o 0 [.int .i64 14,.string ⟨#[]⟩,.bool false,.slice none 0 0,.int .i64 0,.int .u64 0,.string ⟨#[]⟩,.slice none 0 0,.slice a l.length c,.slice none 0 0,.slice none 0 0,.slice none 0 0]);generalize f.setCells o 0 _=bA at g⊢;refine oI (g.bx _ (.head _)) ⟨_,rfl,U g.drop.tl.tl,?_⟩;rw[aM.out];exact⟨_,_,_,_,_,_,_,_,_,_,_,_,_,_,_,_,_,_,_,_,_,_,_,_,rfl,(g.t 0).on (Kb.refl _ _) fun b t=>t.imp id fun q=>⟨q.1,q.2.1,fun v=>q.2.2 (v.imp (fun⟨p,u,e⟩=>⟨p,.tail _ u,e⟩) id)⟩⟩
theorem AM(bT:ei G)(cT:FN G 67 (bq G) bc f.exp)(bJ:Fs)(bV:Nat)(bK:FN G 67 (bq G) bc bJ.exp)(cV:∀ e s r,f.lS e s=some r->iw G.X bJ bV e s=some r)(cW:∀ e s r,f.lC e s=some r->ix G.X bJ bV e s=some r)(bP:∀ s a eJ,bJ.exp s=some (.ok (a,eJ))->bW a)(bM:∀ b s l eJ,df G.X bV b bJ.exp s=some (.ok (l,eJ))->l.length<=65539):FN G 243 (bq G) bc (paren G.X f):=by
 intro M B D y C w s r cH R;have R:(a7 G.X [41]>>=fun o=>if o=true then pure (fh 6 []) else f.exp>>=fun e=>a7 G.X [59]>>=fun hX=>(if hX=true then f.lS e else a7 G.X [44]>>=fun bI=>if bI=true then f.lC e else pure e:PM Nd)>>=fun r=>a8 G.X [41]>>=fun _=>pure r) s=some r:=R;obtain⟨b,s1,bX,R⟩:=cx R;have dH:=U bX;have bZ:=Bd.start cH;clear cH bX;go_enter Tryz.func243,Tryz.ntmps243
 go_upto_region 1 with fail
 have bZ:=U (bZ.box ke 87);obtain⟨cZ,cX⟩:∃ cZ,w.heap.size=cZ:=⟨_,rfl⟩;generalize w.alloc _=fP at bZ⊢;rw[cX] at bZ⊢;clear cX;cases b with
 |true=>
  cases aj R;clear R
  go_wp2_with (go_at_call 21;refine(bz bT bZ dH).mono ?_;rintro e E ⟨rfl,bA⟩;obtain⟨eX,eY,eZ,fA,fC,fD,fE,fF,fG,fH,dA,dB⟩:=dy (bA.bx _ (.head _)).2.2;have fI:=bA.f 0)
  exact bA.iu 0 (dq cv aa aa aa aa aa) bc.ok
 |false=>
 have eV:Hid ((f.exp>>=fun e=>a7 G.X [59]>>=fun hX=>(if hX=true then f.lS e else a7 G.X [44]>>=fun bI=>if bI=true then f.lC e else pure e:PM Nd)>>=fun r=>a8 G.X [41]>>=fun _=>pure r) s1=some r):=U R;clear R
 go_upto_region 4 with(first
  |(go_at_call 21;refine(bz bT bZ dH).mono ?_;rintro e gA ⟨rfl,cJ⟩)
  |(go_at_call 67;refine oc (FN.bd cT bc.ok cJ eV) ?_;rintro e E ⟨nd,H,_,rfl,cM,bA,aV,aW,aX,aM,aO,aN,aY,aZ,b6,aP,aR,aQ,aT,aC,aU,aD,aF,aE,aG,aI,aH,aJ,aL,aK,rfl,bU⟩))
 have bR:=U ((bA.add bU).box (kv aV aW aX aM aO aN aY aZ b6 aP aR aQ aT aC aU aD aF aE aG aI aH aJ aL aK) 87);generalize E.heap.size=m at bR⊢;generalize E.alloc _=w2 at bR⊢;clear bU;obtain⟨b,I,bX,R⟩:=cx cM;have dI:=U bX;have bD:=U R;clear bX R cM bA cJ bZ dH eV
 go_upto_if 11 with(go_at_call 21;refine(bz bT bR dI).mono ?_;rintro e c ⟨rfl,bS⟩)
 go_cut [0] from 4 to 33 (fun fM A=>∃ (eK:al) (nd:Nd) (aV:Int) (aW:ByteArray) (aX:Bool) (aM:Option Addr) (aO aN:Nat) (aY:Int) (aZ:Int) (b6:ByteArray) (aP:Option Addr) (aR aQ:Nat) (aT:Option Addr) (aC aU:Nat) (aD:Option Addr) (aF aE:Nat) (aG:Option Addr) (aI aH:Nat) (aJ:Option Addr) (aL aK:Nat),fM=.pointer (some ⟨G.bp,0,none⟩)/\Hid ((a8 G.X [41]>>=fun _=>pure nd) eK=some r)/\Hid (Bd G M B D y C w s [] [(m,(kv aV aW aX aM aO aN aY aZ b6 aP aR aQ aT aC aU aD aF aE aG aI aH aJ aL aK)),(cZ,ke)] [(nd,(ot aV aW aX aM aO aN aY aZ b6 aP aR aQ aT aC aU aD aF aE aG aI aH aJ aL aK))] A eK))
 case first=>
  cases b with
  |true=>
   have W:Hid ((df G.X bV [59] bJ.exp>>=fun l=>a8 G.X [41]>>=fun _=>pure (lL (nd::l))) I=some r):=U (wR (fun s r h=>cV nd s r h) bD);have bG:Hid (gu G 241 #[.pointer (some ⟨G.bp,0,none⟩),.string ⟨[59].toArray⟩,.func (.func 67) (bq G) #[]] (df G.X bV [59] bJ.exp)):=U (kf fun M B D y C w s r cH R=>qa bT (fun _ _ _ h _=>h) 67 _ #[] (fun _ _=>rfl) [59] (lone bJ.exp) (FN.pE bc.ok bK) bV w s () r cH trivial R);clear bD
   go_upto_region 5 with fail
   have J:=bS;generalize c=dC at J⊢;refine b3 (S:=fun A=>A.cell? ⟨m,0,none⟩=some (.int .i64 aV)/\A.cell? ⟨m,1,none⟩=some (.string aW)/\A.cell? ⟨m,2,none⟩=some (.bool aX)/\A.cell? ⟨m,3,none⟩=some (.slice aM aO aN)/\A.cell? ⟨m,4,none⟩=some (.int .i64 aY)/\A.cell? ⟨m,5,none⟩=some (.int .u64 aZ)/\A.cell? ⟨m,6,none⟩=some (.string b6)/\A.cell? ⟨m,7,none⟩=some (.slice aP aR aQ)/\A.cell? ⟨m,8,none⟩=some (.slice aT aC aU)/\A.cell? ⟨m,9,none⟩=some (.slice aD aF aE)/\A.cell? ⟨m,10,none⟩=some (.slice aG aI aH)/\A.cell? ⟨m,11,none⟩=some (.slice aJ aL aK)) (T:=fun j=>j==8) aq ?_;have v:=U J.drew;generalize dC.drew=dD at v⊢;have N:=dy (v.bx _ (.head _)).2.2;refine tq 0 N ?_;refine tq 2 N ?_;refine tq 3 N ?_;refine tq 4 N ?_;refine gC (i:=1) (j:=5) aq rfl rfl (fun K hK=>?_) (fun K hK=>?_)
   focus
    go_simp;have d:=U (v.BV (fx:=[_,_]) (js:=[]) (cs:=(kv aV aW aX aM aO aN aY aZ b6 aP aR aQ aT aC aU aD aF aE aG aI aH aJ aL aK)) 87 (v.t 0));obtain⟨aB,Q⟩:∃ aB,dD.heap.size=aB:=⟨_,rfl⟩;rw[Q] at d⊢;generalize dD.alloc _=cF at d⊢;clear Q;refine nx hK (dy (d.bx _ (.head _)).2.2) ?_;clear hK K;refine cw 5 fun K hK=>?_;go_simp;refine(gu.pF bG d W).mono ?_;rintro e cG (⟨eF,q,rfl,rfl,cB⟩|⟨l,cE,la,lc,rfl,X,bH,k⟩)
    ·unfold az;go_simp;exact⟨rfl,cB,rfl⟩
    refine nx hK (dy (k.bx _ (.head _)).2.2) ?_;clear hK K d
   rotate_left 1
   focus
    go_simp;refine(gu.pF bG v W).mono ?_;rintro e cF (⟨eF,q,rfl,rfl,cB⟩|⟨l,cE,la,lc,rfl,X,bH,d⟩)
    ·unfold az;go_simp;exact⟨rfl,cB,rfl⟩
    refine nx hK (dy (d.bx _ (.head _)).2.2) ?_;clear hK K;refine cw 1 fun K hK=>?_;go_simp;have k:=U (d.BV (fx:=[_,_]) (js:=[]) (cs:=(kv aV aW aX aM aO aN aY aZ b6 aP aR aQ aT aC aU aD aF aE aG aI aH aJ aL aK)) 87 (d.t 1));obtain⟨aB,Q⟩:∃ aB,cF.heap.size=aB:=⟨_,rfl⟩;rw[Q] at k⊢;generalize cF.alloc _=cG at k⊢;refine nx hK (dy (k.bx _ (.head _)).2.2) ?_;clear hK K d Q
   all_goals
    obtain⟨cC,Y⟩:=k8 bP X;have bY:=U Y;have bC:=U (bM _ _ _ _ X.out);have k:Hid (Bd G M B D y C w s [(12,[nd],some ⟨aB,0,none⟩,1)] ([(m,(kv aV aW aX aM aO aN aY aZ b6 aP aR aQ aT aC aU aD aF aE aG aI aH aJ aL aK)),(cZ,ke)]++[(aB,#[])]) [([.sl l],[.slice la l.length lc]),(nd,(ot aV aW aX aM aO aN aY aZ b6 aP aR aQ aT aC aU aD aF aE aG aI aH aJ aL aK))] cG cE):=U k.out;obtain⟨g,cU,aA,bQ⟩:=k3 (k.t 0).hd (fun r bU cs h=>(bY.out r bU).one h);obtain⟨eG,cR,cS,bO,Z⟩:=Bd.JO (z:=rG) k ar bQ O;have u:=U (b4 cR (b4 cS (b4 bO (b4 cU aA))));have bF:=U Z;clear cR cS bO Z cU aA bQ cC Y;refine cw 6 fun K hK=>?_;rw[if_pos (by rfl)];refine pV cG (some 18) rfl _ _ 35 35 rfl 87 87 rG 12 208 Tryz.underlying35 Tryz.underlying35 Tryz.ny rfl O w.heap.size u.2.2.1 (some ⟨aB,0,none⟩) 1 1 eG g la l.length lc (by rfl) (by rfl) u.1 u.2.1 u.2.2.2.1 u.2.2.2.2 (ba bC.out) (ba bC.out) ?_;intro cO cQ eI eL P cI cN cP cY;obtain⟨cD,bL,L⟩:=bF.out cO cQ eI eL P cI cN cP cY;have L:=U ((Bd.nM (fx:=[_,_]) (js:=cD) L bL ar));clear P cI cN cP cY bF u bL k v N;have bN:([nd]++l).length=1+l.length:=by simp[Nat.add_comm]
    refine nx hK (dy (L.bx _ (.head _)).2.2) ?_;clear hK K;refine cw 7 fun K hK=>?_;go_simp
    refine(E9 L bN (L.t 0) (fun x e=>absurd e (by
     have:=k8 bP X;intro e
     exact this.1 (by simpa using e:nd=x/\l=[]).2))).mono ?_
    rintro e fN ⟨_,rfl,cA,eO,eP,eQ,dL,dO,dM,eS,eT,eU,dP,dR,dQ,dS,dV,dU,dW,dY,dX,dZ,eC,eB,eD,dK,eE,rfl,bU⟩;refine nx hK (dy (cA.bx _ (.head _)).2.2) ?_;clear hK K;refine vM 8 (ot eO eP eQ dL dO dM eS eT eU dP dR dQ dS dV dU dW dY dX dZ eC eB eD dK eE) (cA.bx _ (.head _)) ?_;have cK:=U ((cA.add bU).store 0 (ot eO eP eQ dL dO dM eS eT eU dP dR dQ dS dV dU dW dY dX dZ eC eB eD dK eE));generalize fN.setCells m 0 _=fO at cK⊢;clear bU;refine bj aq ?_ _
    go_wp2_with fail
    go_meet
    case rel=>exact⟨cE,lL (nd::l),eO,eP,eQ,dL,dO,dM,eS,eT,eU,dP,dR,dQ,dS,dV,dU,dW,dY,dX,dZ,eC,eB,eD,dK,eE,rfl,bH,U (cK.sub fun p eH=>by rcases List.mem_singleton.1 eH with rfl;exact .head _)⟩
  |false=>
   have bD:Hid ((a7 G.X [44]>>=fun bI=>(if bI=true then f.lC nd else pure nd)>>=fun r=>a8 G.X [41]>>=fun _=>pure r) I=some r):=U ((db _ _ _ _).trans bD);obtain⟨b,dE,bX,R⟩:=cx bD;have cL:=U bX;clear bX bD;cases b with
   |false=>
    have W:Hid ((a8 G.X [41]>>=fun _=>pure nd) dE=some r):=U R;clear R
    go_wp2_with (go_at_call 21;refine(bz bT bS cL).mono ?_;rintro e dC ⟨rfl,J⟩)
    go_meet
    case rel=>exact⟨dE,nd,aV,aW,aX,aM,aO,aN,aY,aZ,b6,aP,aR,aQ,aT,aC,aU,aD,aF,aE,aG,aI,aH,aJ,aL,aK,rfl,W,J⟩
   |true=>
    have W:Hid ((df G.X bV [44] bJ.exp>>=fun l=>a8 G.X [41]>>=fun _=>pure (b9 6 [] 0 0 0 [] (labels (l.length+1)) (nd::l) [] [] [])) dE=some r):=U (wR (fun s r h=>cW nd s r h) R);have bG:Hid (gu G 241 #[.pointer (some ⟨G.bp,0,none⟩),.string ⟨[44].toArray⟩,.func (.func 67) (bq G) #[]] (df G.X bV [44] bJ.exp)):=U (kf fun M B D y C w s r cH R=>qa bT (fun _ _ _ h _=>h) 67 _ #[] (fun _ _=>rfl) [44] (lone bJ.exp) (FN.pE bc.ok bK) bV w s () r cH trivial R);clear R
    go_upto_region 7 with(go_at_call 21;refine(bz bT bS cL).mono ?_;rintro e dC ⟨rfl,J⟩)
    refine b3 (S:=fun A=>A.cell? ⟨m,0,none⟩=some (.int .i64 aV)/\A.cell? ⟨m,1,none⟩=some (.string aW)/\A.cell? ⟨m,2,none⟩=some (.bool aX)/\A.cell? ⟨m,3,none⟩=some (.slice aM aO aN)/\A.cell? ⟨m,4,none⟩=some (.int .i64 aY)/\A.cell? ⟨m,5,none⟩=some (.int .u64 aZ)/\A.cell? ⟨m,6,none⟩=some (.string b6)/\A.cell? ⟨m,7,none⟩=some (.slice aP aR aQ)/\A.cell? ⟨m,8,none⟩=some (.slice aT aC aU)/\A.cell? ⟨m,9,none⟩=some (.slice aD aF aE)/\A.cell? ⟨m,10,none⟩=some (.slice aG aI aH)/\A.cell? ⟨m,11,none⟩=some (.slice aJ aL aK)) (T:=fun _=>false) aq ?_;have v:=U J.drew;generalize dC.drew=dD at v⊢;have N:=dy (v.bx _ (.head _)).2.2;refine tq 0 N ?_;refine tq 2 N ?_;refine tq 3 N ?_;refine tq 4 N ?_;refine gC (i:=1) (j:=5) aq rfl rfl (fun K hK=>?_) (fun K hK=>?_)
    focus
     go_simp;have d:=U (v.BV (fx:=[_,_]) (js:=[]) (cs:=(kv aV aW aX aM aO aN aY aZ b6 aP aR aQ aT aC aU aD aF aE aG aI aH aJ aL aK)) 87 (v.t 0));obtain⟨aB,Q⟩:∃ aB,dD.heap.size=aB:=⟨_,rfl⟩;rw[Q] at d⊢;generalize dD.alloc _=cF at d⊢;clear Q;refine nx hK (dy (d.bx _ (.head _)).2.2) ?_;clear hK K;refine cw 5 fun K hK=>?_;go_simp;refine(gu.pF bG d W).mono ?_;rintro e cG (⟨eF,q,rfl,rfl,cB⟩|⟨l,cE,la,lc,rfl,X,bH,k⟩)
     ·unfold az;go_simp;exact⟨rfl,cB,rfl⟩
     refine nx hK (dy (k.bx _ (.head _)).2.2) ?_;clear hK K d
    rotate_left 1
    focus
     go_simp;refine(gu.pF bG v W).mono ?_;rintro e cF (⟨eF,q,rfl,rfl,cB⟩|⟨l,cE,la,lc,rfl,X,bH,d⟩)
     ·unfold az;go_simp;exact⟨rfl,cB,rfl⟩
     refine nx hK (dy (d.bx _ (.head _)).2.2) ?_;clear hK K;refine cw 1 fun K hK=>?_;go_simp;have k:=U (d.BV (fx:=[_,_]) (js:=[]) (cs:=(kv aV aW aX aM aO aN aY aZ b6 aP aR aQ aT aC aU aD aF aE aG aI aH aJ aL aK)) 87 (d.t 1));obtain⟨aB,Q⟩:∃ aB,cF.heap.size=aB:=⟨_,rfl⟩;rw[Q] at k⊢;generalize cF.alloc _=cG at k⊢;refine nx hK (dy (k.bx _ (.head _)).2.2) ?_;clear hK K d Q
    all_goals
     obtain⟨cC,Y⟩:=k8 bP X;have bY:=U Y;have bC:=U (bM _ _ _ _ X.out);have k:Hid (Bd G M B D y C w s [(12,[nd],some ⟨aB,0,none⟩,1)] ([(m,(kv aV aW aX aM aO aN aY aZ b6 aP aR aQ aT aC aU aD aF aE aG aI aH aJ aL aK)),(cZ,ke)]++[(aB,#[])]) [([.sl l],[.slice la l.length lc]),(nd,(ot aV aW aX aM aO aN aY aZ b6 aP aR aQ aT aC aU aD aF aE aG aI aH aJ aL aK))] cG cE):=U k.out;obtain⟨g,cU,aA,bQ⟩:=k3 (k.t 0).hd (fun r bU cs h=>(bY.out r bU).one h);obtain⟨eG,cR,cS,bO,Z⟩:=Bd.JO (z:=rG) k ar bQ O;have u:=U (b4 cR (b4 cS (b4 bO (b4 cU aA))));have bF:=U Z;clear cR cS bO Z cU aA bQ cC Y;refine cw 6 fun K hK=>?_;rw[if_pos (by rfl)];refine pV cG (some 28) rfl _ _ 35 35 rfl 87 87 rG 12 208 Tryz.underlying35 Tryz.underlying35 Tryz.ny rfl O w.heap.size u.2.2.1 (some ⟨aB,0,none⟩) 1 1 eG g la l.length lc (by rfl) (by rfl) u.1 u.2.1 u.2.2.2.1 u.2.2.2.2 (ba bC.out) (ba bC.out) ?_;intro cO cQ eI eL P cI cN cP cY;obtain⟨cD,bL,L⟩:=bF.out cO cQ eI eL P cI cN cP cY;have L:=U ((Bd.nM (fx:=[_,_]) (js:=cD) L bL ar));clear P cI cN cP cY bF u bL k v N;have bN:([nd]++l).length=1+l.length:=by simp[Nat.add_comm]
     refine nx hK (dy (L.bx _ (.head _)).2.2) ?_;clear hK K;refine tq 7 (dy (L.bx _ (.head _)).2.2) ?_;refine bj aq ?_ _
     go_wp2_with (go_at_call 101;(first|rw[show((1:Int)+(l.length:Nat))=((1+l.length:Nat):Int) by omega]|skip);refine(jC bT (1+l.length) (ba bC.out) L).mono ?_;rintro e fJ ⟨eM,eN,rfl,bE⟩;obtain⟨eX,eY,eZ,fA,fC,fD,fE,fF,fG,fH,dA,dB⟩:=dy (bE.bx _ (.head _)).2.2;have fI:=bE.f 0)
     have dG:=(bE.add (nd:=b9 6 [] 0 0 0 [] (labels (l.length+1)) (nd::l) [] [] []) (cs:=[.int .i64 6,.string ⟨#[]⟩,.bool false,.slice none 0 0,.int .i64 0,.int .u64 0,.string ⟨#[]⟩,.slice eM (1+l.length) eN,.slice cO (1+l.length) cQ,.slice none 0 0,.slice none 0 0,.slice none 0 0]) (by rw[ra l.length 1];have e:(strs (labels (1+l.length))).length=1+l.length:=(by rw[jc];simp[labels]);have:=dq (kind:=6) (n:=0) (bits:=0) (name:=[]) (text:=[]) (ls:=labels (1+l.length)) (kids:=nd::l) (rules:=[]) (dr:=[]) (types:=[]) (w:=fJ) (F:=Own G.B w.heap.size fJ.heap.size (VM M w _)) (la:=eM) (lc:=eN) cv (by rw[e];exact(bE.t 0).hd) (bE.t 1).hd aa aa aa;rw[e,show(nd::l).length=1+l.length from ra _ _] at this;exact this)).store 0 [.int .i64 6,.string ⟨#[]⟩,.bool false,.slice none 0 0,.int .i64 0,.int .u64 0,.string ⟨#[]⟩,.slice eM (1+l.length) eN,.slice cO (1+l.length) cQ,.slice none 0 0,.slice none 0 0,.slice none 0 0]
     go_meet
     case rel=>exact⟨cE,b9 6 [] 0 0 0 [] (labels (l.length+1)) (nd::l) [] [] [],_,_,_,_,_,_,_,_,_,_,_,_,_,_,_,_,_,_,_,_,_,_,_,_,rfl,bH,U (dG.sub fun p eH=>by rcases List.mem_singleton.1 eH with rfl;exact .head _)⟩
 case rest=>
  obtain⟨eK,nd,aV,aW,aX,aM,aO,aN,aY,aZ,b6,aP,aR,aQ,aT,aC,aU,aD,aF,aE,aG,aI,aH,aJ,aL,aK,rfl,dJ,dF⟩:=hcut;clear bR bS
  go_wp2_with (go_at_call 66;refine oc (FU.bd (fi bT [41]) dF dJ) ?_;rintro e dC ⟨dE,rfl,W,J⟩;obtain⟨fQ,fR,fS,fT,fU,fV,fW,fX,fY,fZ,fK,fL⟩:=dy (J.bx _ (.head _)).2.2;obtain⟨eX,eY,eZ,fA,fC,fD,fE,fF,fG,fH,dA,dB⟩:=dy (J.bx _ (.tail _ (.head _))).2.2;have fI:=J.f 1)
  cases aj W;exact J.iu 1 (J.t 0) bc.ok
end
def iT(w:World)(n:Nat):World:={w with heap:=w.heap.extract 0 n}
theorem iT.size{w:World}{n:Nat}(h:n<=w.heap.size):(iT w n).heap.size=n:=by
 unfold iT;simp only [Array.size_extract];omega
theorem iT.kn{w:World}{n B:Nat}(h:n<=w.heap.size)(e:B<=n):Kn B No (iT w n) w:=by
 have c:=iT.size h
 have b:∀ k,k<n->w.heap[k]?=(iT w n).heap[k]?:=fun k a=>by
  unfold iT;simp only;rw[Array.getElem?_extract];simp;intro d;omega
 exact⟨⟨rfl,rfl,rfl,by rw[c];exact h,fun k a=>b k O⟩,fun k a _=>b k (by rw[c] at a;exact a)⟩
def FD(G:Gh)(k:Nat)(args:Array Value)(I:jL)(x:PM Nd):Prop:=∀ (B:Option Addr) (D:Nat) (y:Option Addr) (C:Nat) (w:World) (s:al) (r:Except (Nat×Nat) (Nd×al)),PS G (Mm G B y) B D y C w s->x s=some r->Calls Tryz.prog k args w fun e w'=>match r with
 |.error (c,q)=>e=az c q/\Kn G.B (Mm G B y) w w'
 |.ok (nd,s')=>∃ d j i z v,e=.returned v/\Tn G B D y C w s d j i z w' s'/\I w' (Own G.B w.heap.size w'.heap.size (Mm G d i)) nd v
def AH(G:Gh)(k:Nat)(args:Array Value)(x:PM (List Nd)):Prop:=∀ (B:Option Addr) (D:Nat) (y:Option Addr) (C:Nat) (w:World) (s:al) (r:Except (Nat×Nat) (List Nd×al)),PS G (Mm G B y) B D y C w s->x s=some r->Calls Tryz.prog k args w fun e w'=>match r with
 |.error (c,q)=>e=az c q/\Kn G.B (Mm G B y) w w'
 |.ok (l,s')=>∃ d j i z v,e=.returned v/\Tn G B D y C w s d j i z w' s'/\ey w' (Own G.B w.heap.size w'.heap.size (Mm G d i)) l v
section
variable {G:Gh} {M:Nat->Prop} {B d:Option Addr} {D j:Nat} {y i:Option Addr} {C z:Nat} {w E w2 c F:World} {s s1 H I:al} {L a:List (Nat×List Nd×Option Addr×Nat)} {J g:List (Nat×Array Value)} {ts wY:List (Nd×List Value)}
theorem Tn.no(h:Bd G M B D y C w s L J ts E s1)(t:Tn G B D y C E s1 d j i z w2 H)(b:k<E.heap.size)(a:¬M k):¬Mm G d i k:=fun q=>(t.mm q).elim (fun q=>a (h.ps.mm q)) (fun q=>O)
theorem Bd.zo(h:Bd G M B D y C w s L J ts E s1)(t:Tn G B D y C E s1 d j i z w2 H)(f:F.heap.size=w.heap.size)(o:Kn G.B No F w2):Bd G (Mm G d i) d j i z F H L J ts w2 H:=by
 have r:=t.kn.size;have N:=h.bB
 have n:Kb E w2 (Own G.B w.heap.size E.heap.size (VM M w J)):=fun b g=>by
  rcases g with q|q
  ·exact t.kn.ia.block b q
  ·exact t.kn.gM b q.2.1 fun m=>q.2.2 (.inr ⟨h.ps.mm m,q.1⟩)
 have l:∀ b,Own G.B w.heap.size E.heap.size (VM M w J) b->Own G.B F.heap.size w2.heap.size (VM (Mm G d i) F J) b:=fun b g=>g.imp id fun q=>⟨O,O,fun v=>v.elim (fun v=>q.2.2 (.inl v)) (fun v=>Tn.no h t q.2.1 (fun m=>q.2.2 (.inr ⟨m,q.1⟩)) v.1)⟩;refine⟨⟨o.ia,fun k u _=>o.gM k u (fun q=>q)⟩,t.ps,rfl,aw _,by rw[f];exact h.bl,fun p a=>Tn.no h t (h.bw p a).1 (h.nq p a),fun p a=>(h.bw p a).a6 (t.kn.gM _ (h.bw p a).1 fun m=>h.nq p a (h.ps.mm m)) r,fun p a=>by rw[f];exact h.lo p a,h.dj,fun p a=>(h.tr p a).on n l,fun q I=>?_⟩
 rcases h.rw q I with e|⟨A,e,c,x⟩
 ·exact .inl e
 ·refine .inr ⟨A,e,c,?_⟩;have:=x.a6 (w':=w2) (F':=Own G.B F.heap.size w2.heap.size (VM (Mm G d i) F J)) n (t.kn.gM A (h.bw _ c).1 fun m=>h.nq _ c (h.ps.mm m)) r l (fun q=>q.elim (fun q=>by have:w.heap.size<=A:=h.lo _ c;omega) fun q=>q.2.2 (.inl ⟨_,c,rfl⟩));rw[f];rw[f] at this;exact this
theorem Bd.B9(h:Bd G M B D y C w s L J ts E s1)(t:Tn G B D y C E s1 d j i z w2 H)(c:F.heap.size=w.heap.size):∀ b,Own G.B E.heap.size w2.heap.size (Mm G d i) b->Own G.B F.heap.size w2.heap.size (VM (Mm G d i) F J) b:=fun b a=>a.imp id fun q=>⟨ba h.kn.size,q.2.1,fun v=>v.elim (fun v=>ba ((h.xw v).2)) (fun v=>q.2.2 v.1)⟩
theorem Kn.qP(h:Kn G.B M w w2)(l:F.heap.size=w.heap.size)(d:Kn G.B No F w2){N:Nat->Prop}(a:Kn G.B N F c)(i:∀ k,N k->M k\/w.heap.size<=k)(j:G.B<=w.heap.size):Kn G.B M w c:=by
 have g:∀ k,k<w.heap.size->w2.heap[k]?=F.heap[k]?:=fun k a=>d.gM k O (fun q=>q);refine⟨⟨a.ia.os.trans (d.ia.os.symm.trans h.ia.os),a.ia.tape.trans (d.ia.tape.symm.trans h.ia.tape),a.ia.output.trans (d.ia.output.symm.trans h.ia.output),ba a.size,fun k b=>?_⟩,fun k e f=>?_⟩
 ·exact(a.ia.block k b).trans ((g k O).symm.trans (h.ia.block k b))
 ·exact(a.gM k O fun q=>(i k q).elim f (fun q=>O)).trans ((g k e).symm.trans (h.gM k e f))
theorem Bd.err(h:Bd G M B D y C w s L J ts E s1)(t:Tn G B D y C E s1 d j i z w2 H)(e:F.heap.size=w.heap.size)(b:Kn G.B No F w2)(a:Kn G.B (Mm G d i) F c):Kn G.B M w c:=
 Kn.qP (h.kn.trans t.kn fun k f m=>h.ps.mm m) e b a (fun k q=>(t.mm q).imp (fun q=>h.ps.mm q) fun q=>ba h.kn.size) h.bB
theorem Bd.back(h:Bd G M B D y C w s a g wY E s1)(Q:∀ k,M k->k<w.heap.size)(t:Tn G B D y C E s1 d j i z w2 H)(Z:F.heap.size=w.heap.size)(Y:Kn G.B No F w2)(f:Bd G (Mm G d i) d j i z F H L J ts c I):
 Bd G M B D y C w s L J ts ((c.setCell ⟨G.bp,3,none⟩ (.slice B s1.sc.length D)).setCell ⟨G.bp,4,none⟩ (.slice y s1.sc.length C)) ⟨I.i,s1.sc⟩:=by
 have aH:=h.bB;have aD:=h.bl;have u:=(h.ps.mB _ h.ps.mp).1;have S:=h.err t Z Y f.kn;have aG:=S.size;have l:∀ b,b≠G.bp->((c.setCell ⟨G.bp,3,none⟩ (.slice B s1.sc.length D)).setCell ⟨G.bp,4,none⟩ (.slice y s1.sc.length C)).heap[b]?=c.heap[b]?:=fun b n=>(h3 _ _ _ _ n).trans (h3 _ _ _ _ n);have r:((c.setCell ⟨G.bp,3,none⟩ (.slice B s1.sc.length D)).setCell ⟨G.bp,4,none⟩ (.slice y s1.sc.length C)).heap.size=c.heap.size:=by simp[World.setCell]
 have W:Kn G.B M w ((c.setCell ⟨G.bp,3,none⟩ (.slice B s1.sc.length D)).setCell ⟨G.bp,4,none⟩ (.slice y s1.sc.length C)):=(S.set (p:=⟨G.bp,3,none⟩) u h.ps.mp _).set (p:=⟨G.bp,4,none⟩) u h.ps.mp _
 have T:=t.Jr (w2:=c) h.ps (fun k R aE=>(f.kn.gM k (ba (Q k (h.ps.mm R))) aE).trans (Y.gM k (ba (Q k (h.ps.mm R))) fun q=>q).symm) (by
  have:=f.ps.sc.rC;rw[f.sc] at this
  exact this)
 have aC:=f.kn.size;have aI:=t.i;have aJ:=f.i;have x:∀ b,w.heap.size<=b->b≠G.bp:=fun b n=>O
 refine⟨W,⟨f.ps.low.trans (((eA G.B c).setCell (p:=⟨G.bp,3,none⟩) u _).setCell (p:=⟨G.bp,4,none⟩) u _),fun k R=>⟨(h.ps.mB k R).1,by rw[r];have:=Q k R;omega⟩,h.ps.mp,h.ps.mn,h.ps.mf,h.ps.nf,?_,?_,?_,?_,?_,fun o=>by simpa using f.ps.fr o,?_,by have:=h.ps.zp;show s1.sc.length<=20+I.i;omega,f.ps.il,h.ps.xZ⟩,h.sc,by show s.i<=I.i;have:=h.i;omega,h.bl,fun p N m=>lQ (Q _ m) (f.lo p N),fun p N=>(f.bw p N).a6 (l _ (x _ (ba (f.lo p N)))) (by rw[r];exact aw _),fun p N=>ba (f.lo p N),f.dj,fun p N=>(f.tr p N).on (fun b n=>l b ?_) (fun b n=>n.imp id fun q=>⟨O,by rw[r];exact q.2.1,fun v=>v.elim (fun v=>q.2.2 (.inl v)) (fun v=>ba (Q _ v.1))⟩),fun q aF=>?_⟩
 ·rw[eb _ _ _ _ ih,eb _ _ _ _ ih];exact f.ps.c0
 ·rw[eb _ _ _ _ ih,eb _ _ _ _ ih];exact f.ps.c1
 ·rw[eb _ _ _ _ ih,eb _ _ _ _ ih];exact f.ps.c2
 ·rw[eb _ _ _ _ ih,kA _ _ _ f.ps.c3]
 ·rw[kA _ _ _ ((eb _ _ _ _ ih).trans f.ps.c4)]
 ·exact(T.1.both T.2).blocks (fun b P e=>l b (h.ps.mn b P e).2) (fun b P e=>l b (h.ps.mf b P e).2)
 ·rcases n with q|q
  ·omega
  ·exact x b O
 ·rcases f.rw q aF with e|⟨A,e,X,aB⟩
  ·exact .inl e
  ·refine .inr ⟨A,e,X,?_⟩;have aA:w.heap.size<=A:=by have:F.heap.size<=A:=f.lo _ X;omega
   have:=aB.a6 (w':=(c.setCell ⟨G.bp,3,none⟩ (.slice B s1.sc.length D)).setCell ⟨G.bp,4,none⟩ (.slice y s1.sc.length C)) (F':=Own G.B w.heap.size c.heap.size (VM M w J)) (fun b n=>l b (by
    rcases n with q|q
    ·omega
    ·exact x b O)) (l A (x A aA)) (by rw[r];exact aw _) (fun b n=>n.imp id fun q=>⟨O,q.2.1,fun v=>v.elim (fun v=>q.2.2 (.inl v)) (fun v=>ba (Q _ v.1))⟩) (fun q=>q.elim (fun q=>O) fun q=>q.2.2 (.inl ⟨_,X,rfl⟩))
   rw[Z] at this;rw[r];exact this
theorem AH.bd{g:List Nd->PM β}(o:AH G k args x)(h:Bd G M B D y C w s L J ts E s1)(Q:(x>>=g) s1=some r):
 Calls Tryz.prog k args E fun e w2=>(∃ c q,r=.error (c,q)/\e=az c q/\Kn G.B M w w2)\/∃ l H a c d j i z F,e=.returned (.slice a l.length c)/\Hid (g l H=some r)/\Hid (Tn G B D y C E s1 d j i z w2 H)/\Hid (F.heap.size=w.heap.size/\Kn G.B No F w2)/\Hid (Bd G (Mm G d i) d j i z F H L J (([.sl l],[.slice a l.length c])::ts) w2 H):=by
 rcases a_ Q with⟨c,q,b,rfl⟩|⟨l,H,b,A⟩
 ·exact(o B D y C E s1 _ h.ps.min b).mono fun e w2 ⟨f,I⟩=>.inl ⟨c,q,rfl,f,h.kn.trans I fun k _ m=>h.ps.mm m⟩
 ·refine(o B D y C E s1 _ h.ps.min b).mono ?_;rintro e w2 ⟨d,j,i,z,v,f,t,P⟩;have u:w.heap.size<=w2.heap.size:=lQ h.kn.size t.kn.size
  have n:=iT.size u;have p:=iT.kn u h.bB;obtain⟨a,c,rfl,N⟩:=P.ue (Kb.refl _ _) (h.B9 t n);exact .inr ⟨l,H,a,c,d,j,i,z,iT w2 w.heap.size,f,U A,U t,U ⟨n,p⟩,U ((h.zo t n p).add N)⟩
theorem FD.bd{I:jL}{x:PM Nd}{g:Nd->PM β}(n:FD G k args I x)(A:hM I)(h:Bd G M B D y C w s L J ts E s1)(Q:(x>>=g) s1=some r):
 Calls Tryz.prog k args E fun e w2=>(∃ c q,r=.error (c,q)/\e=az c q/\Kn G.B M w w2)\/∃ a H v d j i z F,e=.returned v/\Hid (g a H=some r)/\Hid (Tn G B D y C E s1 d j i z w2 H)/\Hid (F.heap.size=w.heap.size/\Kn G.B No F w2)/\Hid (Bd G (Mm G d i) d j i z F H L J ts w2 H)/\I w2 (Own G.B F.heap.size w2.heap.size (VM (Mm G d i) F J)) a v:=by
 rcases a_ Q with⟨c,q,b,rfl⟩|⟨a,H,b,u⟩
 ·exact(n B D y C E s1 _ h.ps.min b).mono fun e w2 ⟨f,N⟩=>.inl ⟨c,q,rfl,f,h.kn.trans N fun k _ m=>h.ps.mm m⟩
 ·refine(n B D y C E s1 _ h.ps.min b).mono ?_;rintro e w2 ⟨d,j,i,z,v,f,t,P⟩;have p:w.heap.size<=w2.heap.size:=lQ h.kn.size t.kn.size
  have l:=iT.size p;have o:=iT.kn p h.bB;exact .inr ⟨a,H,v,d,j,i,z,iT w2 w.heap.size,f,U u,U t,U ⟨l,o⟩,U (h.zo t l o),A _ _ _ _ _ _ P (Kb.refl _ _) (h.B9 t l)⟩
theorem Tn.ue(p:PS G M B D y C w s)(t:Tn G B D y C w s d j i z E s1)(g:F.heap.size=w.heap.size)(c:Kn G.B No F E)(h:Bd G (Mm G d i) d j i z F s1 L J ts w2 H):Tn G B D y C w s d j i z w2 H:=by
 have a:=t.Jr (w2:=w2) p (fun k b e=>(h.kn.gM k (ba ((p.mB k (p.mm b)).2)) e).trans (c.gM k (ba ((p.mB k (p.mm b)).2)) fun q=>q).symm) (by
  have:=h.ps.sc.rC;rw[h.sc] at this
  exact this)
 obtain⟨u,f⟩:=t.pre;exact⟨Kn.qP t.kn g c h.kn (fun k q=>t.mm q) p.bB,h.ps,fy t.i h.i,t.nn,t.ff,⟨u,h.sc.trans f⟩,a.1,a.2⟩
end
end Go.Proofs.YtkblonfmjlopaaaGreatDoor
