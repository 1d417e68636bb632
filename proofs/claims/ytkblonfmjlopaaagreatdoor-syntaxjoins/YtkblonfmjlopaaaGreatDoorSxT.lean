/-
  Words in memory: a row of tokens; tell, walked.
-/
import Derived.Test.YtkblonfmjlopaaaGreatDoorRegT
set_option linter.all false
set_option maxRecDepth 1000000
set_option maxHeartbeats 16000000
namespace Go.Proofs.YtkblonfmjlopaaaGreatDoor
open Go Go.RowKit
variable {w w':World}
structure Tok where
 kind:Nat
 text:List UInt8
 num:Int
 bits:Nat
 n:Nat
 pos:Nat
def Mg(w:World)(sg:Bool)(a:Option Addr)(n c:Nat)(z:Int):Prop:=
 ∃ f,Us w a n c f/\n<=1048576/\Nm f n/\(n=0->sg=false)/\gw sg (val f n)=z
def rp(w:World)(t:Tok)(h:Nat->Value)(o:Nat):Prop:=
 ∃ sg a n c,h o=.int .i64 (t.kind:Nat)/\h (o+1)=.string ⟨t.text.toArray⟩/\h (o+2)=.bool sg/\h (o+3)=.slice a n c/\h (o+4)=.int .u64 (t.bits:Nat)/\h (o+5)=.int .i64 (t.n:Nat)/\h (o+6)=.int .i64 (t.pos:Nat)/\Mg w sg a n c t.num
def e6(w w':World):Prop:=∀ a n c f,Us w a n c f->Us w' a n c f
theorem e6.refl(w:World):e6 w w:=fun _ _ _ _ h=>h
theorem e6.trans{b:World}(h:e6 w w')(k:e6 w' b):e6 w b:=fun a n c f u=>k a n c f (h a n c f u)
theorem e6.below(h:Below w.heap.size w w'):e6 w w':=fun _ _ _ _ u=>u.below h (aw _)
theorem e6.set(h:e6 w w'){p:Addr}{v:Value}(b:w'.cell? p=some v)(d:∀ x,v≠.int .u32 x)(y:Value):e6 w (w'.setCell p y):=fun a n c f u=>Ht (h a n c f u) b d y
theorem Mg.a6{b:Bool}{a:Option Addr}{n c:Nat}{z:Int}(h:Mg w b a n c z)(k:e6 w w'):Mg w' b a n c z:=by
 obtain⟨f,u,r⟩:=h;exact⟨f,k _ _ _ _ u,r⟩
theorem rp.a6{t:Tok}{h:Nat->Value}{o:Nat}(c:rp w t h o)(k:e6 w w'):rp w' t h o:=by
 obtain⟨p,a,n,d,b,e,f,g,i,j,l,m⟩:=c;exact⟨p,a,n,d,b,e,f,g,i,j,l,m.a6 k⟩
def pj:Value:=.agg #[.int .i64 0,.string ⟨#[]⟩,.bool false,.slice none 0 0,.int .u64 0,.int .i64 0,.int .i64 0]
theorem u'(j:Nat)(x:Int):jH pj j≠.int .u32 x:=by
 unfold jH;have b:j%7<7:=sZ _ O;have a:pj.cells.size=7:=rfl;rw[a];generalize j%7=c at b
 match c,b with
 |0,_=>intro h;cases h
 |1,_=>intro h;cases h
 |2,_=>intro h;cases h
 |3,_=>intro h;cases h
 |4,_=>intro h;cases h
 |5,_=>intro h;cases h
 |6,_=>intro h;cases h
theorem rp.congr{t:Tok}{h g:Nat->Value}{o:Nat}(c:rp w t h o)(e:∀ k,k<7->g (o+k)=h (o+k)):rp w t g o:=by
 obtain⟨r,a,n,d,b,f,i,j,l,p,q,m⟩:=c;exact⟨r,a,n,d,(e 0 O).trans b,(e 1 O).trans f,(e 2 O).trans i,(e 3 O).trans j,(e 4 O).trans l,(e 5 O).trans p,(e 6 O).trans q,m⟩
def iR(w:World)(a:Option Addr)(n c:Nat)(ts:List Tok):Prop:=
 ∃ h,d' w a n c 7 h/\n=ts.length/\(∀ j,n*7<=j->j<c*7->h j=jH pj j)/\∀ i t,ts[i]?=some t->rp w t h (i*7)
theorem Tryz.yS:(Tryz.prog.info? 75).map (fun i=>(i.zero,i.size,i.bytes))=some (some pj,7,80):=aq
theorem C'{P:Program}{c:Code}{Q:Exit->Act->World->Prop}{a:Act}(w:World)(h:∀ W,W=w->Code.wp P c Q a W):Code.wp P c Q a w:=h w rfl
theorem xq(b:Nat)(s:ByteArray)(p n:Nat)(aB:Option Addr)(aR aC:Nat)(Z aT:Int)(c a N:Nat)(dI:ByteArray)(C:Bool)(u:Option Addr)(B A:Nat)(z:Int)(bA:Int)(E:List Tok)(f:Nat)(w:World)
 (dO:s.size<=1099511627776) (dM:p+n<=s.size) (h:Sc w b s p aB aR aC Z aT) (dA:iR w aB aR aC E) (cZ:dh w f aB (aC*7)) (cG:f<=b) (R:∀ x d,aB=some ⟨x,d,none⟩->b<x/\x<w.heap.size) (cI:Mg w C u B A z) (dD:aR<=1099511627776):
 Calls Tryz.prog 58 #[.pointer (some ⟨b,0,none⟩),.agg #[.int .i64 (c:Nat),.string dI,.bool C,.slice u B A,.int .u64 (a:Nat),.int .i64 (N:Nat),.int .i64 bA],.int .i64 (n:Nat)] w fun e w'=>
  ∃ X aJ,e=.returned (.tuple #[])/\Sc w' b s (p+n) X (aR+1) aJ Z aT/\iR w' X (aR+1) aJ (E++[⟨c,(s.extract p (p+n)).data.toList,z,a,N,p⟩])/\dh w' f X (aJ*7)/\(∀ x d,X=some ⟨x,d,none⟩->b<x/\x<w'.heap.size)/\Below f w w'/\e6 w w':=by
 obtain⟨I,cN,cO,c2,cP,cQ,cX⟩:=h;go_enter Tryz.func58,Tryz.ntmps58
 go_wp2
 have dF:IntKind.i64.wrap ((p:Int)+(n:Int))=(p:Int)+(n:Int):=gv _ O;have dG:b≠w.heap.size:=O
 go_region
 go_wp2
 have bG:=dA;obtain⟨aZ,bF,rfl,aQ,bQ⟩:=bG;have Y:b<((w.alloc (.cells #[.int .i64 (c:Nat),.string (s.extract p (p+n)),.bool C,.slice u B A,.int .u64 (a:Nat),.int .i64 (N:Nat),.int .i64 (p:Nat)] 75)).drew).heap.size:=b1
 have aF:Below w.heap.size w (w.alloc (.cells #[.int .i64 (c:Nat),.string (s.extract p (p+n)),.bool C,.slice u B A,.int .u64 (a:Nat),.int .i64 (N:Nat),.int .i64 (p:Nat)] 75)).drew:=(ab w _).drew;have D:=fun(j:Nat) (v:Value) (e:(#[.int .i64 (c:Nat),.string (s.extract p (p+n)),.bool C,.slice u B A,.int .u64 (a:Nat),.int .i64 (N:Nat),.int .i64 (p:Nat)]:Array Value)[j]?=some v)=>show(w.alloc (.cells #[.int .i64 (c:Nat),.string (s.extract p (p+n)),.bool C,.slice u B A,.int .u64 (a:Nat),.int .i64 (N:Nat),.int .i64 (p:Nat)] 75)).drew.cell? ⟨w.heap.size,j,none⟩=some v from(jl w _ _ j).trans e;have b6:=D 0 _ rfl;have bT:=D 1 _ rfl;have bU:=D 2 _ rfl;have bV:=D 3 _ rfl;have bX:=D 4 _ rfl;have bY:=D 5 _ rfl;have bZ:=D 6 _ rfl;have bC:=(aF.cell (p:=⟨b,2,none⟩) I).trans c2;refine C' _ (fun W cF=>?_);rw[<-cF] at Y aF b6 bT bU bV bX bY bZ bC;clear cF D;refine b3 (S:=fun aE=>aE.cell? ⟨b,2,none⟩=some (.slice aB E.length aC)/\aE.cell? ⟨w.heap.size,0,none⟩=some (.int .i64 (c:Nat))/\aE.cell? ⟨w.heap.size,1,none⟩=some (.string (s.extract p (p+n)))/\aE.cell? ⟨w.heap.size,2,none⟩=some (.bool C)/\aE.cell? ⟨w.heap.size,3,none⟩=some (.slice u B A)/\aE.cell? ⟨w.heap.size,4,none⟩=some (.int .u64 (a:Nat))/\aE.cell? ⟨w.heap.size,5,none⟩=some (.int .i64 (N:Nat))/\aE.cell? ⟨w.heap.size,6,none⟩=some (.int .i64 (p:Nat))) (T:=fun j=>j==10) aq ?_;have F:=b4 bC (b4 b6 (b4 bT (b4 bU (b4 bV (b4 bX (b4 bY bZ))))));refine tq 0 F ?_;refine tq 1 F ?_;refine tq 2 F ?_;refine tq 3 F ?_;refine tq 4 F ?_;refine tq 5 F ?_;refine cw 6 fun K hK=>?_;go_simp;have m:Below W.heap.size W (W.alloc (.cells #[.int .i64 (c:Nat),.string (s.extract p (p+n)),.bool C,.slice u B A,.int .u64 (a:Nat),.int .i64 (N:Nat),.int .i64 (p:Nat)] 75)).drew:=(ab W _).drew;have bO:(W.alloc (.cells #[.int .i64 (c:Nat),.string (s.extract p (p+n)),.bool C,.slice u B A,.int .u64 (a:Nat),.int .i64 (N:Nat),.int .i64 (p:Nat)] 75)).drew.heap.size=W.heap.size+1:=ar
 have D:=fun(j:Nat) (v:Value) (e:(#[.int .i64 (c:Nat),.string (s.extract p (p+n)),.bool C,.slice u B A,.int .u64 (a:Nat),.int .i64 (N:Nat),.int .i64 (p:Nat)]:Array Value)[j]?=some v)=>show(W.alloc (.cells #[.int .i64 (c:Nat),.string (s.extract p (p+n)),.bool C,.slice u B A,.int .u64 (a:Nat),.int .i64 (N:Nat),.int .i64 (p:Nat)] 75)).drew.cell? ⟨W.heap.size,j,none⟩=some v from(jl W _ _ j).trans e;have aI:w.heap.size<W.heap.size:=kU W _ b6;have g:=b4 ((m.cell (p:=⟨b,2,none⟩) Y).trans bC) (b4 ((m.cell (p:=⟨w.heap.size,0,none⟩) aI).trans b6) (b4 ((m.cell (p:=⟨w.heap.size,1,none⟩) aI).trans bT) (b4 ((m.cell (p:=⟨w.heap.size,2,none⟩) aI).trans bU) (b4 ((m.cell (p:=⟨w.heap.size,3,none⟩) aI).trans bV) (b4 ((m.cell (p:=⟨w.heap.size,4,none⟩) aI).trans bX) (b4 ((m.cell (p:=⟨w.heap.size,5,none⟩) aI).trans bY) ((m.cell (p:=⟨w.heap.size,6,none⟩) aI).trans bZ)))))));have l:Below w.heap.size w (W.alloc (.cells #[.int .i64 (c:Nat),.string (s.extract p (p+n)),.bool C,.slice u B A,.int .u64 (a:Nat),.int .i64 (N:Nat),.int .i64 (p:Nat)] 75)).drew:=aF.trans (m.mono O);refine hK.out _ _ (fun _=>g) ?_;clear hK K;generalize (W.alloc (.cells #[.int .i64 (c:Nat),.string (s.extract p (p+n)),.bool C,.slice u B A,.int .u64 (a:Nat),.int .i64 (N:Nat),.int .i64 (p:Nat)] 75)).drew=M at m bO D g l⊢
 have cA:d' M aB E.length aC 7 aZ:=⟨bF.le,bF.mx,fun j P=>by
  obtain⟨x,d,e,aG⟩:=bF.cell j P
  exact⟨x,d,e,(l.cell (p:=⟨x,d+j,none⟩) (by have:=R x d e;simp;omega)).trans aG⟩⟩
 have cK:dh M f aB (aC*7):=fun j P=>by
  obtain⟨x,d,e,aM,aA⟩:=cZ j P;exact⟨x,d,e,aM,(l.frozen (p:=⟨x,d+j,none⟩) (by have:=R x d e;simp;omega)).trans aA⟩
 have cH:∀ j,j<7->M.cell? ⟨W.heap.size,0+j,none⟩=some ((#[.int .i64 (c:Nat),.string (s.extract p (p+n)),.bool C,.slice u B A,.int .u64 (a:Nat),.int .i64 (N:Nat),.int .i64 (p:Nat)]:Array Value)[j]!):=fun j P=>by
  rw[gW]
  match j,P with
  |0,_=>exact D 0 _ rfl
  |1,_=>exact D 1 _ rfl
  |2,_=>exact D 2 _ rfl
  |3,_=>exact D 3 _ rfl
  |4,_=>exact D 4 _ rfl
  |5,_=>exact D 5 _ rfl
  |6,_=>exact D 6 _ rfl
 have aU:∀ j,j<7->((#[.int .i64 (c:Nat),.string (s.extract p (p+n)),.bool C,.slice u B A,.int .u64 (a:Nat),.int .i64 (N:Nat),.int .i64 (p:Nat)]:Array Value)[j]!).oneCell'=true:=fun j P=>by
  match j,P with
  |0,_=>rfl
  |1,_=>rfl
  |2,_=>rfl
  |3,_=>rfl
  |4,_=>rfl
  |5,_=>rfl
  |6,_=>rfl
 clear D
 try simp only [Act.put,List.setIfInBounds_toArray,List.set_cons_zero,List.set_cons_succ]
 refine cw 7 fun K hK=>?_;rw[if_pos (by rfl)];refine kV M (some 34) rfl _ _ 46 46 rfl 75 75 pj 7 80 Tryz.underlying46 Tryz.underlying46 Tryz.yS rfl O f (ba l.size) aB E.length aC aZ (fun j=>(#[.int .i64 (c:Nat),.string (s.extract p (p+n)),.bool C,.slice u B A,.int .u64 (a:Nat),.int .i64 (N:Nat),.int .i64 (p:Nat)]:Array Value)[j]!) W.heap.size 0 1 rfl rfl cA cK cH aU O O ?_;intro aK aX r L bM aW cL bH Q;have dL:b<M.heap.size:=O
 have dP:w.heap.size<M.heap.size:=O
 have H:∀ (q:Addr),(q.block=b\/q.block=w.heap.size)->L.cell? q=M.cell? q:=fun q bL=>Q.cell q O (fun x d e bR=>ba (R x d e));have cC:∀ (q:Addr),q.block=b->L.frozen? q=w.frozen? q:=fun q bL=>(Q.frozen q O).trans (l.frozen O);have J:=b4 ((H ⟨b,2,none⟩ (.inl rfl)).trans g.1) (b4 ((H ⟨w.heap.size,0,none⟩ (.inr rfl)).trans g.2.1) (b4 ((H ⟨w.heap.size,1,none⟩ (.inr rfl)).trans g.2.2.1) (b4 ((H ⟨w.heap.size,2,none⟩ (.inr rfl)).trans g.2.2.2.1) (b4 ((H ⟨w.heap.size,3,none⟩ (.inr rfl)).trans g.2.2.2.2.1) (b4 ((H ⟨w.heap.size,4,none⟩ (.inr rfl)).trans g.2.2.2.2.2.1) (b4 ((H ⟨w.heap.size,5,none⟩ (.inr rfl)).trans g.2.2.2.2.2.2.1) ((H ⟨w.heap.size,6,none⟩ (.inr rfl)).trans g.2.2.2.2.2.2.2)))))));refine hK.out _ _ (fun _=>J) ?_;clear hK K;have cS:=((H ⟨b,0,none⟩ (.inl rfl)).trans (l.cell (p:=⟨b,0,none⟩) I)).trans cN;have cT:=((H ⟨b,1,none⟩ (.inl rfl)).trans (l.cell (p:=⟨b,1,none⟩) I)).trans cO;have cB:=J.1;have cU:=((H ⟨b,3,none⟩ (.inl rfl)).trans (l.cell (p:=⟨b,3,none⟩) I)).trans cP;have cV:=((H ⟨b,4,none⟩ (.inl rfl)).trans (l.cell (p:=⟨b,4,none⟩) I)).trans cQ;have bE:∀ o,L.frozen? ⟨b,o,none⟩=false:=fun o=>(cC _ rfl).trans (cX o)
 try simp only [Act.put,List.setIfInBounds_toArray,List.set_cons_zero,List.set_cons_succ]
 refine cw 8 fun K hK=>?_;go_simp;refine nx hK J ?_;clear hK K;refine cw 9 fun K hK=>?_;go_simp;refine nx hK J ?_;clear hK K;refine cw 10 fun K hK=>?_;go_simp;refine oZ hK ?_;clear hK K;refine bj aq ?_ _;clear H cC g J F cH aU
 go_wp2
 go_end0;have bK:(E.length+1)*7=E.length*7+7:=jd _ _;have dE:M.heap.size<=L.heap.size:=Q.size
 have aN:∀ x d,aK=some ⟨x,d,none⟩->b<x/\x<L.heap.size:=fun x d e=>by
  rcases bM with⟨_,aA,_⟩|⟨_,aA,cD,_⟩
  ·rw[aA] at e;have:=R x d e;omega
  ·rw[aA] at e;simp only [Option.some.injEq,Addr.mk.injEq,and_true] at e;omega
 have bS:e6 w L:=by
  intro cM dH cR cY dK;have aD:Us M cM dH cR cY:=dK.below l (aw _);refine⟨aD.le,aD.mx,aD.lm,fun q bL=>?_⟩;obtain⟨y,aV,cW,aG⟩:=aD.cell q bL;refine⟨y,aV,cW,?_⟩;have aO:=kU M _ aG;rw[<-aG]
  rcases bM with⟨_,_,aY⟩|⟨_,_,_,cE⟩
  ·refine Q.cell ⟨y,aV+q,none⟩ aO (fun x d e bR=>?_);obtain⟨aM,_,aA,cD⟩:=bR;simp only at aM aA cD;have bN:=aW.le;have cI:(E.length+1)*7<=aC*7:=jX _ O;obtain⟨dQ,cJ,bD,aH⟩:=cA.cell (aV+q-d) O;rw[e] at bD;simp only [Option.some.injEq,Addr.mk.injEq,and_true] at bD;obtain⟨rfl,rfl⟩:=bD;rw[show d+(aV+q-d)=aV+q from O,<-aM,aG] at aH;rw[aQ _ O O] at aH;have:=f_ aH;exact u' _ _ this.symm
  ·exact cE _ aO
 have dJ:e6 w (L.setCell ⟨b,2,none⟩ (.slice aK (E.length+1) aX)):=bS.set cB (fun _ h=>by cases h) _
 have aL:(L.setCell ⟨b,2,none⟩ (.slice aK (E.length+1) aX)).cell? ⟨b,1,none⟩=some (.int .i64 (p:Nat)):=by
  rw[eb _ _ _ _ ih];exact cT
 have aD:e6 w ((L.setCell ⟨b,2,none⟩ (.slice aK (E.length+1) aX)).setCell ⟨b,1,none⟩ (.int .i64 ((p:Int)+(n:Int)))):=dJ.set aL (fun _ h=>by cases h) _;have bI:Below f w L:=(l.mono O).trans bH;refine⟨aK,aX,rfl,⟨by simpa using (by omega:b<L.heap.size),?_,?_,?_,?_,?_,fun o=>by simpa using bE o⟩,⟨c6 aZ (E.length*7) 7 (fun j=>(#[.int .i64 (c:Nat),.string (s.extract p (p+n)),.bool C,.slice u B A,.int .u64 (a:Nat),.int .i64 (N:Nat),.int .i64 (p:Nat)]:Array Value)[j]!) r,⟨aW.le,aW.mx,fun j P=>?_⟩,ar,fun j aM aA=>?_,fun i t aP=>?_⟩,(cL.set _ _).set _ _,fun x d e=>by simpa using aN x d e,(bI.setCell cG _).setCell cG _,aD⟩
 ·rw[eb _ _ _ _ ih,eb _ _ _ _ ih];exact cS
 ·rw[kA _ _ _ aL];simp
 ·rw[eb _ _ _ _ ih,kA _ _ _ cB]
 ·rw[eb _ _ _ _ ih,eb _ _ _ _ ih];exact cU
 ·rw[eb _ _ _ _ ih,eb _ _ _ _ ih];exact cV
 ·obtain⟨x,d,e,aG⟩:=aW.cell j P;have bR:=(aN x d e).1;refine⟨x,d,e,?_⟩;rw[eb _ _ _ _ (by intro h;simp only [Addr.mk.injEq] at h;omega),eb _ _ _ _ (by intro h;simp only [Addr.mk.injEq] at h;omega)];exact aG
 ·unfold c6;rw[if_neg O,if_neg O]
  rcases bM with⟨aY,_,cE⟩|⟨aY,_⟩
  ·rw[aY];exact aQ j O O
  ·rw[aY]
 ·by_cases dB:i<E.length
  ·rw[lg dB] at aP;refine((bQ i t aP).congr (fun k dC=>?_)).a6 aD;unfold c6;rw[if_pos O]
  ·have bJ:i=E.length:=by
    have:=(List.getElem?_eq_some_iff.1 aP).1;simp at this;omega
   subst bJ;rw[kC (aw _),qt] at aP;have bP:=f_ (show some _=some t from aP);subst bP
   have G:∀ k,k<7->c6 aZ (E.length*7) 7 (fun j=>(#[.int .i64 (c:Nat),.string (s.extract p (p+n)),.bool C,.slice u B A,.int .u64 (a:Nat),.int .i64 (N:Nat),.int .i64 (p:Nat)]:Array Value)[j]!) r (E.length*7+k)=(#[.int .i64 (c:Nat),.string (s.extract p (p+n)),.bool C,.slice u B A,.int .u64 (a:Nat),.int .i64 (N:Nat),.int .i64 (p:Nat)]:Array Value)[k]!:=fun k dC=>by
    unfold c6;rw[if_neg O,if_pos O,sW]
   refine⟨C,u,B,A,?_,?_,?_,?_,?_,?_,?_,cI.a6 aD⟩
   ·exact G 0 O
   ·exact(G 1 O).trans (by rw[Array.toArray_toList];rfl)
   ·exact G 2 O
   ·exact G 3 O
   ·exact G 4 O
   ·exact G 5 O
   ·exact G 6 O
section
open Go
inductive Tr where
 |v (x:Value)
 |kN (z:Int)
 |sl (es:List (List Tr))
abbrev Nd:=List Tr
abbrev ak:=List UInt8
def vI(n:Int):Tr:=.v (.int .i64 n)
def vU(n:Nat):Tr:=.v (.int .u64 (n:Nat))
def vS(l:ak):Tr:=.v (.string ⟨l.toArray⟩)
def vB(b:Bool):Tr:=.v (.bool b)
def strs(l:List ak):List Nd:=l.map fun x=>[vS x]
def ho(kind:Int)(name:ak)(args:List Nd)(labels:List ak):Nd:=[vI kind,vS name,.sl args,.sl (strs labels)]
def c_(kind:Int)(name:ak)(z:Int)(n:Int)(text:ak)(labels:List ak)(kids types:List Nd):Nd:=[vI kind,vS name,.kN z,vI n,vS text,.sl (strs labels),.sl kids,.sl types]
def b9(kind:Int)(name:ak)(z:Int)(n:Int)(bits:Nat)(text:ak)(labels:List ak)(kids rules dr types:List Nd):Nd:=
 [vI kind,vS name,.kN z,vI n,vU bits,vS text,.sl (strs labels),.sl kids,.sl rules,.sl dr,.sl types]
def gz(oW:List Nd)(e:Nd):Nd:=.sl oW::e
def mkFun(name:ak)(many:Int)(clauses:List Nd):Nd:=[vS name,vI many,.sl clauses]
def qS(name:ak)(types:List Nd):Nd:=[vS name,.sl types]
def mkData(vars:List ak)(name:ak)(cons:List Nd):Nd:=[.sl (strs vars),vS name,.sl cons]
def j1(name:ak)(specs:List Nd):Nd:=[vS name,.sl specs]
def fl(kind:Int)(name:ak)(data:Nd)(types:List Nd):Nd:=vI kind::vS name::(data++[.sl types])
structure A7 where
 kind:Int
 name:ak:=[]
 names:List ak:=[]
 n:Int:=0
 right:Bool:=false
 qg:Bool:=false
 oW:List Nd:=[]
 qz:List Nd:=[]
 l3:List Nd:=[]
 iG:List Nd:=[]
 types:List Nd:=[]
 dr:List Nd:=[]
 sigs:List Nd:=[]
 specs:List Nd:=[]
def d_(d:A7):Nd:=[vI d.kind,vS d.name,.sl (strs d.names),vI d.n,vB d.right,vB d.qg,.sl d.oW,.sl d.qz,.sl d.l3,.sl d.iG,.sl d.types,.sl d.dr,.sl d.sigs,.sl d.specs]
structure Fx where
 name:ak
 level:Int
 right:Bool
structure al where
 i:Nat
 sc:List Fx
def PM(α:Type):Type:=al->Option (Except (Nat×Nat) (α×al))
def PM.ret{α:Type}(a:α):PM α:=fun s=>some (.ok (a,s))
def PM.bind{α β:Type}(x:PM α)(f:α->PM β):PM β:=fun s=>
 match x s with
 |none=>none
 |some (.error e)=>some (.error e)
 |some (.ok (a,s'))=>f a s'
instance:Monad PM where
 pure:=PM.ret
 bind:=PM.bind
def PM.none{α:Type}:PM α:=fun _=>Option.none
def PM.get:PM al:=fun s=>some (.ok (s,s))
def PM.set(s:al):PM Unit:=fun _=>some (.ok ((),s))
structure Tx where
 ts:List Tok
 en:Nat
def tA:Tok:=⟨0,[],0,0,0,0⟩
section
variable (X:Tx)
def V(s:al):Tok:=X.ts[s.i]?.getD tA
def next:PM Tok:=fun s=>some (.ok (V X s,s))
def step1:PM Unit:=fun s=>some (.ok ((),{s with i:=s.i+1}))
def eo{α:Type}:PM α:=fun s=>some (.error (match X.ts[s.i]? with|some t=>(40,t.pos)|none=>(31,X.en)))
def ay(l:List ak)(s:al):Bool:=(V X s).kind==8&&l.contains (V X s).text
def iE(l:List ak):PM Bool:=fun s=>some (.ok (ay X l s,s))
def a7(w:ak):PM Bool:=fun s=>if ay X [w] s=true then some (.ok (true,{s with i:=s.i+1})) else some (.ok (false,s))
def a8(w:ak):PM Unit:=do
 let t<-a7 X w
 if t then pure () else eo X
def oL(l:ak):Bool:=l.contains 46
def dw(symbols:Bool)(s:al):Bool:=
 (V X s).kind==1&&!oL (V X s).text||symbols&&((V X s).kind==2||ay X [[61]] s)
def p5(symbols:Bool):PM Bool:=fun s=>some (.ok (dw X symbols s,s))
def name(symbols:Bool):PM ak:=fun s=>if dw X symbols s=true then some (.ok ((V X s).text,{s with i:=s.i+1})) else eo X s
def gy{σ:Type}(mL:ak)(one:σ->PM (Nd×σ)):Nat->List Nd->σ->PM (List Nd×σ)
 |0,_,_=>PM.none
 |n+1,acc,x=>do
  let t<-a7 X mL
  if t then do
   let r<-one x
   gy mL one n (acc++[r.1]) r.2
  else pure (acc,x)
def list{σ:Type}(n:Nat)(mL:ak)(one:σ->PM (Nd×σ))(x:σ):PM (List Nd×σ):=do
 let r<-one x
 gy X mL one n [r.1] r.2
def hF{σ:Type}(n:Nat)(fin:ak)(one:σ->PM (Nd×σ))(x:σ):PM (List Nd×σ):=do
 let t<-a7 X fin
 if t then pure ([],x) else do
  let l<-list X n [44] one x
  a8 X fin
  pure l
def lone(one:PM Nd):Unit->PM (Nd×Unit):=fun _=>do
 let a<-one
 pure (a,())
def df(n:Nat)(mL:ak)(one:PM Nd):PM (List Nd):=do
 let r<-list X n mL (lone one) ()
 pure r.1
def gd(n:Nat)(fin:ak)(one:PM Nd):PM (List Nd):=do
 let r<-hF X n fin (lone one) ()
 pure r.1
def j2(sc:List Fx)(nm:ak):Option Fx:=(sc.reverse.find? fun f=>f.name==nm)
def MI(sc:List Fx)(nm:ak):Bool:=match j2 sc nm with|some f=>decide (0<=f.level)|none=>false
def jh(l:List ak)(level:Int)(right:Bool):PM Unit:=fun s=>some (.ok ((),{s with sc:=s.sc++l.map fun n=>⟨n,level,right⟩}))
def hv:PM ak:=fun s=>if(V X s).kind=3 then some (.ok ((V X s).text,{s with i:=s.i+1})) else eo X s
def gR:PM ak:=fun s=>if(V X s).kind=1 then some (.ok ((V X s).text,{s with i:=s.i+1})) else eo X s
def iH(t:Tok):Bool:=t.kind==4&&(match t.text with|c::_=>decide (49<=c.toNat/\c.toNat<=57)|[]=>false)&&decide (t.text.length<=64)
def label:PM ak:=fun s=>if iH (V X s)=true then some (.ok ((V X s).text,{s with i:=s.i+1})) else name X false s
def xS(n:Nat):ak:=Lib.itoa (n:Nat)
def labels(n:Nat):List ak:=(List.range n).map fun i=>xS (i+1)
def texts(l:List Nd):List ak:=l.map fun r=>match r with|[.v (.string b)]=>b.data.toList|_=>[]
def hQ:Nat->List ak->PM (List ak)
 |0,_=>PM.none
 |n+1,acc=>do
  let t<-p5 X true
  if t then do
   let a<-name X true
   hQ n (acc++[a])
  else pure acc
def names(n:Nat):PM (List ak):=do
 let a<-name X true
 hQ X n [a]
def vars(n:Nat):PM (List ak):=do
 let t<-next X
 if t.kind=3 then do
  let a<-hv X
  pure [a]
 else do
  let o<-a7 X [40]
  if o then do
   let l<-df X n [44] (do let a<-hv X;pure [vS a])
   a8 X [41]
   pure (texts l)
  else pure []
structure Fs where
 ty:PM Nd
 pat:PM Nd
 exp:PM Nd
 dr:Bool->PM (List Nd)
 e8:Int->Bool->PM Nd
 fB:Int->Bool->PM Nd
 either:PM Nd
 both:PM Nd
 jU:List ak->PM (Nd×List ak)
 prec:List ak->PM (Nd×List ak)
 kk:List ak->PM (Nd×List ak)
 iq:PM (List Nd)
 data:PM Nd
 kS:PM Nd
 specs:PM (List Nd)
 vars:PM (List ak)
 hd:ak->PM Nd
 mF:ak->PM Nd
 l7:ak->PM Nd
 lS:Nd->PM Nd
 lC:Nd->PM Nd
 lU:List Nd->PM Nd
 jK:PM (List ak)
 oD:ak->PM Nd
 mG:ak->PM Nd
variable (f:Fs) (n:Nat)
def ek:Nat->List Nd->PM (List Nd)
 |0,_=>PM.none
 |n+1,l=>do
  let t<-next X
  if t.kind=1 then do
   let a<-gR X
   ek n [ho 2 a l []]
  else pure l
def jz(ls:List ak):PM (Nd×List ak):=do
 let a<-label X
 a8 X [58]
 let t<-f.ty
 pure (t,ls++[a])
def fe:PM Nd:=do
 let t<-next X
 let l<-(if t.kind=3 then(do let a<-hv X;pure [ho 1 a [] []])
  else if t.kind=1 then(do let a<-gR X;pure [ho 2 a [] []])
  else do
   let o<-a7 X [40]
   if o then do
    let l<-df X n [44] f.ty
    a8 X [41]
    pure l
   else do
    a8 X [123]
    let r<-hF X n [125] f.jU []
    pure [ho 4 [] r.1 r.2])
 let l<-ek X n l
 match l with
 |[a]=>pure a
 |_=>eo X
def ik:Nat->List Nd->PM (List Nd)
 |0,_=>PM.none
 |m+1,l=>do
  let t<-next X
  if t.kind=2/\t.text=[42] then do
   step1
   let a<-fe X f n
   ik m (l++[a])
  else pure l
def qh:PM Nd:=do
 let a<-fe X f n
 let l<-ik X f n n [a]
 let a:=match l with|[a]=>a|_=>ho 4 [] l (labels l.length)
 let o<-a7 X [45,62]
 if o then do
  let b<-f.ty
  pure (ho 3 [] [a,b] [])
 else pure a
def qf:PM (List Nd):=do
 let o<-a7 X [111,102]
 if o then do
  let a<-f.ty
  pure [a]
 else pure []
def ea(s:al):Bool:=((V X s).kind==1||(V X s).kind==2)&&!MI s.sc (V X s).text
def du(s:al):Bool:=(V X s).kind==4||(V X s).kind==6||(V X s).kind==7||ea X s||ay X [[95],[40],[91],[123],[111,112]] s
def named(l:ak):Nd:=if oL l=true then c_ 6 l 0 0 [] [] [] [] else c_ 2 l 0 0 [] [] [] []
def iI(ls:List ak):PM (Nd×List ak):=do
 let a<-label X
 a8 X [61]
 let t<-f.pat
 pure (t,ls++[a])
def h'(w:ak):PM Nd:=
 if w=[95] then pure (c_ 1 [] 0 0 [] [] [] [])
 else if w=[111,112] then(do let a<-name X true;pure (named a))
 else do
  let r<-hF X n [125] f.prec []
  pure (c_ 7 [] 0 0 [] r.2 r.1 [])
def AJ(l:List Nd):Nd:=c_ 7 [] 0 0 [] (labels l.length) l []
def fp:PM Nd:=fun s=>
 if du X s=true then
  let t:=V X s
  (if t.kind=4 then pure (c_ 3 [] t.num 0 [] [] [] [])
  else if t.kind=6 then pure (c_ 4 [] 0 t.n [] [] [] [])
  else if t.kind=7 then pure (c_ 5 [] 0 0 t.text [] [] [])
  else if t.kind=8 then
   (if t.text=[40] then(do
     let l<-gd X n [41] f.pat
     match l with
     |[a]=>pure a
     |_=>f.lU l)
   else if t.text=[91] then(do
    let l<-gd X n [93] f.pat
    pure (c_ 10 [] 0 0 [] [] l []))
   else f.l7 t.text)
  else pure (named t.text):PM Nd) {s with i:=s.i+1}
 else eo X s
def jg:PM Nd:=fun s=>
 let t:=V X s
 (do
   let x<-fp X f n
   let s'<-PM.get
   if(t.kind=1\/t.kind=2\/t.kind=8/\t.text=[111,112])/\du X s'=true then do
    let y<-fp X f n
    pure (c_ 6 (match x with|_::.v (.string b)::_=>b.data.toList|_=>[]) 0 0 [] [] [y] [])
   else pure x:PM Nd) s
def fq:Nat->Nd->PM Nd
 |0,_=>PM.none
 |n+1,x=>do
  let o<-a7 X [58]
  if o then do
   let t<-f.ty
   fq n (c_ 9 [] 0 0 [] [] [x] [t])
  else pure x
def hR(s:al):Bool:=match X.ts[s.i+1]? with|some u=>u.kind==8&&u.text==[97,115]|none=>false
def jY(nm:ak):PM Nd:=do
 step1
 step1
 let y<-f.pat
 pure (c_ 8 nm 0 0 [] [] [y] [])
def nC:PM Nd:=fun s=>
 let t:=V X s
 (do
   let x<-(if(t.kind=1/\dw X false s=true)/\hR X s=true then f.mG t.text else f.e8 0 false:PM Nd)
   fq X f n x:PM Nd) s
def fg(level:Int)(kr EL:Bool)(again:Int->Bool->PM Nd)(two:ak->Nd->Nd->Nd):Nat->Nd->Int×Bool->PM Nd
 |0,_,_=>PM.none
 |n+1,a,last=>fun s=>
  let t:=V X s
  if ¬(t.kind=1\/t.kind=2\/EL=true/\ay X [[61]] s=true) then some (.ok (a,s))
  else match j2 s.sc t.text with
   |none=>some (.ok (a,s))
   |some g=>
    if g.level<0\/g.level<level then some (.ok (a,s))
    else if 1000<=g.level then none
    else if g.level=last.1/\g.right≠last.2\/kr=true/\g.level=level/\g.right=false then some (.error (41,t.pos))
    else(do
     step1
     let b<-again (if g.right then g.level else g.level+1) g.right
     fg level kr EL again two n (two t.text a b) (g.level,g.right):PM Nd) s
def Et(nm:ak)(a b:Nd):Nd:=c_ 6 nm 0 0 [] [] [c_ 7 [] 0 0 [] (labels 2) [a,b] []] []
def ic(level:Int)(kr:Bool):PM Nd:=do
 let a<-jg X f n
 fg X level kr false f.e8 Et n a (10,false)
def tC(nm:ak):Nd:=b9 5 nm 0 0 0 [] [] [] [] [] []
def fh(kind:Int)(kids:List Nd):Nd:=b9 kind [] 0 0 0 [] [] kids [] [] []
def nN:PM Nd:=do
 let x<-f.pat
 a8 X [61,62]
 let e<-f.exp
 pure (x++e)
def kd:PM (List Nd):=df X n [124] (nN X f)
def ed(s:al):Bool:=(V X s).kind==4||(V X s).kind==5||(V X s).kind==6||(V X s).kind==7||ea X s||ay X [[40],[91],[123],[111,112],[108,101,116],[35]] s
def kg:List ak:=[[114,97,105,115,101],[105,102],[119,104,105,108,101],[99,97,115,101],[102,110]]
def lL(l:List Nd):Nd:=match l with|[a]=>a|_=>fh 14 l
def paren:PM Nd:=do
 let o<-a7 X [41]
 if o then pure (fh 6 []) else do
  let e<-f.exp
  let hX<-a7 X [59]
  let r<-(if hX then f.lS e
   else do
    let OB<-a7 X [44]
    if OB then f.lC e else pure e)
  a8 X [41]
  pure r
def iw(e:Nd):PM Nd:=do
 let l<-df X n [59] f.exp
 pure (lL (e::l))
def ix(e:Nd):PM Nd:=do
 let l<-df X n [44] f.exp
 pure (b9 6 [] 0 0 0 [] (labels (l.length+1)) (e::l) [] [] [])
def iJ(ls:List ak):PM (Nd×List ak):=do
 let a<-label X
 a8 X [61]
 let t<-f.exp
 pure (t,ls++[a])
def jo(w:ak):PM Nd:=
 if w=[111,112] then(do let a<-name X true;pure (tC a))
 else if w=[35] then(do let a<-label X;pure (b9 7 a 0 0 0 [] [] [] [] [] []))
 else if w=[108,101,116] then(do
  let IE<-PM.get
  let ds<-f.dr false
  a8 X [105,110]
  let l<-df X n [59] f.exp
  a8 X [101,110,100]
  let now<-PM.get
  PM.set {now with sc:=IE.sc}
  pure (b9 13 [] 0 0 0 [] [] [lL l] [] ds []))
 else if w=[91] then(do
  let l<-gd X n [93] f.exp
  pure (fh 20 l))
 else do
  let r<-hF X n [125] f.kk []
  pure (b9 6 [] 0 0 0 [] r.2 r.1 [] [] [])
def atom:PM Nd:=fun s=>
 if ed X s=true then
  let t:=V X s
  (if t.kind=4 then pure (b9 1 [] t.num 0 0 [] [] [] [] [] [])
  else if t.kind=5 then pure (b9 2 [] 0 0 t.bits [] [] [] [] [] [])
  else if t.kind=6 then pure (b9 3 [] 0 t.n 0 [] [] [] [] [] [])
  else if t.kind=7 then pure (b9 4 [] 0 0 0 t.text [] [] [] [] [])
  else if t.kind=8 then(if t.text=[40] then paren X f else f.mF t.text)
  else pure (tC t.text):PM Nd) {s with i:=s.i+1}
 else eo X s
def j':Nat->Nd->PM Nd
 |0,_=>PM.none
 |m+1,a=>fun s=>
  if ed X s=true then(do
   let b<-atom X f
   j' m (fh 8 [a,b]):PM Nd) s
  else some (.ok (a,s))
def app:PM Nd:=do
 let a<-atom X f
 j' X f n a
def Eu(nm:ak)(a b:Nd):Nd:=fh 8 [tC nm,b9 6 [] 0 0 0 [] (labels 2) [a,b] [] [] []]
def ie(level:Int)(kr:Bool):PM Nd:=do
 let a<-app X f n
 fg X level kr true f.fB Eu n a (10,false)
def gV:Nat->Nd->PM Nd
 |0,_=>PM.none
 |n+1,x=>do
  let o<-a7 X [58]
  if o then do
   let t<-f.ty
   gV n (b9 19 [] 0 0 0 [] [] [x] [] [] [t])
  else pure x
def iz:PM Nd:=do
 let e<-f.fB 0 false
 gV X f n e
def h_(w:ak):PM Nd:=
 if w=[105,102] then(do
  let a<-f.exp
  a8 X [116,104,101,110]
  let b<-f.exp
  a8 X [101,108,115,101]
  let c<-f.exp
  pure (fh 11 [a,b,c]))
 else if w=[119,104,105,108,101] then(do
  let a<-f.exp
  a8 X [100,111]
  let b<-f.exp
  pure (fh 12 [a,b]))
 else if w=[99,97,115,101] then(do
  let a<-f.exp
  a8 X [111,102]
  let r<-f.iq
  pure (b9 10 [] 0 0 0 [] [] [a] r [] []))
 else do
  let r<-f.iq
  pure (b9 9 [] 0 0 0 [] [] [] r [] [])
def ahead:PM Nd:=fun s=>
 let w:=(V X s).text
 (if w=[114,97,105,115,101] then(do let a<-f.exp;pure (fh 15 [a])) else f.hd w:PM Nd) {s with i:=s.i+1}
def j3(word:ak)(kind:Int)(one again:PM Nd):PM Nd:=do
 let a<-one
 let o<-a7 X word
 if o then do
  let h<-iE X kg
  if h then do
   let b<-ahead X f
   pure (fh kind [a,b])
  else do
   let b<-again
   pure (fh kind [a,b])
 else pure a
def oa:PM Nd:=j3 X f [111,114,101,108,115,101] 18 f.both f.either
def sC:PM Nd:=j3 X f [97,110,100,97,108,115,111] 17 (iz X f n) f.both
def gH:Nat->Nd->PM Nd
 |0,_=>PM.none
 |m+1,e=>do
  let o<-a7 X [104,97,110,100,108,101]
  if o then do
   let r<-f.iq
   gH m (b9 16 [] 0 0 0 [] [] [e] r [] [])
  else pure e
def mM:PM Nd:=do
 let h<-iE X kg
 if h then ahead X f else do
  let e<-f.either
  gH X f n e
def nD:PM Nd:=do
 let _<-a7 X [111,112]
 let a<-name X true
 let t<-qf X f
 pure (qS a t)
def jA:PM Nd:=do
 let v<-vars X n
 let a<-name X false
 a8 X [61]
 let l<-df X n [124] (nD X f)
 pure (mkData v a l)
def cg:Nat->List Nd->PM (List Nd)
 |0,_=>PM.none
 |m+1,l=>fun s=>
  if du X s=true then(do
   let x<-fp X f n
   cg m (l++[x]):PM (List Nd)) s
  else some (.ok (l,s))
def iK(k:ak×Int):PM (Nd×(ak×Int)):=do
 let _<-a7 X [111,112]
 let s<-PM.get
 if ¬k.1=[]/\dw X true s=true/\¬(V X s).text=k.1 then eo X else do
  let a<-name X true
  let l<-cg X f n n []
  if l=[]\/¬k.1=[]/\¬(l.length:Int)=k.2 then eo X else do
   let o<-a7 X [58]
   let t<-(if o then(do let t<-f.ty;pure [t]) else pure []:PM (List Nd))
   a8 X [61]
   let e<-f.exp
   pure (gz l (if o then b9 19 [] 0 0 0 [] [] [e] [] [] t else e),(a,(l.length:Int)))
def lH:PM Nd:=do
 let r<-list X n [124] (iK X f n) ([],0)
 pure (mkFun r.2.1 r.2.2 r.1)
def gq:Nat->List Nd->PM (List Nd)
 |0,_=>PM.none
 |m+1,l=>do
  let e<-a7 X [101,110,100]
  if e then pure l else do
   let hX<-a7 X [59]
   if hX then gq m l else do
    let v<-a7 X [118,97,108]
    if v then do
     let a<-name X true
     a8 X [58]
     let t<-f.ty
     gq m (l++[fl 1 a (mkData [] [] []) [t]])
    else do
     let ty<-a7 X [116,121,112,101]
     if ty then do
      let vs<-vars X n
      let a<-name X false
      let eq<-a7 X [61]
      let t<-(if eq then(do let t<-f.ty;pure [t]) else pure []:PM (List Nd))
      gq m (l++[fl 2 [] (mkData vs a []) t])
     else do
      let dt<-a7 X [100,97,116,97,116,121,112,101]
      if dt then do
       let d<-jA X f n
       gq m (l++[fl 3 [] d []])
      else do
       let ex<-a7 X [101,120,99,101,112,116,105,111,110]
       if ex then do
        let a<-name X false
        let t<-qf X f
        gq m (l++[fl 4 a (mkData [] [] []) t])
       else eo X
def jN:PM (List Nd):=gq X f n n []
def gm:PM Nd:=do
 let a<-name X false
 let qg<-iE X [[58,62]]
 let o<-a7 X [58,62]
 let o<-(if o then pure true else a7 X [58]:PM Bool)
 let sg<-(if o then(do
     let s<-a7 X [115,105,103]
     if s then do
      let l<-jN X f n
      pure [j1 [] l]
     else do
      let b<-name X false
      pure [j1 b []]) else pure []:PM (List Nd))
 a8 X [61]
 let st<-a7 X [115,116,114,117,99,116]
 if st then do
  let IE<-PM.get
  let ds<-f.dr true
  let now<-PM.get
  PM.set {now with sc:=IE.sc}
  a8 X [101,110,100]
  pure (d_ {kind:=6,name:=a,qg:=qg,sigs:=sg,dr:=ds})
 else do
  let b<-gR X
  pure (d_ {kind:=6,name:=a,qg:=qg,sigs:=sg,names:=[b]})
def l0(w:ak):PM Nd:=
 if w=[100,97,116,97,116,121,112,101] then(do
  let l<-df X n [97,110,100] f.data
  pure (d_ {kind:=3,iG:=l}))
 else if w=[116,121,112,101] then(do
  let v<-f.vars
  let a<-name X false
  a8 X [61]
  let t<-f.ty
  pure (d_ {kind:=4,iG:=[mkData v a []],types:=[t]}))
 else if w=[101,120,99,101,112,116,105,111,110] then(do
  let a<-name X false
  let t<-qf X f
  pure (d_ {kind:=5,name:=a,types:=t}))
 else if w=[115,116,114,117,99,116,117,114,101] then f.kS
 else if w=[115,105,103,110,97,116,117,114,101] then(do
  let a<-name X false
  a8 X [61]
  a8 X [115,105,103]
  let l<-f.specs
  pure (d_ {kind:=7,name:=a,specs:=l}))
 else do
  let l<-f.jK
  jh l (-1) false
  pure (d_ {kind:=9,names:=l})
def ga:PM Int:=fun s=>
 let t:=V X s
 if t.kind=4 then(if t.text.length=1 then some (.ok ((((t.text[0]?.getD 0).toNat:Int)-48),{s with i:=s.i+1})) else eo X s) else some (.ok (0,s))
def kR(w:ak):PM Nd:=
 if w=[118,97,108] then(do
  let p<-f.pat
  a8 X [61]
  let e<-f.exp
  pure (d_ {kind:=1,oW:=[p],qz:=[e]}))
 else if w=[102,117,110] then(do
  let l<-df X n [97,110,100] (lH X f n)
  pure (d_ {kind:=2,l3:=l}))
 else if w=[105,110,102,105,120]\/w=[105,110,102,105,120,114] then(do
  let lv<-ga X
  let l<-f.jK
  jh l lv (decide (w=[105,110,102,105,120,114]))
  pure (d_ {kind:=8,names:=l,n:=lv,right:=decide (w=[105,110,102,105,120,114])}))
 else f.oD w
def fz:Nat->PM Unit
 |0=>PM.none
 |m+1=>do
  let o<-a7 X [59]
  if o then fz m else pure ()
def eR(top:Bool):Nat->List Nd->PM (List Nd)
 |0,_=>PM.none
 |m+1,l=>do
  fz X n
  let a<-iE X [[118,97,108],[102,117,110],[100,97,116,97,116,121,112,101],[116,121,112,101],[101,120,99,101,112,116,105,111,110],[105,110,102,105,120],[105,110,102,105,120,114],[110,111,110,102,105,120]]
  let b<-iE X [[115,116,114,117,99,116,117,114,101],[115,105,103,110,97,116,117,114,101]]
  if ¬(a=true\/top=true/\b=true) then pure l else do
   let t<-next X
   step1
   let d<-kR X f n t.text
   eR top m (l++[d])
def vH(top:Bool):PM (List Nd):=eR X f n top n []
def k':Fs:=⟨qh X f n,nC X f n,mM X f n,vH X f n,ic X f n,ie X f n,oa X f,sC X f n,jz X f,iI X f,iJ X f,kd X f n,jA X f n,gm X f n,jN X f n,vars X n,h_ X f,jo X f n,h' X f n,iw X f n,ix X f n,fun l=>pure (AJ l),names X n,l0 X f n,jY f⟩
def vi:Fs:=⟨PM.none,PM.none,PM.none,fun _=>PM.none,fun _ _=>PM.none,fun _ _=>PM.none,PM.none,PM.none,fun _=>PM.none,fun _=>PM.none,fun _=>PM.none,PM.none,PM.none,PM.none,PM.none,PM.none,fun _=>PM.none,fun _=>PM.none,fun _=>PM.none,fun _=>PM.none,fun _=>PM.none,fun _=>PM.none,PM.none,fun _=>PM.none,fun _=>PM.none⟩
end
def iZ(X:Tx):Nat->Fs
 |0=>vi
 |n+1=>k' X (iZ X n) n
def ez:List Fx:=[⟨[42],7,false⟩,⟨[47],7,false⟩,⟨[100,105,118],7,false⟩,⟨[109,111,100],7,false⟩,⟨[43],6,false⟩,⟨[45],6,false⟩,⟨[94],6,false⟩,⟨[58,58],5,true⟩,⟨[64],5,true⟩,⟨[61],4,false⟩,⟨[60,62],4,false⟩,⟨[60],4,false⟩,⟨[60,61],4,false⟩,⟨[62],4,false⟩,⟨[62,61],4,false⟩,⟨[58,61],3,false⟩,⟨[111],3,false⟩]
def nt(X:Tx)(f:Fs):PM (List Nd):=do
 let l<-f.dr true
 let s<-PM.get
 if s.i<X.ts.length then eo X else pure l
def gP(X:Tx)(f:Fs):Option (Except (Nat×Nat) (List Nd)):=
 match nt X f ⟨0,ez⟩ with
 |none=>none
 |some (.error e)=>some (.error e)
 |some (.ok (l,_))=>some (.ok l)
end
def wid:Tr->Nat
 |.v _=>1
 |.kN _=>2
 |.sl _=>1
def gn:Nd->Nat
 |[]=>0
 |t::r=>wid t+gn r
mutual
def b8(w:World)(F:Nat->Prop):Tr->List Value->Prop
 |.v x,cs=>cs=[x]
 |.kN z,cs=>∃ sg a n c f,cs=[.bool sg,.slice a n c]/\Us w a n c f/\n<=1048576/\Nm f n/\(n=0->sg=false)/\gw sg (val f n)=z/\∀ b off,a=some ⟨b,off,none⟩->0<c->F b
 |.sl es,cs=>∃ a c,cs=[.slice a es.length c]/\es.length<=c/\c<=maxLen/\(es=[]\/∃ b off,a=some ⟨b,off,none⟩/\F b/\gZ w F b off es)
def ah(w:World)(F:Nat->Prop):List Tr->List Value->Prop
 |[],cs=>cs=[]
 |t::r,cs=>∃ c1 c2,cs=c1++c2/\b8 w F t c1/\ah w F r c2
def gZ(w:World)(F:Nat->Prop)(b off:Nat):List (List Tr)->Prop
 |[]=>True
 |r::rs=>(∃ cs,(∀ j,j<cs.length->w.cell? ⟨b,off+j,none⟩=cs[j]?)/\ah w F r cs)/\gZ w F b (off+gn r) rs
end
theorem b8.len{F:Nat->Prop}{t:Tr}{cs:List Value}(h:b8 w F t cs):cs.length=wid t:=by
 cases t with
 |v x=>unfold b8 at h;rw[h];rfl
 |kN z=>unfold b8 at h;obtain⟨b,a,n,c,f,rfl,_⟩:=h;rfl
 |sl es=>unfold b8 at h;obtain⟨a,c,rfl,_⟩:=h;rfl
theorem ah.len{w:World}{F:Nat->Prop}:∀ {r:List Tr} {a:List Value},ah w F r a->a.length=gn r
 |[],a,h=>by unfold ah at h;rw[h];rfl
 |t::r,a,h=>by
  unfold ah at h;obtain⟨d,c2,rfl,b,c⟩:=h;rw[iQ,b.len,ah.len c];rfl
mutual
theorem b8.a6{w w':World}{F G:Nat->Prop}(g:∀ b,F b->G b)(q:∀ b d v,F b->w.cell? ⟨b,d,none⟩=some v->w'.cell? ⟨b,d,none⟩=some v):∀ {t:Tr} {k:List Value},b8 w F t k->b8 w' G t k
 |.v x,k,h=>by unfold b8 at h⊢;exact h
 |.kN z,k,h=>by
  unfold b8 at h⊢;obtain⟨D,a,n,c,f,e,u,A,m,r,C,p⟩:=h;refine⟨D,a,n,c,f,e,⟨u.le,u.mx,u.lm,fun i s=>?_⟩,A,m,r,C,fun b d j l=>g b (p b d j l)⟩;obtain⟨b,d,j,l⟩:=u.cell i s;exact⟨b,d,j,q b _ _ (p b d j O) l⟩
 |.sl es,k,h=>by
  unfold b8 at h⊢;obtain⟨a,c,e,y,m,h⟩:=h;refine⟨a,c,e,y,m,?_⟩
  rcases h with h|⟨b,d,j,o,B⟩
  ·exact .inl h
  ·exact .inr ⟨b,d,j,g b o,gZ.a6 g q o B⟩
theorem ah.a6{w w':World}{F G:Nat->Prop}(a:∀ b,F b->G b)(f:∀ b c v,F b->w.cell? ⟨b,c,none⟩=some v->w'.cell? ⟨b,c,none⟩=some v):∀ {r:List Tr} {d:List Value},ah w F r d->ah w' G r d
 |[],d,h=>by unfold ah at h⊢;exact h
 |t::r,d,h=>by
  unfold ah at h⊢;obtain⟨g,c2,e,i,j⟩:=h;exact⟨g,c2,e,b8.a6 a f i,ah.a6 a f j⟩
theorem gZ.a6{w w':World}{F G:Nat->Prop}(c:∀ b,F b->G b)(d:∀ b a v,F b->w.cell? ⟨b,a,none⟩=some v->w'.cell? ⟨b,a,none⟩=some v){b:Nat}(f:F b):∀ {a:Nat} {e:List (List Tr)},gZ w F b a e->gZ w' G b a e
 |a,[],h=>by unfold gZ;trivial
 |a,r::e,h=>by
  unfold gZ at h⊢;obtain⟨⟨i,l,m⟩,k⟩:=h;refine⟨⟨i,fun j g=>?_,ah.a6 c d m⟩,gZ.a6 c d f k⟩;have:=l j g;rw[fv g] at this⊢;exact d b _ _ f this
end
theorem gZ.at{w:World}{F:Nat->Prop}{b s:Nat}:∀ {a:Nat} {e:List (List Tr)},gZ w F b a e->(∀ r∈e,gn r=s)->∀ (i:Nat) (r:List Tr),e[i]?=some r->
 ∃ c,c.length=s/\(∀ j,j<s->w.cell? ⟨b,a+i*s+j,none⟩=c[j]?)/\ah w F r c
 |a,[],h,f,i,r,hi=>by simp at hi
 |a,q::e,h,f,i,r,hi=>by
  unfold gZ at h;obtain⟨⟨c,p,d⟩,l⟩:=h;have t:=f q (List.mem_cons_self ..)
  rcases i with _|i
  ·simp only [List.getElem?_cons_zero,Option.some.injEq] at hi;subst hi;have u:=d.len;exact⟨c,O,fun j g=>by rw[uN,qv];exact p j O,d⟩
  ·rw[D'] at hi;obtain⟨k,m,n,o⟩:=gZ.at l (fun r d=>f r (Cf _ d)) i r hi;refine⟨k,m,fun j g=>?_,o⟩;have:=n j g;rw[t] at this;rw[show a+(i+1)*s+j=a+s+i*s+j by rw[jd];omega];exact this
end Go.Proofs.YtkblonfmjlopaaaGreatDoor
