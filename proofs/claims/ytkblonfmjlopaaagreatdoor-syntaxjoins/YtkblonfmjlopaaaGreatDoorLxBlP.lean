/-
  Reserved words: the pure law.
-/
import Derived.Test.YtkblonfmjlopaaaGreatDoorSxT
set_option linter.all false
set_option maxRecDepth 1000000
set_option maxHeartbeats 16000000
namespace Go.Proofs.YtkblonfmjlopaaaGreatDoor
open Go Go.RowKit
variable {s:ByteArray}{code l6:Int}{ts:List Tok}{b c i k lc ln p:Nat}{la:Option Addr}{w w':World}
def uk:List UInt8:=[32,97,110,100,32,97,110,100,97,108,115,111,32,97,115,32,99,97,115,101,32,100,97,116,97,116,121,112,101,32,100,111,32,101,108,115,101,32,101,110,100,32,101,120,99,101,112,116,105,111,110,32,102,110,32,102,117,110,32,104,97,110,100,108,101,32,105,102,32,105,110,32,105,110,102,105,120,32,105,110,102,105,120,114,32,108,101,116,32,110,111,110,102,105,120,32,111,102,32,111,112,32,111,114,101,108,115,101,32,114,97,105,115,101,32,115,105,103,32,115,105,103,110,97,116,117,114,101,32,115,116,114,117,99,116,32,115,116,114,117,99,116,117,114,101,32,116,104,101,110,32,116,121,112,101,32,118,97,108,32,119,104,105,108,101,32]
def um:List UInt8:=[32,45,62,32,61,62,32,58,32,58,62,32,61,32,124,32,35,32]
def ru:List (List UInt8):=[[97,110,100],[97,110,100,97,108,115,111],[97,115],[99,97,115,101],[100,97,116,97,116,121,112,101],[100,111],[101,108,115,101],[101,110,100],[101,120,99,101,112,116,105,111,110],[102,110],[102,117,110],[104,97,110,100,108,101],[105,102],[105,110],[105,110,102,105,120],[105,110,102,105,120,114],[108,101,116],[110,111,110,102,105,120],[111,102],[111,112],[111,114,101,108,115,101],[114,97,105,115,101],[115,105,103],[115,105,103,110,97,116,117,114,101],[115,116,114,117,99,116],[115,116,114,117,99,116,117,114,101],[116,104,101,110],[116,121,112,101],[118,97,108],[119,104,105,108,101],[45,62],[61,62],[58],[58,62],[61],[124],[35],[40],[41],[91],[93],[123],[125],[44],[59],[95]]
def pa(l:List UInt8):Bool:=ru.contains l
def sr:List UInt8->List (List UInt8)
 |[]=>[]
 |c::l=>(if c=32 then[l.takeWhile (·!= 32)] else[])++sr l
theorem AP{l r X:List UInt8}(a:l.contains 32=false)(h:X=l++32::r):X.takeWhile (·!= 32)=l:=by
 subst h
 induction l with
 |nil=>simp
 |cons c l d=>
  simp only [List.contains_cons,Bool.or_eq_false_iff] at a
  have b:(c != 32)=true:=by
   have:=a.1;simp only [beq_eq_false_iff_ne,ne_eq] at this;simp only [bne_iff_ne,ne_eq];exact fun h=>this h.symm
  rw[uI,List.takeWhile_cons,if_pos b,d a.2]
theorem ss{l:List UInt8}(d:l.contains 32=false):∀ W:List UInt8,Lib.contains W (32::(l++[32]))=true->l∈sr W
 |[],h=>by simp[Lib.contains,Lib.index] at h
 |c::W,h=>by
  unfold Lib.contains at h;rw[Lib.index] at h
  split at h
  ·rename_i f;obtain⟨r,a⟩:=List.isPrefixOf_iff_prefix.1 f;simp only [List.cons_append,List.append_assoc,List.nil_append,List.cons.injEq] at a;obtain⟨rfl,a⟩:=a;unfold sr;rw[if_pos rfl,AP d a.symm];simp
  ·have e:Lib.contains W (32::(l++[32]))=true:=by
    unfold Lib.contains
    split at h
    ·simp at h
    ·rename_i b;have:=Lib.index_ge W (32::(l++[32]));simp only [beq_iff_eq] at b;simp only [decide_eq_true_eq];omega
   have:=ss d W e;unfold sr;exact Ce _ this
theorem y9:∀ x∈sr uk,x=[]\/pa x=true:=by decide+kernel
theorem y_:∀ x∈sr um,x=[]\/pa x=true:=by decide+kernel
theorem Io:∀ c∈oU,pa [c]=true:=by decide+kernel
theorem AQ{c:UInt8}:∀ l:List UInt8,(0<=Lib.indexByte l c)↔c∈l
 |[]=>by simp[Lib.indexByte]
 |b::l=>by
  have f:=AQ (c:=c) l;have g:=Lib.indexByte_ge l c;rw[Lib.indexByte]
  by_cases a:b=c
  ·subst a;simp
  ·have d:(b==c)=false:=by simpa using a
   rw[if_neg (by rw[d];simp)]
   by_cases e:Lib.indexByte l c=-1
   ·rw[if_pos (by simpa using e)]
    constructor
    ·intro h;omega
    ·intro h;simp only [List.mem_cons] at h
     rcases h with h|h
     ·exact absurd h.symm a
     ·have:=f.2 h;omega
   ·rw[if_neg (by simpa using e)]
    constructor
    ·intro _;exact Cf _ (f.1 O)
    ·intro _;omega
def nr(l:List UInt8):Bool:=!l.isEmpty&&!decide (0<=Lib.indexByte l 32)&&(Lib.contains uk (32::(l++[32]))||Lib.contains um (32::(l++[32]))||decide (l.length=1)&&Lib.contains oU l)
theorem Ip:∀ x∈ru,nr x=true:=by decide+kernel
theorem Iq{l:List UInt8}:pa l=true↔l∈ru:=by
 unfold pa;exact List.contains_iff_mem
theorem contains_one{W:List UInt8}{c:UInt8}:Lib.contains W [c]=true->c∈W:=by
 induction W with
 |nil=>intro h;simp[Lib.contains,Lib.index] at h
 |cons b W e=>
  intro h;unfold Lib.contains at h;rw[Lib.index] at h
  split at h
  ·rename_i d;simp at d;simp[d]
  ·have f:=Lib.index_ge W [c]
   split at h
   ·simp at h
   ·rename_i a;simp only [beq_iff_eq] at a;exact Cf _ (e (by unfold Lib.contains;simp only [decide_eq_true_eq];omega))
theorem Ka(l:List UInt8):nr l=pa l:=by
 rcases b:pa l with _|_
 ·rcases d:nr l with _|_
  ·rfl
  ·exfalso;unfold nr at d;simp only [Bool.and_eq_true,Bool.or_eq_true,Bool.not_eq_true',List.isEmpty_eq_false_iff,decide_eq_false_iff_not,decide_eq_true_eq] at d;obtain⟨⟨e,g⟩,a⟩:=d
   have f:l.contains 32=false:=by
    rcases i:l.contains 32 with _|_
    ·rfl
    ·exact absurd ((AQ l).2 (List.contains_iff_mem.1 i)) g
   rcases a with(a|a)|a
   ·rcases y9 l (ss f _ a) with h|h
    ·exact e h
    ·rw[b] at h;cases h
   ·rcases y_ l (ss f _ a) with h|h
    ·exact e h
    ·rw[b] at h;cases h
   ·obtain⟨c,rfl⟩:=List.length_eq_one_iff.1 a.1;have:=Io c (contains_one a.2);rw[b] at this;cases this
 ·exact Ip l (Iq.1 b)
def sub(s:ByteArray)(i k:Nat):List UInt8:=(s.extract i k).data.toList
abbrev uU:=Except (Nat×Nat) (Tok×Nat)
def gX(s:ByteArray)(i k kind:Nat):uU:=if 64<k-i then .error (32,i) else .ok (⟨kind,sub s i k,0,0,0,i⟩,k)
def hJ(s:ByteArray):Nat->Nat->Nat->uU
 |0,i,k=>gX s i k 1
 |m+1,i,k=>
  if bt s k=46/\isLet (bt s (k+1))=true then
   if pa (sub s (k+1) (cn dx s (k+1)))=true then .error (32,k+1) else hJ s m i (cn dx s (k+1))
  else gX s i k 1
def lR(s:ByteArray)(i:Nat):uU:=
 if pa (sub s i (cn dx s i))=true then .ok (⟨8,sub s i (cn dx s i),0,0,0,i⟩,cn dx s i)
 else hJ s (s.size-cn dx s i) i (cn dx s i)
def gF(s:ByteArray)(i:Nat):Nat:=cn bm s (if bt s i=126 then i+1 else i)
def iC(s:ByteArray)(w:Nat):Nat:=if bt s w=46/\bm (bt s (w+1))=true then cn bm s (w+1) else w
def lr(s:ByteArray)(k:Nat):Nat:=if bt s (k+1)=126 then k+2 else k+1
def jf(s:ByteArray)(k:Nat):Nat:=if bt s k=101 then(if bm (bt s (lr s k))=true then cn bm s (lr s k) else k) else k
def uV(s:ByteArray)(i k:Nat):Int:=if bt s i=126 then-((iO 0 (sub s (i+1) k):Nat):Int) else((iO 0 (sub s i k):Nat):Int)
def kX(l:List UInt8):List UInt8:=l.map fun c=>if c=126 then 45 else c
def h7(F:List UInt8->Nat)(s:ByteArray)(i:Nat):uU:=
 let k:=jf s (iC s (gF s i))
 if k=gF s i then(if 2000<k-i then .error (32,i) else .ok (⟨4,sub s i k,uV s i k,0,0,i⟩,k))
 else if 100<k-i then .error (32,i) else .ok (⟨5,sub s i k,0,F (kX (sub s i k)),0,i⟩,k)
def gT(s:ByteArray)(k:Nat):Nat×Nat:=
 if bt s k=110 then(10,1) else if bt s k=116 then(9,1) else if bt s k=92\/bt s k=34 then(bt s k,1)
 else if k+3<=cn bm s k then
  (let n:=(bt s k-48)*100+(bt s (k+1)-48)*10+(bt s (k+2)-48)
   if n<256 then(n,3) else(0,0))
 else(0,0)
def j5(s:ByteArray):Nat->Nat->List UInt8->Except (Nat×Nat) (List UInt8×Nat)
 |0,_,_=>.error (31,s.size)
 |m+1,k,out=>
  if s.size<=k then .error (31,s.size)
  else if bt s k=34 then .ok (out,k+1)
  else if bt s k<32\/126<bt s k then .error (32,k)
  else if bt s k≠92 then j5 s m (k+1) (out++[UInt8.ofNat (bt s k)])
  else if(gT s (k+1)).2=0 then .error (32,k)
  else j5 s m (k+1+(gT s (k+1)).2) (out++[UInt8.ofNat (gT s (k+1)).1])
def gj(s:ByteArray)(i:Nat):Except (Nat×Nat) (List UInt8×Nat):=j5 s (s.size+1-(i+1)) (i+1) []
def gJ(F:List UInt8->Nat)(s:ByteArray)(i:Nat):uU:=
 let c:=bt s i
 if isLet c=true then lR s i
 else if bm c=true\/c=126/\bm (bt s (i+1))=true then h7 F s i
 else if c=34 then(match gj s i with|.error e=>.error e|.ok (x,k)=>.ok (⟨7,x,0,0,0,i⟩,k))
 else if c=35/\bt s (i+1)=34 then
  (match gj s (i+1) with
   |.error e=>.error e
   |.ok (x,k)=>if x.length≠1 then .error (32,i) else .ok (⟨6,x,0,0,(x[0]?.getD 0).toNat,i⟩,k))
 else if c=39 then
  (let k:=if bt s (i+1)=39 then i+2 else i+1
   if isLet (bt s k)=true then gX s i (cn dx s k) 3 else .error (30,i))
 else if yR c=true then .ok (⟨8,sub s i (i+1),0,0,0,i⟩,i+1)
 else if fm c=true then gX s i (cn fm s i) (if pa (sub s i (cn fm s i))=true then 8 else 2)
 else .error (30,i)
def iY(s:ByteArray):Nat->Nat->Nat->Option Nat
 |0,_,i=>some i
 |m+1,deep,i=>
  if bt s i=40/\bt s (i+1)=42 then iY s m (deep+1) (i+2)
  else if 0<deep/\bt s i=42/\bt s (i+1)=41 then iY s m (deep-1) (i+2)
  else if 0<deep/\s.size<=i then none
  else if 0<deep\/i<s.size/\(bt s i=32\/bt s i=9\/bt s i=10\/bt s i=13) then iY s m deep (i+1)
  else some i
def blank(s:ByteArray)(i:Nat):Option Nat:=iY s (s.size+2-i) 0 i
def ov(F:List UInt8->Nat)(s:ByteArray):Nat->Nat->List Tok->Except (Nat×Nat) (List Tok)
 |0,_,ts=>.ok ts
 |m+1,i,ts=>
  match blank s i with
  |none=>.error (31,s.size)
  |some k=>if s.size<=k then .ok ts else
   match gJ F s k with
   |.error e=>.error e
   |.ok (t,n)=>ov F s m n (ts++[t])
def j6(F:List UInt8->Nat)(s:ByteArray):Except (Nat×Nat) (List Tok):=
 if 65536<s.size then .error (2,0) else ov F s (s.size+1) 0 []
def St(w:World)(b:Nat)(s:ByteArray)(p:Nat)(ts:List Tok)(base:Nat):Prop:=
 ∃ la lc,Sc w b s p la ts.length lc 0 0/\iR w la ts.length lc ts/\dh w base la (lc*7)/\base<=b/\(∀ x off,la=some ⟨x,off,none⟩->b<x/\x<w.heap.size)/\ts.length<=p
def Out(w w':World)(b:Nat)(s:ByteArray)(ts:List Tok)(base:Nat)(e:Ending)(r:uU):Prop:=
 e=.returned (.tuple #[])/\Below base w w'/\e6 w w'/\
 match r with
 |.ok (t,q)=>St w' b s q (ts++[t]) base
 |.error (c,q)=>∃ p la ln lc,Sc w' b s p la ln lc (c:Nat) (q:Nat)
theorem iA(b:Nat)(s:ByteArray)(p:Nat)(la:Option Addr)(ln lc:Nat)(code l6:Int)(c q:Int)(w:World)(a:Nat)(j:a<=b)(h:Sc w b s p la ln lc code l6):
 Calls Tryz.prog 48 #[.pointer (some ⟨b,0,none⟩),.int .i64 c,.int .i64 q] w fun e w'=>e=.returned (.tuple #[])/\Sc w' b s p la ln lc c q/\Below a w w'/\e6 w w':=by
 obtain⟨f,k,l,c2,i,m,g⟩:=h;have n:=g 3;have r:=g 4;go_enter Tryz.func48,Tryz.ntmps48
 go_wp2
 go_end0;have u:e6 w (w.setCell ⟨b,3,none⟩ (.int .i64 c)):=(e6.refl w).set i (fun _ h=>by cases h) _;have d:(w.setCell ⟨b,3,none⟩ (.int .i64 c)).cell? ⟨b,4,none⟩=some (.int .i64 l6):=by rw[eb _ _ _ _ ih];exact m
 refine⟨rfl,⟨by simpa using f,?_,?_,?_,?_,?_,fun o=>by simpa using g o⟩,((eA a w).setCell j _).setCell j _,u.set d (fun _ h=>by cases h) _⟩
 ·rw[eb _ _ _ _ ih,eb _ _ _ _ ih];exact k
 ·rw[eb _ _ _ _ ih,eb _ _ _ _ ih];exact l
 ·rw[eb _ _ _ _ ih,eb _ _ _ _ ih];exact c2
 ·rw[eb _ _ _ _ ih,kA _ _ _ i]
 ·rw[kA _ _ _ d]
theorem Sc.below(h:Sc w b s p la ln lc code l6)(k:Below w.heap.size w w'):Sc w' b s p la ln lc code l6:=
 ⟨gi h.lt k.size,(k.cell (p:=⟨b,0,none⟩) h.lt).trans h.c0,(k.cell (p:=⟨b,1,none⟩) h.lt).trans h.c1,(k.cell (p:=⟨b,2,none⟩) h.lt).trans h.c2,(k.cell (p:=⟨b,3,none⟩) h.lt).trans h.c3,(k.cell (p:=⟨b,4,none⟩) h.lt).trans h.c4,fun o=>(k.frozen (p:=⟨b,o,none⟩) h.lt).trans (h.fr o)⟩
theorem iR.below{a:Option Addr}{n:Nat}(h:iR w a n c ts)(k:Below w.heap.size w w'):iR w' a n c ts:=by
 obtain⟨f,A,e,z,t⟩:=h
 exact⟨f,⟨A.le,A.mx,fun j l=>by
  obtain⟨x,b,g,d⟩:=A.cell j l
  exact⟨x,b,g,(k.cell (p:=⟨x,b+j,none⟩) (kU w _ d)).trans d⟩⟩,e,z,fun i u m=>(t i u m).a6 (e6.below k)⟩
theorem St.below{c:Nat}(h:St w b s p ts c)(k:Below w.heap.size w w'):St w' b s p ts c:=by
 obtain⟨la,lc,j,l,m,n,d,o⟩:=h
 exact⟨la,lc,j.below k,l.below k,fun i q=>by
  obtain⟨x,a,e,f,g⟩:=m i q
  exact⟨x,a,e,f,(k.frozen (p:=⟨x,a+i,none⟩) (d x a e).2).trans g⟩,n,fun x a e=>⟨(d x a e).1,gi (d x a e).2 k.size⟩,o⟩
theorem bn(w:World)(q:Nat):Below w.heap.size w (w.drewN q):=⟨rfl,rfl,rfl,aw _,fun _ _=>rfl⟩
theorem Mg.zero(w:World):Mg w false none 0 0 0:=⟨fun _=>0,Us.nil _ _,O,.inl rfl,fun _=>rfl,rfl⟩
theorem pX(a:i<=k)(b:k<=s.size):(s.extract i k).size=k-i:=b1
theorem An(p:Nat->Bool)(s:ByteArray):∀ m i,i<=runN p s m i
 |0,i=>aw _
 |m+1,i=>by
  unfold runN
  split
  ·exact fy (h5 i) (An p s m (i+1))
  ·exact aw _
theorem uW(p:Nat->Bool)(s:ByteArray):∀ m i,i<=s.size->runN p s m i<=s.size
 |0,i,h=>h
 |m+1,i,h=>by
  unfold runN
  split
  ·rename_i a;exact uW p s m (i+1) a.1
  ·exact h
theorem mu(p:Nat->Bool)(s:ByteArray)(i:Nat):i<=cn p s i:=An p s _ i
theorem dm{p:Nat->Bool}(h:i<=s.size):cn p s i<=s.size:=uW p s _ i h
theorem jI(b:Nat)(s:ByteArray)(p n c:Nat)(ts:List Tok)(a:Nat)(w:World)(T:s.size<=65536)(S:0<n)(J:p+n<=s.size)(h:St w b s p ts a)(r:a<=w.heap.size):
 Calls Tryz.prog 54 #[.pointer (some ⟨b,0,none⟩),.agg (J9 c),.int .i64 (n:Nat)] w fun e w'=>Out w w' b s ts a e (gX s p (p+n) c):=by
 obtain⟨la,lc,F,G,H,m,o,Q⟩:=h;have f:=ab w (.cells (J9 c) 75);have g:=F.below f;have k:=G.below f
 have l:dh (w.alloc (.cells (J9 c) 75)) a la (lc*7):=fun i I=>by
  obtain⟨x,d,e,D,E⟩:=H i I;exact⟨x,d,e,D,(f.frozen (p:=⟨x,d+i,none⟩) (o x d e).2).trans E⟩
 have q:∀ x d,la=some ⟨x,d,none⟩->b<x/\x<(w.alloc (.cells (J9 c) 75)).heap.size:=fun x d e=>⟨(o x d e).1,gi (o x d e).2 f.size⟩;have j:=f.mono r;have C:=e6.below f;unfold gX;have c1:=g.c1
 by_cases R:64<n
 ·rw[if_pos O];have u:(64:Int)<(n:Int):=O
  go_enter Tryz.func54,Tryz.ntmps54
  go_wp2_with (go_at_call 48;refine(iA _ _ _ _ _ _ _ _ _ _ _ a m g).mono ?_;rintro e P ⟨rfl,v,y,z⟩)
  refine bodyPost_ret (results_none rfl _ _ _) rfl ?_;exact⟨rfl,j.trans y,C.trans z,_,_,_,_,v⟩
 ·rw[if_neg O];have u:¬(64:Int)<(n:Int):=O
  go_enter Tryz.func54,Tryz.ntmps54
  go_wp2_with (go_at_call 58;refine(xq b s p n la ts.length lc 0 0 c 0 0 _ _ _ _ _ 0 _ ts a _ O J g k l m q (Mg.zero _) O).mono ?_;rintro e P ⟨A,B,rfl,v,y,z,L,M,N⟩)
  go_end0;refine⟨rfl,j.trans M,C.trans N,A,B,?_,?_,z,m,L,b1⟩
  ·simpa using v
  ·simpa [sub] using y
theorem hE(l:List UInt8):(⟨l.toArray⟩:ByteArray).data.toList=l:=ar
theorem qx(l:List UInt8):((⟨#[32]⟩:ByteArray)++⟨l.toArray⟩++⟨#[32]⟩).data.toList=32::(l++[32]):=ar
theorem pk{p:Prop}(h:p:=by
 go_wp2_with (first
  |((have a:=sb;go_at_call 94;refine(Tryz.strings_Contains_one _ _ _).mono ?_;rintro e w' ⟨rfl,rfl⟩;rw[hE,H1.out];clear sb))
  |(have a:=sb;go_at_call 94;refine(Tryz.strings_Contains_one _ _ _).mono ?_;rintro e w' ⟨rfl,rfl⟩;rw[hE,H1.out];clear sb)
  |(have a:=uX;go_at_call 94;refine(Tryz.strings_Contains ⟨uk.toArray⟩ _ m _ bh jW).mono ?_;rintro e w' ⟨rfl,rfl⟩;rw[qx,hE,H2.out];clear uX)
  |(have a:=Np;go_at_call 94;refine(Tryz.strings_Contains ⟨um.toArray⟩ _ m _ bh jW).mono ?_;rintro e w' ⟨rfl,rfl⟩;rw[qx,hE,H3.out];clear Np)
  |(have a:=Nq;go_at_call 94;refine(Tryz.strings_Contains ⟨oU.toArray⟩ _ m _ bh jW).mono ?_;rintro e w' ⟨rfl,rfl⟩;rw[hE,hE];clear Nq))
 go_ret
 exact⟨by rw[<-HE.out,HV.out];rfl,rfl⟩):p:=h
theorem ja(l:List UInt8)(m:Int)(w:World)(n:w.cell? ⟨3,0,none⟩=some (.int .i64 m))(k:l.length<=281474976710656):
 Calls Tryz.prog 60 (jk l) w fun e w'=>e=.returned (.bool (pa l))/\w'=w:=by
 have HE:=U (Ka l);have sb:True:=trivial;have uX:True:=trivial;have Np:True:=trivial;have Nq:True:=trivial;have i:¬9223372036854775807<(⟨#[32]⟩:ByteArray).size+(⟨l.toArray⟩:ByteArray).size:=by simp[ByteArray.size];omega
 have j:¬9223372036854775807<((⟨#[32]⟩:ByteArray)++⟨l.toArray⟩).size+(⟨#[32]⟩:ByteArray).size:=by simp[ByteArray.size];omega
 by_cases b:l=[]
 ·subst b;go_enter Tryz.func60,Tryz.ntmps60
  go_wp2
  go_ret;exact⟨rfl,rfl⟩
 have a:l.isEmpty=false:=by simpa using b
 clear b
 rcases c:decide (0<=Lib.indexByte l 32) with _|_
 ·have H1:=U c
  rcases d:Lib.contains uk (32::(l++[32])) with _|_
  ·have H2:=U d
   rcases f:Lib.contains um (32::(l++[32])) with _|_
   ·have H3:=U f;clear c d f
    by_cases g:l.length=1
    ·have h:((l.length:Int)==1)=true:=by simp[g]
     have HV:Hid (nr l=Lib.contains oU l):=U (by unfold nr;rw[H1.out,H2.out,H3.out];simp[a,g]);go_enter Tryz.func60,Tryz.ntmps60;exact pk
    ·have h:((l.length:Int)==1)=false:=b1
     have HV:Hid (nr l=false):=U (by unfold nr;rw[H1.out,H2.out,H3.out];simp[g]);go_enter Tryz.func60,Tryz.ntmps60;exact pk
   ·have H3:=U f;clear c d f;have HV:Hid (nr l=true):=U (by unfold nr;rw[H1.out,H2.out,H3.out];simp[a]);go_enter Tryz.func60,Tryz.ntmps60;exact pk
  ·have H2:=U d;clear c d;have HV:Hid (nr l=true):=U (by unfold nr;rw[H1.out,H2.out];simp[a]);go_enter Tryz.func60,Tryz.ntmps60;exact pk
 ·have H1:=U c;clear c;have HV:Hid (nr l=false):=U (by unfold nr;rw[H1.out];simp);go_enter Tryz.func60,Tryz.ntmps60;exact pk
theorem n2(s:ByteArray)(i k:Nat):s.extract i k=⟨(sub s i k).toArray⟩:=by unfold sub;rw[Array.toArray_toList]
theorem h6(a:i<=k)(b:k<=s.size):(sub s i k).length=k-i:=by
 unfold sub;rw[<-qw];exact pX a b
theorem uY(h:bt s i≠0):i<s.size:=by
 rcases gr i s.size with c|c
 ·exact c
 ·exact absurd (k9 c) h
theorem kD(h:isLet (bt s i)=true):i<s.size:=uY (by intro e;rw[e] at h;simp[isLet] at h)
theorem h8(h:bm (bt s i)=true):i<s.size:=uY (by intro e;rw[e] at h;simp[bm] at h)
theorem iB(h:isLet c=true):dx c=true:=by unfold dx;rw[h];rfl
theorem e7{p:Nat->Bool}(h:i<s.size)(a:p (bt s i)=true):i<cn p s i:=by
 rw[kW h a];exact mu p s (i+1)
theorem uZ(h:s.size<=k):¬(bt s k=46/\isLet (bt s (k+1))=true):=fun c=>by
 have:=k9 h;omega
theorem Ao(s:ByteArray)(i:Nat):∀ m a k,s.size-k<=m->s.size-k<=a->hJ s m i k=hJ s a i k:=by
 intro m
 induction m with
 |zero=>
  intro a k h c;cases a with
  |zero=>rfl
  |succ a=>unfold hJ;rw[if_neg (uZ O)]
 |succ m e=>
  intro a k h c;cases a with
  |zero=>unfold hJ;rw[if_neg (uZ O)]
  |succ a=>
   unfold hJ
   by_cases b:bt s k=46/\isLet (bt s (k+1))=true
   ·have d:k+1<s.size:=kD b.2;have f:=e7 d (iB b.2);rw[if_pos b,if_pos b,e a (cn dx s (k+1)) O O]
   ·rw[if_neg b,if_neg b]
def long(s:ByteArray)(i k:Nat):uU:=hJ s (s.size-k) i k
theorem u0(h:¬(bt s k=46/\isLet (bt s (k+1))=true)):long s i k=gX s i k 1:=by
 unfold long;cases s.size-k with
 |zero=>rfl
 |succ m=>rw[hJ,if_neg h]
theorem Cm(h:bt s k=46/\isLet (bt s (k+1))=true):
 long s i k=if pa (sub s (k+1) (cn dx s (k+1)))=true then .error (32,k+1) else long s i (cn dx s (k+1)):=by
 have a:k+1<s.size:=kD h.2;have c:=e7 a (iB h.2);unfold long;obtain⟨m,b⟩:∃ m,s.size-k=m+1:=⟨s.size-k-1,O⟩;rw[b,hJ,if_pos h,Ao s i m (s.size-cn dx s (k+1)) _ O (aw _)]
theorem mr(b:Nat)(s:ByteArray)(p n:Nat)(la:Option Addr)(ln lc:Nat)(code l6:Int)(w:World)(c:s.size<=1099511627776)(a:p+n<=s.size)(h:Sc w b s p la ln lc code l6):
 Calls Tryz.prog 55 #[.pointer (some ⟨b,0,none⟩),.int .i64 (n:Nat),.func (.func 56) #[] #[]] w fun e w'=>e=.returned (.string ⟨(sub s (p+n) (cn dx s (p+n))).toArray⟩)/\∃ q,w'=w.drewN q:=by
 rw[<-n2];exact Am b s p n la ln lc code l6 w c a h
theorem ox(b:Nat)(s:ByteArray)(p n:Nat)(la:Option Addr)(ln lc:Nat)(code l6:Int)(w:World)(c:s.size<=1099511627776)(a:p+n<=s.size)(h:Sc w b s p la ln lc code l6):
 Calls Tryz.prog 55 #[.pointer (some ⟨b,0,none⟩),.int .i64 (n:Nat),.func (.func 51) #[] #[]] w fun e w'=>e=.returned (.string ⟨(sub s (p+n) (cn bm s (p+n))).toArray⟩)/\∃ q,w'=w.drewN q:=by
 rw[<-n2];exact rj b s p n la ln lc code l6 w c a h
theorem r'(b:Nat)(s:ByteArray)(p n:Nat)(la:Option Addr)(ln lc:Nat)(code l6:Int)(w:World)(c:s.size<=1099511627776)(a:p+n<=s.size)(h:Sc w b s p la ln lc code l6):
 Calls Tryz.prog 55 #[.pointer (some ⟨b,0,none⟩),.int .i64 (n:Nat),.func (.func 59) #[] #[]] w fun e w'=>e=.returned (.string ⟨(sub s (p+n) (cn fm s (p+n))).toArray⟩)/\∃ q,w'=w.drewN q:=by
 rw[<-n2];exact Cl b s p n la ln lc code l6 w c a h
theorem St.drewN{a:Nat}(h:St w b s p ts a)(q:Nat):St (w.drewN q) b s p ts a:=h.below (bn w q)
theorem Sc.drewN(h:Sc w b s p la ln lc code l6)(q:Nat):Sc (w.drewN q) b s p la ln lc code l6:=h.below (bn w q)
theorem Out.before{c:World}{a:Nat}{e:Ending}{r:uU}(h:Out w w' b s ts a e r)(k:Below a c w)(u:e6 c w):Out c w' b s ts a e r:=⟨h.1,k.trans h.2.1,u.trans h.2.2.1,h.2.2.2⟩
theorem Out.drewN{a:Nat}{e:Ending}{r:uU}{q:Nat}(h:Out (w.drewN q) w' b s ts a e r):Out w w' b s ts a e r:=
 h.before ⟨rfl,rfl,rfl,aw _,fun _ _=>rfl⟩ (e6.below (bn w q))
theorem b'{B:Nat}(w:World)(q:Nat):Below B w (w.drewN q):=⟨rfl,rfl,rfl,aw _,fun _ _=>rfl⟩
theorem n1(b:Nat)(s:ByteArray)(p n d c N:Nat)(q:ByteArray)(m:Bool)(g:Option Addr)(l i:Nat)(z:Int)(f:Int)(ts:List Tok)(a:Nat)(w:World)
 (J:s.size<=65536) (I:0<n) (A:p+n<=s.size) (h:St w b s p ts a) (y:Mg w m g l i z):
 Calls Tryz.prog 58 #[.pointer (some ⟨b,0,none⟩),.agg #[.int .i64 (d:Nat),.string q,.bool m,.slice g l i,.int .u64 (c:Nat),.int .i64 (N:Nat),.int .i64 f],.int .i64 (n:Nat)] w fun e w'=>
  Out w w' b s ts a e (.ok (⟨d,sub s p (p+n),z,c,N,p⟩,p+n)):=by
 obtain⟨la,lc,r,u,v,o,x,H⟩:=h;refine(xq b s p n la ts.length lc 0 0 d c N q m g l i z f ts a w O A r u v o x y O).mono ?_;rintro e L ⟨j,k,rfl,B,C,D,E,F,G⟩;refine⟨rfl,F,G,j,k,?_,?_,D,o,E,b1⟩
 ·simpa using B
 ·simpa [sub] using C
theorem o'{p:Addr}{v:Option Value}(h:w.cell? p=v)(q:Nat):(w.drewN q).cell? p=v:=by simpa using h
theorem pn{p:Prop}(h:p:=by
 go_wp2_with (first
  |(have f:=sb;go_at_call 55;refine(mr b s p 0 la ts.length lc 0 0 _ O O h1).mono ?_;rintro e a ⟨rfl,l,rfl⟩;rw[show cn dx s (p+0)=k from HK.out];clear sb)
  |(have f:=uX;go_at_call 60;refine(ja (sub s p k) m _ (o' hm _) O).mono ?_;rintro e a ⟨rfl,rfl⟩;rw[HR.out];clear uX)
  |(go_at_call 58;refine(n1 b s p (k-p) 8 0 0 _ _ _ _ _ 0 _ ts base _ hs O O (h0.drewN _) (Mg.zero _)).mono ?_;rintro e a c;obtain rfl:=c.1;have d:=U (Out.drewN c);clear c)
  |(have f:=sb;go_at_call 47;refine(au b s p (n) la ts.length lc 0 0 _ O O O (h1.drewN _)).mono ?_;rintro e a ⟨rfl,_,rfl⟩;rw[HC.out];clear sb)
  |(have f:=uX;go_at_call 47;refine(au b s p (n+1) la ts.length lc 0 0 _ O O O (h1.drewN _)).mono ?_;rintro e a ⟨rfl,_,rfl⟩;clear uX)
  |(go_at_call 49;refine(c7 _ _ (gI _ _)).mono ?_;rintro e a ⟨rfl,rfl⟩;rw[HD.out])
  |(go_at_call 55;refine(mr b s p (n+1) la ts.length lc 0 0 _ O O (h1.drewN _)).mono ?_;rintro e a ⟨rfl,_,rfl⟩;rw[show p+(n+1)=p+n+1 from O,Hv.out])
  |(go_at_call 60;refine(ja (sub s (p+n+1) k2) m _ (o' hm _) O).mono ?_;rintro e a ⟨rfl,rfl⟩;rw[Fj.out])
  |(go_at_call 48;refine(iA b s p la ts.length lc 0 0 _ _ _ base h4 (h1.drewN _)).mono ?_;rintro e a ⟨rfl,g,i,j⟩)
  |(go_at_call 54;refine(jI b s p n 1 ts base _ hs hn Ow (h0.drewN _) (by simpa using Fk)).mono ?_;rintro e a c;obtain rfl:=c.1;have d:=U (Out.drewN c);clear c))
 first
 |(go_end0
   rw[<-HN.out,HS.out]
   exact d.out)
 |(refine⟨⟨⟨_,rfl⟩,n+(1+(k2-(p+n+1))),?_,O,O,?_⟩,?_⟩
   ·exact congrArg (Value.int .i64) O
   ·exact U (by rw[show p+(n+(1+(k2-(p+n+1))))=k2 from O,<-HN.out,HS.out,Fj.out];rfl)
   ·simp[intOf];omega)
 |(refine bodyPost_ret (results_none rfl _ _ _) rfl ?_
   rw[<-HN.out,HS.out,Fj.out,if_pos rfl]
   exact⟨rfl,(b' w _).trans i,(e6.below (bn w _)).trans j,p,la,_,lc,by rw[show((p+n+1:Nat):Int)=(p:Int)+(n:Int)+1 by omega];exact g⟩)
 |(refine bodyPost_ret (results_none rfl _ _ _) rfl ?_
   have h:=d.out;rw[show p+(k-p)=k from O] at h
   exact h)):p:=h
theorem Fi(b:Nat)(s:ByteArray)(p:Nat)(ts:List Tok)(base:Nat)(m:Int)(w:World)(hs:s.size<=65536)(y:isLet (bt s p)=true)(h:St w b s p ts base)(Fk:base<=w.heap.size)(H:3<base)(hm:w.cell? ⟨3,0,none⟩=some (.int .i64 m)):
 Calls Tryz.prog 50 (t_ b) w fun e w'=>Out w w' b s ts base e (lR s p):=by
 have N:=kD y;have E:=e7 N (iB y);have r:=dm (p:=dx) (i:=p) (s:=s) O;have g:=h6 (s:=s) (i:=p) (k:=cn dx s p) O r;have h0:=h;obtain⟨la,lc,h1,W,X,h4,Y,Z⟩:=h;unfold lR
 rcases u:pa (sub s p (cn dx s p)) with _|_
 ·rw[if_neg ar];obtain⟨k,d⟩:∃ k,cn dx s p=k:=⟨_,rfl⟩;rw[d] at u E r g⊢;rw[show hJ s (s.size-k) p k=long s p k from rfl];have HR:=U u;have HK:=U d;have T:=U y;clear y u d;obtain⟨R,D⟩:∃ R,Hid (long s p k=R):=⟨_,U rfl⟩;rw[D.out];go_enter Tryz.func50,Tryz.ntmps50;have sb:True:=trivial;have uX:True:=trivial
  go_wp2_with (first|(have F:=sb;go_at_call 55;refine(mr b s p 0 la ts.length lc 0 0 _ O O h1).mono ?_;rintro e S ⟨rfl,aA,rfl⟩;rw[show cn dx s (p+0)=k from HK.out];clear sb)|(have F:=uX;go_at_call 60;refine(ja (sub s p k) m _ (o' hm _) O).mono ?_;rintro e S ⟨rfl,rfl⟩;rw[HR.out];clear uX))
  go_loopw [2,3] (fun aB C wr=>(∃ q,wr=w.drewN q)/\∃ n:Nat,C=.int .i64 (n:Nat)/\0<n/\p+n<=s.size/\Hid (long s p (p+n)=R)) (fun _ C _=>s.size-(intOf C).toNat)
  case atStart=>exact⟨⟨_,rfl⟩,k-p,by first|rfl|rw[g],O,O,by rw[show p+(k-p)=k from O];exact D⟩
  case round=>
   obtain⟨⟨q,rfl⟩,n,rfl,hn,Ow,HN⟩:=hrel;have sb:True:=trivial;have uX:True:=trivial;have P:True:=trivial;have Q:True:=trivial;obtain⟨c,o⟩:∃ c,bt s (p+n)=c:=⟨_,rfl⟩;have I:c<256:=o▸gI s _;have HC:=U o
   by_cases v:c=46
   ·subst v
    rcases l:isLet (bt s (p+(n+1))) with _|_
    ·have HD:=U l;have HS:=U (u0 (s:=s) (i:=p) (k:=p+n) (fun x=>by rw[show p+n+1=p+(n+1) from O,l] at x;exact absurd x.2 ar));clear l o;exact pn
    ·have HD:=U l;have z:=kD l;have a:bt s (p+n)=46/\isLet (bt s (p+n+1))=true:=⟨HC.out,by rw[show p+n+1=p+(n+1) from O];exact l⟩;have HS:=U (Cm (s:=s) (i:=p) (k:=p+n) a);obtain⟨k2,f⟩:∃ k2,cn dx s (p+n+1)=k2:=⟨_,rfl⟩;have M:p+n+1<k2:=f▸e7 O (iB a.2);have A:k2<=s.size:=f▸dm O;have B:=h6 (s:=s) (i:=p+n+1) (k:=k2) O A;rw[f] at HS;have Hv:=U f
     rcases j:pa (sub s (p+n+1) k2) with _|_
     ·have Fj:=U j;clear l o a f j z;exact pn
     ·have Fj:=U j;clear l o a f j z;have G:=h1.c1;exact pn
   ·have J:((c:Int)==46)=false:=b1
    have L:¬(c:Int)=46:=O
    have HS:=U (u0 (s:=s) (i:=p) (k:=p+n) (fun x=>v (o▸x.1)));clear o;exact pn
 ·rw[if_pos rfl];obtain⟨k,d⟩:∃ k,cn dx s p=k:=⟨_,rfl⟩;rw[d] at u E r g⊢;have HR:=U u;have HK:=U d;clear y u d;go_enter Tryz.func50,Tryz.ntmps50;have sb:True:=trivial;have uX:True:=trivial;exact pn
theorem pY(s:ByteArray)(i k:Nat):sub s i k=(s.data.toList.take k).drop i:=by
 unfold sub;rw[Hk,Array.toList_extract,List.extract_eq_drop_take,List.drop_take]
theorem me(h:i<k)(a:k<=s.size):sub s i k=UInt8.ofNat (bt s i)::sub s (i+1) k:=by
 have b:s.data.toList.length=s.size:=(qw s).symm;rw[pY,pY,Hi b1]
 congr 1
 rw[List.getElem_take];unfold bt;rw[fv O];simp
theorem Hw(s:ByteArray)(i:Nat):sub s i i=[]:=by rw[pY];apply Hj;simp;omega
theorem Hx(s:ByteArray)(a r n:Nat)(h:a+n<=r):((⟨(sub s a r).toArray⟩:ByteArray).extract 0 n)=⟨(sub s a (a+n)).toArray⟩:=by
 rw[<-n2,<-n2];apply ByteArray.ext;simp only [ByteArray.data_extract,Array.extract_extract]
 congr 1
 omega
theorem xr(p:Nat->Bool)(s:ByteArray):∀ m i j,i<=j->j<runN p s m i->j<s.size/\p (bt s j)=true:=by
 intro m
 induction m with
 |zero=>intro i j b a;simp[runN] at a;omega
 |succ m d=>
  intro i j b a;unfold runN at a
  split at a
  ·rename_i c
   by_cases e:j=i
   ·subst e;exact c
   ·exact d (i+1) j O a
  ·omega
theorem xt{p:Nat->Bool}{j:Nat}(a:i<=j)(b:j<cn p s i):p (bt s j)=true:=(xr p s _ i j a b).2
theorem gx(h:bm c=true):48<=c/\c<=57:=of_decide_eq_true h
theorem ofNat_toNat(h:c<256):(UInt8.ofNat c).toNat=c:=b1
theorem oy(h:bm c=true):Lib.digitVal (UInt8.ofNat c)=some (c-48):=by
 have:=gx h;unfold Lib.digitVal;rw[ofNat_toNat O,if_pos this]
theorem Ap{a:Nat}(d:bm a=true)(f:bm b=true)(g:bm c=true):
 Lib.atoi [UInt8.ofNat a,UInt8.ofNat b,UInt8.ofNat c]=some ((((a-48)*100+(b-48)*10+(c-48):Nat)):Int):=by
 have j:=gx d
 have h:(UInt8.ofNat a==45)=false:=by
  rw[beq_eq_false_iff_ne];intro e;have:=congrArg UInt8.toNat e;rw[ofNat_toNat O] at this;simp at this;omega
 have i:(UInt8.ofNat a==43)=false:=by
  rw[beq_eq_false_iff_ne];intro e;have:=congrArg UInt8.toNat e;rw[ofNat_toNat O] at this;simp at this;omega
 unfold Lib.atoi;simp only [h,i,Bool.false_eq_true,if_false];unfold Lib.decNat;simp only [List.isEmpty_cons,Bool.false_eq_true,if_false,Lib.decFrom,oy d,oy f,oy g,Option.map_some]
 congr 2
 omega
theorem Cn(a:¬bt s k=110)(b:¬bt s k=116)(c:¬bt s k=92)(d:¬bt s k=34):
 gT s k=if k+3<=cn bm s k then(if(bt s k-48)*100+(bt s (k+1)-48)*10+(bt s (k+2)-48)<256 then((bt s k-48)*100+(bt s (k+1)-48)*10+(bt s (k+2)-48),3) else(0,0)) else(0,0):=by
 unfold gT;rw[if_neg a,if_neg b,if_neg O]
def Kc(w w':World)(x n:Nat)(e:Ending):Prop:=e=.returned (.tuple #[.int .u8 (x:Nat),.int .i64 (n:Nat)])/\Below w.heap.size w w'
theorem my{p:Prop}(h:p:=by
 go_wp2_with (first
  |(have f:=tk;go_at_call 47;refine(au b s p k la ln lc code l6 _ O O O h).mono ?_;rintro e d ⟨rfl,g,rfl⟩;rw[HC.out];clear tk)
  |(go_at_call 55;refine(rj b s p k la ln lc code l6 _ O O (h.drewN _)).mono ?_;rintro e d ⟨rfl,i,rfl⟩;rw[HK.out,Ox.out])
  |(go_at_call 129;rw[HX.out];refine(Tryz.strconv_Atoi _ _ HZ.out HA _).mono ?_;rintro e d ⟨rfl,j,rfl⟩))
 first
 |(go_ret2
   injection HV.out with a c;subst a c
   exact⟨rfl,bn w _⟩)
 |(go_ret2
   injection HV.out with a c;subst a c
   exact⟨rfl,(bn w _).trans ((Lib.bytesWorld_below _ _ _).mono ar)⟩)):p:=h
theorem Aq(b:Nat)(s:ByteArray)(p k:Nat)(la:Option Addr)(ln lc:Nat)(code l6:Int)(w:World)(aH:s.size<=65536)(aC:p+k<=s.size)(h:Sc w b s p la ln lc code l6):
 Calls Tryz.prog 92 #[.pointer (some ⟨b,0,none⟩),.int .i64 (k:Nat)] w fun e w'=>Kc w w' (gT s (p+k)).1 (gT s (p+k)).2 e:=by
 obtain⟨c,a⟩:∃ c,bt s (p+k)=c:=⟨_,rfl⟩;have Z:c<256:=a▸gI s _;have HC:=U a;obtain⟨r,d⟩:∃ r,gT s (p+k)=r:=⟨_,rfl⟩;rw[d];obtain⟨x,n⟩:=r;have aF:=U d;have tk:True:=trivial
 by_cases q:c=110
 ·subst q;have HV:Hid ((x,n)=(10,1)):=U (by rw[<-d];unfold gT;rw[if_pos a]);clear d a;go_enter Tryz.func92,Tryz.ntmps92;exact my
 by_cases u:c=116
 ·subst u;have HV:Hid ((x,n)=(9,1)):=U (by rw[<-d];unfold gT;rw[if_neg O,if_pos a]);clear d a;go_enter Tryz.func92,Tryz.ntmps92;exact my
 by_cases G:c=92
 ·subst G;have HV:Hid ((x,n)=(92,1)):=U (by rw[<-d];unfold gT;rw[if_neg O,if_neg O,if_pos (mq a),a]);clear d a;go_enter Tryz.func92,Tryz.ntmps92;exact my
 by_cases F:c=34
 ·subst F;have HV:Hid ((x,n)=(34,1)):=U (by rw[<-d];unfold gT;rw[if_neg O,if_neg O,if_pos (Or.inr a),a]);clear d a;go_enter Tryz.func92,Tryz.ntmps92;exact my
 have R:¬(c:Int)=110:=O
 have N:((c:Int)==110)=false:=b1
 have S:¬(c:Int)=116:=O
 have P:((c:Int)==116)=false:=b1
 have aE:¬(c:Int)=92:=O
 have Y:((c:Int)==92)=false:=b1
 have aD:¬(c:Int)=34:=O
 have X:((c:Int)==34)=false:=b1
 have g:=Cn (s:=s) (k:=p+k) O O O O;obtain⟨j,o⟩:∃ j,cn bm s (p+k)=j:=⟨_,rfl⟩;rw[d,o] at g;have HK:=U o;have H:p+k<=j:=o▸mu bm s (p+k);have I:j<=s.size:=o▸dm aC;obtain⟨D,f⟩:∃ D,s.extract (p+k) j=D:=⟨_,rfl⟩;have Q:D.size=j-(p+k):=by rw[<-f];exact pX H I
 have Ox:=U f
 by_cases E:p+k+3<=j
 ·have v:∀ i,i<3->bm (bt s (p+k+i))=true:=fun i aG=>xt (p:=bm) (s:=s) (i:=p+k) O (by rw[o];omega);have A:=v 0 O;have B:=v 1 O;have C:=v 2 O;have M:=gx A;have T:=gx B;have W:=gx C
  have l:Lib.atoi ((⟨(sub s (p+k) (p+k+3)).toArray⟩:ByteArray)).data.toList=some ((((bt s (p+k)-48)*100+(bt s (p+k+1)-48)*10+(bt s (p+k+2)-48):Nat)):Int):=by
   rw[hE,me O O,me O O,me O O,Hw];exact Ap A B C
  have z:(⟨(sub s (p+k) (p+k+3)).toArray⟩:ByteArray).size<=18:=by
   have:=h6 (s:=s) (i:=p+k) (k:=p+k+3) O O;simp only [ByteArray.size,List.size_toArray,this];omega
  have HX:Hid (D.extract 0 3=⟨(sub s (p+k) (p+k+3)).toArray⟩):=U (by rw[<-f,n2 s (p+k) j];exact Hx s (p+k) j 3 E);rw[if_pos E] at g;simp only [Nat.add_zero] at M;obtain⟨m,J⟩:∃ m,(bt s (p+k)-48)*100+(bt s (p+k+1)-48)*10+(bt s (p+k+2)-48)=m:=⟨_,rfl⟩;rw[J] at l g;have aB:m<=999:=O
  have HA:=U l;have HZ:=U z;clear z
  by_cases y:m<256
  ·rw[if_pos y] at g;have HV:=U g;have L:(m:Int)<256:=O
   have aA:IntKind.u8.wrap (m:Int)=(m:Int):=IntWalk.u8_in _ O;clear f d a o v A B C M T W l J g;go_enter Tryz.func92,Tryz.ntmps92;exact my
  ·rw[if_neg y] at g;have HV:=U g;have L:¬(m:Int)<256:=O
   clear f d a o v A B C M T W l J g;go_enter Tryz.func92,Tryz.ntmps92;exact my
 ·rw[if_neg E] at g;have HV:=U g;clear f d a o g;go_enter Tryz.func92,Tryz.ntmps92;exact my
theorem St.at{p':Nat}{c:Nat}(h:St w b s p ts c)(C:p<=p'):St (w.setCell ⟨b,1,none⟩ (.int .i64 (p':Nat))) b s p' ts c:=by
 obtain⟨la,lc,d,k,l,m,g,B⟩:=h;have c1:=d.c1;have u:e6 w (w.setCell ⟨b,1,none⟩ (.int .i64 (p':Nat))):=(e6.refl w).set c1 (fun _ h=>by cases h) _;refine⟨la,lc,⟨by simpa using d.lt,?_,?_,?_,?_,?_,fun o=>by simpa using d.fr o⟩,?_,l.set _ _,m,fun x a e=>by simpa using g x a e,O⟩
 ·rw[eb _ _ _ _ ih];exact d.c0
 ·rw[kA _ _ _ c1]
 ·rw[eb _ _ _ _ ih];exact d.c2
 ·rw[eb _ _ _ _ ih];exact d.c3
 ·rw[eb _ _ _ _ ih];exact d.c4
 ·obtain⟨q,A,e,z,y⟩:=k;refine⟨q,⟨A.le,A.mx,fun j r=>?_⟩,e,z,fun i t v=>(y i t v).a6 u⟩;obtain⟨x,a,f,n⟩:=A.cell j r;refine⟨x,a,f,?_⟩;have:=(g x a f).1;rw[eb _ _ _ _ (by intro h;simp only [Addr.mk.injEq] at h;omega)];exact n
theorem St.rl{a:Nat}(h:St w b s p ts a)(v:Value):e6 w (w.setCell ⟨b,1,none⟩ v):=by
 obtain⟨la,lc,c,_⟩:=h;exact(e6.refl w).set c.c1 (fun _ h=>by cases h) _
theorem St.base{base:Nat}(h:St w b s p ts base):base<=b:=by
 obtain⟨la,lc,_,_,_,a,_⟩:=h;exact a
theorem iX(h:bt s i=c)(a:c≠0):i<s.size:=uY O
theorem oz(s:ByteArray):∀ m a d i,i<=s.size->s.size+1<=m+i->s.size+1<=a+i->iY s m d i=iY s a d i:=by
 intro m
 induction m with
 |zero=>intro a d i n h j;omega
 |succ m g=>
  intro a d i n h j;obtain⟨a,rfl⟩:∃ k,a=k+1:=⟨a-1,O⟩;unfold iY
  by_cases b:bt s i=40/\bt s (i+1)=42
  ·have l:=iX b.2 O;rw[if_pos b,if_pos b,g a (d+1) (i+2) O O O]
  ·rw[if_neg b,if_neg b]
   by_cases c:0<d/\bt s i=42/\bt s (i+1)=41
   ·have l:=iX c.2.2 O;rw[if_pos c,if_pos c,g a (d-1) (i+2) O O O]
   ·rw[if_neg c,if_neg c]
    by_cases e:0<d/\s.size<=i
    ·rw[if_pos e,if_pos e]
    ·rw[if_neg e,if_neg e]
     by_cases f:0<d\/i<s.size/\(bt s i=32\/bt s i=9\/bt s i=10\/bt s i=13)
     ·rw[if_pos f,if_pos f,g a d (i+1) O O O]
     ·rw[if_neg f,if_neg f]
def fj(s:ByteArray)(d i:Nat):Option Nat:=iY s (s.size+2-i) d i
theorem kE{d:Nat}(h:i<=s.size):fj s d i=
 if bt s i=40/\bt s (i+1)=42 then fj s (d+1) (i+2)
 else if 0<d/\bt s i=42/\bt s (i+1)=41 then fj s (d-1) (i+2)
 else if 0<d/\s.size<=i then none
 else if 0<d\/i<s.size/\(bt s i=32\/bt s i=9\/bt s i=10\/bt s i=13) then fj s d (i+1)
 else some i:=by
 unfold fj;obtain⟨m,g⟩:∃ m,s.size+2-i=m+1:=⟨s.size+1-i,O⟩;rw[g]
 conv=>lhs;unfold iY
 by_cases a:bt s i=40/\bt s (i+1)=42
 ·have f:=iX a.2 O;rw[if_pos a,if_pos a,oz s m (s.size+2-(i+2)) (d+1) (i+2) O O O]
 ·rw[if_neg a,if_neg a]
  by_cases b:0<d/\bt s i=42/\bt s (i+1)=41
  ·have f:=iX b.2.2 O;rw[if_pos b,if_pos b,oz s m (s.size+2-(i+2)) (d-1) (i+2) O O O]
  ·rw[if_neg b,if_neg b]
   by_cases c:0<d/\s.size<=i
   ·rw[if_pos c,if_pos c]
   ·rw[if_neg c,if_neg c]
    by_cases e:0<d\/i<s.size/\(bt s i=32\/bt s i=9\/bt s i=10\/bt s i=13)
    ·rw[if_pos e,if_pos e,oz s m (s.size+2-(i+1)) d (i+1) O O O]
    ·rw[if_neg e,if_neg e]
def yT(w:World)(b:Nat):Nat:=(intOf ((w.cell? ⟨b,1,none⟩).getD (.int .i64 0))).toNat
def Hy(w:World)(b:Nat):Nat:=if intOf ((w.cell? ⟨b,3,none⟩).getD (.int .i64 0))=0 then 1 else 0
theorem Sc.pos(h:Sc w b s p la ln lc code l6):yT w b=p:=by
 unfold yT;rw[h.c1];rfl
theorem Sc.go(h:Sc w b s p la ln lc code l6):Hy w b=if code=0 then 1 else 0:=by
 unfold Hy;rw[h.c3];rfl
def zr(w:World)(b:Nat)(s:ByteArray):Nat:=2*(s.size-yT w b)+Hy w b
theorem St.zr{a:Nat}(h:St w b s p ts a):zr w b s=2*(s.size-p)+1:=by
 obtain⟨la,lc,c,_⟩:=h;unfold Go.Proofs.YtkblonfmjlopaaaGreatDoor.zr;rw[c.pos,c.go];rfl
theorem ou{p':Nat}{a:Nat}{v:Value}(h:St w b s p ts a)(d:v=.int .i64 (p':Nat))(c:p<=p'):Go.Proofs.YtkblonfmjlopaaaGreatDoor.zr (w.setCell ⟨b,1,none⟩ v) b s=2*(s.size-p')+1:=by
 subst d;exact(h.at c).zr
def LQ(w w':World)(b:Nat)(s:ByteArray)(ts:List Tok)(base:Nat)(e:Ending)(r:Option Nat):Prop:=
 e=.returned (.tuple #[])/\Below base w w'/\e6 w w'/\
 match r with
 |some q=>St w' b s q ts base/\q<=s.size
 |none=>∃ p la ln lc,Sc w' b s p la ln lc 31 (s.size:Nat)
def BR(w:World)(b:Nat)(s:ByteArray)(ts:List Tok)(base:Nat)(R:Option Nat)(dv:Value)(wr:World):Prop:=
 (∃ d p:Nat,dv=.int .i64 (d:Nat)/\d<=p/\p<=s.size/\St wr b s p ts base/\Below base w wr/\e6 w wr/\Hid (fj s d p=R))\/
 (∃ p la ln lc,Sc wr b s p la ln lc 31 (s.size:Nat)/\p=s.size/\Below base w wr/\e6 w wr/\R=none)
end Go.Proofs.YtkblonfmjlopaaaGreatDoor
