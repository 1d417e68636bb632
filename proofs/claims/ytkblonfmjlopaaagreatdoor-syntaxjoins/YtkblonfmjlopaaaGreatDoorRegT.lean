/-
  append of one struct onto a slice of one's own: what it runs to, and what stays. No condition; no program in sight.
-/
import Derived.Test.YtkblonfmjlopaaaGreatDoorBigD
set_option linter.all false
set_option maxRecDepth 1000000
set_option maxHeartbeats 16000000
namespace Go.Proofs.YtkblonfmjlopaaaGreatDoor
open Go Go.RowKit
variable {a b:Act}{K:Act->World->Prop}{L d:Array Bool}{s:ByteArray}{i j m:Nat}{o l:Oper}{v:Value}{w:World}
structure d'(w:World)(a:Option Addr)(n c s:Nat)(h:Nat->Value):Prop where
 le:n<=c
 mx:c<=maxLen
 cell:∀ j,j<c*s->∃ b off,a=some ⟨b,off,none⟩/\w.cell? ⟨b,off+j,none⟩=some (h j)
structure Kp(w w':World)(a:Option Addr)(lo hi:Nat):Prop where
 size:w.heap.size<=w'.heap.size
 cell:∀ p:Addr,p.block<w.heap.size->(∀ b off,a=some ⟨b,off,none⟩->¬(p.block=b/\p.spot=none/\off+lo<=p.off/\p.off<off+hi))->w'.cell? p=w.cell? p
 frozen:∀ p:Addr,p.block<w.heap.size->w'.frozen? p=w.frozen? p
theorem d'.addr{a:Option Addr}{n c s:Nat}{h:Nat->Value}(k:d' w a n c s h)(l:0<c*s):∃ b d,a=some ⟨b,d,none⟩/\∀ j,j<c*s->w.cell? ⟨b,d+j,none⟩=some (h j):=by
 obtain⟨b,d,e,_⟩:=k.cell 0 l;refine⟨b,d,e,fun j m=>?_⟩;obtain⟨o,g,f,i⟩:=k.cell j m;rw[e] at f;simp only [Option.some.injEq,Addr.mk.injEq,and_true] at f;obtain⟨rfl,rfl⟩:=f;exact i
def c6(h:Nat->Value)(m s:Nat)(g r:Nat->Value):Nat->Value:=fun j=>if j<m then h j else if j<m+s then g (j-m) else r j
def jH(z:Value):Nat->Value:=fun j=>z.cells[j%z.cells.size]!
section
variable {P:Program}
theorem yQ{a:Option Addr}{n c s:Nat}{h:Nat->Value}(k:d' w a n c s h):(Builtin.firstCells s n (.slice a n c)).run P w=.ok ((List.range (n*s)).map h).toArray w:=by
 by_cases d:n*s=0
 ·rw[d];cases a with
  |none=>rw[run_firstCells_none];rfl
  |some f=>exact run_firstCells_some w s n f n c _ (by simp[d]) (fun j v e=>by simp at e)
 ·have:=k.le;have i:n*s<=c*s:=jX _ k.le;obtain⟨b,l,rfl,g⟩:=k.addr O;refine run_firstCells_some w s n _ n c _ ar (fun j v e=>?_);obtain⟨m,rfl⟩:=ld _ _ _ _ e;rw[uK];exact g j O
theorem ua(w:World)(t S aJ e C:TypeId)(z:Value)(s bytes:Nat)(aM:P.underlying t=some (.slice e))(aH:P.underlying S=some (.slice C))
 (aB:(P.info? e).map (fun i=>(i.zero,i.size,i.bytes))=some (some z,s,bytes)) (aN:z.cells.size=s) (aG:0<s) (m:Nat) (x:m<=w.heap.size)
 (a:Option Addr) (n c:Nat) (h g:Nat->Value) (H T d:Nat) (A:d' w a n c s h) (N:dh w m a (c*s)) (Z:∀ j,j<s->w.cell? ⟨H,T+j,none⟩=some (g j)) (aI:∀ j,j<s->(g j).oneCell'=true)
 (aL:(n+1)*(2*bytes)<=281474976710656) (aP:n+1<=140737488355328):
 ∃ I W r G,(Builtin.append_ #[t,S] aJ #[.slice a n c,.slice (some ⟨H,T,none⟩) 1 d]).run P w=.ok (.slice I (n+1) W) G/\(r=h/\I=a/\W=c\/r=jH z/\I=some ⟨w.heap.size,0,none⟩/\w.heap.size<G.heap.size/\∀ p:Addr,p.block<w.heap.size->G.cell? p=w.cell? p)/\
   d' G I (n+1) W s (c6 h (n*s) s g r)/\dh G m I (W*s)/\Below m w G/\Kp w G a (n*s) ((n+1)*s):=by
 obtain⟨i,L,aD,y,aC⟩:=info_parts aB;have aX:H<w.heap.size:=kU w _ (Z 0 aG)
 have R:Src P i.size S (.slice (some ⟨H,T,none⟩) 1 d) 1 ((List.range s).map g) w:=by
  rw[y];refine⟨.inl ⟨C,aH⟩,fun _=>rfl,?_,?_,ar,fun u aW=>?_⟩
  ·refine run_firstCells_some w s 1 _ 1 d _ ar (fun j v e=>?_);obtain⟨f,rfl⟩:=ld _ _ _ _ e;rw[uK];exact Z j f
  ·refine run_firstCells_some w.drew s 1 _ 1 d _ ar (fun j v e=>?_);obtain⟨f,rfl⟩:=ld _ _ _ _ e;rw[uK];exact Z j f
  ·obtain⟨j,f,rfl⟩:=List.mem_map.1 aW;exact aI j (by simpa using f)
 by_cases l:n+1<=c
 ·have aU:(n+1)*s<=c*s:=jX _ l;have M:(n+1)*s=n*s+s:=jd n s;obtain⟨b,off,rfl,X⟩:=A.addr O
  have o:=run_append_room_src (P:=P) w t S aJ e i aM L b off n c (.slice (some ⟨H,T,none⟩) 1 d) 1 ((List.range s).map g) R l
   (fun j f=>by rw[y,e9,X (n*s+j) (by simp at f;omega)];rfl)
   (fun j f=>by
     obtain⟨Y,B,C,_,aR⟩:=N (n*s+j) (by simp at f;omega);simp only [Option.some.injEq,Addr.mk.injEq,and_true] at C;obtain⟨rfl,rfl⟩:=C
     rw[y,e9];exact aR)
  rw[y] at o;obtain⟨Y,B,C,aQ,_⟩:=N 0 O;simp only [Option.some.injEq,Addr.mk.injEq,and_true] at C;obtain⟨rfl,rfl⟩:=C;refine⟨_,_,h,_,o,.inl ⟨rfl,rfl,rfl⟩,⟨l,A.mx,fun j f=>⟨b,off,rfl,?_⟩⟩,fun j f=>?_,ew b aQ _ _ _,⟨?_,fun p F aV=>?_,fun p F=>sX ..⟩⟩
  ·unfold c6
   split
   ·rw[qm _ _ _ _ _ (fun _ _=>.inl b1)];exact X j f
   ·split
    ·have:=Ac b ((List.range s).map g) (off+n*s) w (fun k aT=>by rw[e9,X (n*s+k) (by simp at aT;omega)];rfl) (j-n*s) b1;rw[show off+n*s+(j-n*s)=off+j from O] at this;rw[this];simp
    ·rw[qm _ _ _ _ _ (fun _ _=>.inr b1)];exact X j f
  ·obtain⟨Y,B,C,D,J⟩:=N j f;exact⟨Y,B,C,D,by rw[sX];exact J⟩
  ·exact(ew b (aw b) _ _ _).size
  ·refine qm _ _ _ _ _ (fun D J=>?_);have aK:=aV b off rfl;simp only [List.length_map,List.length_range]
   by_cases q:p.off<off+n*s
   ·exact .inl q
   ·exact .inr (by
     by_cases aY:p.off<off+(n+1)*s
     ·exact absurd ⟨D,J,O,aY⟩ aK
     ·omega)
 ·have M:(n+1)*s=n*s+s:=jd n s
  have o:=run_append_grow_src (P:=P) w t S aJ e i z aM L aD a n c ((List.range (n*s)).map h) (by rw[y];exact yQ (w:=w.drew) ⟨A.le,A.mx,fun i aB=>by simpa using A.cell i aB⟩) (.slice (some ⟨H,T,none⟩) 1 d) 1 ((List.range s).map g) R O
   O (by
    have D:=nextslicecap_le (show c<n+1 from O);have J:Builtin.nextslicecap (n+1) c*i.bytes<=2*(n+1)*i.bytes:=jX _ D;have aK:2*(n+1)*i.bytes=(n+1)*(2*bytes):=by rw[aC,kj 2,kP]
    omega)
  have aA:=grownCap_ge w (n+1) c e;have aE:=grownCap_le_maxLen w (n+1) c e (by unfold maxLen;omega)
  have E:∀ j,j<grownCap w (n+1) c e*s->(((List.range (n*s)).map h++(List.range s).map g).toArray++Builtin.zeroCells z.cells (grownCap w (n+1) c e-(n+1)))[j]?=some (c6 h (n*s) s g (jH z) j):=by
   intro j f;unfold c6;rw[Eb]
   split
   ·rename_i D;simp at D;simp only [List.getElem?_toArray,List.getElem?_append,List.length_map,List.length_range]
    split
    ·simp[*]
    ·rename_i J;simp[show j-n*s<s from O]
   ·rename_i D;simp at D;rw[if_neg O,if_neg O];have Q:(grownCap w (n+1) c e-(n+1))*s=grownCap w (n+1) c e*s-(n+1)*s:=Nat.sub_mul ..;unfold Builtin.zeroCells jH;have aF:j-(n*s+s)<(grownCap w (n+1) c e-(n+1))*z.cells.size:=by rw[aN,Q];omega
    simp only [List.length_append,List.length_map,List.length_range,List.size_toArray];rw[Array.getElem?_map,Cg];rw[if_pos aF];simp only [Option.map_some]
    congr 1
    rw[aN]
    have:(j-(n*s+s))%s=j%s:=by
     have aO:j=(j-(n*s+s))+s*(n+1):=by rw[kj s,M];omega
     conv=>rhs;rw[aO]
     rw[Hg]
    rw[this]
  refine⟨_,_,jH z,_,o,.inr ⟨rfl,rfl,ar,fun p F=>(((eA w.heap.size w).drew).alloc (aw _) _).cell F⟩,⟨aA,aE,fun j f=>⟨w.heap.size,0,rfl,?_⟩⟩,fun j f=>⟨w.heap.size,0,rfl,x,?_⟩,((eA _ _).drew).alloc x _,⟨ar,fun p F _=>?_,fun p F=>?_⟩⟩
  ·rw[gW];have:=jl w.drew (((List.range (n*s)).map h++(List.range s).map g).toArray++Builtin.zeroCells z.cells (grownCap w (n+1) c e-(n+1))) e j;exact this.trans (E j f)
  ·exact o6 w.drew _ _ _
  ·exact(((eA w.heap.size w).drew).alloc (aw _) _).cell F
  ·exact(((eA w.heap.size w).drew).alloc (aw _) _).frozen F
theorem kV{f:Act}{Q:Exit->Act->World->Prop}(w:World)(D:Option Tmp)(W:o.dst=D)(J x:Operand)(t F:TypeId)
 (Z:o.op=.call {callee:=.builtin .append,args:=#[J,x],argTypes:=#[t,F]})
 (e I:TypeId) (z:Value) (s bytes:Nat) (aB:P.underlying t=some (.slice e)) (C:P.underlying F=some (.slice I))
 (Y:(P.info? e).map (fun i=>(i.zero,i.size,i.bytes))=some (some z,s,bytes)) (aD:z.cells.size=s) (B:0<s) (b:Nat) (m:b<=w.heap.size)
 (a:Option Addr) (n c:Nat) (h g:Nat->Value) (G H d:Nat) (aA:f.eval J=.slice a n c) (aC:f.eval x=.slice (some ⟨G,H,none⟩) 1 d) (A:d' w a n c s h) (N:dh w b a (c*s)) (X:∀ j,j<s->w.cell? ⟨G,H+j,none⟩=some (g j)) (E:∀ j,j<s->(g j).oneCell'=true)
 (u:(n+1)*(2*bytes)<=281474976710656) (y:n+1<=140737488355328)
 (hK:∀ l q r k,(r=h/\l=a/\q=c\/r=jH z/\l=some ⟨w.heap.size,0,none⟩/\w.heap.size<k.heap.size/\∀ p:Addr,p.block<w.heap.size->k.cell? p=w.cell? p)->d' k l (n+1) q s (c6 h (n*s) s g r)->dh k b l (q*s)->Below b w k->Kp w k a (n*s) ((n+1)*s)->K (f.put D (.slice l (n+1) q)) k):
 Oper.wp P o f w K Q:=by
 subst W;obtain⟨l,q,r,k,v,L,M,R,S,T⟩:=ua (P:=P) w t F o.type e I z s bytes aB C Y aD B b m a n c h g G H d A N X E u y;unfold Oper.wp;simp[execOp,Z,resolve,invoke,builtin,aA,aC,v,Result.andThen];exact hK l q r k L M R S T
end
def bt(s:ByteArray)(i:Nat):Nat:=(s.data.toList[i]?.getD 0).toNat
theorem ri(h:i<s.size):s[i].toNat=bt s i:=by
 have a:i<s.data.toList.length:=by rw[<-qw];exact h
 unfold bt;rw[fv a]
 rfl
theorem k9(h:s.size<=i):bt s i=0:=by
 have a:s.data.toList.length<=i:=by rw[<-qw];exact h
 unfold bt;rw[j4 a]
 rfl
theorem gI(s:ByteArray)(i:Nat):bt s i<256:=UInt8.toNat_lt _
theorem f'{t:TypeId}{k:IntKind}{z:Int}(a:Tryz.prog.underlying t=some .string)(h:i<s.size)(b:z=(i:Int)):
 (Instr.index t (.string s) (.int k z)).run Tryz.prog w=.ok (.int .u8 (bt s i:Nat)) w:=by
 subst b;rw[run_index_string w t s k _ a,dif_pos ⟨O,O⟩];have e:((i:Int)).toNat=i:=ar
 simp only [e,ri h]
structure Sc(wx:World)(b:Nat)(s:ByteArray)(p:Nat)(la:Option Addr)(ln lc:Nat)(code l6:Int):Prop where
 lt:b<wx.heap.size
 c0:wx.cell? ⟨b,0,none⟩=some (.string s)
 c1:wx.cell? ⟨b,1,none⟩=some (.int .i64 (p:Nat))
 c2:wx.cell? ⟨b,2,none⟩=some (.slice la ln lc)
 c3:wx.cell? ⟨b,3,none⟩=some (.int .i64 code)
 c4:wx.cell? ⟨b,4,none⟩=some (.int .i64 l6)
 fr:∀ o,wx.frozen? ⟨b,o,none⟩=false
theorem au(b:Nat)(s:ByteArray)(p n:Nat)(i:Option Addr)(k j:Nat)(a c:Int)(w:World)(u:p<=1099511627776)(r:n<=1099511627776)(v:s.size<=1099511627776)(h:Sc w b s p i k j a c):
 Calls Tryz.prog 47 #[.pointer (some ⟨b,0,none⟩),.int .i64 (n:Nat)] w fun e l=>e=.returned (.int .u8 (bt s (p+n):Nat))/\∃ q,l=w.drewN q:=by
 obtain⟨_,m,o,_,_,_,_⟩:=h;go_enter Tryz.func47,Tryz.ntmps47
 go_wp2
 by_cases d:p+n<s.size
 ·go_region
  go_wp2
  have g:IntKind.i64.wrap ((p:Int)+(n:Int))=(p:Int)+(n:Int):=gv _ O;have f:∀ w,(Instr.index 9 (.string s) (.int .i64 ((p:Int)+(n:Int)))).run Tryz.prog w=.ok (.int .u8 (bt s (p+n):Nat)) w:=fun w=>f' Tryz.underlying9 d rfl
  go_region
  go_wp2
  go_ret;exact⟨rfl,2,rfl⟩
 ·go_region
  go_wp2
  go_ret;refine⟨?_,1,rfl⟩;rw[k9 O]
  rfl
def isLet(c:Nat):Bool:=decide (97<=c/\c<=122\/65<=c/\c<=90)
def bm(c:Nat):Bool:=decide (48<=c/\c<=57)
def dx(c:Nat):Bool:=isLet c||bm c||decide (c=95)||decide (c=39)
def uT:List UInt8:=[33,37,38,36,35,43,45,47,58,60,61,62,63,64,92,126,96,94,124,42]
def oU:List UInt8:=[40,41,91,93,123,125,44,59,95]
def fm(c:Nat):Bool:=decide (0<=Lib.indexByte uT c.toUInt8)
def yR(c:Nat):Bool:=decide (0<=Lib.indexByte oU c.toUInt8)
theorem Fg:∀ c:Nat,c<256->(isLet c=(decide (97<=bits .or .u8 (c:Int) 32)&&decide (bits .or .u8 (c:Int) 32<=122))):=by decide+kernel
theorem c7(c:Nat)(w:World)(b:c<256):
 Calls Tryz.prog 49 #[.int .u8 (c:Nat)] w fun e d=>e=.returned (.bool (isLet c))/\d=w:=by
 have a:=U (Fg c b);go_enter Tryz.func49,Tryz.ntmps49
 go_wp2
 ·have h:97<=bits .or .u8 (c:Int) 32:=jW
  go_ret;refine⟨?_,rfl⟩;rw[a.out,decide_eq_true h,Bool.true_and];rfl
 ·have h:bits .or .u8 (c:Int) 32<97:=jW
  go_ret;refine⟨?_,rfl⟩;rw[a.out,decide_eq_false O,Bool.false_and];rfl
theorem dk(c:Nat)(w:World)(b:c<256):
 Calls Tryz.prog 51 #[.int .u8 (c:Nat)] w fun e a=>e=.returned (.bool (bm c))/\a=w:=by
 go_enter Tryz.func51,Tryz.ntmps51
 go_wp2
 ·have h:(48:Int)<=c:=jW
  go_ret;refine⟨?_,rfl⟩;have e:bm c=decide ((c:Int)<=57):=by unfold bm;rw[decide_eq_decide];omega
  rw[e];rfl
 ·have h:(c:Int)<48:=jW
  go_ret;refine⟨?_,rfl⟩;have e:bm c=false:=by unfold bm;rw[decide_eq_false_iff_not];omega
  rw[e];rfl
theorem s0(c:Nat)(w:World)(d:c<256):
 Calls Tryz.prog 56 #[.int .u8 (c:Nat)] w fun e b=>e=.returned (.bool (dx c))/\b=w:=by
 rcases a:isLet c with _|_
 ·rcases f:bm c with _|_
  ·go_enter Tryz.func56,Tryz.ntmps56
   go_wp2_with (first|(go_at_call 49;refine(c7 _ _ d).mono ?_;rintro e b ⟨rfl,rfl⟩;rw[a])|(go_at_call 51;refine(dk _ _ d).mono ?_;rintro e b ⟨rfl,rfl⟩;rw[f]))
   ·have h:(c:Int)=95:=jW
    go_ret;have i:c=95:=O
    subst i;exact⟨rfl,rfl⟩
   ·have h:¬(c:Int)=95:=jW
    go_ret;refine⟨?_,rfl⟩
    have e:dx c=((c:Int)==95||(c:Int)==39):=by
     unfold dx;rw[a,f]
     by_cases g:c=39
     ·subst g;rfl
     ·have j:¬c=95:=O
      simp[g,j];omega
    rw[e];rfl
  ·go_enter Tryz.func56,Tryz.ntmps56
   go_wp2_with (first|(go_at_call 49;refine(c7 _ _ d).mono ?_;rintro e b ⟨rfl,rfl⟩;rw[a])|(go_at_call 51;refine(dk _ _ d).mono ?_;rintro e b ⟨rfl,rfl⟩;rw[f]))
   go_ret;exact⟨by unfold dx;rw[a,f];rfl,rfl⟩
 ·go_enter Tryz.func56,Tryz.ntmps56
  go_wp2_with (go_at_call 49;refine(c7 _ _ d).mono ?_;rintro e b ⟨rfl,rfl⟩;rw[a])
  go_ret;exact⟨by unfold dx;rw[a];rfl,rfl⟩
theorem s3(c:Nat)(w:World)(b:c<256):
 Calls Tryz.prog 59 #[.int .u8 (c:Nat)] w fun e a=>e=.returned (.bool (fm c))/\a=w:=by
 go_enter Tryz.func59,Tryz.ntmps59
 go_wp2_with (go_at_call 57;refine(Tryz.strings_IndexByte _ _ _).mono ?_;rintro e a ⟨rfl,rfl⟩)
 go_ret;exact⟨rfl,rfl⟩
def runN(p:Nat->Bool)(s:ByteArray):Nat->Nat->Nat
 |0,i=>i
 |k+1,i=>if i<s.size/\p (bt s i)=true then runN p s k (i+1) else i
def cn(p:Nat->Bool)(s:ByteArray)(i:Nat):Nat:=runN p s (s.size-i) i
theorem kW{p:Nat->Bool}(h:i<s.size)(a:p (bt s i)=true):cn p s i=cn p s (i+1):=by
 unfold cn;rw[show s.size-i=(s.size-(i+1))+1 from O,runN,if_pos ⟨h,a⟩]
theorem iW{p:Nat->Bool}(h:¬(i<s.size/\p (bt s i)=true)):cn p s i=i:=by
 unfold cn;cases s.size-i with
 |zero=>rfl
 |succ k=>rw[runN,if_neg h]
theorem rj(b:Nat)(s:ByteArray)(p n:Nat)(A:Option Addr)(C B:Nat)(c r:Int)(w:World)(G:s.size<=1099511627776)(z:p+n<=s.size)(h:Sc w b s p A C B c r):
 Calls Tryz.prog 55 #[.pointer (some ⟨b,0,none⟩),.int .i64 (n:Nat),.func (.func 51) #[] #[]] w fun e u=>e=.returned (.string (s.extract (p+n) (cn bm s (p+n))))/\∃ q,u=w.drewN q:=by
 obtain⟨_,D,E,_,_,_,_⟩:=h;go_enter Tryz.func55,Tryz.ntmps55
 go_wp2
 go_loopw [7] (fun o wr=>(∃ q,wr=w.drewN q)/\∃ k:Nat,n<=k/\p+k<=s.size/\o=.int .i64 (k:Nat)/\Hid (cn bm s (p+n)=cn bm s (p+k))) (fun o _=>s.size-(intOf o).toNat)
 case atStart=>exact⟨⟨0,rfl⟩,n,Nat.le_refl _,z,rfl,U rfl⟩
 case round=>
  obtain⟨⟨q,rfl⟩,k,F,y,rfl,f⟩:=hrel
  by_cases g:p+k<s.size
  ·have i:(p:Int)+(k:Int)<(s.size:Int):=O
   have m:IntKind.i64.wrap ((p:Int)+(k:Int))=(p:Int)+(k:Int):=gv _ O;have j:∀ w,(Instr.index 9 (.string s) (.int .i64 ((p:Int)+(k:Int)))).run Tryz.prog w=.ok (.int .u8 (bt s (p+k):Nat)) w:=fun w=>f' Tryz.underlying9 g rfl
   rcases a:bm (bt s (p+k)) with _|_
   ·go_wp2
    go_quiet ((refine(dk _ _ (gI _ _)).mono ?_;rintro e u ⟨rfl,rfl⟩;exact⟨congrArg (fun x=>Ending.returned (Value.bool x)) a,_,rfl⟩))
    go_wp2
    have l:IntKind.i64.wrap ((p:Int)+(n:Int))=(p:Int)+(n:Int):=gv _ O;have d:=U a;clear j a
    go_quiet (fail)
    go_wp2
    go_ret;refine⟨?_,_,by rw[nW,nW]⟩;have e:cn bm s (p+n)=p+k:=by rw[f.out,iW (by rw[d.out];simp)]
    rw[e]
    rfl
   ·go_wp2
    go_quiet ((refine(dk _ _ (gI _ _)).mono ?_;rintro e u ⟨rfl,rfl⟩;exact⟨congrArg (fun x=>Ending.returned (Value.bool x)) a,_,rfl⟩))
    go_wp2
    exact⟨⟨⟨_,rfl⟩,k+1,O,O,rfl,U (by rw[f.out,kW g a];rfl)⟩,by simp[intOf];omega⟩
  ·have i:(s.size:Int)<=(p:Int)+(k:Int):=O
   have v:decide ((p:Int)+(k:Int)<(s.size:Int))=false:=by rw[decide_eq_false_iff_not];omega
   have m:IntKind.i64.wrap ((p:Int)+(k:Int))=(p:Int)+(k:Int):=gv _ O
   go_wp2
   go_quiet (fail)
   go_wp2
   have l:IntKind.i64.wrap ((p:Int)+(n:Int))=(p:Int)+(n:Int):=gv _ O;clear v
   go_quiet (fail)
   go_wp2
   go_ret;refine⟨?_,_,by rw[nW,nW]⟩;have e:cn bm s (p+n)=p+k:=by rw[f.out,iW (fun h=>g h.1)]
   rw[e]
   rfl
theorem Am(b:Nat)(s:ByteArray)(p n:Nat)(A:Option Addr)(C B:Nat)(c r:Int)(w:World)(G:s.size<=1099511627776)(z:p+n<=s.size)(h:Sc w b s p A C B c r):
 Calls Tryz.prog 55 #[.pointer (some ⟨b,0,none⟩),.int .i64 (n:Nat),.func (.func 56) #[] #[]] w fun e u=>e=.returned (.string (s.extract (p+n) (cn dx s (p+n))))/\∃ q,u=w.drewN q:=by
 obtain⟨_,D,E,_,_,_,_⟩:=h;go_enter Tryz.func55,Tryz.ntmps55
 go_wp2
 go_loopw [7] (fun o wr=>(∃ q,wr=w.drewN q)/\∃ k:Nat,n<=k/\p+k<=s.size/\o=.int .i64 (k:Nat)/\Hid (cn dx s (p+n)=cn dx s (p+k))) (fun o _=>s.size-(intOf o).toNat)
 case atStart=>exact⟨⟨0,rfl⟩,n,Nat.le_refl _,z,rfl,U rfl⟩
 case round=>
  obtain⟨⟨q,rfl⟩,k,F,y,rfl,f⟩:=hrel
  by_cases g:p+k<s.size
  ·have i:(p:Int)+(k:Int)<(s.size:Int):=O
   have m:IntKind.i64.wrap ((p:Int)+(k:Int))=(p:Int)+(k:Int):=gv _ O;have j:∀ w,(Instr.index 9 (.string s) (.int .i64 ((p:Int)+(k:Int)))).run Tryz.prog w=.ok (.int .u8 (bt s (p+k):Nat)) w:=fun w=>f' Tryz.underlying9 g rfl
   rcases a:dx (bt s (p+k)) with _|_
   ·go_wp2
    go_quiet ((refine(s0 _ _ (gI _ _)).mono ?_;rintro e u ⟨rfl,rfl⟩;exact⟨congrArg (fun x=>Ending.returned (Value.bool x)) a,_,rfl⟩))
    go_wp2
    have l:IntKind.i64.wrap ((p:Int)+(n:Int))=(p:Int)+(n:Int):=gv _ O;have d:=U a;clear j a
    go_quiet (fail)
    go_wp2
    go_ret;refine⟨?_,_,by rw[nW,nW]⟩;have e:cn dx s (p+n)=p+k:=by rw[f.out,iW (by rw[d.out];simp)]
    rw[e]
    rfl
   ·go_wp2
    go_quiet ((refine(s0 _ _ (gI _ _)).mono ?_;rintro e u ⟨rfl,rfl⟩;exact⟨congrArg (fun x=>Ending.returned (Value.bool x)) a,_,rfl⟩))
    go_wp2
    exact⟨⟨⟨_,rfl⟩,k+1,O,O,rfl,U (by rw[f.out,kW g a];rfl)⟩,by simp[intOf];omega⟩
  ·have i:(s.size:Int)<=(p:Int)+(k:Int):=O
   have v:decide ((p:Int)+(k:Int)<(s.size:Int))=false:=by rw[decide_eq_false_iff_not];omega
   have m:IntKind.i64.wrap ((p:Int)+(k:Int))=(p:Int)+(k:Int):=gv _ O
   go_wp2
   go_quiet (fail)
   go_wp2
   have l:IntKind.i64.wrap ((p:Int)+(n:Int))=(p:Int)+(n:Int):=gv _ O;clear v
   go_quiet (fail)
   go_wp2
   go_ret;refine⟨?_,_,by rw[nW,nW]⟩;have e:cn dx s (p+n)=p+k:=by rw[f.out,iW (fun h=>g h.1)]
   rw[e]
   rfl
theorem Cl(b:Nat)(s:ByteArray)(p n:Nat)(A:Option Addr)(C B:Nat)(c r:Int)(w:World)(G:s.size<=1099511627776)(z:p+n<=s.size)(h:Sc w b s p A C B c r):
 Calls Tryz.prog 55 #[.pointer (some ⟨b,0,none⟩),.int .i64 (n:Nat),.func (.func 59) #[] #[]] w fun e u=>e=.returned (.string (s.extract (p+n) (cn fm s (p+n))))/\∃ q,u=w.drewN q:=by
 obtain⟨_,D,E,_,_,_,_⟩:=h;go_enter Tryz.func55,Tryz.ntmps55
 go_wp2
 go_loopw [7] (fun o wr=>(∃ q,wr=w.drewN q)/\∃ k:Nat,n<=k/\p+k<=s.size/\o=.int .i64 (k:Nat)/\Hid (cn fm s (p+n)=cn fm s (p+k))) (fun o _=>s.size-(intOf o).toNat)
 case atStart=>exact⟨⟨0,rfl⟩,n,Nat.le_refl _,z,rfl,U rfl⟩
 case round=>
  obtain⟨⟨q,rfl⟩,k,F,y,rfl,f⟩:=hrel
  by_cases g:p+k<s.size
  ·have i:(p:Int)+(k:Int)<(s.size:Int):=O
   have m:IntKind.i64.wrap ((p:Int)+(k:Int))=(p:Int)+(k:Int):=gv _ O;have j:∀ w,(Instr.index 9 (.string s) (.int .i64 ((p:Int)+(k:Int)))).run Tryz.prog w=.ok (.int .u8 (bt s (p+k):Nat)) w:=fun w=>f' Tryz.underlying9 g rfl
   rcases a:fm (bt s (p+k)) with _|_
   ·go_wp2
    go_quiet ((refine(s3 _ _ (gI _ _)).mono ?_;rintro e u ⟨rfl,rfl⟩;exact⟨congrArg (fun x=>Ending.returned (Value.bool x)) a,_,rfl⟩))
    go_wp2
    have l:IntKind.i64.wrap ((p:Int)+(n:Int))=(p:Int)+(n:Int):=gv _ O;have d:=U a;clear j a
    go_quiet (fail)
    go_wp2
    go_ret;refine⟨?_,_,by rw[nW,nW]⟩;have e:cn fm s (p+n)=p+k:=by rw[f.out,iW (by rw[d.out];simp)]
    rw[e]
    rfl
   ·go_wp2
    go_quiet ((refine(s3 _ _ (gI _ _)).mono ?_;rintro e u ⟨rfl,rfl⟩;exact⟨congrArg (fun x=>Ending.returned (Value.bool x)) a,_,rfl⟩))
    go_wp2
    exact⟨⟨⟨_,rfl⟩,k+1,O,O,rfl,U (by rw[f.out,kW g a];rfl)⟩,by simp[intOf];omega⟩
  ·have i:(s.size:Int)<=(p:Int)+(k:Int):=O
   have v:decide ((p:Int)+(k:Int)<(s.size:Int))=false:=by rw[decide_eq_false_iff_not];omega
   have m:IntKind.i64.wrap ((p:Int)+(k:Int))=(p:Int)+(k:Int):=gv _ O
   go_wp2
   go_quiet (fail)
   go_wp2
   have l:IntKind.i64.wrap ((p:Int)+(n:Int))=(p:Int)+(n:Int):=gv _ O;clear v
   go_quiet (fail)
   go_wp2
   go_ret;refine⟨?_,_,by rw[nW,nW]⟩;have e:cn fm s (p+n)=p+k:=by rw[f.out,iW (fun h=>g h.1)]
   rw[e]
   rfl
section
open Go
section
variable {P:Program} {f:Array Oper} {Q:Exit->Act->World->Prop} {g:Region.Mode} {S:World->Prop} {T:Nat->Bool}
def gb(P:Program)(g:Region.Mode)(f:Array Oper)(Q:Exit->Act->World->Prop)(S:World->Prop)(T:Nat->Bool):Nat->Array Bool->Act->World->Prop
 |0,L,a,w=>Region.ready g f L=[]/\Q .normal a w
 |m+1,L,a,w=>(Region.ready g f L=[]->Q .normal a w)/\
  ∀ i∈Region.ready g f L,wpOp P f Q i (fun b v=>(T i=false->S v)/\gb P g f Q S T m (L.setIfInBounds i true) b v) a w
theorem xP:∀ (m:Nat) (L:Array Bool) (a:Act) (w:World),gb P g f Q S T m L a w->wpAny P g f Q m L a w
 |0,_,_,_,h=>h
 |m+1,_,_,_,h=>⟨h.1,fun i c=>wpOp_mono (fun b v k=>xP m _ b v k.2) (h.2 i c)⟩
def jM(g:Region.Mode)(f:Array Oper)(k i:Nat):Bool:=
 match f[k]? with
 |some o=>o.after.any fun e=>Region.binds g e&&e.on==i
 |none=>false
def lW(g:Region.Mode)(f:Array Oper)(T:Nat->Bool)(i:Nat):Bool:=
 !T i&&(List.range f.size).all fun j=>!T j||match f[j]? with
  |some o=>o.after.any fun e=>Region.binds g e&&(e.on==i||jM g f e.on i)
  |none=>true
def l4(g:Region.Mode)(f:Array Oper)(L:Array Bool)(i:Nat):Bool:=
 (List.range f.size).all fun k=>!jM g f k i||!L.getD k true
theorem l9{k:Nat}(h:jM g f k i=true):k<f.size:=by
 rcases gr k f.size with q|q
 ·exact q
 ·unfold jM at h;rw[Hl q] at h;cases h
theorem vK{k:Nat}(h:l4 g f L i=true)(b:jM g f k i=true):L.getD k true=false:=by
 unfold l4 at h;rw[qs] at h;have a:=h k (List.mem_range.2 (l9 b));rw[b] at a
 simpa using a
theorem xQ(h:l4 g f L i=true)(a:jM g f j i=false):l4 g f (L.setIfInBounds j true) i=true:=by
 unfold l4;rw[qs];intro k c
 rcases b:jM g f k i with _|_
 ·rfl
 ·have e:j≠k:=fun e=>by subst e;rw[b] at a;cases a
  rw[getD_set_ne true e,vK h b];rfl
theorem tB(h:lW g f T i=true)(r:l4 g f L i=true)(d:f[j]?=some o)(m:∀ e∈o.after,Region.binds g e=true->e.on≠i)
 (b:∀ e∈o.after,Region.binds g e=true->L.getD e.on true=true):T j=false:=by
 unfold lW at h;rw[mo,qs] at h
 have l:j<f.size:=by
  rcases gr j f.size with k|k
  ·exact k
  ·rw[Hl k] at d;cases d
 have a:=h.2 j (List.mem_range.2 l);rw[d] at a
 rcases s:T j with _|_
 ·rfl
 ·rw[s] at a;simp only [Bool.not_true,Bool.false_or] at a;rw[Array.any_eq_true'] at a;obtain⟨e,n,c⟩:=a;rw[mo,yM] at c
  rcases c.2 with q|q
  ·exact absurd (by simpa using q) (m e n c.1)
  ·have p:=vK r q;rw[b e n c.1] at p;cases p
theorem qR(h:f[j]?=some o)(b:∀ e∈o.after,Region.binds g e=true->e.on≠i):jM g f j i=false:=by
 unfold jM;rw[h]
 rcases c:(o.after.any fun e=>Region.binds g e&&e.on==i) with _|_
 ·exact c
 ·rw[Array.any_eq_true'] at c;obtain⟨e,d,a⟩:=c;rw[mo] at a;exact absurd (by simpa using a.2) (b e d a.1)
theorem A6(X:f[i]?=some l)(y:∀ (j:Nat) (o:Oper) B b,f[j]?=some o->o.op≠.select B b)
 (aE:∀ c a w,Q (.panic c) (a.put l.dst v) w->Q (.panic c) a w) (aK:lW g f T i=true):
 ∀ (m:Nat) (L:Array Bool) (a:Act) (w:World),
   (∀ j A,f[j]?=some A->j≠i->L.getD j true=false->(∀ e∈A.after,Region.binds g e=true->e.on≠i)->l.apart f A=true)->
   l4 g f L i=true->i∈Region.ready g f L->YieldsIf P f S l v a->S w->
   gb P g f Q S T m (L.setIfInBounds i true) (a.put l.dst v) w->gb P g f Q S T (m+1) L a w:=by
 intro m
 induction m with
 |zero=>
  intro L a w _ _ z M C H;refine⟨fun h=>(by rw[h] at z;cases z),fun j J=>?_⟩
  by_cases e:j=i
  ·subst e;exact M.wpOp X C ⟨fun _=>C,H⟩
  ·have:=ready_mono J e;rw[H.1] at this;cases this
 |succ m aL=>
  intro L a w n aA z M C H;refine⟨fun h=>(by rw[h] at z;cases z),fun j J=>?_⟩
  by_cases e:j=i
  ·subst e;exact M.wpOp X C ⟨fun _=>C,H⟩
  ·have aC:=H.2 j (ready_mono J e);obtain⟨u,A,r,t⟩:=mem_ready.1 J
   have p:∀ d∈A.after,Region.binds g d=true->d.on≠i:=fun d aG R W=>by
    have F:=t d aG R;have aB:=(mem_ready.1 z).1;rw[W] at F
    rcases gr i L.size with N|N
    ·simp[N] at aB F;rw[aB] at F;cases F
    ·simp[Array.getElem?_eq_none N] at F
   have aF:=tB aK aA r p (fun e aH R=>(by have:=t e aH R;rcases aJ:L[e.on]? with _|q<;>simp[aJ] at this⊢;exact this))
   have aD:=wpOp_putIf r (n j A r e u p) (fun B b=>y i l B b X) (fun B b=>y j A B b r) aE M aC
   have s:∀ k G,f[k]?=some G->k≠i->(L.setIfInBounds j true).getD k true=false->
    (∀ d∈G.after,Region.binds g d=true->d.on≠i)->l.apart f G=true:=fun k G aI Y E Z=>by
    refine n k G aI Y ?_ Z
    by_cases D:j=k
    ·subst D;exact u
    ·rw[getD_set_ne true D] at E;exact E
   refine wpOp_mono (fun b x I=>⟨I.2.1,aL (L.setIfInBounds j true) b x s (xQ aA (qR r p)) (ready_mono z (Ne.symm e)) I.1 (I.2.1 aF) ?_⟩) aD;rw[D_ _ _ e];exact I.2.2
theorem vL(b:f[i]?=some l)
 (o:Region.noSelect f=true) (k:Region.free g f L i=true) (n:(Region.ready g f L).contains i=true) (p:lW g f T i=true) (d:l4 g f L i=true)
 (e:∀ c a w,Q (.panic c) (a.put l.dst v) w->Q (.panic c) a w) (q:YieldsIf P f S l v a) (j:S w)
 (h:gb P g f Q S T m (L.setIfInBounds i true) (a.put l.dst v) w):gb P g f Q S T (m+1) L a w:=
 A6 b (Ec o) e p m L a w (Ei b k) d (by simpa using n) q j h
theorem tq(i:Nat)(o:S w)(h:gb P g f Q S T m d b w)
 (hi:f[i]?=some l:=by rfl) (hs:Region.noSelect f=true:=by kernel_rfl) (p:Region.free g f L i=true:=by kernel_rfl) (q:(Region.ready g f L).contains i=true:=by kernel_rfl) (r:lW g f T i=true:=by kernel_rfl) (k:l4 g f L i=true:=by kernel_rfl)
 (n:∀ c a w,Q (.panic c) (a.put l.dst v) w->Q (.panic c) a w:=by exact fun _ _ _ h=>h) (hy:YieldsIf P f S l v a:=by refine mq ⟨by rfl,?_⟩;intro t e;(repeat (have s:=And.left e;replace e:=And.right e));go_simp;try with_reducible rfl)
 (j:L.setIfInBounds i true=d:=by(try simp only [List.setIfInBounds_toArray,List.set_cons_zero,List.set_cons_succ]);(try rfl)) (hb:a.put l.dst v=b:=by(try simp only [Act.put,List.getElem_toArray,List.getElem_cons_zero,List.getElem_cons_succ,List.setIfInBounds_toArray,List.set_cons_zero,List.set_cons_succ]);(try rfl)):gb P g f Q S T (m+1) L a w:=
 vL hi hs p q r k n hy o (by rw[j,hb];exact h)
theorem ck(i:Nat)(n:S w)(h:gb P g f Q S T m d b w)
 (q:f[i]?=some l:=by rfl) (s:Region.noSelect f=true:=by kernel_rfl) (p:Region.free g f L i=true:=by kernel_rfl) (r:(Region.ready g f L).contains i=true:=by kernel_rfl) (t:lW g f T i=true:=by kernel_rfl) (j:l4 g f L i=true:=by kernel_rfl)
 (k:∀ c a w,Q (.panic c) (a.put l.dst undef) w->Q (.panic c) a w:=by exact fun _ _ _ h=>h) (u:YieldsIf P f S l undef a:=by exact Or.inr ⟨by rfl,rfl⟩)
 (e:L.setIfInBounds i true=d:=by(try simp only [List.setIfInBounds_toArray,List.set_cons_zero,List.set_cons_succ]);(try rfl)) (o:a.put l.dst undef=b:=by(try simp only [Act.put,List.getElem_toArray,List.getElem_cons_zero,List.getElem_cons_succ,List.setIfInBounds_toArray,List.set_cons_zero,List.set_cons_succ]);(try rfl)):gb P g f Q S T (m+1) L a w:=
 vL q s p r t j k u n (by rw[e,o];exact h)
theorem xR(e:Region.ready g f L=[i])(n:f[i]?=some o)
 (h:∀ K:Act->World->Prop,Shut (∀ b v,(T i=false->S v)->gb P g f Q S T m (L.setIfInBounds i true) b v->K b v)->if Region.wanted o (yielded f a.tmps)=true then Oper.wp P o a w K Q else K (a.put o.dst undef) w):
 gb P g f Q S T (m+1) L a w:=
 ⟨fun c=>(by rw[e] at c;cases c),fun j d=>by
  rw[e] at d;obtain rfl:j=i:=by simpa using d
  exact wpOp_step n (fun K hK=>h K (fun b v l k=>hK b v ⟨l,k⟩))⟩
theorem cw(i:Nat)(h:∀ K:Act->World->Prop,Shut (∀ b v,(T i=false->S v)->gb P g f Q S T m (L.setIfInBounds i true) b v->K b v)->if Region.wanted o (yielded f a.tmps)=true then Oper.wp P o a w K Q else K (a.put o.dst undef) w)
 (d:Region.ready g f L=[i]:=by kernel_rfl) (c:f[i]?=some o:=by rfl):gb P g f Q S T (m+1) L a w:=xR d c h
theorem nx{p:Prop}{a:Act}{v:World}(hK:Shut (∀ b v,(p->S v)->gb P g f Q S T m L b v->K b v))(e:S v)(h:gb P g f Q S T m d a v)(c:L=d:=by(try simp only [List.setIfInBounds_toArray,List.set_cons_zero,List.set_cons_succ]);(try rfl))(hb:b=a:=by(try simp only [Act.put,List.getElem_toArray,List.getElem_cons_zero,List.getElem_cons_succ,List.setIfInBounds_toArray,List.set_cons_zero,List.set_cons_succ]);(try rfl)):K b v:=hK.out b v (fun _=>e) (by rw[c,hb];exact h)
theorem oZ{p:Prop}{a:Act}{v:World}(hK:Shut (∀ b v,(p->S v)->gb P g f Q S T m L b v->K b v))(h:gb P g f Q S T m d a v)(i:¬p:=by exact fun h=>by cases h)(c:L=d:=by(try simp only [List.setIfInBounds_toArray,List.set_cons_zero,List.set_cons_succ]);(try rfl))(e:b=a:=by(try simp only [Act.put,List.getElem_toArray,List.getElem_cons_zero,List.getElem_cons_succ,List.setIfInBounds_toArray,List.set_cons_zero,List.set_cons_succ]);(try rfl)):K b v:=hK.out b v (fun h=>absurd h i) (by rw[c,e];exact h)
theorem bj{L:Array Bool}{a:Act}{w:World}(b:Region.ready g f L=[])(h:Q .normal a w):∀ m,gb P g f Q S T m L a w
 |0=>⟨b,h⟩
 |_+1=>⟨fun _=>h,by rw[b];simp⟩
theorem b3{c:Nat}(b:P.follows .mixedOrders=true)
 (h:gb P .any f Q S T f.size (Array.replicate f.size false) a w.drew):(Code.region c f true).wp P Q a w:=
 wp_region_any b (xP _ _ _ _ h)
end
end
end Go.Proofs.YtkblonfmjlopaaaGreatDoor
