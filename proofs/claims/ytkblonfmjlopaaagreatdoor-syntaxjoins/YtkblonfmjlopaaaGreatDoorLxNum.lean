/-
  quoted, walked.
-/
import Derived.Test.YtkblonfmjlopaaaGreatDoorLxBlP
set_option linter.all false
set_option maxRecDepth 1000000
set_option maxHeartbeats 16000000
namespace Go.Proofs.YtkblonfmjlopaaaGreatDoor
open Go Go.RowKit
variable {s:ByteArray}{l r:List UInt8}{c k n:Nat}{a:Option Addr}{x:UInt8}{w:World}
def Bs(w:World)(base:Nat)(a:Option Addr)(n c:Nat)(l:List UInt8):Prop:=
 ∃ h,ky w a n c h/\n=l.length/\(∀ i x,l[i]?=some x->h i=.int .u8 (x.toNat:Nat))/\dh w base a c/\(l=[]->a=none)
theorem Bs.nil(w:World)(a:Nat):Bs w a none 0 0 []:=⟨fun _=>.bool false,ky.empty _ _ _,rfl,fun i x e=>by simp at e,dh.nil _ _ _,fun _=>rfl⟩
theorem Bs.below{w':World}{d:Nat}(k:Bs w d a n c l)(m:Below w.heap.size w w'):Bs w' d a n c l:=by
 obtain⟨h,A,e,v,N,t⟩:=k;refine⟨h,A.below m (aw _),e,v,fun i o=>?_,t⟩;obtain⟨b,f,j,r,s⟩:=N i o;obtain⟨x,q,g,u⟩:=A.cell i o;rw[j] at g;simp only [Option.some.injEq,Addr.mk.injEq,and_true] at g;obtain⟨rfl,rfl⟩:=g;exact⟨b,f,j,r,(m.frozen (p:=⟨b,f+i,none⟩) (kU w _ u)).trans s⟩
theorem Tryz.Mq:(Tryz.prog.info? 5).map (fun i=>(i.zero,i.size,i.bytes))=some (some (.int .u8 0),1,1):=aq
theorem Fl{c:Nat}{v:Value}(h:w.cell? ⟨c,0,none⟩=some v):∀ i,i<1->∃ b a,(some ⟨c,0,none⟩:Option Addr)=some ⟨b,a,none⟩/\w.cell? ⟨b,a+i,none⟩=some v:=fun i d=>by
 have:i=0:=O
 subst this;exact⟨c,0,rfl,h⟩
theorem ns{k:Array Oper}{f:List Oper}{o:Oper}{d:Act}{Q:Exit->Act->World->Prop}(w:World)(t:o.guard=none)(s x:Operand)
 (J:o.op=.call {callee:=.builtin .append,args:=#[s,x],argTypes:=#[165,165]}) (b:Nat) (g:b<=w.heap.size)
 (a:Option Addr) (n c C y:Nat) (l:List UInt8) (R:y<256) (L:d.eval s=.slice a n c) (P:d.eval x=.slice (some ⟨C,0,none⟩) 1 1) (A:Bs w b a n c l) (v:w.cell? ⟨C,0,none⟩=some (.int .u8 (y:Nat)))
 (E:n<=70368744177664)
 (hK:∀ p q m,Bs m b p (n+1) q (l++[UInt8.ofNat y])->Below b w m->wpList Tryz.prog k Q f (d.put o.dst (.slice p (n+1) q)) m):
 wpList Tryz.prog k Q (o::f) d w:=by
 obtain⟨h,F,e,M,N,S⟩:=A
 refine mi w t s x 165 165 J 5 5 (.int .u8 0) 1 Tryz.underlying165 Tryz.underlying165 Tryz.Mq rfl b g a (some ⟨C,0,none⟩) n c 1 1 h (fun _=>.int .u8 (y:Nat)) L P F N
  ⟨aw _,bh,Fl v⟩ (fun _ _=>rfl) O O ?_
 intro p q r m _ G H I;refine hK p q m ⟨_,G,by simp[e],fun i z j=>?_,H,fun h=>by simp at h⟩ I;unfold cat
 by_cases D:i<n
 ·rw[if_pos D];rw[lg O] at j;exact M i z j
 ·rw[if_neg D];rw[kC O] at j
  have u:i-l.length=0:=by
   have:=(List.getElem?_eq_some_iff.1 j).1;simp at this;omega
  rw[u] at j;have B:=f_ (show some (UInt8.ofNat y)=some z from j);subst B;rw[if_pos O,ofNat_toNat R]
theorem Ke{d:Nat}(k:Bs w d a n c l):(convert 165 9 (.slice a n c)).run Tryz.prog w=.ok (.string ⟨l.toArray⟩) w:=by
 obtain⟨h,A,rfl,o,N,g⟩:=k;cases l with
 |nil=>
  rw[g rfl];exact run_convert_bytes_nil (P:=Tryz.prog) (w:=w) 165 5 Tryz.underlying165 Tryz.underlying5 _ _ 9 Tryz.underlying9
 |cons y l=>
  have e:=A.le;obtain⟨b,f,rfl,i⟩:=A.addr (by simp at e;omega);refine run_convert_bytes_back w 165 9 5 ⟨b,f,none⟩ c (y::l) Tryz.underlying165 Tryz.underlying5 Tryz.underlying9 (fun j m=>?_);rw[uK,i j O,o j _ (fv m)]
theorem yU(h:(gT s k).2≠0):k+(gT s k).2<=s.size/\(gT s k).1<256:=by
 unfold gT at h⊢
 by_cases a:bt s k=110
 ·rw[if_pos a];have:=iX a O;simp;omega
 ·rw[if_neg a] at h⊢
  by_cases b:bt s k=116
  ·rw[if_pos b];have:=iX b O;simp;omega
  ·rw[if_neg b] at h⊢
   by_cases c:bt s k=92\/bt s k=34
   ·rw[if_pos c];have:=uY (s:=s) (i:=k) O;have:=gI s k;simp;omega
   ·rw[if_neg c] at h⊢
    by_cases d:k+3<=cn bm s k
    ·rw[if_pos d] at h⊢;have f:k<s.size:=(xr bm s (s.size-k) k k (aw _) (by have:runN bm s (s.size-k) k=cn bm s k:=rfl;omega)).1;have:=dm (p:=bm) (s:=s) (i:=k) O;simp only at h⊢
     by_cases e:(bt s k-48)*100+(bt s (k+1)-48)*10+(bt s (k+2)-48)<256
     ·rw[if_pos e];simp only;omega
     ·rw[if_neg e] at h;simp at h
    ·rw[if_neg d] at h;simp at h
theorem u2(s:ByteArray):∀ m a k b,k<=s.size->s.size+1<=m+k->s.size+1<=a+k->j5 s m k b=j5 s a k b:=by
 intro m
 induction m with
 |zero=>intro a k b n h l;omega
 |succ m i=>
  intro a k b n h l;obtain⟨a,rfl⟩:∃ j,a=j+1:=⟨a-1,O⟩;unfold j5
  by_cases d:s.size<=k
  ·rw[if_pos d,if_pos d]
  ·rw[if_neg d,if_neg d]
   by_cases e:bt s k=34
   ·rw[if_pos e,if_pos e]
   ·rw[if_neg e,if_neg e]
    by_cases f:bt s k<32\/126<bt s k
    ·rw[if_pos f,if_pos f]
    ·rw[if_neg f,if_neg f]
     by_cases g:bt s k≠92
     ·rw[if_pos g,if_pos g,i a _ _ O O O]
     ·rw[if_neg g,if_neg g]
      by_cases c:(gT s (k+1)).2=0
      ·rw[if_pos c,if_pos c]
      ·have:=yU c;rw[if_neg c,if_neg c,i a _ _ O O O]
def xu(s:ByteArray)(k:Nat)(out:List UInt8):Except (Nat×Nat) (List UInt8×Nat):=j5 s (s.size+1-k) k out
theorem yV{out:List UInt8}(g:k<=s.size):xu s k out=
 if s.size<=k then .error (31,s.size)
 else if bt s k=34 then .ok (out,k+1)
 else if bt s k<32\/126<bt s k then .error (32,k)
 else if bt s k≠92 then xu s (k+1) (out++[UInt8.ofNat (bt s k)])
 else if(gT s (k+1)).2=0 then .error (32,k)
 else xu s (k+1+(gT s (k+1)).2) (out++[UInt8.ofNat (gT s (k+1)).1]):=by
 unfold xu;obtain⟨m,f⟩:∃ m,s.size+1-k=m+1:=⟨s.size-k,O⟩;rw[f]
 conv=>lhs;unfold j5
 by_cases b:s.size<=k
 ·rw[if_pos b,if_pos b]
 ·rw[if_neg b,if_neg b]
  by_cases c:bt s k=34
  ·rw[if_pos c,if_pos c]
  ·rw[if_neg c,if_neg c]
   by_cases d:bt s k<32\/126<bt s k
   ·rw[if_pos d,if_pos d]
   ·rw[if_neg d,if_neg d]
    by_cases e:bt s k≠92
    ·rw[if_pos e,if_pos e,u2 s m (s.size+1-(k+1)) _ _ O O O]
    ·rw[if_neg e,if_neg e]
     by_cases a:(gT s (k+1)).2=0
     ·rw[if_pos a,if_pos a]
     ·have:=yU a;rw[if_neg a,if_neg a,u2 s m (s.size+1-(k+1+(gT s (k+1)).2)) _ _ O O O]
def Nr(w w':World)(b:Nat)(s:ByteArray)(p n:Nat)(ts:List Tok)(base:Nat)(e:Ending)(r:Except (Nat×Nat) (List UInt8×Nat)):Prop:=
 Below base w w'/\e6 w w'/\
 match r with
 |.ok (x,k)=>e=.returned (.tuple #[.string ⟨x.toArray⟩,.int .i64 ((k-p-n:Nat):Int)])/\St w' b s p ts base
 |.error (c,q)=>e=.returned (.tuple #[.string ⟨#[]⟩,.int .i64 0])/\∃ la ln lc,Sc w' b s p la ln lc (c:Nat) (q:Nat)
theorem mz{p:Prop}(h:p:=by
 go_wp2_with (first
  |(go_at_call 92;refine(Aq b s p (k+1) la ts.length lc 0 0 _ hs O (g1.drewN _)).mono ?_;intro e f y;obtain⟨x,a⟩:=y;rw[HR.out] at x;subst x;have C:=((g1.drewN _).below a).c1;have r:=a.size)
  |(at_builtin;refine ns _ rfl _ _ rfl w.heap.size (by have:=a.size;simp at this;simp;omega) _ _ _ _ d out O rfl rfl ((hB.below (bn wr _)).below (a.trans ((ab _ _).mono a.size))) ((jl f #[.int .u8 (d:Nat)] 5 0).trans rfl) O ?_;intro g i B u v)
  |(go_at_call 48;refine(iA b s p la ts.length lc 0 0 _ _ _ base h4 ((g1.drewN _).below a)).mono ?_;rintro e f ⟨rfl,l,o,q⟩)
  |(at_builtin;refine ns _ rfl _ _ rfl w.heap.size b1 _ _ _ wr.heap.size c out Ns rfl rfl (hB.below ((bn wr _).trans ((ab _ _).mono (aw _)))) ((jl (wr.drewN _) #[.int .u8 (c:Nat)] 5 0).trans rfl) O ?_;intro g i f u v)
  |(have z:=tk;go_at_call 47;refine(au b s p k la ts.length lc 0 0 _ O O O g1).mono ?_;rintro e f ⟨rfl,A,rfl⟩;rw[HC.out];clear tk)
  |(go_at_call 48;refine(iA b s p la ts.length lc 0 0 _ _ _ base h4 (g1.drewN _)).mono ?_;rintro e f ⟨rfl,l,o,q⟩))
 first
 |(go_ret2
   exact⟨((u3.mono Fk).trans (b' _ _)).trans o,((e6.below u3).trans (e6.below (bn _ _))).trans q,rfl,la,_,lc,l⟩)
 |(go_quiet (fail)
   go_wp2
   go_ret2
   refine⟨((u3.mono Fk).trans (b' _ _)),((e6.below u3).trans (e6.below (bn _ _))),?_,yW.drewN _⟩;have e:((p+k+1-p-n:Nat):Int)=(k:Int)+1-(n:Int):=by clear Oy;omega
   rw[e]
   rfl)
 |(refine⟨⟨g,m+1,i,_,k+1,rfl,rfl,O,O,O,u,(u3.trans (b' _ _)).trans ((((ab (wr.drewN _) _).mono Kf)).trans v),Mr⟩,by simp[intOf];omega⟩)
 |(go_ret2
   exact⟨(((u3.mono Fk).trans (b' _ _)).trans (a.mono (fy Fk Kf))).trans o,(((e6.below u3).trans (e6.below (bn _ _))).trans (e6.below a)).trans q,rfl,la,_,lc,l⟩)
 |(refine⟨⟨g,m+1,i,_,k+(1+j),rfl,rfl,O,O,O,u,((u3.trans (b' _ _)).trans (a.mono Kf)).trans (((ab _ _).mono (fy Kf r)).trans v),?_⟩,by simp[intOf];omega⟩
   rw[show p+(k+(1+j))=p+k+1+j from O]
   exact Mr)):p:=h
theorem lq(b:Nat)(s:ByteArray)(p n:Nat)(ts:List Tok)(base:Nat)(w:World)(hs:s.size<=65536)(aP:p+n<s.size)(h:St w b s p ts base)(Fk:base<=w.heap.size):
 Calls Tryz.prog 53 #[.pointer (some ⟨b,0,none⟩),.int .i64 (n:Nat)] w fun e aM=>Nr w aM b s p n ts base e (gj s (p+n)):=by
 obtain⟨R,N⟩:∃ R,Hid (xu s (p+(n+1)) []=R):=⟨_,U rfl⟩;rw[show gj s (p+n)=R from N.out];have aO:=h.base;have Z:=h;obtain⟨la,lc,H,aA,aB,h4,aD,aE⟩:=h;have X:=H.lt;have aU:=H.c0;have aV:=H.c1;clear aA aB aD aE;go_enter Tryz.func53,Tryz.ntmps53
 go_wp2
 go_loopw [6,7] (fun Y M wr=>∃ a m c out,∃ k:Nat,Y=.slice a m c/\M=.int .i64 (k:Nat)/\n<k/\p+k<=s.size/\m<=k/\Bs wr w.heap.size a m c out/\Below w.heap.size w wr/\Hid (xu s (p+k) out=R)) (fun _ M _=>s.size-(intOf M).toNat)
 case atStart=>exact⟨none,0,0,[],n+1,rfl,rfl,O,O,O,Bs.nil _ _,Below.refl _ _,N⟩
 case round=>
  obtain⟨a,m,aN,out,k,rfl,rfl,aL,aH,aK,hB,u3,W⟩:=hrel;have yW:=Z.below u3;have g1:=H.below u3;have Kf:=u3.size;have aR:wr.cell? ⟨b,0,none⟩=some (.string s):=g1.c0;have aT:wr.cell? ⟨b,1,none⟩=some (.int .i64 (p:Nat)):=g1.c1;obtain⟨c,i⟩:∃ c,bt s (p+k)=c:=⟨_,rfl⟩;have Ns:c<256:=i▸gI s _;have g:c≠0->p+k<s.size:=fun x=>iX i x;have f:=yV (s:=s) (out:=out) aH;rw[i,W.out] at f;have HC:=U i;have tk:True:=trivial;have Oy:IntKind.i64.wrap ((p:Int)+(k:Int))=(p:Int)+(k:Int):=gv _ O
  by_cases E:s.size<=p+k
  ·obtain aI:p+k=s.size:=O
   rw[if_pos E] at f;subst f;clear i HC g Ns;have L:(s.size:Int)<=(p:Int)+(k:Int):=O
   have J:decide ((s.size:Int)<=(p:Int)+(k:Int))=true:=by rw[decide_eq_true_eq];omega
   go_wp2_with (have C:=tk;go_at_call 47;refine(au b s p k la ts.length lc 0 0 _ O O O g1).mono ?_;rintro e G ⟨rfl,F,rfl⟩;clear tk)
   go_quiet (fail)
   exact mz
  rw[if_neg E] at f;have aJ:p+k<s.size:=O
  have L:(p:Int)+(k:Int)<(s.size:Int):=O
  have J:decide ((s.size:Int)<=(p:Int)+(k:Int))=false:=by rw[decide_eq_false_iff_not];omega
  by_cases B:c=34
  ·rw[if_pos B] at f;subst f;subst B;have aF:=fun q=>Ke (hB.below (bn wr q));clear i g;exact mz
  rw[if_neg B] at f;have Q:¬(c:Int)=34:=O
  have P:((c:Int)==34)=false:=b1
  by_cases y:c<32\/126<c
  ·rw[if_pos y] at f;subst f;clear i g
   by_cases aC:c<32
   ·have v:(c:Int)<32:=O
    have u:decide ((c:Int)<32)=true:=by rw[decide_eq_true_eq];omega
    go_wp2_with (have C:=tk;go_at_call 47;refine(au b s p k la ts.length lc 0 0 _ O O O g1).mono ?_;rintro e G ⟨rfl,F,rfl⟩;rw[HC.out];clear tk)
    go_quiet (fail)
    exact mz
   ·have v:¬(c:Int)<32:=O
    have u:decide ((c:Int)<32)=false:=by rw[decide_eq_false_iff_not];omega
    have A:(126:Int)<(c:Int):=O
    have z:decide ((126:Int)<(c:Int))=true:=by rw[decide_eq_true_eq];omega
    go_wp2_with (have C:=tk;go_at_call 47;refine(au b s p k la ts.length lc 0 0 _ O O O g1).mono ?_;rintro e G ⟨rfl,F,rfl⟩;rw[HC.out];clear tk)
    go_quiet (fail)
    exact mz
  rw[if_neg y] at f;have v:¬(c:Int)<32:=O
  have u:decide ((c:Int)<32)=false:=by rw[decide_eq_false_iff_not];omega
  have A:¬(126:Int)<(c:Int):=O
  have z:decide ((126:Int)<(c:Int))=false:=by rw[decide_eq_false_iff_not];omega
  by_cases D:c≠92
  ·rw[if_pos D] at f;have Mr:=U f.symm;have T:¬(c:Int)=92:=O
   have S:((c:Int)==92)=false:=b1
   clear i g f
   go_wp2_with (have C:=tk;go_at_call 47;refine(au b s p k la ts.length lc 0 0 _ O O O g1).mono ?_;rintro e G ⟨rfl,F,rfl⟩;rw[HC.out];clear tk)
   go_quiet (fail)
   exact mz
  rw[if_neg D] at f;obtain rfl:c=92:=O
  obtain⟨r,I⟩:∃ r,gT s (p+(k+1))=r:=⟨_,rfl⟩;obtain⟨d,j⟩:=r;rw[show gT s (p+k+1)=(d,j) from I] at f;simp only at f;have HR:=U I;have l:=@yU s (p+(k+1));rw[I] at l;simp only at l;clear i g I
  by_cases o:j=0
  ·rw[if_pos o] at f;subst f;subst o
   go_wp2_with (have C:=tk;go_at_call 47;refine(au b s p k la ts.length lc 0 0 _ O O O g1).mono ?_;rintro e G ⟨rfl,F,rfl⟩;rw[HC.out];clear tk)
   go_quiet (fail)
   exact mz
  ·rw[if_neg o] at f;have Mr:=U f.symm;have aG:=l o;have aQ:¬(j:Int)=0:=O
   clear f l
   go_wp2_with (have C:=tk;go_at_call 47;refine(au b s p k la ts.length lc 0 0 _ O O O g1).mono ?_;rintro e G ⟨rfl,F,rfl⟩;rw[HC.out];clear tk)
   go_quiet (fail)
   exact mz
theorem u4{b c:UInt8}(h:b≠c):Lib.index (b::l) [c]=if Lib.index l [c]==-1 then-1 else Lib.index l [c]+1:=by
 rw[Lib.index];have a:List.isPrefixOf [c] (b::l)=false:=by simp[List.isPrefixOf];exact fun e=>h e.symm
 rw[a];rfl
theorem u5{c:UInt8}:Lib.index (c::l) [c]=0:=by
 rw[Lib.index];have a:List.isPrefixOf [c] (c::l)=true:=by simp[List.isPrefixOf]
 rw[a];rfl
theorem Hz{b c d:UInt8}(h:b≠c)(l:List UInt8):∀ k,Lib.replaceK [c] [d] k (b::l)=b::Lib.replaceK [c] [d] k l
 |0=>rfl
 |k+1=>by
  have i:=Lib.index_ge l [c];unfold Lib.replaceK;rw[u4 h]
  by_cases a:Lib.index l [c]=-1
  ·rw[a];rfl
  ·have e:(Lib.index l [c]==-1)=false:=by simpa using a
   have f:(Lib.index l [c]+1==-1)=false:=b1
   rw[e];simp only [Bool.false_eq_true,if_false];rw[f];simp only [Bool.false_eq_true,if_false];obtain⟨j,g⟩:∃ j:Nat,Lib.index l [c]=j:=⟨(Lib.index l [c]).toNat,O⟩;rw[g,show((j:Int)+1).toNat=j+1 by omega,show((j:Int)).toNat=j by omega];simp[List.take_succ_cons,show j+1+1=(j+1)+1 from O]
theorem sd{c d:UInt8}:∀ l:List UInt8,Lib.replaceK [c] [d] (Lib.count l [c]) l=l.map fun x=>if x=c then d else x
 |[]=>by
  have:Lib.count [] [c]=0:=Lib.count_miss rfl;rw[this];rfl
 |b::l=>by
  by_cases h:b=c
  ·subst h;rw[Lib.count_cons_eq,ra,Lib.replaceK_hit [b] [d] _ _ 0 u5];simp[sd l]
  ·rw[Lib.count_cons_ne b c l h,Hz h,sd l,List.map_cons,if_neg h]
theorem Fm(l:List UInt8):Lib.replaceAll l [126] [45]=kX l:=by
 unfold Lib.replaceAll Lib.replace kX;rw[if_neg bh];have:Lib.replaceNum l [126] (-1)=Lib.count l [126]:=by unfold Lib.replaceNum;rw[if_pos (mq bh)]
 rw[this,sd]
def xv(l:List UInt8):Prop:=∀ x∈l,48<=x.toNat/\x.toNat<=57
theorem Ar{s:ByteArray}{k:Nat}(b:k<=s.size):∀ (m i:Nat),m=k-i->(∀ j,i<=j->j<k->bm (bt s j)=true)->xv (sub s i k)
 |0,i,hm,h=>fun x a=>by
  rcases gr i k with c|c
  ·omega
  ·have:sub s i k=[]:=by rw[pY];apply Hj;simp;omega
   rw[this] at a;cases a
 |m+1,i,hm,h=>fun x a=>by
  rw[me O b] at a
  rcases List.mem_cons.1 a with rfl|a
  ·have:=gx (h i (aw _) O);rw[ofNat_toNat O];exact this
  ·exact Ar b m (i+1) O (fun j e d=>h j O d) x a
theorem Fo{i:Nat}(c:i<=s.size):xv (sub s i (cn bm s i)):=
 Ar (dm c) _ i rfl (fun j a b=>xt a b)
theorem Fp(l:List UInt8):iO 0 (48::l)=iO 0 l:=by
 rw[nS];rfl
theorem qI:∀ l:List UInt8,iO 0 (Lib.trimLeftB l 48)=iO 0 l
 |[]=>rfl
 |x::l=>by
  unfold Lib.trimLeftB
  by_cases h:x=48
  ·subst h;rw[List.dropWhile_cons,if_pos ar,Fp];exact qI l
  ·rw[List.dropWhile_cons,if_neg (by simpa using h)]
theorem Co(l:List UInt8):∀ x∈Lib.trimLeftB l 48,x∈l:=fun x a=>(List.dropWhile_sublist _).mem a
theorem As(h:Lib.trimLeftB l 48=x::r):x≠48:=by
 intro e;subst e;have:=List.head?_dropWhile_not (p:=fun y:UInt8=>y==48) l;unfold Lib.trimLeftB at h;rw[h] at this;simp at this
theorem Cp(l:List UInt8):(Lib.trimLeftB l 48).length<=l.length:=(List.dropWhile_sublist _).length_le
theorem Fq(b:x≠48)(a:xv (x::r)):isNum (x::r)=true:=by
 unfold isNum;simp only [List.isEmpty_cons,Bool.not_false,Bool.true_and,Bool.and_eq_true,Bool.not_eq_true',List.head?_cons,List.all_eq_true,decide_eq_true_eq];refine⟨?_,a⟩;have:(some x==some (48:UInt8))=false:=by simpa using b
 rw[this,Bool.and_false]
theorem Cq(h:Lib.trimLeftB l 48=x::r)(c:xv l):Hq (x::r)=some (iO 0 l:Int):=by
 have a:xv (x::r):=fun y d=>c y (Co l y (h▸d));have b:=a x ar;unfold Hq
 rw[if_neg (by
  simp only [List.head?_cons,Option.some.injEq]
  intro e;subst e;simp at b),if_pos (Fq (As h) a),<-h,qI]
theorem At:Hq [48]=some 0:=bh
theorem Ft(h:Lib.trimLeftB l 48=[]):iO 0 l=0:=by rw[<-qI,h];rfl
theorem n3(h:k<=s.size):k<=iC s k/\iC s k<=s.size:=by
 unfold iC
 split
 ·rename_i a;have b:=h8 a.2;have c:=mu bm s (k+1);exact⟨O,dm O⟩
 ·exact⟨aw _,h⟩
theorem AF(s:ByteArray)(k:Nat):k+1<=lr s k:=by unfold lr;split<;>omega
theorem n4(h:k<=s.size):k<=jf s k/\jf s k<=s.size:=by
 unfold jf
 split
 ·split
  ·rename_i a;have b:=h8 a;have c:=mu bm s (lr s k);have d:=AF s k;exact⟨O,dm O⟩
  ·exact⟨aw _,h⟩
 ·exact⟨aw _,h⟩
theorem sk(x:Nat)(w:World):Calls Tryz.prog 91 #[.float .f64 x] w fun e a=>e=.returned (.int .u64 (x:Nat))/\a=w:=by
 go_enter Tryz.func91,Tryz.ntmps91
 go_wp2
 rw[run_callFunc_extern Tryz.func128 aq aq aq (e:=Extern.MathFloatBits.float64bits) aq];rw[show(Extern.MathFloatBits.float64bits #[.float .f64 x]).run Tryz.prog w=.ok (.int .u64 (x:Nat)) w from rfl];simp only [Result.andThen];rw[Oper.upon_value]
 go_wp2
 go_ret;exact⟨rfl,rfl⟩
def PF(F:List UInt8->Nat)(base:Nat)(w:World)(l:List UInt8):Prop:=
 ∀ wx,Below base w wx->Calls Tryz.prog 89 #[.string ⟨l.toArray⟩,.int .i64 64] wx fun e w'=>∃ er,e=.returned (.tuple #[.float .f64 (F l),er])/\Below wx.heap.size wx w'
def Fh(F:List UInt8->Nat)(base:Nat)(w:World)(s:ByteArray):Prop:=
 ∀ i,(bm (bt s i)=true\/bt s i=126/\bm (bt s (i+1))=true)->jf s (iC s (gF s i))≠gF s i->jf s (iC s (gF s i))-i<=100->PF F base w (kX (sub s i (jf s (iC s (gF s i)))))
theorem u_(l:List UInt8):(kX l).length=l.length:=by unfold kX;simp
theorem Mg.Ib{d:World}{b:Bool}{f:Nat->Nat}{z:Int}(u:Us d a n c f)(g:n<=1048576)(m:Nm f n)(e:n=0->b=false)(h:gw b (val f n)=z):Mg d b a n c z:=⟨f,u,g,m,e,h⟩
theorem s6(F:List UInt8->Nat)(b:Nat)(s:ByteArray)(p:Nat)(v:List Tok)(base:Nat)(m:Int)(w:World)(cD:s.size<=65536)(I:bm (bt s p)=true\/bt s p=126/\bm (bt s (p+1))=true)(h:St w b s p v base)(bJ:base<=w.heap.size)(fA:3<base)(fE:w.cell? ⟨3,0,none⟩=some (.int .i64 m))(dQ:Fh F base w s):
 Calls Tryz.prog 52 (t_ b) w fun e bQ=>Out w bQ b s v base e (h7 F s p):=by
 obtain⟨R,cH⟩:∃ R,Hid (h7 F s p=R):=⟨_,U rfl⟩;rw[cH.out];have cW:=h.base;have cB:=h;have dK:=U (dQ p I);clear dQ;obtain⟨D,E,y,aL,J,cC,cU,eY⟩:=h;have eL:=y.lt;have gA:=y.c0;have gB:=y.c1;clear aL J cU eY
 obtain⟨G,C⟩:∃ G:Nat,(if bt s p=126 then 1 else 0)=G:=⟨_,rfl⟩;have fS:p<s.size:=by rcases I with h|h;exact h8 h;exact uY O
 have dD:p+G<s.size:=by
  rcases I with h|h
  ·have:=gx h;rw[if_neg O] at C;omega
  ·rw[if_pos h.1] at C;have:=h8 h.2;omega
 have bC:bm (bt s (p+G))=true:=by
  rcases I with h|h
  ·have:=gx h;rw[if_neg O] at C;subst C;exact h
  ·rw[if_pos h.1] at C;subst C;exact h.2
 have b6:gF s p=cn bm s (p+G):=by
  unfold gF;rw[<-C];split<;>rfl
 obtain⟨u,aM⟩:∃ u,cn bm s (p+G)=p+u:=⟨cn bm s (p+G)-p,ba (mu bm s (p+G))⟩;have dW:G<u:=ba (e7 dD bC)
 have aQ:p+u<=s.size:=by have:=dm (p:=bm) (s:=s) (i:=p+G) O;omega
 have cZ:=h6 (s:=s) (i:=p+G) (k:=p+u) O O;obtain⟨n,aN⟩:∃ n,iC s (p+u)=p+n:=⟨iC s (p+u)-p,ba (n3 aQ)⟩;have W:u<=n/\p+n<=s.size:=ba (n3 aQ)
 obtain⟨a,aO⟩:∃ a,jf s (p+n)=p+a:=⟨jf s (p+n)-p,ba (n4 W.2)⟩;have aR:n<=a/\p+a<=s.size:=ba (n4 W.2)
 obtain⟨W,dX⟩:=W;obtain⟨aR,dY⟩:=aR;rw[b6,aM,aN,aO] at dK
 have bT:Hid ((if p+a=p+u then(if 2000<p+a-p then .error (32,p) else .ok (⟨4,sub s p (p+a),uV s p (p+a),0,0,p⟩,p+a))
  else if 100<p+a-p then .error (32,p) else .ok (⟨5,sub s p (p+a),0,F (kX (sub s p (p+a))),0,p⟩,p+a):uU)=R):=by
  have:=cH.out;unfold h7 at this;rw[b6,aM,aN,aO] at this;exact U this
 have dH:=U aM;have dI:=U aN;have dJ:=U aO;have fN:=U bC;have fO:=U I;have dZ:G<=1:=by rw[<-C];split<;>omega
 have aJ:=U C;clear cH I bC b6 aM aN aO C;obtain⟨c0,bA⟩:∃ c0,bt s (p+0)=c0:=⟨_,rfl⟩;have dR:c0<256:=bA▸gI s _;have aY:=U bA;clear bA;go_enter Tryz.func52,Tryz.ntmps52
 go_upto_if 14 with(go_at_call 47;refine(au b s p (0) D v.length E 0 0 _ O O O y).mono ?_;rintro e g ⟨rfl,fJ,rfl⟩;rw[aY.out])
 go_cut [2] from 12 to 14 (fun bE aA=>∃ q,aA=w.drewN q/\bE=.int .i64 (G:Nat))
 case first=>
  by_cases f:c0=126
  ·subst f;have cQ:G=1:=by have:=aJ.out;rw[if_pos (show bt s p=126 from aY.out)] at this;exact this.symm
   subst cQ
   go_wp2_with fail
   go_meet
   exact⟨_,rfl,rfl⟩
  ·have cQ:G=0:=by have:=aJ.out;rw[if_neg (fun e=>f ((show bt s p=c0 from aY.out)▸e))] at this;exact this.symm
   subst cQ;have eO:¬(c0:Int)=126:=O
   have eN:((c0:Int)==126)=false:=b1
   go_wp2_with fail
   go_meet
   exact⟨_,rfl,rfl⟩
 case rest=>
 obtain⟨fV,rfl,rfl⟩:=hcut
 go_upto_region 3 with fail
 go_cut [2] from 15 to 20 (fun bE aA=>∃ q,aA=w.drewN q/\bE=.int .i64 (u:Nat))
 case first=>
  go_wp2_with (go_at_call 55;refine(ox b s p (G) D v.length E 0 0 _ O O (y.drewN _)).mono ?_;rintro e g ⟨rfl,_,rfl⟩;rw[dH.out])
  go_meet
  exact⟨_,rfl,congrArg (Value.int .i64) O⟩
 case rest=>
 obtain⟨fW,rfl,rfl⟩:=hcut;clear cZ;obtain⟨fr,bL⟩:∃ fr,(decide (bt s (p+u)=46)&&bm (bt s (p+(u+1))))=fr:=⟨_,rfl⟩;have aD:=U bL;clear bL
 go_upto_region 5 with fail
 go_cut [32] from 22 to 32 (fun eM aA=>∃ q,aA=w.drewN q/\eM=.bool fr)
 case first=>
  obtain⟨c1,Z⟩:∃ c1,bt s (p+u)=c1:=⟨_,rfl⟩;have dS:c1<256:=Z▸gI s _;have X:=U Z
  by_cases bH:c1=46
  ·subst bH;have cM:Hid (bm (bt s (p+(u+1)))=fr):=U (by have:=aD.out;rw[Z] at this;simpa using this);clear Z;have aH:True:=trivial
   go_wp2_with (first|(have bY:=aH;go_at_call 47;refine(au b s p (u) D v.length E 0 0 _ O O O (y.drewN _)).mono ?_;rintro e g ⟨rfl,_,rfl⟩;rw[X.out];clear aH)|(go_at_call 47;refine(au b s p (u+1) D v.length E 0 0 _ O O O (y.drewN _)).mono ?_;rintro e g ⟨rfl,_,rfl⟩)|(go_at_call 51;refine(dk _ _ (gI _ _)).mono ?_;rintro e g ⟨rfl,rfl⟩;rw[cM.out]))
   go_meet
   exact⟨_,rfl,rfl⟩
  ·have cM:fr=false:=by have:=aD.out;rw[Z] at this;simpa [bH] using this.symm
   subst cM;have eQ:¬(c1:Int)=46:=O
   have eP:((c1:Int)==46)=false:=b1
   clear Z
   go_wp2_with (go_at_call 47;refine(au b s p (u) D v.length E 0 0 _ O O O (y.drewN _)).mono ?_;rintro e g ⟨rfl,fK,rfl⟩;rw[X.out])
   go_meet
   exact⟨_,rfl,rfl⟩
 case rest=>
 obtain⟨fX,rfl,rfl⟩:=hcut
 go_upto_if 32 with fail
 go_cut [2] from 33 to 40 (fun bE aA=>∃ q,aA=w.drewN q/\bE=.int .i64 (n:Nat))
 case first=>
  cases fr
  ·have eV:n=u:=by
    have h:=aD.out;have aL:=dI.out;unfold iC at aL;rw[if_neg (by intro c;rw[c.1,show p+(u+1)=p+u+1 from O,c.2] at h;simp at h)] at aL;omega
   subst eV
   go_wp2_with fail
   go_meet
   exact⟨_,rfl,rfl⟩
  ·have cX:bt s (p+u)=46/\bm (bt s (p+u+1))=true:=by
    have h:=aD.out;rw[mo,decide_eq_true_eq] at h;exact⟨h.1,by rw[show p+u+1=p+(u+1) from O];exact h.2⟩
   have T:cn bm s (p+(u+1))=p+n:=by
    have aL:=dI.out;unfold iC at aL;rw[if_pos cX] at aL;exact aL
   have dC:=h8 cX.2;have aF:=mu bm s (p+(u+1));rw[T] at aF;have dA:=h6 (s:=s) (i:=p+(u+1)) (k:=p+n) O O;have bV:=U T;clear cX T
   go_wp2_with (go_at_call 55;refine(ox b s p (u+1) D v.length E 0 0 _ O O (y.drewN _)).mono ?_;rintro e g ⟨rfl,_,rfl⟩;rw[bV.out])
   go_meet
   exact⟨_,rfl,congrArg (Value.int .i64) O⟩
 case rest=>
 obtain⟨fY,rfl,rfl⟩:=hcut;obtain⟨c2,P⟩:∃ c2,bt s (p+n)=c2:=⟨_,rfl⟩;have dU:c2<256:=P▸gI s _;have Y:=U P
 go_upto_if 44 with(go_at_call 47;refine(au b s p (n) D v.length E 0 0 _ O O O (y.drewN _)).mono ?_;rintro e g ⟨rfl,fL,rfl⟩;rw[Y.out])
 go_cut [2,4] from 41 to 62 (fun bE _ aA=>∃ q,aA=w.drewN q/\bE=.int .i64 (a:Nat))
 case first=>
  by_cases bG:c2=101
  ·subst bG;obtain⟨j,aE⟩:∃ j,lr s (p+n)=p+j:=⟨lr s (p+n)-p,ba (AF s (p+n))⟩;have J:=dJ.out;unfold jf at J;rw[if_pos P,aE] at J;have cY:=iX P O;obtain⟨aK,Q⟩:∃ aK,bt s (p+(n+1))=aK:=⟨_,rfl⟩;have dV:aK<256:=Q▸gI s _;have aI:=U Q;unfold lr at aE;rw[show p+n+1=p+(n+1) from O,Q] at aE;clear P;have aH:True:=trivial
   rcases H:bm (bt s (p+j)) with _|_
   ·rw[H,if_neg ar] at J;obtain rfl:n=a:=O
    have aC:=U H
    by_cases f:aK=126
    ·subst f;rw[if_pos rfl] at aE;obtain rfl:j=n+1+1:=O
     clear aE H J Q
     go_wp2_with (first|(have bY:=aH;go_at_call 47;refine(au b s p (n+1) D v.length E 0 0 _ O O O (y.drewN _)).mono ?_;rintro e g ⟨rfl,_,rfl⟩;rw[aI.out];clear aH)|(go_at_call 47;refine(au b s p (n+1+1) D v.length E 0 0 _ O O O (y.drewN _)).mono ?_;rintro e g ⟨rfl,_,rfl⟩)|(go_at_call 51;refine(dk _ _ (gI _ _)).mono ?_;rintro e g ⟨rfl,rfl⟩;rw[aC.out]))
     go_meet
     exact⟨_,rfl,rfl⟩
    ·rw[if_neg f] at aE;obtain rfl:j=n+1:=O
     have cP:¬(aK:Int)=126:=O
     have cO:((aK:Int)==126)=false:=b1
     clear aE H J Q
     go_wp2_with (first|(have bY:=aH;go_at_call 47;refine(au b s p (n+1) D v.length E 0 0 _ O O O (y.drewN _)).mono ?_;rintro e g ⟨rfl,_,rfl⟩;rw[aI.out];clear aH)|(go_at_call 47;refine(au b s p (n+1) D v.length E 0 0 _ O O O (y.drewN _)).mono ?_;rintro e g ⟨rfl,_,rfl⟩)|(go_at_call 51;refine(dk _ _ (gI _ _)).mono ?_;rintro e g ⟨rfl,rfl⟩;rw[aC.out]))
     go_meet
     exact⟨_,rfl,rfl⟩
   ·rw[H,if_pos rfl] at J;have dC:=h8 H;have aF:=mu bm s (p+j);rw[J] at aF;have dA:=h6 (s:=s) (i:=p+j) (k:=p+a) O O;have aC:=U H;have bV:=U J
    by_cases f:aK=126
    ·subst f;rw[if_pos rfl] at aE;obtain rfl:j=n+1+1:=O
     clear aE H J Q
     go_wp2_with (first|(have bY:=aH;go_at_call 47;refine(au b s p (n+1) D v.length E 0 0 _ O O O (y.drewN _)).mono ?_;rintro e g ⟨rfl,_,rfl⟩;rw[aI.out];clear aH)|(go_at_call 47;refine(au b s p (n+1+1) D v.length E 0 0 _ O O O (y.drewN _)).mono ?_;rintro e g ⟨rfl,_,rfl⟩)|(go_at_call 51;refine(dk _ _ (gI _ _)).mono ?_;rintro e g ⟨rfl,rfl⟩;rw[aC.out])|(go_at_call 55;refine(ox b s p (n+1+1) D v.length E 0 0 _ O O (y.drewN _)).mono ?_;rintro e g ⟨rfl,_,rfl⟩;rw[bV.out]))
     go_meet
     exact⟨_,rfl,congrArg (Value.int .i64) O⟩
    ·rw[if_neg f] at aE;obtain rfl:j=n+1:=O
     have cP:¬(aK:Int)=126:=O
     have cO:((aK:Int)==126)=false:=b1
     clear aE H J Q
     go_wp2_with (first|(have bY:=aH;go_at_call 47;refine(au b s p (n+1) D v.length E 0 0 _ O O O (y.drewN _)).mono ?_;rintro e g ⟨rfl,_,rfl⟩;rw[aI.out];clear aH)|(go_at_call 47;refine(au b s p (n+1) D v.length E 0 0 _ O O O (y.drewN _)).mono ?_;rintro e g ⟨rfl,_,rfl⟩)|(go_at_call 51;refine(dk _ _ (gI _ _)).mono ?_;rintro e g ⟨rfl,rfl⟩;rw[aC.out])|(go_at_call 55;refine(ox b s p (n+1) D v.length E 0 0 _ O O (y.drewN _)).mono ?_;rintro e g ⟨rfl,_,rfl⟩;rw[bV.out]))
     go_meet
     exact⟨_,rfl,congrArg (Value.int .i64) O⟩
  ·have eX:a=n:=by
    have J:=dJ.out;unfold jf at J;rw[if_neg O] at J;omega
   subst eX;have eT:¬(c2:Int)=101:=O
   have eS:((c2:Int)==101)=false:=b1
   clear P
   go_wp2_with fail
   go_meet
   exact⟨_,rfl,rfl⟩
 case rest=>
 obtain⟨fZ,rfl,rfl⟩:=hcut;clear P Y aD;have fG:IntKind.i64.wrap ((p:Int)+(a:Int))=(p:Int)+(a:Int):=gv _ O;have aU:∀ (aA bQ:World) (e:Ending),Below w.heap.size w aA->Out aA bQ b s v base e R->Out w bQ b s v base e R:=fun aA bQ e cW o=>o.before (cW.mono bJ) (e6.below cW);have bS:=U aU;clear aU
 by_cases bM:a=u
 ·subst bM;have dB:=h6 (s:=s) (i:=p) (k:=p+a) O O;have l:=bT.out;rw[if_pos rfl,show p+a-p=a from O] at l;clear bT
  by_cases z:2000<a
  ·rw[if_pos z] at l;have bD:(2000:Int)<(a:Int):=O
   subst l
   go_wp2_with fail
   go_quiet (fail)
   go_wp2_with (go_at_call 48;refine(iA b s p D v.length E 0 0 _ _ _ base cC (y.drewN _)).mono ?_;rintro e g ⟨rfl,cR,cS,cT⟩)
   refine bodyPost_ret (results_none rfl _ _ _) rfl ?_;exact⟨rfl,(b' w _).trans cS,(e6.below (bn w _)).trans cT,p,D,_,E,cR⟩
  ·rw[if_neg z] at l;have bD:¬(2000:Int)<(a:Int):=O
   have bK:xv (sub s (p+G) (p+a)):=by have:=Fo (s:=s) (i:=p+G) O;rw[dH.out] at this;exact this
   obtain⟨d,I⟩:∃ d,sub s (p+G) (p+a)=d:=⟨_,rfl⟩;have fC:d.length<=a:=by rw[<-I,h6 O O];omega
   rw[I] at bK;obtain⟨pre,A⟩:∃ pre:Bool,pre=decide (G=1):=⟨_,rfl⟩
   have S:Lib.trimPrefix (sub s p (p+a)) [126]=d/\Lib.hasPrefix (sub s p (p+a)) [126]=pre:=by
    have h:=aJ.out
    by_cases f:bt s p=126
    ·rw[if_pos f] at h;subst h;rw[me O O,f,I,A];exact xi d
    ·rw[if_neg f] at h;subst h;rw[show p+0=p from O] at I;rw[I,A];refine xj d ?_;rw[<-I,me O O];simp only [List.head?_cons,ne_eq,Option.some.injEq];intro e;have:=congrArg UInt8.toNat e;rw[ofNat_toNat (gI _ _)] at this;exact f this
   have aT:uV s p (p+a)=if pre=true then-((iO 0 d:Nat):Int) else((iO 0 d:Nat):Int):=by
    have h:=aJ.out;unfold uV
    by_cases f:bt s p=126
    ·rw[if_pos f] at h⊢;subst h;rw[I,A];rfl
    ·rw[if_neg f] at h⊢;subst h;rw[show p+0=p from O] at I;rw[I,A];rfl
   rw[aT] at l;have X:=U S.1;have Y:=U S.2;clear S aT I
   rcases aZ:Lib.trimLeftB d 48 with _|⟨x,r⟩
   ·have eB:=Ft aZ;have bI:(.ok (⟨4,sub s p (p+a),0,0,0,p⟩,p+a):uU)=R:=by rw[<-l,eB];cases pre<;>rfl
    have L:=U bI;have bU:=U aZ;clear l bI aZ eB A
    go_wp2_with fail
    go_quiet (fail)
    go_wp2_with (first|(go_at_call 85;refine(Tryz.strings_CutPrefix _ ⟨#[126]⟩ _).mono ?_;rintro e g ⟨rfl,rfl⟩;rw[show(s.extract p (p+a)).data.toList=sub s p (p+a) from rfl,show(⟨#[126]⟩:ByteArray).data.toList=[126] from rfl,X.out,Y.out])|(go_at_call 86;refine(Tryz.strings_TrimLeft_one ⟨d.toArray⟩ 48 bh _).mono ?_;rintro e g ⟨rfl,rfl⟩;rw[hE,bU.out])|(go_at_call 87;refine(o_ [48] _ 0 bh At).mono ?_;rintro e g ⟨dG,bZ,nx,cA,dP,rfl,aG,bO,aB,cE,aW,aX,bP⟩;have bX:=U aW;have bF:=U aX;clear aW aX)|(go_at_call 58;refine(n1 b s p a 4 0 0 _ _ _ _ _ _ _ v base _ cD O O (cB.below ((bn w _).trans ((aB.mono ar).trans ((ab g _).mono (by have:=aB.size;simpa using this))))) ((Mg.Ib aG (by first|omega|(simp at bP;omega)) cE bX bF).a6 (e6.below (ab _ _)))).mono ?_;rintro e cF N;obtain rfl:=N.1;have M:=U N;clear N))
    refine bodyPost_ret (results_none rfl _ _ _) rfl ?_;have T:=M.out;rw[L.out] at T;exact bS.out _ _ _ ((bn w _).trans ((aB.mono ar).trans ((ab g _).mono (by have:=aB.size;simpa using this)))) T
   ·have aV:=Cq aZ bK;have bU:=U aZ;have fF:(x::r).length<=a:=by have:=Cp d;rw[aZ] at this;omega
    have dL:=U aV;clear aZ aV;cases pre
    ·simp only [Bool.false_eq_true,if_false] at l;have L:=U l;clear l A
     go_wp2_with fail
     go_quiet (fail)
     go_wp2_with (first|(go_at_call 85;refine(Tryz.strings_CutPrefix _ ⟨#[126]⟩ _).mono ?_;rintro e g ⟨rfl,rfl⟩;rw[show(s.extract p (p+a)).data.toList=sub s p (p+a) from rfl,show(⟨#[126]⟩:ByteArray).data.toList=[126] from rfl,X.out,Y.out])|(go_at_call 86;refine(Tryz.strings_TrimLeft_one ⟨d.toArray⟩ 48 bh _).mono ?_;rintro e g ⟨rfl,rfl⟩;rw[hE,bU.out])|(go_at_call 87;refine(o_ (x::r) _ _ O dL).mono ?_;rintro e g ⟨dG,bZ,nx,cA,dP,rfl,aG,bO,aB,cE,aW,aX,bP⟩;have bX:=U aW;have bF:=U aX;clear aW aX)|(go_at_call 58;refine(n1 b s p a 4 0 0 _ _ _ _ _ _ _ v base _ cD O O (cB.below ((bn w _).trans ((aB.mono ar).trans ((ab g _).mono (by have:=aB.size;simpa using this))))) ((Mg.Ib aG (by first|omega|(simp at bP;omega)) cE bX bF).a6 (e6.below (ab _ _)))).mono ?_;rintro e cF N;obtain rfl:=N.1;have M:=U N;clear N))
     refine bodyPost_ret (results_none rfl _ _ _) rfl ?_;have T:=M.out;rw[L.out] at T;exact bS.out _ _ _ ((bn w _).trans ((aB.mono ar).trans ((ab g _).mono (by have:=aB.size;simpa using this)))) T
    ·simp only [if_true] at l;have L:=U l;clear l A
     go_wp2_with fail
     go_quiet (fail)
     go_wp2_with (first|(go_at_call 85;refine(Tryz.strings_CutPrefix _ ⟨#[126]⟩ _).mono ?_;rintro e g ⟨rfl,rfl⟩;rw[show(s.extract p (p+a)).data.toList=sub s p (p+a) from rfl,show(⟨#[126]⟩:ByteArray).data.toList=[126] from rfl,X.out,Y.out])|(go_at_call 86;refine(Tryz.strings_TrimLeft_one ⟨d.toArray⟩ 48 bh _).mono ?_;rintro e g ⟨rfl,rfl⟩;rw[hE,bU.out])|(go_at_call 87;refine(o_ (x::r) _ _ O dL).mono ?_;rintro e g ⟨dG,bZ,nx,cA,dP,rfl,aG,bO,aB,cE,aW,aX,bP⟩;have bX:=U aW;have bF:=U aX;clear aW aX)|(go_at_call 88;refine(Hn _ _ _ _ _ _ O (aG.alloc _)).mono ?_;rintro e bR ⟨eF,dM,eE,dO,fR,rfl,fH,fT,dF,fI,eC,eD,fU⟩;have eH:=U eC;have eI:=U eD;clear eC eD;have B:=(Bx.made g (.bool dG) (.slice bZ nx cA) 72).a6 dF;have eJ:=B.c0;have eK:=B.c1;have fP:=B.fr))
     have eZ:g.heap.size<bR.heap.size:=by have:=dF.size;simp at this;omega
     have cV:w.heap.size<=g.heap.size:=by have:=aB.size;simpa using this
     have eU:(bR.setCell ⟨g.heap.size,0,none⟩ (.bool eF)).cell? ⟨g.heap.size,1,none⟩=some (.slice bZ nx cA):=by rw[eb _ _ _ _ ih];exact eK
     have cN:Below w.heap.size w ((bR.setCell ⟨g.heap.size,0,none⟩ (.bool eF)).setCell ⟨g.heap.size,1,none⟩ (.slice dM eE dO)):=((((bn w _).trans (aB.mono ar)).trans (((ab g _).mono cV).trans (dF.mono b1))).setCell cV _).setCell cV _;have fM:=((Mg.Ib fH (by first|omega|(simp at bP;omega)) fI eH (eI.trans (congrArg (fun t=>-t) bF))).a6 (((e6.refl bR).set eJ (fun _ h=>by cases h) _).set eU (fun _ h=>by cases h) (.slice dM eE dO)));have bN:=cB.below cN;have eG:=U cN;clear cN
     go_wp2_with (go_at_call 58;refine(n1 b s p a 4 0 0 _ _ _ _ _ _ _ v base _ cD O O bN fM).mono ?_;rintro e cF N;obtain rfl:=N.1;have M:=U N;clear N)
     refine bodyPost_ret (results_none rfl _ _ _) rfl ?_;have T:=M.out;rw[L.out] at T;exact bS.out _ _ _ eG.out T
 ·have l:=bT.out;rw[if_neg O,show p+a-p=a from O] at l;have cY:¬(a:Int)=(u:Int):=O
  have fD:((a:Int)==(u:Int))=false:=b1
  have dB:=h6 (s:=s) (i:=p) (k:=p+a) O O;clear bT
  by_cases z:100<a
  ·rw[if_pos z] at l;have bD:(100:Int)<(a:Int):=O
   subst l
   go_wp2_with fail
   go_quiet (fail)
   go_wp2_with (go_at_call 48;refine(iA b s p D v.length E 0 0 _ _ _ base cC (y.drewN _)).mono ?_;rintro e g ⟨rfl,cR,cS,cT⟩)
   refine bodyPost_ret (results_none rfl _ _ _) rfl ?_;exact⟨rfl,(b' w _).trans cS,(e6.below (bn w _)).trans cT,p,D,_,E,cR⟩
  ·rw[if_neg z] at l;have bD:¬(100:Int)<(a:Int):=O
   have L:=U l;have cJ:=U (dK.out O O)
   have aP:(s.extract p (p+a)).size+Lib.countB (s.extract p (p+a)) ⟨#[126]⟩*(⟨#[45]⟩:ByteArray).size<=140737488355328:=by
    have y:(s.extract p (p+a)).size=a:=by rw[pX O O];omega
    have aL:=Lib.count_le (s.extract p (p+a)).data.toList [126];have J:(s.extract p (p+a)).data.toList.length=a:=by rw[<-qw];exact y
    have cC:(⟨#[45]⟩:ByteArray).size=1:=rfl;have cU:Lib.countB (s.extract p (p+a)) ⟨#[126]⟩=Lib.count (s.extract p (p+a)).data.toList [126]:=rfl;rw[cC,cU,lp];omega
   have cG:=U aP;have dE:(s.extract p (p+a)).size=a:=by rw[pX O O];omega
   have cL:Hid ((s.extract p (p+a)).size<4294967281):=U O;have cK:Hid (Lib.replaceAll (s.extract p (p+a)).data.toList (⟨#[126]⟩:ByteArray).data.toList (⟨#[45]⟩:ByteArray).data.toList=kX (sub s p (p+a))):=U (Fm (sub s p (p+a)));have cI:=U (fun q=>o' fE q);clear l aP dE
   go_wp2_with fail
   go_quiet (fail)
   go_wp2_with (first|(go_at_call 90;refine(Tryz.strings_ReplaceAll _ _ _ m _ cL.out (cI.out _) bh cG).mono ?_;rintro e g ⟨rfl,aG⟩;rw[cK.out])|(go_at_call 89;refine(cJ.out _ ((b' w _).trans (aG.mono bJ))).mono ?_;rintro e bR ⟨fQ,rfl,bO⟩)|(go_at_call 91;refine(sk _ _).mono ?_;rintro e cF ⟨rfl,rfl⟩)|(go_at_call 58;refine(n1 b s p a 5 _ 0 _ _ _ _ _ _ _ v base _ cD O O (cB.below ((bn w _).trans (aG.trans (bO.mono aG.size)))) (Mg.zero _)).mono ?_;rintro e cF N;obtain rfl:=N.1;have M:=U N;clear N))
   go_end0;have T:=M.out;rw[L.out] at T;exact bS.out _ _ _ ((bn w _).trans (aG.trans (bO.mono aG.size))) T
end Go.Proofs.YtkblonfmjlopaaaGreatDoor
