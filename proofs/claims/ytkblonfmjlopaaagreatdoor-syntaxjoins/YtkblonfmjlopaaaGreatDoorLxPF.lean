/-
  A word hangs on its own bytes alone: read again elsewhere, before a stop, it is the same word. Plain.
-/
import Derived.Test.YtkblonfmjlopaaaGreatDoorSzOpen
set_option linter.all false
set_option maxRecDepth 1000000
set_option maxHeartbeats 16000000
namespace Go.Proofs.YtkblonfmjlopaaaGreatDoor
set_option linter.all false
open Go Go.RowKit
variable {s s':ByteArray}{c i f j k n r:Nat}{t:Tok}
def Stop(c:Nat):Prop:=c=0\/c=10\/c=32
def Ah(s s':ByteArray):Nat->Nat->Nat->Prop
 |0,_,_=>True
 |m+1,i,f=>Stop (bt s' f)\/(bt s' f=bt s i/\Ah s s' m (i+1) (f+1))
theorem Ah.all{s s':ByteArray}:∀ (m:Nat) {i f:Nat},(∀ j,bt s' (f+j)=bt s (i+j))->Ah s s' m i f
 |0,_,_,_=>trivial
 |m+1,i,f,h=>.inr ⟨h 0,Ah.all m fun j=>by have:=h (j+1);rwa [show f+1+j=f+(j+1) from O,show i+1+j=i+(j+1) from O]⟩
structure Loc(s s':ByteArray)(i f n:Nat):Prop where
 a:∀ j,j<n->bt s' (f+j)=bt s (i+j)
 e:Ah s s' 3 (i+n) (f+n)
 l:i+n<=s.size
 l':f+n<=s'.size
theorem u6{p:Nat->Bool}{s:ByteArray}(b:p 0=false):∀ (m k:Nat),(∀ j,j<m->p (bt s (k+j))=true)->p (bt s (k+m))=false->cn p s k=k+m
 |0,k,_,h=>iW (fun x=>by rw[qv] at h;rw[h] at x;cases x.2)
 |m+1,k,d,h=>by
  have a:=d 0 O;rw[qv] at a
  have e:k<s.size:=by
   rcases gr k s.size with c|c
   ·exact c
   ·rw[k9 c,b] at a;cases a
  rw[kW e a,u6 b m (k+1) (fun j f=>by have:=d (j+1) O;rwa [show k+1+j=k+(j+1) from O]) (by rwa [show k+1+m=k+(m+1) from O])];omega
theorem oA{p:Nat->Bool}{s:ByteArray}(c:p 0=false):∀ (f k:Nat),f=s.size-k->∃ m,cn p s k=k+m/\(∀ j,j<m->p (bt s (k+j))=true)/\p (bt s (k+m))=false
 |0,k,i=>⟨0,by rw[iW O];rfl,fun j d=>O,by rw[k9 O];exact c⟩
 |f+1,k,i=>by
  cases a:p (bt s k) with
  |false=>exact⟨0,by rw[iW (by simp[a])];rfl,fun j d=>O,a⟩
  |true=>
   have l:k<s.size:=O
   obtain⟨m,e,h,n⟩:=oA (s:=s) c f (k+1) O;have g:cn p s k=k+(m+1):=by rw[kW l a,e];omega
   have b:p (bt s (k+(m+1)))=false:=by rw[show k+(m+1)=k+1+m from O];exact n
   refine⟨m+1,g,fun j d=>?_,b⟩
   rcases j with _|j
   ·exact a
   ·rw[show k+(j+1)=k+1+j from O];exact h j O
theorem Loc.run(h:Loc s s' i f n){p:Nat->Bool}(b:p 0=false)(g:p 10=false)(l:p 32=false)(e:cn p s (i+j)=i+r)(w:r<=n):cn p s' (f+j)=f+r:=by
 obtain⟨m,v,o,d⟩:=oA (p:=p) (s:=s) b _ (i+j) rfl;have u:j+m=r:=O
 subst u
 have a:cn p s' (f+j)=f+j+m:=by
  refine u6 b m (f+j) (fun k t=>?_) ?_
  ·rw[e9,h.a _ O,<-e9];exact o k t
  ·rw[e9]
   rcases gr (j+m) n with c|c
   ·rw[h.a _ c,<-e9];exact d
   ·rcases h.e with q|q
    ·rw[show j+m=n from O]
     rcases q with q|q|q<;>rw[q]<;>assumption
    ·rw[show j+m=n from O,q.1,show i+n=i+j+m from O];exact d
 rw[a,e9]
theorem po(a:k<=s.size):∀ j,(sub s i k)[j]?=if j<k-i then s.data.toList[i+j]? else none:=by
 intro j;unfold sub;rw[Hk];simp only [Array.toList_extract,List.extract_eq_take_drop,List.getElem?_take,List.getElem?_drop]
theorem uo(a:k<=s.size):(sub s i k).length=k-i:=by
 unfold sub;rw[<-qw];rw[uH];omega
theorem sub_eq{a:Nat}(d:k<=s.size)(e:a<=s'.size)(l:k-i=a-f)(g:∀ j,j<k-i->bt s' (f+j)=bt s (i+j)):sub s' f a=sub s i k:=by
 apply List.ext_getElem?;intro j;rw[po d,po e,<-l]
 split
 ·rename_i h;have:=g j h;unfold bt at this;have b:i+j<s.data.toList.length:=by rw[<-qw];omega
  have c:f+j<s'.data.toList.length:=by rw[<-qw];omega
  rw[fv b,fv c] at this⊢;simp only [Option.getD_some] at this;exact congrArg some (UInt8.toNat_inj.mp this)
 ·rfl
theorem Loc.HJ(h:Loc s s' i f n)(b:r<=n):sub s' (f+j) (f+r)=sub s (i+j) (i+r):=
 sub_eq (ba h.l) (ba h.l') O fun k a=>by rw[e9,h.a _ O,e9]
theorem Loc.Au(h:Loc s s' i f n)(a:r<=n):sub s' f (f+r)=sub s i (i+r):=h.HJ (j:=0) a
theorem Loc.short(h:Loc s s' i f n){a:Nat}(b:gX s i (i+n) a=.ok (t,i+n)):gX s' f (f+n) a=.ok ({t with pos:=f},f+n):=by
 unfold gX at b⊢
 by_cases c:64<n
 ·rw[if_pos O] at b;cases b
 ·rw[if_neg O] at b;rw[if_neg O,h.Au (aw _)];simp only [Except.ok.injEq,Prod.mk.injEq] at b;obtain⟨rfl,_⟩:=b
  rfl
theorem HU:dx 0=false:=bh
theorem Cr:dx 10=false:=bh
theorem Ct:dx 32=false:=bh
theorem Av:bm 0=false:=bh
theorem Cu:bm 10=false:=bh
theorem Cv:bm 32=false:=bh
theorem Nt:fm 0=false:=by decide+kernel
theorem Mt:fm 10=false:=by decide+kernel
theorem Mu:fm 32=false:=by decide+kernel
theorem Fv(h:Stop c):isLet c=false:=by rcases h with rfl|rfl|rfl<;>decide
theorem pZ(h:Stop c):bm c=false:=by rcases h with rfl|rfl|rfl<;>decide
theorem mA{d:Nat}(h:Stop c)(a:d≠0/\d≠10/\d≠32):c≠d:=by rcases h with rfl|rfl|rfl<;>omega
theorem Loc.long(h:Loc s s' i f n):∀ (m b j:Nat),j<=n->n<=j+b->s.size<=i+j+m->hJ s m i (i+j)=.ok (t,i+n)->hJ s' b f (f+j)=.ok ({t with pos:=f},f+n):=by
 have F:=h.l;intro m
 induction m with
 |zero=>
  intro b j C D u a;have a:gX s i (i+j) 1=.ok (t,i+n):=a;have e:=jJ a;have e:j=n:=O
  subst e;have k:=h.short a;cases b with
  |zero=>exact k
  |succ b=>
   unfold hJ
   rw[if_neg (fun x=>by
    rcases h.e with q|q
    ·exact mA q O x.1
    ·have:=q.1;rw[k9 (s:=s) O] at this;omega)]
   exact k
 |succ m E=>
  intro b j C D u a;unfold hJ at a
  by_cases g:bt s (i+j)=46/\isLet (bt s (i+j+1))=true
  ·rw[if_pos g] at a;have y:=kD g.2;have z:=e7 y (iB g.2);have A:=dm (p:=dx) (s:=s) (i:=i+j+1) O
   split at a
   ·cases a
   rename_i w;have B:=u7 s i _ _ _ _ a A;obtain⟨r,v⟩:∃ r,cn dx s (i+j+1)=i+r:=⟨cn dx s (i+j+1)-i,O⟩;rw[v] at a w z B;have c:=h.run HU Cr Ct (j:=j+1) (r:=r) v O
   rcases b with _|b
   ·omega
   unfold hJ;rw[<-e9] at c;have l:bt s' (f+j)=46:=by rw[h.a j O];exact g.1
   have o:isLet (bt s' (f+j+1))=true:=by rw[e9,h.a (j+1) O,<-e9];exact g.2
   rw[if_pos ⟨l,o⟩,c];have d:=h.HJ (j:=j+1) (r:=r) O;rw[<-e9,<-e9] at d;rw[d,if_neg w];exact E b r O O O a
  ·rw[if_neg g] at a;have e:=jJ a;have e:j=n:=O
   subst e;have k:=h.short a;cases b with
   |zero=>exact k
   |succ b=>
    unfold hJ
    rw[if_neg (fun x=>by
     rcases h.e with q|q
     ·exact mA q O x.1
     ·rcases q.2 with r|r
      ·have:=x.2;rw[Fv r] at this;cases this
      ·exact g ⟨by rw[<-q.1];exact x.1,by rw[<-r.1];exact x.2⟩)]
    exact k
theorem Loc.name(h:Loc s s' i f n)(hi:i<s.size)(d:isLet (bt s i)=true)(a:lR s i=.ok (t,i+n)):lR s' f=.ok ({t with pos:=f},f+n):=by
 have q:=h.l;have m:=h.l';have o:=e7 hi (iB d);have l:=dm (p:=dx) (s:=s) (i:=i) O;obtain⟨r,k⟩:∃ r,cn dx s i=i+r:=⟨cn dx s i-i,O⟩
 have c:r<=n:=by
  unfold lR at a
  split at a
  ·simp only [Except.ok.injEq,Prod.mk.injEq] at a;omega
  ·have:=u7 s i _ _ _ _ a l;omega
 have b:=h.run HU Cr Ct (j:=0) (r:=r) k c;rw[qv] at b;unfold lR at a⊢;rw[k] at a;rw[b,h.Au c]
 split at a
 ·rename_i g;rw[if_pos g];simp only [Except.ok.injEq,Prod.mk.injEq] at a;obtain⟨rfl,e⟩:=a;have:r=n:=O
  subst this
  rfl
 ·rename_i g;rw[if_neg g];exact h.long _ _ r c O O a
theorem HW(s:ByteArray)(i:Nat):∃ j,j<=1/\gF s i=cn bm s (i+j)/\(if bt s i=126 then i+1 else i)=i+j:=by
 unfold gF
 by_cases c:bt s i=126
 ·exact⟨1,O,by rw[if_pos c],by rw[if_pos c]⟩
 ·exact⟨0,O,by rw[if_neg c];rfl,by rw[if_neg c];rfl⟩
theorem Loc.number(h:Loc s s' i f n){F:List UInt8->Nat}(m:bm (bt s i)=true\/bt s i=126/\bm (bt s (i+1))=true)(k:h7 F s i=.ok (t,i+n)):h7 F s' f=.ok ({t with pos:=f},f+n):=by
 have T:=h.l;have P:=h.l'
 have N:i<gF s i/\gF s i<=s.size:=by
  unfold gF
  rcases m with m|m
  ·have:=gx m;rw[if_neg O];exact⟨e7 (h8 m) m,dm (ba (h8 m))⟩
  ·rw[if_pos m.1];have A:=h8 m.2;have:=e7 A m.2;exact⟨O,dm O⟩
 have C:=n3 N.2;have I:=n4 C.2
 have l:jf s (iC s (gF s i))=i+n:=by
  unfold h7 at k;simp only at k
  split at k
  ·split at k
   ·cases k
   ·simp only [Except.ok.injEq,Prod.mk.injEq] at k;omega
  ·split at k
   ·cases k
   ·simp only [Except.ok.injEq,Prod.mk.injEq] at k;omega
 have H:0<n:=O
 have w:bt s' f=bt s i:=h.a 0 H
 obtain⟨a,J⟩:∃ a,gF s i=i+a:=⟨gF s i-i,O⟩
 have D:gF s' f=f+a:=by
  obtain⟨j,S,z,o⟩:=HW s i;have:=h.run Av Cu Cv (j:=j) (r:=a) O O;unfold gF;rw[w];have L:(if bt s i=126 then f+1 else f)=f+j:=by split at o<;>rename_i c<;>simp only [c,if_true,if_false]<;>omega
  rw[L,this]
 rw[J] at C l I
 obtain⟨b,p⟩:∃ b,iC s (i+a)=i+b:=⟨iC s (i+a)-i,O⟩;rw[p] at C l I
 have E:iC s' (f+a)=f+b:=by
  unfold iC at p⊢
  by_cases c:bt s (i+a)=46/\bm (bt s (i+a+1))=true
  ·rw[if_pos c] at p;have A:=e7 (h8 c.2) c.2;have z:bt s' (f+a)=46:=by rw[h.a _ O];exact c.1
   have o:bm (bt s' (f+a+1))=true:=by rw[e9,h.a _ O,<-e9];exact c.2
   rw[if_pos ⟨z,o⟩,e9];exact h.run Av Cu Cv (j:=a+1) (by rw[<-e9];exact p) O
  ·rw[if_neg c] at p;have e:a=b:=O
   subst e;rw[if_neg];intro x
   rcases gr a n with q|q
   ·have R:=x.1;rw[h.a _ q] at R;unfold jf at l;rw[if_neg O] at l;omega
   ·have e:a=n:=O
    subst e
    rcases h.e with q|q
    ·exact mA q O x.1
    ·rcases q.2 with r|r
     ·have:=x.2;rw[pZ r] at this;cases this
     ·exact c ⟨by rw[<-q.1];exact x.1,by rw[<-r.1];exact x.2⟩
 have G:jf s' (f+b)=f+n:=by
  unfold jf at l⊢
  by_cases c:bt s (i+b)=101
  ·rw[if_pos c] at l
   by_cases d:bm (bt s (lr s (i+b)))=true
   ·rw[if_pos d] at l;have A:=e7 (h8 d) d;obtain⟨x,y⟩:∃ x,lr s (i+b)=i+x:=⟨lr s (i+b)-i,by unfold lr;split<;>omega⟩
    have Q:b+1<=x:=by unfold lr at y;split at y<;>omega
    rw[y] at d A l;have z:bt s' (f+b)=101:=by rw[h.a _ O];exact c
    have o:lr s' (f+b)=f+x:=by
     unfold lr at y⊢;rw[e9 f b 1,h.a (b+1) O,<-e9]
     split at y<;>rename_i q<;>simp only [q,if_true,if_false]<;>omega
    rw[if_pos z,o,h.a x O,if_pos d];exact h.run Av Cu Cv l (aw _)
   ·rw[if_neg d] at l;have e:b=n:=O
    subst e
    rcases h.e with q|q
    ·rw[if_neg (mA q O)]
    ·rw[q.1,if_pos c,if_neg];unfold lr at d⊢
     rcases q.2 with r|r
     ·rw[if_neg (mA r O),pZ r];decide
     ·rw[r.1]
      by_cases u:bt s (i+b+1)=126
      ·rw[if_pos u] at d⊢
       rcases r.2 with v|v
       ·have o:f+b+2=f+b+1+1:=rfl;rw[o,pZ v];decide
       ·have o:f+b+2=f+b+1+1:=rfl;rw[o,v.1];exact d
      ·rw[if_neg u] at d⊢;rw[r.1];exact d
  ·rw[if_neg c] at l;have e:b=n:=O
   subst e
   rcases h.e with q|q
   ·rw[if_neg (mA q O)]
   ·rw[q.1,if_neg c]
 unfold h7 at k⊢;simp only [J,p,D,E] at k⊢;rw[l] at k;rw[G];have B:sub s' f (f+n)=sub s i (i+n):=h.Au (aw _)
 by_cases c:n=a
 ·subst c;rw[if_pos rfl] at k⊢
  by_cases g:2000<n
  ·rw[if_pos O] at k;cases k
  ·rw[if_neg O] at k⊢;simp only [Except.ok.injEq,Prod.mk.injEq] at k;obtain⟨rfl,_⟩:=k
   have M:uV s' f (f+n)=uV s i (i+n):=by
    unfold uV;rw[w,B,h.HJ (j:=1) (aw _)]
   rw[B,M]
 ·rw[if_neg O] at k⊢
  by_cases g:100<n
  ·rw[if_pos O] at k;cases k
  ·rw[if_neg O] at k⊢;simp only [Except.ok.injEq,Prod.mk.injEq] at k;obtain⟨rfl,_⟩:=k;rw[B]
theorem LR:k+3<=cn bm s k↔bm (bt s k)=true/\bm (bt s (k+1))=true/\bm (bt s (k+2))=true:=by
 obtain⟨m,e,b,a⟩:=oA (p:=bm) (s:=s) Av _ k rfl;rw[e]
 constructor
 ·intro h;exact⟨b 0 O,b 1 O,b 2 O⟩
 ·rintro⟨c,d,f⟩
  rcases m with _|_|_|m
  ·rw[qv,c] at a;cases a
  ·rw[d] at a;cases a
  ·rw[f] at a;cases a
  ·omega
theorem Loc.Oz(h:Loc s s' i f n)(a:(gT s (i+j)).2≠0)(b:j+(gT s (i+j)).2<=n):gT s' (f+j)=gT s (i+j):=by
 have p:j<n:=O
 have k:=h.a j p;unfold gT at a b⊢;rw[k]
 by_cases c:bt s (i+j)=110
 ·rw[if_pos c,if_pos c]
 rw[if_neg c] at a b⊢;rw[if_neg c]
 by_cases c2:bt s (i+j)=116
 ·rw[if_pos c2,if_pos c2]
 rw[if_neg c2] at a b⊢;rw[if_neg c2]
 by_cases e:bt s (i+j)=92\/bt s (i+j)=34
 ·rw[if_pos e,if_pos e]
 rw[if_neg e] at a b⊢;rw[if_neg e]
 by_cases g:i+j+3<=cn bm s (i+j)
 ·rw[if_pos g] at a b⊢;simp only at a b
  split at b
  ·rename_i o;simp only at b;have d:=LR.mp g;have l:bt s' (f+j+1)=bt s (i+j+1):=by rw[e9,h.a _ O,e9]
   have m:bt s' (f+j+2)=bt s (i+j+2):=by rw[e9,h.a _ O,e9]
   rw[if_pos (LR.mpr ⟨by rw[k];exact d.1,by rw[l];exact d.2.1,by rw[m];exact d.2.2⟩)];simp only [l,m]
  ·rename_i o;rw[if_neg o] at a;exact absurd rfl a
 ·rw[if_neg g] at a;exact absurd rfl a
theorem pq(s:ByteArray):∀ m k a x r,j5 s m k a=.ok (x,r)->k<r/\r<=s.size
 |0,k,a,x,r,h=>by cases h
 |m+1,k,a,x,r,h=>by
  unfold j5 at h
  split at h
  ·cases h
  split at h
  ·simp only [Except.ok.injEq,Prod.mk.injEq] at h;omega
  split at h
  ·cases h
  split at h
  ·have:=pq s m _ _ _ _ h;omega
  split at h
  ·cases h
  ·have:=pq s m _ _ _ _ h;omega
theorem Loc.quo{s s':ByteArray}{i f n:Nat}(h:Loc s s' i f n){x:List UInt8}:∀ (m d j:Nat) (b:List UInt8),n<=j+d->j5 s m (i+j) b=.ok (x,i+n)->j5 s' d (f+j) b=.ok (x,f+n)
 |0,d,j,b,hm,a=>by cases a
 |m+1,d,j,b,hm,a=>by
  have r:=h.l;have p:=h.l';have q:=pq s _ _ _ _ _ a;have o:j<n:=O
  rcases d with _|d
  ·omega
  have l:=h.a j o;unfold j5 at a⊢;rw[if_neg O] at a⊢;rw[l]
  split at a
  ·rename_i c;rw[if_pos c];simp only [Except.ok.injEq,Prod.mk.injEq] at a;obtain⟨rfl,e⟩:=a;rw[show n=j+1 from O];rfl
  rename_i c;rw[if_neg c]
  split at a
  ·cases a
  rename_i c;rw[if_neg c]
  split at a
  ·rename_i c;rw[if_pos c];exact h.quo m d (j+1) _ O a
  rename_i c;rw[if_neg c]
  split at a
  ·cases a
  rename_i c;have k:=pq s _ _ _ _ _ a;have g:gT s' (f+(j+1))=gT s (i+(j+1)):=h.Oz (by rw[<-e9];exact c) (by rw[<-e9];omega);rw[<-e9,<-e9] at g;rw[g,if_neg c];rw[show i+j+1+(gT s (i+j+1)).2=i+(j+1+(gT s (i+j+1)).2) from O] at a;rw[show f+j+1+(gT s (i+j+1)).2=f+(j+1+(gT s (i+j+1)).2) from O];exact h.quo m d _ _ O a
theorem Loc.word(h:Loc s s' i f n){F:List UInt8->Nat}(J:i<s.size)(a:gJ F s i=.ok (t,i+n)):gJ F s' f=.ok ({t with pos:=f},f+n):=by
 have aC:=h.l;have R:=h.l';have aD:=j7 a J;have T:0<n:=O
 have M:bt s' f=bt s i:=h.a 0 T
 have I:∀ {p:Nat->Bool},(∀ c,Stop c->p c=false)->p (bt s (i+1))=p (bt s' (f+1))\/p (bt s' (f+1))=false:=by
  intro p W
  rcases gr 1 n with c|c
  ·exact .inl (by rw[h.a 1 c])
  ·have e:=h.e;rw[show n=1 from O] at e
   rcases e with q|q
   ·exact .inr (W _ q)
   ·exact .inl (by rw[q.1])
 unfold gJ at a⊢;simp only at a⊢;rw[M]
 by_cases u:isLet (bt s i)=true
 ·rw[if_pos u] at a⊢;exact h.name J u a
 rw[if_neg u] at a⊢
 by_cases c2:bm (bt s i)=true\/bt s i=126/\bm (bt s (i+1))=true
 ·rw[if_pos c2] at a;rw[if_pos]
  ·exact h.number c2 a
  ·rcases c2 with c2|c2
   ·exact .inl c2
   ·refine .inr ⟨c2.1,?_⟩
    have aB:i+1<i+n:=by
     have:=e7 (h8 c2.2) c2.2;have b:=a;have A:gF s i=cn bm s (i+1):=by unfold gF;rw[if_pos c2.1]
     have z:gF s i<=s.size:=by rw[A];exact dm (ba (h8 c2.2))
     have P:=n3 z;have aA:=n4 P.2;unfold h7 at b;simp only at b
     split at b
     ·split at b
      ·cases b
      ·simp only [Except.ok.injEq,Prod.mk.injEq] at b;omega
     ·split at b
      ·cases b
      ·simp only [Except.ok.injEq,Prod.mk.injEq] at b;omega
    rw[h.a 1 O];exact c2.2
 rw[if_neg c2] at a
 have v:¬(bm (bt s i)=true\/bt s i=126/\bm (bt s' (f+1))=true):=by
  rintro(x|x)
  ·exact c2 (.inl x)
  ·rcases I (p:=bm) (fun c B=>pZ B) with q|q
   ·exact c2 (.inr ⟨x.1,by rw[q];exact x.2⟩)
   ·rw[q] at x;cases x.2
 rw[if_neg v]
 by_cases D:bt s i=34
 ·rw[if_pos D] at a⊢
  rcases g:gj s i with e|⟨x,r⟩
  ·rw[g] at a;cases a
  ·rw[g] at a;simp only [Except.ok.injEq,Prod.mk.injEq] at a;obtain⟨rfl,rfl⟩:=a;have:=h.quo _ (s'.size+1-(f+1)) 1 [] O g;have k:gj s' f=.ok (x,f+n):=this;rw[k]
 rw[if_neg D] at a⊢
 by_cases l:bt s i=35/\bt s (i+1)=34
 ·rw[if_pos l] at a
  rcases g:gj s (i+1) with e|⟨x,r⟩
  ·rw[g] at a;cases a
  ·rw[g] at a;simp only at a
   split at a
   ·cases a
   rename_i Y;simp only [Except.ok.injEq,Prod.mk.injEq] at a;obtain⟨rfl,rfl⟩:=a;have S:=pq s _ _ _ _ _ g;have:=h.quo _ (s'.size+1-(f+1+1)) 2 [] O g;have k:gj s' (f+1)=.ok (x,f+n):=this;rw[if_pos ⟨l.1,by rw[h.a 1 O];exact l.2⟩,k];simp only;rw[if_neg Y]
 rw[if_neg l] at a
 have w:¬(bt s i=35/\bt s' (f+1)=34):=by
  rintro⟨x,y⟩
  rcases I (p:=fun c=>decide (c=34)) (fun c B=>by simpa using mA B O) with q|q
  ·refine l ⟨x,?_⟩
   simpa [y] using q
  ·simp[y] at q
 rw[if_neg w]
 by_cases E:bt s i=39
 ·rw[if_pos E] at a⊢
  by_cases d:isLet (bt s (if bt s (i+1)=39 then i+2 else i+1))=true
  ·rw[if_pos d] at a
   obtain⟨j,L,Q⟩:∃ j,(if bt s (i+1)=39 then i+2 else i+1)=i+j/\1<=j:=by
    split
    ·exact⟨2,rfl,O⟩
    ·exact⟨1,rfl,O⟩
   rw[L] at a d;have N:=kD d;have Z:=e7 N (iB d);have m:=jJ a
   have C:(if bt s' (f+1)=39 then f+2 else f+1)=f+j:=by
    rw[h.a 1 O]
    split at L<;>rename_i q<;>simp only [q,if_true,if_false]<;>omega
   have o:isLet (bt s' (f+j))=true:=by rw[h.a j O];exact d
   rw[C,if_pos o,h.run HU Cr Ct (r:=n) m.symm (aw _)];rw[<-m] at a;exact h.short a
  ·rw[if_neg d] at a;cases a
 rw[if_neg E] at a⊢
 by_cases G:yR (bt s i)=true
 ·rw[if_pos G] at a⊢;simp only [Except.ok.injEq,Prod.mk.injEq] at a;obtain⟨rfl,e⟩:=a;have e:n=1:=O
  subst e;rw[h.Au (aw _)]
 rw[if_neg G] at a⊢
 by_cases H:fm (bt s i)=true
 ·rw[if_pos H] at a⊢;have m:=jJ a;have X:cn fm s' f=f+n:=h.run Nt Mt Mu (j:=0) (r:=n) m.symm (aw _);rw[X];rw[<-m] at a;rw[h.Au (aw _)];exact h.short a
 ·rw[if_neg H] at a;cases a
end Go.Proofs.YtkblonfmjlopaaaGreatDoor
namespace Go.Proofs.YtkblonfmjlopaaaGreatDoor
set_option linter.all false
open Go Go.RowKit
def Words(F:List UInt8->Nat)(s:ByteArray):List Tok->Nat->Prop
 |[],i=>∃ k,fj s 0 i=some k/\s.size<=k
 |t::ts,i=>∃ k n,fj s 0 i=some k/\k<s.size/\gJ F s k=.ok (t,n)/\Words F s ts n
theorem Fw{F:List UInt8->Nat}{s:ByteArray}:∀ (f i:Nat) (a z:List Tok),f=s.size-i->i<=s.size->nG F s i a=.ok z->∃ d,z=a++d/\Words F s d i:=by
 intro f
 induction f using Nat.strongRecOn with
 |ind f o=>
  intro i a z p j h;rw[j8 j] at h
  rcases b:fj s 0 i with _|k
  ·rw[b] at h;cases h
  ·rw[b] at h;have q:=mC b j;unfold kF at h;simp only at h
   by_cases g:s.size<=k
   ·rw[if_pos g] at h;simp only [Except.ok.injEq] at h;exact⟨[],by rw[h,uJ],k,b,g⟩
   ·rw[if_neg g] at h
    rcases c:gJ F s k with e|⟨t,n⟩
    ·rw[c] at h;cases h
    ·rw[c] at h;simp only at h;have m:=j7 c O;obtain⟨d,e,l⟩:=o (s.size-n) O n _ z rfl m.2 h;exact⟨t::d,by rw[e,q'];rfl,k,n,b,O,c,l⟩
theorem s_{F:List UInt8->Nat}{s:ByteArray}:∀ (b:List Tok) (i:Nat) (a:List Tok),i<=s.size->Words F s b i->nG F s i a=.ok (a++b)
 |[],i,a,hi,h=>by
  obtain⟨k,c,j⟩:=h;rw[j8 hi,c];unfold kF;simp only;rw[if_pos j,uJ]
 |t::b,i,a,hi,h=>by
  obtain⟨k,n,c,f,d,e⟩:=h;have g:=j7 d f;rw[j8 hi,c];unfold kF;simp only;rw[if_neg O,d];simp only;rw[s_ b n _ g.2 e,q']
  rfl
theorem jm{F:List UInt8->Nat}{s:ByteArray}{a:List Tok}(h:j6 F s=.ok a):s.size<=65536/\Words F s a 0:=by
 unfold j6 at h
 split at h
 ·cases h
 ·have h:nG F s 0 []=.ok a:=h;obtain⟨l,e,b⟩:=Fw _ 0 [] a rfl (hU _) h;exact⟨O,by rw[List.nil_append] at e;rw[e];exact b⟩
theorem Cw{F:List UInt8->Nat}{s:ByteArray}{a:List Tok}(b:s.size<=65536)(h:Words F s a 0):j6 F s=.ok a:=by
 unfold j6;rw[if_neg O];exact s_ a 0 [] (hU _) h
structure Made(s:ByteArray)(t:Tok)(k n:Nat):Prop where
 pos:t.pos=k
 text:t.kind=6\/t.kind=7\/t.text=sub s k n
 kind:1<=t.kind/\t.kind<=8
 one:bt s k=40->n=k+1
 nb:bt s k≠32/\bt s k≠9/\bt s k≠10/\bt s k≠13
theorem k_{s:ByteArray}{i k n kind:Nat}{t:Tok}(h:gX s i k kind=.ok (t,n)):t.pos=i/\t.kind=kind/\t.text=sub s i n:=by
 unfold gX at h
 split at h
 ·cases h
 ·simp only [Except.ok.injEq,Prod.mk.injEq] at h;obtain⟨rfl,rfl⟩:=h;exact⟨rfl,rfl,rfl⟩
theorem yX{s:ByteArray}{i:Nat}:∀ (m k:Nat) {n:Nat} {t:Tok},hJ s m i k=.ok (t,n)->t.pos=i/\t.kind=1/\t.text=sub s i n
 |0,k,n,t,h=>k_ (show gX s i k 1=_ from h)
 |m+1,k,n,t,h=>by
  unfold hJ at h
  split at h
  ·split at h
   ·cases h
   ·exact yX m _ h
  ·exact k_ h
theorem oB{F:List UInt8->Nat}{s:ByteArray}{k n:Nat}{t:Tok}(h:gJ F s k=.ok (t,n))(q:k<s.size):Made s t k n:=by
 unfold gJ at h;simp only at h
 by_cases j:isLet (bt s k)=true
 ·rw[if_pos j] at h;have p:65<=bt s k:=ba (of_decide_eq_true j)
  unfold lR at h
  split at h
  ·simp only [Except.ok.injEq,Prod.mk.injEq] at h;obtain⟨rfl,rfl⟩:=h;exact⟨rfl,.inr (.inr rfl),ar,O,O⟩
  ·obtain⟨a,b,c⟩:=yX _ _ h;exact⟨a,.inr (.inr c),O,O,O⟩
 rw[if_neg j] at h
 by_cases c2:bm (bt s k)=true\/bt s k=126/\bm (bt s (k+1))=true
 ·rw[if_pos c2] at h
  have p:48<=bt s k:=by
   rcases c2 with c|c
   ·exact(gx c).1
   ·omega
  unfold h7 at h;simp only at h
  split at h
  ·split at h
   ·cases h
   ·simp only [Except.ok.injEq,Prod.mk.injEq] at h;obtain⟨rfl,rfl⟩:=h;exact⟨rfl,.inr (.inr rfl),ar,O,O⟩
  ·split at h
   ·cases h
   ·simp only [Except.ok.injEq,Prod.mk.injEq] at h;obtain⟨rfl,rfl⟩:=h;exact⟨rfl,.inr (.inr rfl),ar,O,O⟩
 rw[if_neg c2] at h
 by_cases l:bt s k=34
 ·rw[if_pos l] at h
  rcases g:gj s k with e|⟨x,r⟩
  ·rw[g] at h;cases h
  ·rw[g] at h;simp only [Except.ok.injEq,Prod.mk.injEq] at h;obtain⟨rfl,rfl⟩:=h;exact⟨rfl,.inr (.inl rfl),ar,O,O⟩
 rw[if_neg l] at h
 by_cases m:bt s k=35/\bt s (k+1)=34
 ·rw[if_pos m] at h
  rcases g:gj s (k+1) with e|⟨x,r⟩
  ·rw[g] at h;cases h
  ·rw[g] at h;simp only at h
   split at h
   ·cases h
   simp only [Except.ok.injEq,Prod.mk.injEq] at h;obtain⟨rfl,rfl⟩:=h;exact⟨rfl,.inl rfl,ar,O,O⟩
 rw[if_neg m] at h
 by_cases o:bt s k=39
 ·rw[if_pos o] at h
  by_cases d:isLet (bt s (if bt s (k+1)=39 then k+2 else k+1))=true
  ·rw[if_pos d] at h;obtain⟨a,b,c⟩:=k_ h;exact⟨a,.inr (.inr c),O,O,O⟩
  ·rw[if_neg d] at h;cases h
 rw[if_neg o] at h
 by_cases f:yR (bt s k)=true
 ·rw[if_pos f] at h;simp only [Except.ok.injEq,Prod.mk.injEq] at h;obtain⟨rfl,rfl⟩:=h;refine⟨rfl,.inr (.inr rfl),ar,fun _=>rfl,?_⟩;refine⟨?_,?_,?_,?_⟩<;>intro e<;>rw[e] at f<;>exact absurd f (by decide+kernel)
 rw[if_neg f] at h
 by_cases i:fm (bt s k)=true
 ·rw[if_pos i] at h;obtain⟨a,b,c⟩:=k_ h;refine⟨a,.inr (.inr c),by split at b<;>omega,?_,?_⟩
  ·intro e;rw[e] at f;exact absurd (by decide+kernel) f
  ·refine⟨?_,?_,?_,?_⟩<;>intro e<;>rw[e] at i<;>exact absurd i (by decide+kernel)
 ·rw[if_neg i] at h;cases h
def mv(o:Nat)(t:Tok):Tok:={t with pos:=t.pos+o}
structure pt(a b s:ByteArray):Prop where
 size:s.size=a.size+1+b.size
 lo:∀ j,j<a.size->bt s j=bt a j
 mid:bt s a.size=10
 hi:∀ j,bt s (a.size+1+j)=bt b j
theorem pt.ahead{a b s:ByteArray}(h:pt a b s):∀ (m p:Nat),p<=a.size->Ah a s m p p
 |0,p,hp=>trivial
 |m+1,p,hp=>by
  rcases gr p a.size with c|c
  ·exact .inr ⟨h.lo p c,h.ahead m (p+1) O⟩
  ·rw[show p=a.size from O];exact .inl (.inr (.inl h.mid))
theorem pt.next{a b s:ByteArray}(h:pt a b s){i:Nat}(d:i<a.size):bt s (i+1)=bt a (i+1)\/(bt s (i+1)=10/\bt a (i+1)=0):=by
 rcases gr (i+1) a.size with c|c
 ·exact .inl (h.lo _ c)
 ·rw[show i+1=a.size from O];exact .inr ⟨h.mid,k9 (aw _)⟩
theorem pt.El{a b s:ByteArray}(h:pt a b s):∀ (f d i k:Nat),f=a.size-i->i<=a.size->fj a d i=some k->fj s d i=if k<a.size then some k else fj s 0 (a.size+1):=by
 intro f
 induction f using Nat.strongRecOn with
 |ind f m=>
  intro d i k u r g;have v:=h.size;rw[kE r] at g;rw[kE (s:=s) O]
  rcases gr i a.size with c|c
  ·have n:=h.lo i c;have t:=h.next c;rw[n]
   by_cases j:bt a i=40/\bt a (i+1)=42
   ·have p:=iX j.2 O;rw[if_pos j] at g;rw[if_pos ⟨j.1,O⟩];exact m _ O _ _ _ rfl O g
   rw[if_neg j] at g;rw[if_neg (fun x=>j ⟨x.1,O⟩)]
   by_cases c2:0<d/\bt a i=42/\bt a (i+1)=41
   ·have p:=iX c2.2.2 O;rw[if_pos c2] at g;rw[if_pos ⟨c2.1,c2.2.1,O⟩];exact m _ O _ _ _ rfl O g
   rw[if_neg c2] at g;rw[if_neg (fun x=>c2 ⟨x.1,x.2.1,O⟩)];rw[if_neg O] at g;rw[if_neg O]
   by_cases l:0<d\/i<a.size/\(bt a i=32\/bt a i=9\/bt a i=10\/bt a i=13)
   ·rw[if_pos l] at g
    rw[if_pos (by rcases l with x|x
                  ·exact .inl x
                  ·exact .inr ⟨O,x.2⟩)]
    exact m _ O _ _ _ rfl O g
   ·rw[if_neg l] at g
    rw[if_neg (fun x=>l (by rcases x with x|x
                            ·exact .inl x
                            ·exact .inr ⟨c,x.2⟩))]
    simp only [Option.some.injEq] at g;subst g;rw[if_pos c]
  ·have e:i=a.size:=O
   subst e;have o:bt a a.size=0:=k9 (aw _);rw[o,if_neg O,if_neg O] at g
   by_cases q:0<d
   ·rw[if_pos ⟨q,aw _⟩] at g;cases g
   ·rw[if_neg O,if_neg O] at g;simp only [Option.some.injEq] at g;subst g;rw[h.mid,if_neg O,if_neg O,if_neg O,if_pos (.inr ⟨O,O⟩),if_neg O,show d=0 from O]
theorem pt.Em{a b s:ByteArray}(h:pt a b s){F:List UInt8->Nat}{y:List Tok}(f:Words F s y (a.size+1)):∀ (x:List Tok) (i:Nat),i<=a.size->Words F a x i->Words F s (x++y) i
 |[],i,hi,hw=>by
  obtain⟨k,g,d⟩:=hw;have e:=h.El _ 0 i k rfl hi g;rw[if_neg O] at e;rw[List.nil_append];cases y with
  |nil=>unfold Words at f⊢;rw[e];exact f
  |cons t y=>unfold Words at f⊢;rw[e];exact f
 |t::x,i,hi,hw=>by
  obtain⟨k,n,g,d,c,o⟩:=hw;have r:=h.size;have l:=j7 c d;have e:=h.El _ 0 i k rfl hi g;rw[if_pos d] at e;obtain⟨m,rfl⟩:∃ m,n=k+m:=⟨n-k,O⟩;refine⟨k,k+m,e,O,?_,h.Em f x (k+m) l.2 o⟩;have L:Loc a s k k m:=⟨fun j q=>h.lo _ O,h.ahead 3 _ l.2,l.2,O⟩;rw[L.word d c];have p:=(oB c d).pos;rw[<-p]
theorem lu(l:List UInt8)(j:Nat):bt ⟨l.toArray⟩ j=(l[j]?.getD 0).toNat:=rfl
theorem gK(l:List UInt8):(⟨l.toArray⟩:ByteArray).size=l.length:=by simp[ByteArray.size]
theorem Cx(a b:List UInt8):pt ⟨a.toArray⟩ ⟨b.toArray⟩ ⟨(a++10::b).toArray⟩:=by
 refine⟨?_,fun j c=>?_,?_,fun j=>?_⟩
 ·rw[gK,gK,gK];simp;omega
 ·rw[gK] at c;rw[lu,lu,lg c]
 ·rw[gK,lu,kC (aw _)];simp
 ·rw[gK,lu,lu,kC O,show a.length+1+j-a.length=j+1 from O];rfl
end Go.Proofs.YtkblonfmjlopaaaGreatDoor
namespace Go.Proofs.YtkblonfmjlopaaaGreatDoor
set_option linter.all false
open Go Go.RowKit
set_option maxRecDepth 1000000
noncomputable abbrev lA(w:World)(fuel:Nat)(t:TypeId)(cs:List Value):Option (DataW Unit×List MemPlace):=DataW.trod (fun _=>()) Tryz.prog w 0 (fun _=>true) false fuel t cs
theorem se{W:World}:∀ {l:List (String×DataW Unit)} {c:List MemPlace},DataW.LaidVars Tryz.prog W l c->∀ (i:Nat) (n:String) (d:DataW Unit),l[i]?=some (n,d)->
 ∃ g t b a p,Tryz.prog.globalNamed n=some g/\(Tryz.prog.globals[g]?).map (·.type)=some t/\W.var? Tryz.prog n=some b/\lA W a t b.toList=some (d,p)
 |[],c,h,i,n,d,hi=>by simp at hi
 |(n0,d0)::l,c,h,i,n,d,hi=>by
  obtain⟨g,t,b,a,p,q,e,f,j,k,m,o⟩:=h
  rcases i with _|i
  ·simp only [List.getElem?_cons_zero,Option.some.injEq,Prod.mk.injEq] at hi;obtain⟨rfl,rfl⟩:=hi;exact⟨g,t,b,a,p,e,f,j,k⟩
  ·rw[D'] at hi;exact se m i n d hi
theorem iS{W:World}{l:List (String×DataW Unit)}(h:laidMet Tryz.prog l W)(i:Nat){n:String}{d:DataW Unit}(o:l[i]?=some (n,d)){g t:Nat}(c:Tryz.prog.globalNamed n=some g)(r:(Tryz.prog.globals[g]?).map (·.type)=some t):
 ∃ b a p,(∀ j,W.cell? ⟨g,j,none⟩=b[j]?)/\lA W a t b=some (d,p):=by
 obtain⟨u,q,_⟩:=h;obtain⟨s,v,b,a,p,e,f,k,m⟩:=se q i n d o;obtain rfl:=f_ (c.symm.trans e);obtain rfl:=f_ (r.symm.trans f);exact⟨b.toList,a,p,fun j=>by rw[World.var?_cell c k];simp,m⟩
theorem oC{w:World}{a:Nat}{t:TypeId}{k c:IntKind}{b:List Value}{n:Int}{p:List MemPlace}(d:Tryz.prog.underlying t=some (.int k))(h:lA w a t b=some (.lit (.int c n),p)):b=[.int c n]:=by
 obtain⟨m,rfl,e,_⟩:=DataW.trod_int d h;simp only [Prod.mk.injEq,DataW.lit.injEq,Lit.int.injEq] at e;obtain⟨⟨rfl,rfl⟩,_⟩:=e
 rfl
theorem Kg{w:World}{a:Nat}{t:TypeId}{b:List Value}{l:List UInt8}{p:List MemPlace}(c:Tryz.prog.underlying t=some .string)(h:lA w a t b=some (.lit (.string l),p)):b=[.string ⟨l.toArray⟩]:=by
 obtain⟨s,rfl,e,_⟩:=DataW.trod_string c h;simp only [Prod.mk.injEq,DataW.lit.injEq,Lit.string.injEq] at e;rw[e.1]
theorem HY{w:World}{a:Nat}{t:TypeId}{c:List Value}{b:Bool}{p:List MemPlace}(d:Tryz.prog.underlying t=some .bool)(h:lA w a t c=some (.lit (.bool b),p)):c=[.bool b]:=by
 obtain⟨s,rfl,e⟩:=DataW.trod_bool d h;simp only [Prod.mk.injEq,DataW.lit.injEq,Lit.bool.injEq] at e;rw[e.1]
theorem Fy{w:World}{a:Nat}{t:TypeId}{k:FloatKind}{c:List Value}{b:Nat}{p:List MemPlace}(d:Tryz.prog.underlying t=some (.float k))(h:lA w a t c=some (.lit (.float k b),p)):c=[.float k b]:=by
 cases a with
 |zero=>simp[lA,DataW.trod] at h
 |succ n=>
  unfold lA DataW.trod at h;rw[d] at h
  split at h<;>simp_all
theorem xx{w:World}{a:Nat}{t:TypeId}{e:Array (String×TypeId)}{f:String}{b:List Value}{d:DataW Unit}{p:List MemPlace}(c:Tryz.prog.underlying t=some (.interface e))(h:lA w a t b=some (.iface f d,p)):∃ u v,b=[.iface u v]:=by
 cases a with
 |zero=>simp[lA,DataW.trod] at h
 |succ n=>
  unfold lA DataW.trod at h;rw[c] at h
  split at h<;>simp_all
noncomputable def Aw(t:TypeId)(ts:List TypeId):Bool:=
 match Tryz.prog.underlying t with
 |some (.struct fs)=>fs.toList.map (fun f=>(f.type,f.offset))==ts.zip (List.range ts.length)&&ts.all (fun u=>Tryz.prog.cellsOf u==1)&&Tryz.prog.cellsOf t==ts.length
 |_=>false
theorem qJ{w:World}{c:Nat}{t:TypeId}{ts:List TypeId}{b:List Value}{l:List (DataW Unit)}{p:List MemPlace}(a:Aw t ts=true)(h:lA w c t b=some (.agg l,p)):
 b.length=ts.length/\l.length=ts.length/\∀ (i:Nat) (u:TypeId) (d:DataW Unit),ts[i]?=some u->l[i]?=some d->∃ v m q,b[i]?=some v/\lA w m u [v]=some (d,q):=by
 unfold Aw at a
 split at a
 ·rename_i E z;simp only [Bool.and_eq_true,beq_iff_eq,List.all_eq_true] at a;obtain⟨⟨a,r⟩,g⟩:=a;obtain⟨N,m,_,C,G,D,o⟩:=DataW.trod_struct z h;simp only [Prod.mk.injEq,DataW.agg.injEq] at C
  have A:E.size=ts.length:=by
   have:=congrArg List.length a
   simpa using this
  refine⟨by rw[G,g],by rw[C.1];simp[D,A],fun i u d B s=>?_⟩;have F:i<ts.length:=(List.getElem?_eq_some_iff.mp B).1
  have x:∃ f,E[i]?=some f/\f.type=u/\f.offset=i:=by
   have k:=congrArg (·[i]?) a;simp only [List.getElem?_map] at k;have M:(ts.zip (List.range ts.length))[i]?=some (u,i):=List.getElem?_zip_eq_some.mpr ⟨B,List.getElem?_range F⟩;rw[M] at k;simp only [Array.getElem?_toList,Option.map_eq_some_iff,Prod.mk.injEq] at k;exact k
  obtain⟨f,I,rfl,J⟩:=x;have n:=o i f I;rw[C.1] at s;simp only [List.getElem?_map,Option.map_eq_some_iff] at s;obtain⟨y,L,rfl⟩:=s;have H:Tryz.prog.cellsOf f.type=1:=r _ (lj B);rw[L,J,H] at n;have j:i<b.length:=by rw[G,g];exact F
  refine⟨b[i],m,y.2,fv j,?_⟩
  have e:(b.drop i).take 1=[b[i]]:=by
   rw[Hi j]
   rfl
  rw[e] at n;exact n
 ·cases a
theorem Eo{w:World}{a:Addr}{b:List Value}(h:w.cells? 0 a 1=some b):∃ v,b=[v]/\w.cell? a=some v:=by
 unfold World.cells? at h;rw[if_pos (hU _)] at h;have e:a.add 0=a:=rfl;simp only [List.range_succ,List.range_zero,List.nil_append,List.mapM_cons,List.mapM_nil,e] at h;cases d:w.cell? a with
 |none=>simp[d] at h
 |some c=>simp[d] at h;exact⟨c,h.symm,rfl⟩
theorem Kh{w:World}{a:Addr}{e:List Value}(h:w.cells? 0 a 2=some e):∃ v u,e=[v,u]/\w.cell? a=some v/\w.cell? (a.add 1)=some u:=by
 unfold World.cells? at h;rw[if_pos (hU _)] at h;have g:a.add 0=a:=rfl;simp only [List.range_succ,List.range_zero,List.nil_append,List.cons_append,List.mapM_cons,List.mapM_nil,g] at h;cases b:w.cell? a with
 |none=>simp[b] at h
 |some c=>
  cases f:w.cell? (a.add 1) with
  |none=>simp[b,f] at h
  |some d=>simp[b,f] at h;exact⟨c,d,h.symm,rfl,rfl⟩
theorem qK{w:World}{a:Addr}{v:Value}(h:w.cell? a=some v):a=⟨a.block,a.off,none⟩:=by
 unfold World.cell? at h;obtain⟨b,o,c⟩:=a;cases c with
 |none=>rfl
 |some x=>split at h<;>simp_all
theorem sj{w:World}{j:Nat}{t e:TypeId}{n:Nat}{E:List Value}{o:List (DataW Unit)}{p:List MemPlace}(M:Tryz.prog.underlying t=some (.slice e))(I:Tryz.prog.cellsOf e=n)(h:lA w j t E=some (.slice o [],p)):
 ∃ a,E=[.slice (some a) o.length o.length]/\∀ (i:Nat) (d:DataW Unit),o[i]?=some d->∃ c m q,w.cells? 0 (a.add (i*n)) n=some c/\lA w m e c=some (d,q):=by
 rcases DataW.trod_slice M h with⟨_,u⟩|⟨a,g,v,f,l,m,_,z,u,_,P,_,k,A,C,_⟩
 ·simp at u
 ·simp only [Prod.mk.injEq,DataW.slice.injEq] at u;obtain⟨⟨rfl,L⟩,_⟩:=u;have B:l=[]:=by simpa using L.symm
  have b:=(C rfl).1;rw[B] at b;have H:v=g:=by simp at b;omega
  have F:(f.map (·.1)).length=g:=by simpa using k
  refine⟨a,by rw[F,z,H],fun i d s=>?_⟩;have J:i<g:=by rw[<-F];exact(List.getElem?_eq_some_iff.1 s).1
  have r:=A i J;rw[I] at r;rw[qo] at s;simp only [Option.map_eq_some_iff] at s;obtain⟨y,N,rfl⟩:=s;rw[N] at r;simp only [Option.bind_eq_some_iff] at r;obtain⟨G,x,D⟩:=r;exact⟨G,m,y.2,x,D⟩
theorem Fz{w:World}{a:Nat}{t e:TypeId}{n k:Nat}{g:List Value}{b:List (DataW Unit)}{p:List MemPlace}(u:Tryz.prog.underlying t=some (.array n e))(r:Tryz.prog.cellsOf e=k)(h:lA w a t g=some (.agg b,p)):
 b.length=n/\∀ (i:Nat) (d:DataW Unit),b[i]?=some d->∃ m q,lA w m e ((g.drop (i*k)).take k)=some (d,q):=by
 cases a with
 |zero=>simp[lA,DataW.trod] at h
 |succ m=>
  simp only [lA,DataW.trod,u,r] at h
  split at h
  ·obtain⟨v,l,f⟩:=Option.map_eq_some_iff.1 h;simp only [Prod.mk.injEq,DataW.agg.injEq] at f;have j:v.length=n:=by simpa using mapM_some_length l
   refine⟨by rw[<-f.1];simpa using j,fun i d c=>?_⟩;rw[<-f.1] at c;simp only [List.getElem?_map,Option.map_eq_some_iff] at c;obtain⟨y,o,rfl⟩:=c;have s:i<n:=by rw[<-j];exact(List.getElem?_eq_some_iff.1 o).1
   have:=mapM_some_get l i i (by simp[s]);rw[o] at this;exact⟨m,y.2,this⟩
  ·cases h
def FA(k:Nat):Nat:=(Pinned.cheatRows.getD k (0,[])).1
def Cy(k:Nat):ByteArray:=⟨(Pinned.cheatRows.getD k (0,[])).2.toArray⟩
def H0(k:Nat):Nat:=(Pinned.pow10Rows.getD k (0,0)).1
def H4(k:Nat):Nat:=(Pinned.pow10Rows.getD k (0,0)).2
def LS:DataW Unit->Nat
 |.lit (.float _ b)=>b
 |_=>0
def H5:DataW Unit->List (DataW Unit)
 |.slice l _=>l
 |_=>[]
def Cz(i:Nat):Nat:=LS ((H5 Rows.laid_internal_strconv_float64pow10).getD i .nil)
def Mv(x:Nat):Bool:=match Ieee.double.read x with
 |.number _ n _=>n != 0
 |_=>false
theorem Mw{x:Nat}(h:Mv x=true):NZ x:=by
 unfold Mv at h
 split at h
 ·rename_i s n j e;exact⟨s,n,j,e,by simpa using h⟩
 ·cases h
theorem Ki:∀ i,i<23->NZ (Cz i):=fun i a=>Mw ((show ∀ i,i<23->Mv (Cz i)=true by decide+kernel) i a)
def yY(k dl L:Nat)(C:Nat->Nat):Bool:=
 (List.range L).all (fun i=>decide (48<=C i/\C i<=57))&&decide (cq C L=5^k)&&decide (C (L-1)≠48)&&decide (dl+L=k+1)&&decide (0<L)&&decide (10^(L-1)<5^k)&&decide (5^k<10^L)
theorem FE{k a L:Nat}{C:Nat->Nat}(h:yY k a L C=true):pv k a L C:=by
 unfold yY at h;simp only [Bool.and_eq_true,decide_eq_true_eq,List.all_eq_true,List.mem_range] at h;obtain⟨⟨⟨⟨⟨⟨b,c⟩,d⟩,e⟩,f⟩,g⟩,j⟩:=h;exact⟨fun i l=>b i l,c,fun _=>d,e,f,g,j⟩
theorem H6:kG FA Cy:=fun k a b=>FE ((show ∀ k,k<61->1<=k->yY k (FA k) (Cy k).size (bt (Cy k))=true by decide+kernel) k O a)
theorem Kj:∀ x∈Pinned.pow10Rows,x.1<18446744073709551616/\x.2<18446744073709551616:=by decide+kernel
theorem Ax(k:Nat):(Pinned.pow10Rows.getD k (0,0)).1<18446744073709551616/\(Pinned.pow10Rows.getD k (0,0)).2<18446744073709551616:=by
 rw[xc]
 rcases h:Pinned.pow10Rows[k]? with _|x
 ·simp
 ·exact Kj x (lj h)
theorem Ep(k:Nat):H0 k<18446744073709551616:=(Ax k).1
theorem Es(k:Nat):H4 k<18446744073709551616:=(Ax k).2
theorem uq{α β:Type}{f:α->β}{l:List α}{z:α}{i:Nat}(a:i<l.length):(l.map f)[i]?=some (f (l.getD i z)):=by
 rw[qo,fv a,xc,fv a]
 rfl
theorem u9:Pinned.cheatRows.length=61:=by decide+kernel
theorem H7:Pinned.pow10Rows.length=696:=by decide+kernel
theorem rm{a:Addr}(x o n:Nat)(h:a=⟨x,o,none⟩):a.add n=⟨x,o+n,none⟩:=by
 subst h;unfold Addr.add
 split
 ·rename_i h;subst h;rfl
 ·rfl
structure TL(x off y oV z Ay B:Nat)(w:World):Prop where
 tt:TT FA Cy x off y oV Cz z Ay H0 H4 B w
 e2:∃ te pe,w.cell? ⟨4,0,none⟩=some (.iface te pe)
 e3:∃ te pe,w.cell? ⟨5,0,none⟩=some (.iface te pe)
theorem TL.a6{x c y a z b B:Nat}{w w':World}(h:TL x c y a z b B w)(k:Below B w w'):TL x c y a z b B w':=by
 have f:=h.tt.tf.tb.lo;obtain⟨j,g,d⟩:=h.e2;obtain⟨l,i,e⟩:=h.e3;exact⟨h.tt.a6 k,⟨j,g,by rw[k.cell b1];exact d⟩,⟨l,i,by rw[k.cell b1];exact e⟩⟩
theorem TL.mono{x c y a z b B d:Nat}{w:World}(h:TL x c y a z b B w)(k:B<=d):TL x c y a z b d w:=⟨h.tt.mono k,h.e2,h.e3⟩
theorem yZ{W:World}(h:laidMet Tryz.prog Rows.syntaxJoinsRow.laid W):∃ x off,W.cell? ⟨16,0,none⟩=some (.slice (some ⟨x,off,none⟩) 61 61)/\(∀ k,k<=60->W.cell? ⟨x,off+k*2,none⟩=some (.int .i64 (FA k:Nat)))/\∀ k,k<=60->W.cell? ⟨x,off+k*2+1,none⟩=some (.string (Cy k)):=by
 obtain⟨D,f,p,y,E⟩:=iS h 14 (n:= "internal/strconv.leftcheats") (d:=Pinned.leftcheats) rfl (g:=16) (t:=338) aq aq;obtain⟨a,rfl,l⟩:=sj (e:=337) (n:=2) aq aq (show lA W f 338 D=some (.slice (Pinned.cheatRows.map fun x=>.agg [.lit (.int .i64 x.1),.lit (.string x.2)]) [],p) from E);rw[List.length_map,u9] at y
 have b:∀ k,k<=60->W.cell? (a.add (k*2))=some (.int .i64 (FA k:Nat))/\W.cell? ((a.add (k*2)).add 1)=some (.string (Cy k)):=fun k j=>by
  obtain⟨c,m,q,o,r⟩:=l k _ (uq (z:=(0,[])) (by rw[u9];omega));obtain⟨v,u,rfl,G,F⟩:=Kh o;obtain⟨_,_,A⟩:=qJ (ts:=[3,9]) aq r;obtain⟨N,m1,J,s,H⟩:=A 0 3 _ rfl rfl;obtain⟨M,m2,L,w,I⟩:=A 1 9 _ rfl rfl;simp only [List.getElem?_cons_zero,List.getElem?_cons_succ,Option.some.injEq] at s w;subst s w;have B:=oC (k:=.i64) aq H;have C:=Kg aq I;simp only [List.cons.injEq,and_true] at B C;rw[G,F,B,C];exact⟨rfl,rfl⟩
 have i:=qK (b 0 O).1;have i:a=⟨a.block,a.off,none⟩:=by simpa [Addr.add] using i
 refine⟨a.block,a.off,?_,fun k j=>?_,fun k j=>?_⟩
 ·rw[y 0,<-i];rfl
 ·have:=(b k j).1
  rwa [rm a.block a.off _ i] at this
 ·have:=(b k j).2
  rwa [rm a.block a.off _ i,rm a.block (a.off+k*2) 1 rfl] at this
theorem y2{W:World}(h:laidMet Tryz.prog Rows.syntaxJoinsRow.laid W):∃ x off,W.cell? ⟨12,0,none⟩=some (.slice (some ⟨x,off,none⟩) 9 9)/\∀ k,k<9->W.cell? ⟨x,off+k,none⟩=some (.int .i64 (hV k:Nat)):=by
 obtain⟨w,b,p,y,A⟩:=iS h 5 (n:= "internal/strconv.powtab") (d:=Rows.laid_internal_strconv_powtab) rfl (g:=12) (t:=319) aq aq;obtain⟨a,rfl,l⟩:=sj (e:=3) (n:=1) aq aq (show lA W b 319 w=some (.slice (([1,3,6,9,13,16,19,23,26]:List Int).map fun x=>.lit (.int .i64 x)) [],p) from A)
 have f:∀ k,k<9->W.cell? (a.add k)=some (.int .i64 (hV k:Nat)):=fun k j=>by
  obtain⟨c,m,q,o,r⟩:=l k _ (uq (z:=0) (by simpa using j));obtain⟨v,rfl,s⟩:=Eo o;have u:=oC (k:=.i64) aq r;simp only [List.cons.injEq,and_true] at u;rw[lp] at s;rw[s,u];have:∀ k,k<9->(([1,3,6,9,13,16,19,23,26]:List Int).getD k 0)=(hV k:Nat):=by decide+kernel
  rw[this k j]
 have i:=qK (f 0 O);have i:a=⟨a.block,a.off,none⟩:=by simpa [Addr.add] using i
 refine⟨a.block,a.off,?_,fun k j=>?_⟩
 ·rw[y 0,<-i];rfl
 ·have:=f k j
  rwa [rm a.block a.off _ i] at this
def My:List Nat:=(H5 Rows.laid_internal_strconv_float64pow10).map LS
theorem H8:(Rows.laid_internal_strconv_float64pow10:DataW Unit)=.slice (My.map fun b=>.lit (.float .f64 b)) []:=rfl
theorem Az{W:World}(h:laidMet Tryz.prog Rows.syntaxJoinsRow.laid W):∃ x off,W.cell? ⟨13,0,none⟩=some (.slice (some ⟨x,off,none⟩) 23 23)/\∀ k,k<23->W.cell? ⟨x,off+k,none⟩=some (.float .f64 (Cz k)):=by
 obtain⟨B,r,p,s,w⟩:=iS h 6 (n:= "internal/strconv.float64pow10") (d:=Rows.laid_internal_strconv_float64pow10) rfl (g:=13) (t:=320) aq aq;rw[H8] at w;obtain⟨a,rfl,j⟩:=sj (e:=158) (n:=1) aq aq w;have u:My.length=23:=by decide+kernel
 rw[List.length_map,u] at s
 have b:∀ k,k<23->W.cell? (a.add k)=some (.float .f64 (Cz k)):=fun k i=>by
  obtain⟨c,m,q,l,o⟩:=j k _ (uq (z:=0) (by rw[u];exact i));obtain⟨v,rfl,y⟩:=Eo l;have A:=Fy aq o;simp only [List.cons.injEq,and_true] at A;rw[lp] at y;rw[y,A];have:∀ k,k<23->My.getD k 0=Cz k:=by decide+kernel
  rw[this k i]
 have f:=qK (b 0 O);have f:a=⟨a.block,a.off,none⟩:=by simpa [Addr.add] using f
 refine⟨a.block,a.off,?_,fun k i=>?_⟩
 ·rw[s 0,<-f];rfl
 ·have:=b k i
  rwa [rm a.block a.off _ f] at this
theorem CA{W:World}(h:laidMet Tryz.prog Rows.syntaxJoinsRow.laid W):W.cell? ⟨10,0,none⟩=some (.int .u64 52)/\W.cell? ⟨10,1,none⟩=some (.int .u64 11)/\W.cell? ⟨10,2,none⟩=some (.int .i64 (-1023)):=by
 obtain⟨j,a,p,b,q⟩:=iS h 3 (n:= "internal/strconv.float64info") (d:=Rows.laid_internal_strconv_float64info) rfl (g:=10) (t:=272) aq aq;obtain⟨_,_,c⟩:=qJ (ts:=[228,228,3]) aq (show lA W a 272 j=some (.agg [.lit (.int .u64 52),.lit (.int .u64 11),.lit (.int .i64 (-1023))],p) from q);obtain⟨z,v,w,l,r⟩:=c 0 228 _ rfl rfl;obtain⟨A,m1,x,m,s⟩:=c 1 228 _ rfl rfl;obtain⟨B,m2,y,o,u⟩:=c 2 3 _ rfl rfl;have e:=oC (k:=.u64) aq r;have f:=oC (k:=.u64) aq s;have i:=oC (k:=.i64) aq u;simp only [List.cons.injEq,and_true] at e f i;exact⟨by rw[b,l,e],by rw[b,m,f],by rw[b,o,i]⟩
theorem FF{W:World}(h:laidMet Tryz.prog Rows.syntaxJoinsRow.laid W):W.cell? ⟨9,0,none⟩=some (.bool true):=by
 obtain⟨b,a,p,c,e⟩:=iS h 4 (n:= "internal/strconv.optimize") (d:=Rows.laid_internal_strconv_optimize) rfl (g:=9) (t:=4) aq aq;have:=HY aq (show lA W a 4 b=some (.lit (.bool true),p) from e);rw[c,this];rfl
theorem FG{W:World}(h:laidMet Tryz.prog Rows.syntaxJoinsRow.laid W):(∃ m l,W.cell? ⟨4,0,none⟩=some (.iface m l))/\∃ m l,W.cell? ⟨5,0,none⟩=some (.iface m l):=by
 obtain⟨o,b,p,q,r⟩:=iS h 11 (n:= "strconv.ErrSyntax") (d:=Rows.laid_strconv_ErrSyntax) rfl (g:=4) (t:=160) aq aq;obtain⟨i,a,s,j,k⟩:=iS h 10 (n:= "strconv.ErrRange") (d:=Rows.laid_strconv_ErrRange) rfl (g:=5) (t:=160) aq aq
 obtain⟨f,c⟩:∃ f,Tryz.prog.underlying 160=some (.interface f):=by
  have:(match Tryz.prog.underlying 160 with|some (.interface _)=>true|_=>false)=true:=aq
  split at this
  ·rename_i f e;exact⟨f,e⟩
  ·cases this
 obtain⟨u,v,rfl⟩:=xx c (show lA W b 160 o=some (.iface _ _,p) from r);obtain⟨w,x,rfl⟩:=xx c (show lA W a 160 i=some (.iface _ _,s) from k);exact⟨⟨u,v,by rw[q];rfl⟩,⟨w,x,by rw[j];rfl⟩⟩
theorem AA{a:List Value}{i j n:Nat}{v:Value}(b:j<n)(h:((a.drop i).take n)[j]?=some v):a[i+j]?=some v:=by
 rw[List.getElem?_take,if_pos b,List.getElem?_drop] at h;exact h
theorem AB{W:World}(h:laidMet Tryz.prog Rows.syntaxJoinsRow.laid W):Tp H0 H4 W:=by
 obtain⟨f,a,p,u,A⟩:=iS h 15 (n:= "internal/strconv.pow10Tab") (d:=Pinned.pow10Tab) rfl (g:=15) (t:=330) aq aq;obtain⟨_,l⟩:=Fz (e:=329) (n:=696) (k:=2) aq aq (show lA W a 330 f=some (.agg (Pinned.pow10Rows.map fun x=>.agg [.lit (.int .u64 x.1),.lit (.int .u64 x.2)]),p) from A)
 have c:∀ k,k<696->f[k*2]?=some (.int .u64 (H0 k:Nat))/\f[k*2+1]?=some (.int .u64 (H4 k:Nat)):=fun k b=>by
  obtain⟨m,q,o⟩:=l k _ (uq (z:=(0,0)) (by rw[H7];exact b));obtain⟨D,_,v⟩:=qJ (ts:=[73,73]) aq o;obtain⟨H,m1,E,r,B⟩:=v 0 73 _ rfl rfl;obtain⟨G,m2,F,s,C⟩:=v 1 73 _ rfl rfl;have w:=oC (k:=.u64) aq B;have y:=oC (k:=.u64) aq C;simp only [List.cons.injEq,and_true] at w y;rw[w] at r;rw[y] at s;exact⟨AA (i:=k*2) (j:=0) (n:=2) O r,AA (i:=k*2) (j:=1) (n:=2) O s⟩
 exact⟨Ep,Es,fun k b=>by rw[u];exact(c k b).1,fun k b=>by rw[u];exact(c k b).2⟩
theorem AD{W:World}(h:laidMetH Tryz.prog Rows.syntaxJoinsRow.laid W):∃ x c y a z b,TL x c y a z b W.heap.size W:=by
 rw[MakeChecks.laidMetH_plain _ _ _ aq] at h;obtain⟨x,c,f,g,k⟩:=yZ h;obtain⟨y,a,l,i⟩:=y2 h;obtain⟨z,b,m,c2⟩:=Az h;obtain⟨j,n,p⟩:=CA h;have o:=FF h;have e:=FG h;have t:=AB h;have d:=kU W _ f;have lx:=kU W _ (g 0 O);have q:=kU W _ (i 0 O);have r:=kU W _ (c2 0 O);exact⟨x,c,y,a,z,b,⟨⟨⟨d,lx,f,g,k⟩,q,j,n,p,l,i⟩,⟨j,m,c2⟩,r,t,o⟩,e.1,e.2⟩
end Go.Proofs.YtkblonfmjlopaaaGreatDoor
namespace Go.Proofs.YtkblonfmjlopaaaGreatDoor
set_option linter.all false
open Go Go.RowKit
set_option maxRecDepth 100000
set_option maxHeartbeats 4000000
theorem y3(x d y a z b:Nat)(s:ByteArray)(j:RC s)(k:s.size<=200):
 ∃ f n c,(c=.nilIface\/c=.iface 231 (.int .i64 1)\/c=.iface 231 (.int .i64 2))/\∀ w,TL x d y a z b w.heap.size w->
   Calls Tryz.prog 179 #[.string s] w fun e l=>e=.returned (.tuple #[.float .f64 f,.int .i64 n,c])/\Below w.heap.size w l:=by
 obtain⟨f,n,c,g,i⟩:=CB FA Cy x d y a Cz z b H0 H4 s j k H6 Ki Ep Es;exact⟨f,n,c,g,fun w h=>i w h.tt⟩
theorem y4(x d y a z b:Nat)(s:ByteArray)(m:RC s)(p:s.size<=200):
 ∃ f n c,(c=.nilIface\/c=.iface 231 (.int .i64 1)\/c=.iface 231 (.int .i64 2))/\∀ w,TL x d y a z b w.heap.size w->
   Calls Tryz.prog 157 #[.string s,.int .i64 64] w fun e q=>e=.returned (.tuple #[.float .f64 f,.int .i64 n,c])/\Below w.heap.size w q:=by
 obtain⟨f,n,c,g,i⟩:=y3 x d y a z b s m p;have k:=U i;have j:=U g;clear g i;refine⟨f,n,c,j.out,fun w h=>?_⟩;have l:=U h;clear h;go_enter Tryz.func157,Tryz.ntmps157
 go_wp2_with (go_at_call 179;refine(k.out _ l.out).mono ?_;rintro e r ⟨rfl,o⟩)
 go_ret3
 exact⟨rfl,o⟩
theorem AE(x g y a z b:Nat)(s:ByteArray)(q:RC s)(t:s.size<=200):
 ∃ f c,(c=.nilIface\/c=.iface 231 (.int .i64 1)\/c=.iface 231 (.int .i64 2))/\∀ w,TL x g y a z b w.heap.size w->
   Calls Tryz.prog 125 #[.string s,.int .i64 64] w fun e u=>e=.returned (.tuple #[.float .f64 f,c])/\Below w.heap.size w u:=by
 obtain⟨f,n,c,l,m⟩:=y4 x g y a z b s q t;have k:=U m;have o:=U l;clear l m
 by_cases d:n=(s.size:Int)
 ·have r:(n != (s.size:Int))=false:=by simp[d]
  have p:=U d;clear d;refine⟨f,c,o.out,fun w h=>?_⟩;have i:=U h;clear h;go_enter Tryz.func125,Tryz.ntmps125
  go_wp2_with (go_at_call 157;refine(k.out _ i.out).mono ?_;rintro e v ⟨rfl,j⟩)
  go_ret2
  exact⟨rfl,j⟩
 ·have r:(n != (s.size:Int))=true:=by simp[d]
  have p:=U d;clear d;refine⟨0,.iface 231 (.int .i64 2),.inr (.inr rfl),fun w h=>?_⟩;have i:=U h;clear h;go_enter Tryz.func125,Tryz.ntmps125
  go_wp2_with (go_at_call 157;refine(k.out _ i.out).mono ?_;rintro e v ⟨rfl,j⟩)
  go_ret2
  exact⟨rfl,j⟩
theorem td(x k y b z c:Nat)(s:ByteArray)(v:RC s)(n:s.size<=200):
 ∃ f,∀ w,TL x k y b z c w.heap.size w->
   Calls Tryz.prog 89 #[.string s,.int .i64 64] w fun e A=>∃ r,e=.returned (.tuple #[.float .f64 f,r])/\Below w.heap.size w A:=by
 obtain⟨f,r,u,t⟩:=AE x k y b z c s v n;have m:=U t;have i:=U n;clear t n;refine⟨f,fun w h=>?_⟩;have j:=U h;clear h
 rcases u with rfl|rfl|rfl
 ·go_enter Tryz.func89,Tryz.ntmps89
  go_wp2_with (go_at_call 125;refine(m.out _ j.out).mono ?_;rintro e l ⟨rfl,a⟩)
  go_ret2
  exact⟨_,rfl,a⟩
 ·go_enter Tryz.func89,Tryz.ntmps89
  go_wp2_with (first|(go_at_call 125;refine(m.out _ j.out).mono ?_;rintro e l ⟨rfl,a⟩;obtain⟨q,p,o⟩:=(j.a6 a).e3)|(go_at_call 126;refine(Tryz.strconv_toError_range _ s 0 64 _ l (ba i.out) o (.inr ⟨q,p,rfl⟩)).mono ?_;rintro e B ⟨N,rfl,_,_,d⟩;have g:=a.trans (d.mono a.size)))
  go_ret2
  exact⟨_,rfl,g⟩
 ·go_enter Tryz.func89,Tryz.ntmps89
  go_wp2_with (first|(go_at_call 125;refine(m.out _ j.out).mono ?_;rintro e l ⟨rfl,a⟩;obtain⟨q,p,o⟩:=(j.a6 a).e2)|(go_at_call 126;refine(Tryz.strconv_toError_syntax _ s 0 64 _ l (ba i.out) o (.inr ⟨q,p,rfl⟩)).mono ?_;rintro e B ⟨N,rfl,_,_,d⟩;have g:=a.trans (d.mono a.size)))
  go_ret2
  exact⟨_,rfl,g⟩
open Classical in
noncomputable def FR(x off y oV z Ay:Nat)(l:List UInt8):Nat:=
 if h:RC ⟨l.toArray⟩/\(⟨l.toArray⟩:ByteArray).size<=200 then Classical.choose (td x off y oV z Ay ⟨l.toArray⟩ h.1 h.2) else 0
theorem H9{x c y a z b B:Nat}{w:World}(e:B<=w.heap.size)(m:TL x c y a z b B w){l:List UInt8}(f:RC ⟨l.toArray⟩)(k:l.length<=200):PF (FR x c y a z b) B w l:=by
 intro i g;have d:(⟨l.toArray⟩:ByteArray).size<=200:=by rw[show(⟨l.toArray⟩:ByteArray).size=l.length by simp[ByteArray.size]];exact k
 have h:=Ad (td x c y a z b ⟨l.toArray⟩ f d);unfold FR;rw[dif_pos ⟨f,d⟩];have j:B<=i.heap.size:=fy e g.size;exact h i ((m.a6 g).mono j)
def H_(c:Nat):Prop:=c=126\/c=46\/c=101\/(48<=c/\c<=57)
theorem H'{c:Nat}(h:bm c=true):H_ c:=.inr (.inr (.inr (gx h)))
theorem px(s:ByteArray)(k j:Nat)(b:k<=j)(c:j<cn bm s k):H_ (bt s j):=by
 obtain⟨m,e,a,_⟩:=oA (p:=bm) (s:=s) Av _ k rfl;have:=a (j-k) O;rw[show k+(j-k)=j from O] at this;exact H' this
theorem CC(s:ByteArray)(i:Nat)(j:Nat)(h:i<=j)(f:j<jf s (iC s (gF s i))):H_ (bt s j):=by
 rcases gr j (gF s i) with c|c
 ·unfold gF at c
  by_cases q:bt s i=126
  ·rw[if_pos q] at c
   rcases Eg h with e|e
   ·rw[<-e];exact .inl q
   ·exact px s (i+1) j e c
  ·rw[if_neg q] at c;exact px s i j h c
 generalize gF s i=a at*
 rcases gr j (iC s a) with d|d
 ·unfold iC at d
  split at d
  ·rename_i q
   rcases Eg c with e|e
   ·rw[<-e];exact .inr (.inl q.1)
   ·exact px s (a+1) j e d
  ·omega
 generalize iC s a=b at*;unfold jf at f
 split at f
 ·rename_i q
  split at f
  ·rename_i g
   rcases Eg d with e|e
   ·rw[<-e];exact .inr (.inr (.inl q))
   ·unfold lr at f
    split at f
    ·rename_i u
     rcases Eg e with v|v
     ·rw[<-v];exact .inl u
     ·exact px s (b+2) j v f
    ·exact px s (b+1) j e f
  ·omega
 ·omega
theorem Ia(s:ByteArray)(i:Nat)(a:jf s (iC s (gF s i))<=s.size):RC ⟨(kX (sub s i (jf s (iC s (gF s i))))).toArray⟩:=by
 intro j k
 have f:j<jf s (iC s (gF s i))-i:=by
  have:(⟨(kX (sub s i (jf s (iC s (gF s i))))).toArray⟩:ByteArray).size=jf s (iC s (gF s i))-i:=by
   show(kX _).toArray.size=_;rw[lZ,u_,uo a]
  omega
 have b:=CC s i (i+j) O O
 have e:bt ⟨(kX (sub s i (jf s (iC s (gF s i))))).toArray⟩ j=if bt s (i+j)=126 then 45 else bt s (i+j):=by
  unfold bt kX;show(((sub s i (jf s (iC s (gF s i)))).map fun c=>if c=126 then 45 else c)[j]?.getD 0).toNat=_;rw[qo,po a,if_pos f];have d:i+j<s.data.toList.length:=by rw[<-qw];omega
  rw[fv d];simp only [Option.map_some,Option.getD_some];generalize s.data.toList[i+j]=c
  by_cases q:c=126
  ·subst q;rfl
  ·have g:¬c.toNat=126:=fun h=>q (UInt8.toNat_inj.mp h);rw[if_neg q,if_neg g]
 rw[e]
 rcases b with c|c|c|c
 ·rw[if_pos c];exact .inl rfl
 ·rw[if_neg O];exact .inr (.inl c)
 ·rw[if_neg O];exact .inr (.inr (.inl c))
 ·rw[if_neg O];exact .inr (.inr (.inr c))
theorem FH{x c y a z b B:Nat}{w:World}(d:B<=w.heap.size)(k:TL x c y a z b B w)(s:ByteArray):Fh (FR x c y a z b) B w s:=by
 intro i e j m
 have l:i<s.size:=by
  rcases e with h|h
  ·exact h8 h
  ·have:=h8 h.2;omega
 have g:gF s i<=s.size:=by
  unfold gF
  split
  ·rename_i q
   rcases e with h|h
   ·have:=gx h;omega
   ·exact dm (ba (h8 h.2))
  ·exact dm O
 have f:=(n4 (n3 g).2).2;refine H9 d k (Ia s i f) ?_;rw[u_,uo f];omega
end Go.Proofs.YtkblonfmjlopaaaGreatDoor
