/-
  Two texts with a line's end and a semicolon between them: words, declarations. What the lexer's words are. Plain.
-/
import Derived.Test.YtkblonfmjlopaaaGreatDoorLxPF
import Derived.Test.YtkblonfmjlopaaaGreatDoorSzPa
set_option linter.all false
set_option maxRecDepth 1000000
set_option maxHeartbeats 16000000
namespace Go.Proofs.YtkblonfmjlopaaaGreatDoor
open Go Go.RowKit
variable {s:ByteArray}{l:List Nd}{F:List UInt8->Nat}{M:Nat}{a:Nd}{y:PM Nd}
theorem v7(s:ByteArray):∀ m k a x r,j5 s m k a=.ok (x,r)->x.length+k<=a.length+r
 |0,k,a,x,r,h=>by cases h
 |m+1,k,a,x,r,h=>by
  unfold j5 at h
  split at h
  ·cases h
  split at h
  ·cases h;omega
  split at h
  ·cases h
  split at h
  ·have:=v7 s m _ _ x r h;simp only [List.length_append,List.length_cons,List.length_nil] at this;omega
  split at h
  ·cases h
  ·have:=v7 s m _ _ x r h;simp only [List.length_append,List.length_cons,List.length_nil] at this;omega
theorem ye{k n:Nat}{t:Tok}(h:gJ F s k=.ok (t,n))(y:k<s.size):t.text.length<=s.size/\(t.kind=4->t.text≠[]/\∀ c,t.text=[c]->48<=c.toNat):=by
 have f:=j7 h y;have z:=oB h y;have b:(sub s k n).length=n-k:=uo f.2
 have g:∀ {i x r},gj s i=.ok (x,r)->r<=s.size->x.length<=s.size:=fun{i x r} g B=>by
  have:=v7 s _ _ _ _ _ g;simp only [List.length_nil] at this;omega
 have j:t.text=sub s k n->t.text.length<=s.size:=fun e=>by rw[e,b];omega
 refine⟨?_,fun p=>?_⟩
 ·rcases z.text with l|m|e
  ·unfold gJ at h;simp only at h
   split at h
   ·unfold lR at h
    split at h
    ·simp only [Except.ok.injEq,Prod.mk.injEq] at h;obtain⟨rfl,rfl⟩:=h;cases l
    ·have:=(yX _ _ h).2.1;omega
   split at h
   ·unfold h7 at h;simp only at h
    split at h
    ·split at h
     ·cases h
     ·simp only [Except.ok.injEq,Prod.mk.injEq] at h;obtain⟨rfl,rfl⟩:=h;cases l
    ·split at h
     ·cases h
     ·simp only [Except.ok.injEq,Prod.mk.injEq] at h;obtain⟨rfl,rfl⟩:=h;cases l
   split at h
   ·rcases a:gj s k with e|⟨x,r⟩
    ·rw[a] at h;cases h
    ·rw[a] at h;simp only [Except.ok.injEq,Prod.mk.injEq] at h;obtain⟨rfl,rfl⟩:=h;exact g a f.2
   split at h
   ·rcases a:gj s (k+1) with e|⟨x,r⟩
    ·rw[a] at h;cases h
    ·rw[a] at h;simp only at h
     split at h
     ·cases h
     simp only [Except.ok.injEq,Prod.mk.injEq] at h;obtain⟨rfl,rfl⟩:=h;exact g a f.2
   split at h
   ·by_cases d:isLet (bt s (if bt s (k+1)=39 then k+2 else k+1))=true
    ·rw[if_pos d] at h;have:=(k_ h).2.1;omega
    ·rw[if_neg d] at h;cases h
   split at h
   ·simp only [Except.ok.injEq,Prod.mk.injEq] at h;obtain⟨rfl,rfl⟩:=h;cases l
   split at h
   ·have:=(k_ h).2.1;split at this<;>omega
   ·cases h
  ·unfold gJ at h;simp only at h
   split at h
   ·unfold lR at h
    split at h
    ·simp only [Except.ok.injEq,Prod.mk.injEq] at h;obtain⟨rfl,rfl⟩:=h;cases m
    ·have:=(yX _ _ h).2.1;omega
   split at h
   ·unfold h7 at h;simp only at h
    split at h
    ·split at h
     ·cases h
     ·simp only [Except.ok.injEq,Prod.mk.injEq] at h;obtain⟨rfl,rfl⟩:=h;cases m
    ·split at h
     ·cases h
     ·simp only [Except.ok.injEq,Prod.mk.injEq] at h;obtain⟨rfl,rfl⟩:=h;cases m
   split at h
   ·rcases a:gj s k with e|⟨x,r⟩
    ·rw[a] at h;cases h
    ·rw[a] at h;simp only [Except.ok.injEq,Prod.mk.injEq] at h;obtain⟨rfl,rfl⟩:=h;exact g a f.2
   split at h
   ·rcases a:gj s (k+1) with e|⟨x,r⟩
    ·rw[a] at h;cases h
    ·rw[a] at h;simp only at h
     split at h
     ·cases h
     simp only [Except.ok.injEq,Prod.mk.injEq] at h;obtain⟨rfl,rfl⟩:=h;exact g a f.2
   split at h
   ·by_cases d:isLet (bt s (if bt s (k+1)=39 then k+2 else k+1))=true
    ·rw[if_pos d] at h;have:=(k_ h).2.1;omega
    ·rw[if_neg d] at h;cases h
   split at h
   ·simp only [Except.ok.injEq,Prod.mk.injEq] at h;obtain⟨rfl,rfl⟩:=h;cases m
   split at h
   ·have:=(k_ h).2.1;split at this<;>omega
   ·cases h
  ·exact j e
 ·have e:t.text=sub s k n:=by
   rcases z.text with q|q|q
   ·omega
   ·omega
   ·exact q
  refine⟨fun w=>?_,fun c u=>?_⟩
  ·rw[e] at w;have:=congrArg List.length w;rw[b] at this;simp at this;omega
  ·rw[e] at u;have o:=congrArg List.length u;rw[b] at o;have o:n-k=1:=o
   have A:bt s k=c.toNat:=by
    have:=po (s:=s) (i:=k) f.2 0;rw[u,if_pos O,qv] at this;unfold bt;rw[<-this];rfl
   rw[<-A];unfold gJ at h;simp only at h
   by_cases v:isLet (bt s k)=true
   ·have:=of_decide_eq_true v;omega
   rw[if_neg v] at h
   by_cases c2:bm (bt s k)=true\/bt s k=126/\bm (bt s (k+1))=true
   ·rcases c2 with c|c
    ·exact(gx c).1
    ·omega
   exfalso;rw[if_neg c2] at h
   split at h
   ·rcases a:gj s k with e|⟨x,r⟩
    ·rw[a] at h;cases h
    ·rw[a] at h;simp only [Except.ok.injEq,Prod.mk.injEq] at h;obtain⟨rfl,rfl⟩:=h;cases p
   split at h
   ·rcases a:gj s (k+1) with e|⟨x,r⟩
    ·rw[a] at h;cases h
    ·rw[a] at h;simp only at h
     split at h
     ·cases h
     simp only [Except.ok.injEq,Prod.mk.injEq] at h;obtain⟨rfl,rfl⟩:=h;cases p
   split at h
   ·by_cases d:isLet (bt s (if bt s (k+1)=39 then k+2 else k+1))=true
    ·rw[if_pos d] at h;have:=(k_ h).2.1;omega
    ·rw[if_neg d] at h;cases h
   split at h
   ·simp only [Except.ok.injEq,Prod.mk.injEq] at h;obtain⟨rfl,rfl⟩:=h;cases p
   split at h
   ·have:=(k_ h).2.1;split at this<;>omega
   ·cases h
theorem mX{F:List UInt8->Nat}{s:ByteArray}:∀ (a:List Tok) (i:Nat),i<=s.size->Words F s a i->a.length+i<=s.size
 |[],i,hi,h=>by simp;exact hi
 |t::a,i,hi,h=>by
  obtain⟨k,n,d,e,f,c⟩:=h;have b:=j7 f e;have g:=mC d hi;have:=mX a n b.2 c;simp only [List.length_cons];omega
theorem sI{F:List UInt8->Nat}{s:ByteArray}:∀ (b:List Tok) (i:Nat),Words F s b i->∀ (j:Nat) (t:Tok),b[j]?=some t->∃ k n,gJ F s k=.ok (t,n)/\k<s.size
 |[],i,h,j,t,a=>by simp at a
 |u::b,i,h,j,t,a=>by
  obtain⟨k,n,f,d,e,c⟩:=h
  rcases j with _|j
  ·simp only [List.getElem?_cons_zero,Option.some.injEq] at a;subst a;exact⟨k,n,e,d⟩
  ·rw[D'] at a;exact sI b n c j t a
theorem KU{a:List Tok}(h:j6 F s=.ok a):Im s a/\qM ⟨a,s.size⟩:=by
 obtain⟨l,f⟩:=jm h;have o:=mX a 0 (hU _) f;refine⟨⟨O,l,fun i t g=>?_⟩,fun i t c g e j=>?_⟩
 ·obtain⟨k,n,d,b⟩:=sI a 0 f i t g;have m:=oB d b;have x:=ye d b;exact⟨O,by rw[m.pos];omega,fun e=>(x.2 e).1,m.kind.2⟩
 ·obtain⟨k,n,d,b⟩:=sI a 0 f i t g;exact((ye d b).2 e).2 c j
structure Dp(o:Nat)(b s:ByteArray):Prop where
 size:s.size=o+b.size
 hi:∀ j,bt s (o+j)=bt b j
theorem Dp.blank{o:Nat}{b s:ByteArray}(h:Dp o b s):∀ (m d i:Nat),iY s m d (o+i)=(iY b m d i).map (o+·)
 |0,d,i=>rfl
 |m+1,d,i=>by
  have f:=h.hi i;have g:bt s (o+i+1)=bt b (i+1):=h.hi (i+1);have j:=h.size;unfold iY;rw[f,g]
  by_cases a:bt b i=40/\bt b (i+1)=42
  ·rw[if_pos a,if_pos a];exact h.blank m (d+1) (i+2)
  rw[if_neg a,if_neg a]
  by_cases c2:0<d/\bt b i=42/\bt b (i+1)=41
  ·rw[if_pos c2,if_pos c2];exact h.blank m (d-1) (i+2)
  rw[if_neg c2,if_neg c2]
  by_cases c:0<d/\b.size<=i
  ·rw[if_pos c,if_pos ⟨c.1,O⟩];rfl
  rw[if_neg c,if_neg (fun x=>c ⟨x.1,O⟩)]
  by_cases e:0<d\/i<b.size/\(bt b i=32\/bt b i=9\/bt b i=10\/bt b i=13)
  ·rw[if_pos e,if_pos (by rcases e with x|x
                          ·exact .inl x
                          ·exact .inr ⟨O,x.2⟩)]
   exact h.blank m d (i+1)
  ·rw[if_neg e,if_neg (fun x=>e (by rcases x with x|x
                                    ·exact .inl x
                                    ·exact .inr ⟨O,x.2⟩))]
   rfl
theorem Dp.words{o:Nat}{b s:ByteArray}(h:Dp o b s){F:List UInt8->Nat}:∀ (y:List Tok) (i:Nat),i<=b.size->Words F b y i->Words F s (y.map (mv o)) (o+i)
 |[],i,hi,hw=>by
  obtain⟨k,c,d⟩:=hw;have l:=h.size;refine⟨o+k,?_,O⟩;unfold fj at c⊢;rw[show s.size+2-(o+i)=b.size+2-i from O,h.blank,c]
  rfl
 |t::y,i,hi,hw=>by
  obtain⟨k,n,c,d,a,f⟩:=hw;have l:=h.size;have e:=j7 a d;obtain⟨m,rfl⟩:∃ m,n=k+m:=⟨n-k,O⟩;refine⟨o+k,o+(k+m),?_,O,?_,h.words y (k+m) e.2 f⟩
  ·unfold fj at c⊢;rw[show s.size+2-(o+i)=b.size+2-i from O,h.blank,c]
   rfl
  ·have L:Loc b s k (o+k) m:=⟨fun j _=>by rw[e9 o];exact h.hi (k+j),Ah.all 3 (fun j=>by rw[e9 o,e9 o,e9 k];exact h.hi (k+(m+j))),e.2,O⟩;have g:=(oB a d).pos;rw[show o+(k+m)=o+k+m from O,L.word d a];unfold mv;rw[g,ra k]
def hX(p:Nat):Tok:=⟨8,[59],0,0,0,p⟩
theorem Bl{a b:ByteArray}(g:Dp (a.size+2) b s)(d:bt s (a.size+1)=59){y:List Tok}(m:Words F b y 0):Words F s (hX (a.size+1)::y.map (mv (a.size+2))) (a.size+1):=by
 have n:=g.size;refine⟨a.size+1,a.size+2,?_,O,?_,g.words y 0 (hU _) m⟩
 ·rw[kE O,d,if_neg O,if_neg O,if_neg O,if_neg O]
 ·have j:sub s (a.size+1) (a.size+1+1)=[59]:=by
   have h:=uo (s:=s) (i:=a.size+1) (k:=a.size+1+1) O;have e:=po (s:=s) (i:=a.size+1) (k:=a.size+1+1) O 0;rw[if_pos O,qv] at e;have f:a.size+1<s.data.toList.length:=by rw[<-qw];omega
   rw[fv f] at e;unfold bt at d;rw[fv f] at d
   obtain⟨c,l⟩:∃ c,sub s (a.size+1) (a.size+1+1)=[c]:=by
    rw[show a.size+1+1-(a.size+1)=1 from O] at h;exact List.length_eq_one_iff.1 h
   rw[l] at e⊢;simp only [List.getElem?_cons_zero,Option.some.injEq] at e;rw[e];have d:(s.data.toList[a.size+1]).toNat=59:=d;rw[show s.data.toList[a.size+1]=59 from UInt8.toNat_inj.mp d]
  unfold gJ;simp only
  rw[d,if_neg bh,if_neg (by rintro(q|q);(revert q;decide);exact absurd q.1 bh),if_neg bh,if_neg (by rintro⟨q,_⟩;exact absurd q bh),if_neg bh,if_pos (by decide+kernel),j]
  rfl
theorem Gg{a b:ByteArray}{d:ByteArray}(f:pt a d s)(e:Dp (a.size+2) b s)(c:bt s (a.size+1)=59){x y:List Tok}(h:j6 F a=.ok x)(i:j6 F b=.ok y)(g:s.size<=65536):j6 F s=.ok (x++hX (a.size+1)::y.map (mv (a.size+2))):=
 Cw g (f.Em (Bl e c (jm i).2) x 0 (hU _) (jm h).2)
theorem Gi(a b:ByteArray):pt a (⟨#[59]⟩++b) (a++⟨#[10,59]⟩++b)/\Dp (a.size+2) b (a++⟨#[10,59]⟩++b)/\bt (a++⟨#[10,59]⟩++b) (a.size+1)=59:=by
 obtain⟨⟨l⟩⟩:=a;obtain⟨⟨r⟩⟩:=b
 have e:(⟨l.toArray⟩++⟨#[10,59]⟩++⟨r.toArray⟩:ByteArray)=⟨(l++10::59::r).toArray⟩:=by
  apply ByteArray.ext;apply Array.toList_inj.mp;simp
 have c:(⟨#[59]⟩++⟨r.toArray⟩:ByteArray)=⟨(59::r).toArray⟩:=by
  apply ByteArray.ext;apply Array.toList_inj.mp;simp
 rw[e,c];refine⟨Cx l (59::r),⟨by rw[gK,gK,gK];simp;omega,fun j=>?_⟩,?_⟩
 ·rw[gK,lu,lu,kC O,show l.length+2+j-l.length=j+2 from O];rfl
 ·rw[gK,lu,kC O,show l.length+1-l.length=1 from O];rfl
theorem Bm{o:Nat}{x y:List Tok}{f g j:Nat}{n k:Nat}{r:List Nd}(s:gP ⟨x,f⟩ (iZ ⟨x,f⟩ n)=some (.ok l))(u:gP ⟨y,g⟩ (iZ ⟨y,g⟩ k)=some (.ok r))(c:∀ d∈l,iD d≠8/\iD d≠9)(p m:Nat)(w:n+k+2<=m)(z:x.length+y.length+3<=m):
 gP ⟨x++hX p::y.map (mv o),j⟩ (iZ ⟨x++hX p::y.map (mv o),j⟩ m)=some (.ok (l++r)):=by
 have b:∀ i,(x++hX p::y.map (mv o))[x.length+1+i]?=(y.map (mv o))[i]?:=fun i=>by
  rw[kC O,show x.length+1+i-x.length=i+1 from O,D']
 have e:(x++hX p::y.map (mv o))[x.length]?=some (hX p):=by rw[kC (aw _),qt];rfl
 refine AG (X:=⟨x,f⟩) (Y:=⟨y,g⟩) ⟨fun i t a=>?_,fun h a=>?_⟩ ?_ ⟨fun i t a=>?_,fun h a=>?_⟩ ?_ s u c m w ?_
 ·have a:x[i]?=some t:=a
  have v:i<x.length:=by
   rcases gr i x.length with q|q
   ·exact q
   ·rw[j4 q] at a;cases a
  refine⟨t,?_,rfl,rfl,rfl,rfl,rfl⟩;show(x++_)[0+i]?=some t;rw[gW,lg v];exact a
 ·have a:(x++hX p::y.map (mv o))[0+x.length]?=some h:=a;rw[gW,e] at a;cases a;exact⟨rfl,rfl⟩
 ·show ay _ [[59]] ⟨x.length,[]⟩=true;unfold ay V;show(let t:=((x++hX p::y.map (mv o))[x.length]?).getD tA;_)=true;rw[e]
  rfl
 ·have a:y[i]?=some t:=a;refine⟨mv o t,?_,rfl,rfl,rfl,rfl,rfl⟩;show(x++hX p::y.map (mv o))[x.length+1+i]?=_;rw[b,qo,a];rfl
 ·exfalso;have a:(x++hX p::y.map (mv o))[x.length+1+y.length]?=some h:=a;rw[b,j4 ar] at a;cases a
 ·show(x++hX p::y.map (mv o)).length=x.length+1+y.length;simp;omega
 ·show(x++hX p::y.map (mv o)).length+2<=m;simp;omega
section
open Go
theorem hY{N:Nat}{k:Kd}(h:De N k a):gh N k [a]:=fun b c=>by rcases List.mem_singleton.1 c with rfl;exact h
theorem rQ{N:Nat}{k:Kd}{b:Nd}(h:De N k a)(g:De N k b):gh N k [a,b]:=fun c d=>by
 rcases List.mem_cons.1 d with rfl|q
 ·exact h
 ·exact hY g c q
theorem N4{N:Nat}{k:Kd}{b c:Nd}(h:De N k a)(g:De N k b)(i:De N k c):gh N k [a,b,c]:=fun d e=>by
 rcases List.mem_cons.1 e with rfl|q
 ·exact h
 ·exact rQ g i d q
theorem tH{N:Nat}{k:Kd}(h:gh N k l)(g:De N k a):gh N k (l++[a]):=fun c b=>by
 rcases List.mem_append.1 b with q|q
 ·exact h c q
 ·exact hY g c q
theorem L8{N:Nat}{k:Kd}(g:De N k a)(h:gh N k l):gh N k (a::l):=fun c b=>by
 rcases List.mem_cons.1 b with rfl|q
 ·exact g
 ·exact h c q
theorem gE{N:Nat}{k:Kd}{x:PM Nd}(h:Gv (De N k) x)(b:N<=M:=by omega):Gv (De M k) x:=fun s a c e=>(h s a c e).up b
theorem ux{N:Nat}{k:Kd}{x:PM (List Nd)}(h:Gv (gh N k) x)(b:N<=M:=by omega):Gv (gh M k) x:=fun s a c e=>pP (h s a c e) b
section
variable {X:Tx} {N:Nat} {k:Kd} {σ:Type} {one:σ->PM (Nd×σ)}
theorem yf{b:ak}(h:∀ x,Gv (fun r=>De N k r.1) (one x)):∀ (n:Nat) (a:List Nd) (x:σ),gh N k a->Gv (fun r:List Nd×σ=>gh N k r.1) (gy X b one n a x)
 |0,a,x,c=>br
 |n+1,a,x,c=>by
  unfold gy;exact ae fun t=>av (fun _=>ao (h x) fun r d=>yf h n _ _ (tH c d)) fun _=>ag c
theorem v8{n:Nat}{a:ak}(h:∀ x,Gv (fun r=>De N k r.1) (one x))(x:σ):Gv (fun r:List Nd×σ=>gh N k r.1) (list X n a one x):=by
 unfold list;exact ao (h x) fun r b=>yf h _ _ _ (hY b)
theorem rR{n:Nat}{a:ak}(h:∀ x,Gv (fun r=>De N k r.1) (one x))(x:σ):Gv (fun r:List Nd×σ=>gh N k r.1) (hF X n a one x):=by
 unfold hF;exact ae fun t=>av (fun _=>ag bu) fun _=>ao (v8 h x) fun l b=>ae fun _=>ag b
theorem Bn(h:Gv (De N k) y):∀ u,Gv (fun r:Nd×Unit=>De N k r.1) (lone y u):=fun u=>by
 unfold lone;exact ao h fun a b=>ag b
theorem kt{n:Nat}{a:ak}(h:Gv (De N k) y):Gv (gh N k) (df X n a y):=by
 unfold df;exact ao (v8 (Bn h) ()) fun r b=>ag b
theorem sJ{n:Nat}{a:ak}(h:Gv (De N k) y):Gv (gh N k) (gd X n a y):=by
 unfold gd;exact ao (rR (Bn h) ()) fun r b=>ag b
end
structure Dq(N:Nat)(f:Fs):Prop where
 ty:Gv (De N .ty) f.ty
 pat:Gv (De N .pat) f.pat
 exp:Gv (De N .exp) f.exp
 dr:∀ b,Gv (gh N .dec) (f.dr b)
 e8:∀ l b,Gv (De N .pat) (f.e8 l b)
 fB:∀ l b,Gv (De N .exp) (f.fB l b)
 either:Gv (De N .exp) f.either
 both:Gv (De N .exp) f.both
 jU:∀ ls,Gv (fun r=>De N .ty r.1) (f.jU ls)
 prec:∀ ls,Gv (fun r=>De N .pat r.1) (f.prec ls)
 kk:∀ ls,Gv (fun r=>De N .exp r.1) (f.kk ls)
 iq:Gv (gh N .jV) f.iq
 data:Gv (De N .data) f.data
 kS:Gv (De N .dec) f.kS
 specs:Gv (gh N .spec) f.specs
 hd:∀ w,Gv (De N .exp) (f.hd w)
 mF:∀ w,Gv (De N .exp) (f.mF w)
 l7:∀ w,Gv (De N .pat) (f.l7 w)
 lS:∀ M e,N<=M->De M .exp e->Gv (De (M+1) .exp) (f.lS e)
 lC:∀ M e,N<=M->De M .exp e->Gv (De (M+1) .exp) (f.lC e)
 lU:∀ M l,gh M .pat l->Gv (De (M+1) .pat) (f.lU l)
 oD:∀ w,Gv (De N .dec) (f.oD w)
 mG:∀ w,Gv (De N .pat) (f.mG w)
section
variable {X:Tx} {f:Fs} {n N:Nat}
theorem rS:∀ (m N:Nat) (l:List Nd),gh N .ty l->Gv (gh (N+m) .ty) (ek X m l)
 |0,N,l,h=>br
 |m+1,N,l,h=>by
  unfold ek;exact ae fun t=>av (fun _=>ae fun a=>ux (rS m (N+1) _ (hY (De.Gj h)))) (fun _=>ag (pP h))
theorem tI(q:Dq N f):Gv (De (N+1+n) .ty) (fe X f n):=by
 unfold fe;refine ae fun t=>ao (Q:=gh (N+1) .ty) ?_ fun l b=>ao (rS _ (N+1) l b) fun l b=>?_
 ·exact av (fun _=>ae fun a=>ag (hY (De.Gj (N:=N) bu))) (fun _=>av (fun _=>ae fun a=>ag (hY (De.Gj (N:=N) bu))) (fun _=>ae fun o=>av (fun _=>ao (kt q.ty) fun l b=>ae fun _=>ag (pP b)) (fun _=>ae fun _=>ao (rR q.jU _) fun r c=>ag (hY (De.Gj c)))))
 ·split
  ·exact ag (b _ (.head _))
  ·exact jQ
theorem yg(q:Dq N f):∀ (m:Nat) (l:List Nd),gh (N+1+n) .ty l->Gv (gh (N+1+n) .ty) (ik X f n m l)
 |0,l,b=>br
 |m+1,l,b=>by
  unfold ik;exact ae fun t=>av (fun _=>ae fun _=>ao (tI q) fun a c=>yg q m _ (tH b c)) (fun _=>ag b)
theorem KV(q:Dq N f):Gv (De (N+n+3) .ty) (qh X f n):=by
 unfold qh;refine ao (tI q) fun a e=>ao (yg q _ _ (hY e)) fun l c=>?_
 have h:∀ l:List Nd,gh (N+1+n) .ty l->De (N+n+2) .ty (match l with|[a]=>a|_=>ho 4 [] l (labels l.length)):=fun l c=>by
  split
  ·exact(c _ (.head _)).up
  ·exact De.Gj c
 have d:=h l c;exact ae fun o=>av (fun _=>ao q.ty fun b g=>ag (De.Gj (rQ d g.up))) (fun _=>ag d.up)
theorem zA(q:Dq N f):Gv (gh N .ty) (qf X f):=by
 unfold qf;exact ae fun o=>av (fun _=>ao q.ty fun a b=>ag (hY b)) fun _=>ag bu
theorem sK{k:Kd}{w:ak}(h:Gv (De N k) y)(c:List ak):Gv (fun r:Nd×List ak=>De N k r.1) (label X>>=fun a=>a8 X w>>=fun _=>y>>=fun t=>pure (t,c++[a])):=ae fun a=>ae fun _=>ao h fun t b=>ag b
theorem yh(l:ak):De (N+1) .pat (named l):=by
 unfold named
 split<;>exact De.oh (N:=N) bu
theorem Dr(q:Dq N f)(w:ak):Gv (De (N+1) .pat) (h' X f n w):=by
 unfold h';exact av (fun _=>ag (De.oh (N:=N) bu)) fun _=>av (fun _=>ae fun a=>ag (yh a)) fun _=>ao (rR q.prec _) fun r b=>ag (De.oh b)
theorem sL(q:Dq N f):Gv (De (N+1) .pat) (fp X f n):=by
 unfold fp;intro s a c h;simp only [] at h
 split at h
 ·revert h
  refine(av (fun _=>ag (De.oh (N:=N) bu)) fun _=>av (fun _=>ag (De.oh (N:=N) bu)) fun _=>av (fun _=>ag (De.oh (N:=N) bu)) fun _=>av (fun _=>av (fun _=>ao (sJ q.pat) fun l b=>?_) fun _=>av (fun _=>ao (sJ q.pat) fun l b=>ag (De.oh b)) fun _=>gE (q.l7 _)) fun _=>ag (yh _)) _ _ _
  split
  ·exact ag (b _ (.head _)).up
  ·exact q.lU _ _ b
 ·exact jQ (P:=De (N+1) .pat) _ _ _ h
theorem Ds(q:Dq N f):Gv (De (N+2) .pat) (jg X f n):=by
 unfold jg;intro s a d e;exact(ao (sL q) fun x b=>ae fun d=>av (fun _=>ao (sL q) fun y c=>ag (De.oh (hY c))) fun _=>ag b.up) _ _ _ e
theorem qX{k:Kd}{e:Int}{g o:Bool}{c:Int->Bool->PM Nd}{i:ak->Nd->Nd->Nd}(j:∀ M t a b,De M k a->De M k b->De (M+2) k (i t a b))(n:∀ l b,Gv (De N k) (c l b)):∀ (m M:Nat) (a:Nd) (d:Int×Bool),N<=M->De M k a->Gv (De (M+2*m) k) (fg X e g o c i m a d)
 |0,M,a,d,p,f=>br
 |m+1,M,a,d,p,f=>by
  unfold fg;intro s b r h;simp only [] at h
  split at h
  ·cases h;exact f.up
  ·split at h
   ·cases h;exact f.up
   ·split at h
    ·cases h;exact f.up
    ·split at h
     ·cases h
     ·split at h
      ·cases h
      ·exact(ae fun _=>ao (n _ _) fun b q=>gE (qX j n m (M+2) _ _ O (j _ _ _ _ f q.up))) _ _ _ h
theorem Bo(q:Dq N f)(l:Int)(b:Bool):Gv (De (N+2+2*n) .pat) (ic X f n l b):=by
 unfold ic;exact ao (Ds q) fun a c=>qX (fun M _ _ _ h g=>De.oh (N:=M+1) (hY (De.oh (rQ h g)))) q.e8 _ _ _ _ O c
theorem tJ(q:Dq N f):∀ (m M:Nat) (x:Nd),N<=M->De M .pat x->Gv (De (M+m) .pat) (fq X f m x)
 |0,M,x,b,a=>br
 |m+1,M,x,b,a=>by
  unfold fq;exact ae fun o=>av (fun _=>ao q.ty fun t c=>gE (tJ q m (M+1) _ O (De.oh (hY a) (hY c.up)))) fun _=>ag a.up
theorem Gk(q:Dq N f)(w:ak):Gv (De (N+1) .pat) (jY f w):=by
 unfold jY;exact ae fun _=>ae fun _=>ao q.pat fun y a=>ag (De.oh (hY a))
theorem I1(q:Dq N f):Gv (De (N+n) .pat) (nC X f n):=by
 unfold nC;intro s a c e;exact(ao (av (fun _=>q.mG _) fun _=>q.e8 _ _) fun x b=>tJ q _ _ _ (aw _) b) _ _ _ e
theorem I2{p:Nd}(h:De N .pat p):p.length=8:=by
 obtain⟨⟨d,h⟩,-⟩:=h;cases N with
 |zero=>cases h
 |succ n=>
  unfold dep at h;simp only [] at h
  split at h
  ·rfl
  ·cases h
theorem Gl(q:Dq N f):Gv (De (N+1) .jV) (nN X f):=by
 unfold nN;exact ao q.pat fun x a=>ae fun _=>ao q.exp fun e b=>ag (De.MQ a (I2 a) b)
theorem EU(h:gh N .exp l):De (N+1) .exp (lL l):=by
 unfold lL
 split
 ·exact(h _ (.head _)).up
 ·exact De.iM h
theorem Gm(q:Dq N f):Gv (De (N+2) .exp) (paren X f):=by
 unfold paren;exact ae fun o=>av (fun _=>ag (De.iM (N:=N) bu)) fun _=>ao q.exp fun e a=>ae fun hX=>ao (av (fun _=>q.lS _ e (aw _) a) fun _=>ae fun b=>av (fun _=>q.lC _ e (aw _) a) fun _=>ag a.up) fun r c=>ae fun _=>ag (De.up c)
theorem Dt(q:Dq N f)(M:Nat)(e:Nd)(c:N<=M)(a:De M .exp e):Gv (De (M+1) .exp) (iw X f n e):=by
 unfold iw;exact ao (kt q.exp) fun l b=>ag (EU (L8 a (pP b)))
theorem Du(q:Dq N f)(M:Nat)(e:Nd)(c:N<=M)(a:De M .exp e):Gv (De (M+1) .exp) (ix X f n e):=by
 unfold ix;exact ao (kt q.exp) fun l b=>ag (De.iM (L8 a (pP b)))
theorem Gn(q:Dq N f)(w:ak):Gv (De (N+2) .exp) (jo X f n w):=by
 unfold jo;exact av (fun _=>ae fun a=>ag (De.iM (N:=N) bu)) fun _=>av (fun _=>ae fun a=>ag (De.iM (N:=N) bu)) fun _=>av (fun _=>ae fun _=>ao (q.dr _) fun e c=>ae fun _=>ao (kt q.exp) fun l b=>ae fun _=>ae fun _=>ae fun _=>ag (De.iM (hY (EU b)) bu (pP c))) fun _=>av (fun _=>ao (sJ q.exp) fun l b=>ag (De.iM b)) fun _=>ao (rR q.kk _) fun r d=>ag (De.iM d)
theorem Bp(q:Dq N f):Gv (De (N+2) .exp) (atom X f):=by
 unfold atom;intro s a b h;simp only [] at h
 split at h
 ·exact(av (fun _=>ag (De.iM (N:=N) bu)) fun _=>av (fun _=>ag (De.iM (N:=N) bu)) fun _=>av (fun _=>ag (De.iM (N:=N) bu)) fun _=>av (fun _=>ag (De.iM (N:=N) bu)) fun _=>av (fun _=>av (fun _=>Gm q) fun _=>gE (q.mF _)) fun _=>ag (De.iM (N:=N) bu)) _ _ _ h
 ·exact jQ (P:=De (N+2) .exp) _ _ _ h
theorem Bq(q:Dq N f):∀ (m M:Nat) (a:Nd),N+2<=M->De M .exp a->Gv (De (M+m) .exp) (j' X f m a)
 |0,M,a,d,c=>br
 |m+1,M,a,d,c=>by
  unfold j';intro s b g h;simp only [] at h
  split at h
  ·exact(ao (Bp q) fun b e=>gE (Bq q m (M+1) _ O (De.iM (rQ c e.up)))) _ _ _ h
  ·cases h;exact c.up
theorem Br(q:Dq N f)(l:Int)(b:Bool):Gv (De (N+2+n+2*n) .exp) (ie X f n l b):=by
 unfold ie app;exact ao (ao (Bp q) fun a c=>Bq q _ _ _ (aw _) c) fun a c=>qX (fun M _ _ _ h g=>De.iM (N:=M+1) (rQ (De.iM (N:=M) bu) (De.iM (rQ h g)))) q.fB _ _ _ _ O c
theorem tK(q:Dq N f):∀ (m M:Nat) (x:Nd),N<=M->De M .exp x->Gv (De (M+m) .exp) (gV X f m x)
 |0,M,x,b,a=>br
 |m+1,M,x,b,a=>by
  unfold gV;exact ae fun o=>av (fun _=>ao q.ty fun t c=>gE (tK q m (M+1) _ O (De.iM (hY a) bu bu (hY c.up)))) fun _=>ag a.up
theorem Dv(q:Dq N f):Gv (De (N+n) .exp) (iz X f n):=by
 unfold iz;exact ao (q.fB _ _) fun e a=>tK q _ _ _ (aw _) a
theorem Dx(q:Dq N f)(w:ak):Gv (De (N+1) .exp) (h_ X f w):=by
 unfold h_;exact av (fun _=>ao q.exp fun a d=>ae fun _=>ao q.exp fun b e=>ae fun _=>ao q.exp fun c h=>ag (De.iM (N4 d e h))) fun _=>av (fun _=>ao q.exp fun a d=>ae fun _=>ao q.exp fun b e=>ag (De.iM (rQ d e))) fun _=>av (fun _=>ao q.exp fun a d=>ae fun _=>ao q.iq fun r g=>ag (De.iM (hY d) g)) fun _=>ao q.iq fun r g=>ag (De.iM bu g)
theorem yi(q:Dq N f):Gv (De (N+1) .exp) (ahead X f):=by
 unfold ahead;intro s a c e;exact(av (fun _=>ao q.exp fun a b=>ag (De.iM (hY b))) fun _=>gE (q.hd _)) _ _ _ e
theorem yj(q:Dq N f){e:ak}{d:Int}{one c:PM Nd}(k:Gv (De M .exp) one)(j:Gv (De N .exp) c)(l:N+1<=M:=by omega):Gv (De (M+1) .exp) (j3 X f e d one c):=by
 unfold j3;exact ao k fun a g=>ae fun o=>av (fun _=>ae fun h=>av (fun _=>ao (yi q) fun b i=>ag (De.iM (rQ g i.up))) fun _=>ao j fun b i=>ag (De.iM (rQ g i.up))) fun _=>ag g.up
theorem tL(q:Dq N f):∀ (m M:Nat) (x:Nd),N<=M->De M .exp x->Gv (De (M+m) .exp) (gH X f m x)
 |0,M,x,b,a=>br
 |m+1,M,x,b,a=>by
  unfold gH;exact ae fun o=>av (fun _=>ao q.iq fun t c=>gE (tL q m (M+1) _ O (De.iM (hY a) (pP c)))) fun _=>ag a.up
theorem I3(q:Dq N f):Gv (De (N+n+1) .exp) (mM X f n):=by
 unfold mM;exact ae fun o=>av (fun _=>gE (yi q)) fun _=>ao q.either fun e a=>gE (tL q _ _ _ (aw _) a)
theorem I4(q:Dq N f):Gv (De (N+1) .o3) (nD X f):=by
 unfold nD;exact ae fun _=>ae fun a=>ao (zA q) fun t b=>ag (De.N6 b)
theorem yk(q:Dq N f):Gv (De (N+2) .data) (jA X f n):=by
 unfold jA;exact ae fun v=>ae fun a=>ae fun _=>ao (kt (I4 q)) fun l b=>ag (De.v_ b)
theorem pQ(q:Dq N f):∀ (m:Nat) (l:List Nd),gh (N+1) .pat l->Gv (gh (N+1) .pat) (cg X f n m l)
 |0,l,a=>br
 |m+1,l,a=>by
  unfold cg;intro s b d h;simp only [] at h
  split at h
  ·exact(ao (sL q) fun b c=>pQ q m _ (tH a c)) _ _ _ h
  ·cases h;exact a
theorem Bt(q:Dq N f)(k:ak×Int):Gv (fun r=>De (N+2) .clause r.1) (iK X f n k):=by
 unfold iK;refine ae fun _=>ae fun s=>av (fun _=>jQ) fun _=>ae fun a=>ao (pQ q _ _ bu) fun l d=>av (fun _=>jQ) fun _=>ae fun o=>ao (Q:=gh N .ty) (av (fun _=>ao q.ty fun t b=>ag (hY b)) fun _=>ag bu) fun t b=>ae fun _=>ao q.exp fun e c=>ag (De.I5 d ?_)
 split
 ·exact De.iM (hY c) bu bu b
 ·exact c.up
theorem I6(q:Dq N f):Gv (De (N+3) .fn) (lH X f n):=by
 unfold lH;exact ao (v8 (Bt q) _) fun r a=>ag (De.OJ a)
theorem rU{a:Int}{name:ak}{d:Nd}{t:List Nd}(b:De N .data d)(e:gh N .ty t):De (N+1) .spec (fl a name d t):=by
 have:∃ v s c,d=[.sl v,.v (.string s),.sl c]:=by
  obtain⟨⟨m,h⟩,-⟩:=b;cases N with
  |zero=>cases h
  |succ n=>
   unfold dep at h;simp only [] at h
   split at h
   ·exact⟨_,_,_,rfl⟩
   ·cases h
 obtain⟨v,s,c,rfl⟩:=this;exact De.MR b e
theorem k5(q:Dq N f):∀ (m:Nat) (l:List Nd),gh (N+3) .spec l->Gv (gh (N+3) .spec) (gq X f n m l)
 |0,l,b=>br
 |m+1,l,b=>by
  unfold gq;exact ae fun _=>av (fun _=>ag b) fun _=>ae fun _=>av (fun _=>k5 q m l b) fun _=>ae fun _=>av (fun _=>ae fun a=>ae fun _=>ao q.ty fun t c=>k5 q m _ (tH b (rU (De.v_ (N:=N) bu) (hY c.up)))) fun _=>ae fun _=>av (fun _=>ae fun h=>ae fun a=>ae fun g=>ao (Q:=gh N .ty) (av (fun _=>ao q.ty fun t c=>ag (hY c)) fun _=>ag bu) fun t c=>k5 q m _ (tH b (rU (De.v_ (N:=N) bu) (pP c)))) fun _=>ae fun _=>av (fun _=>ao (yk q) fun d e=>k5 q m _ (tH b (rU e bu))) fun _=>ae fun _=>av (fun _=>ae fun a=>ao (zA q) fun t c=>k5 q m _ (tH b (rU (De.v_ (N:=N) bu) (pP c)))) fun _=>jQ
theorem v'(q:Dq N f):Gv (De (N+5) .dec) (gm X f n):=by
 unfold gm;exact ae fun a=>ae fun h=>ae fun o=>ae fun o=>ao (Q:=gh (N+4) .sig) (av (fun _=>ae fun s=>av (fun _=>ao (k5 q _ _ bu) fun l e=>ag (hY (De.L9 e))) fun _=>ae fun b=>ag (hY (De.L9 (N:=N) bu))) fun _=>ag bu) fun k c=>ae fun _=>ae fun m=>av (fun _=>ae fun i=>ao (q.dr _) fun j d=>ae fun g=>ae fun _=>ae fun _=>ag (De.qB (N:=N+4) bu bu bu bu bu (pP d) c bu)) fun _=>ae fun b=>ag (De.qB bu bu bu bu bu bu c bu)
theorem I7(q:Dq N f)(w:ak):Gv (De (N+2) .dec) (l0 X f n w):=by
 unfold l0;exact av (fun _=>ao (kt q.data) fun l b=>ag (De.qB bu bu bu b bu bu bu bu)) fun _=>av (fun _=>ae fun v=>ae fun a=>ae fun _=>ao q.ty fun t c=>ag (De.qB (N:=N+1) bu bu bu (hY (De.v_ (N:=N) bu)) (hY c.up) bu bu bu)) fun _=>av (fun _=>ae fun a=>ao (zA q) fun t c=>ag (De.qB bu bu bu bu c bu bu bu)) fun _=>av (fun _=>gE q.kS) fun _=>av (fun _=>ae fun a=>ae fun _=>ae fun _=>ao q.specs fun l b=>ag (De.qB bu bu bu bu bu bu bu b)) fun _=>ae fun l=>ae fun _=>ag (De.qB (N:=N) bu bu bu bu bu bu bu bu)
theorem I8(q:Dq N f)(w:ak):Gv (De (N+4) .dec) (kR X f n w):=by
 unfold kR;exact av (fun _=>ao q.pat fun p c=>ae fun _=>ao q.exp fun e a=>ag (De.qB (hY c) (hY a) bu bu bu bu bu bu)) fun _=>av (fun _=>ao (kt (I6 q)) fun l b=>ag (De.qB bu bu b bu bu bu bu bu)) fun _=>av (fun _=>ae fun d=>ae fun l=>ae fun _=>ag (De.qB (N:=N) bu bu bu bu bu bu bu bu)) fun _=>gE (q.oD w)
theorem yl(q:Dq N f)(c:Bool):∀ (m:Nat) (l:List Nd),gh (N+4) .dec l->Gv (gh (N+4) .dec) (eR X f n c m l)
 |0,l,e=>br
 |m+1,l,e=>by
  unfold eR;exact ae fun _=>ae fun a=>ae fun b=>av (fun _=>ag e) fun _=>ae fun t=>ae fun _=>ao (I8 q _) fun d g=>yl q c m _ (tH e g)
end
theorem zB{N:Nat}{k:Kd}{σ:Type}{x:PM (Nd×σ)}(h:Gv (fun r=>De N k r.1) x)(b:N<=M:=by omega):Gv (fun r=>De M k r.1) x:=fun s a c e=>(h s a c e).up b
theorem Dq.deep{X:Tx}{f:Fs}{n N:Nat}(q:Dq N f)(g:N+3*n+7<=M):Dq M (k' X f n):=
 ⟨gE (KV q),gE (I1 q),gE (I3 q),fun b=>ux (yl q b _ _ bu),fun l b=>gE (Bo q l b),fun l b=>gE (Br q l b),gE (yj q (M:=N+1) (gE q.both) q.either),gE (yj q (M:=N+n+1) (gE (Dv q)) q.both),fun a=>zB (sK q.ty a),fun a=>zB (sK q.pat a),fun a=>zB (sK q.exp a),ux (kt (Gl q)),gE (yk q),gE (v' q),ux (k5 q _ _ bu),fun w=>gE (Dx q w),fun w=>gE (Gn q w),fun w=>gE (Dr q w),fun K e h c=>Dt q K e O c,fun K e h c=>Du q K e O c,fun K l d=>ag (De.oh d),fun w=>gE (I7 q w),fun w=>gE (Gk q w)⟩
theorem Dq.all(X:Tx)(K:Nat):∀ n,n<=K->Dq (n*(3*K+7)) (iZ X n)
 |0,_=>⟨br,br,br,fun _=>br,fun _ _=>br,fun _ _=>br,br,br,fun _=>br,fun _=>br,fun _=>br,br,br,br,br,fun _=>br,fun _=>br,fun _=>br,fun _ _ _ _=>br,fun _ _ _ _=>br,fun _ _ _=>br,fun _=>br,fun _=>br⟩
 |n+1,h=>(Dq.all X K n O).deep (by rw[jd n (3*K+7)];omega)
end
section
open Go
class Er{α:Type}(x:PM α):Prop where
 er:∀ s c q,x s=some (.error (c,q))->c≠0
section
variable {α β σ:Type} {X:Tx}
instance:Er (PM.none:PM α):=⟨fun s c q h=>by cases h⟩
instance {a:α}:Er (pure a:PM α):=⟨fun s c q h=>by cases (show some (Except.ok (a,s))=some (.error (c,q)) from h)⟩
instance:Er (eo X:PM α):=⟨fun s c q h=>by
 unfold eo at h;simp only [Option.some.injEq,Except.error.injEq] at h
 split at h<;>(cases h;decide)⟩
instance Bu{x:PM β}{f:β->PM α}[i:Er x][g:∀ b,Er (f b)]:Er (x>>=f):=⟨fun s c q h=>by
 have h:PM.bind x f s=some (.error (c,q)):=h;unfold PM.bind at h
 rcases d:x s with _|e|⟨a,j⟩
 ·rw[d] at h;cases h
 ·rw[d] at h;cases h;exact i.er _ _ _ d
 ·rw[d] at h;exact(g a).er _ _ _ h⟩
instance KW{c:Prop}[Decidable c]{x y:PM α}[a:Er x][b:Er y]:Er (if c then x else y):=by
 by_cases h:c
 ·rw[if_pos h];exact a
 ·rw[if_neg h];exact b
theorem MS{F:al->PM α}{g:al->al}(h:∀ s,Er (F s)):Er (fun s=>F s (g s)):=⟨fun s c q e=>(h s).er _ _ _ e⟩
theorem b_{x:PM α}(h:Er x:=by repeat' (first|infer_instance|refine@Bu _ _ _ _ ?_ fun _=>?_|refine@KW _ _ _ _ _ ?_ ?_|split)):Er x:=h
instance:Er (next X):=⟨fun s c q h=>by cases h⟩
instance:Er step1:=⟨fun s c q h=>by cases h⟩
instance {l:List ak}:Er (iE X l):=⟨fun s c q h=>by cases h⟩
instance {b:Bool}:Er (p5 X b):=⟨fun s c q h=>by cases h⟩
instance:Er PM.get:=⟨fun s c q h=>by cases h⟩
instance {t:al}:Er (PM.set t):=⟨fun s c q h=>by cases h⟩
instance {l:List ak}{v:Int}{r:Bool}:Er (jh l v r):=⟨fun s c q h=>by cases h⟩
instance {w:ak}:Er (a7 X w):=⟨fun s c q h=>by unfold a7 at h;split at h<;>cases h⟩
theorem zC{c:al->Prop}[∀ s,Decidable (c s)]{g:al->α×al}{y:PM α}[d:Er y]:Er (fun s=>if c s then some (.ok (g s)) else y s):=⟨fun s a q h=>by
 by_cases b:c s
 ·cases (if_pos b).symm.trans h
 ·exact d.er _ _ _ ((if_neg b).symm.trans h)⟩
instance {b:Bool}:Er (name X b):=zC (g:=fun s=>((V X s).text,{s with i:=s.i+1}))
instance:Er (hv X):=zC (g:=fun s=>((V X s).text,{s with i:=s.i+1}))
instance:Er (gR X):=zC (g:=fun s=>((V X s).text,{s with i:=s.i+1}))
instance:Er (label X):=zC (g:=fun s=>((V X s).text,{s with i:=s.i+1}))
instance:Er (ga X):=⟨fun s c q h=>by
 unfold ga at h;simp only [] at h
 split at h
 ·split at h
  ·cases h
  ·exact(inferInstance:Er (eo X:PM Int)).er _ _ _ h
 ·cases h⟩
instance {w:ak}:Er (a8 X w):=by unfold a8;exact b_
instance {b:ak}{one:σ->PM (Nd×σ)}[h:∀ x,Er (one x)]{n:Nat}{a:List Nd}{x:σ}:Er (gy X b one n a x):=by
 induction n generalizing a x<;>(unfold gy;exact b_)
instance {n:Nat}{a:ak}{one:σ->PM (Nd×σ)}[h:∀ x,Er (one x)]{x:σ}:Er (list X n a one x):=by unfold list;exact b_
instance {n:Nat}{a:ak}{one:σ->PM (Nd×σ)}[h:∀ x,Er (one x)]{x:σ}:Er (hF X n a one x):=by unfold hF;exact b_
instance {one:PM Nd}[h:Er one]{u:Unit}:Er (lone one u):=by unfold lone;exact b_
instance {n:Nat}{a:ak}{one:PM Nd}[h:Er one]:Er (df X n a one):=by unfold df;exact b_
instance {n:Nat}{a:ak}{one:PM Nd}[h:Er one]:Er (gd X n a one):=by unfold gd;exact b_
instance {n:Nat}{l:List ak}:Er (hQ X n l):=by induction n generalizing l<;>(unfold hQ;exact b_)
instance {n:Nat}:Er (names X n):=by unfold names;exact b_
instance {n:Nat}:Er (vars X n):=by unfold vars;exact b_
end
class EF(f:Fs):Prop where
 ty:Er f.ty
 pat:Er f.pat
 exp:Er f.exp
 dr:∀ b,Er (f.dr b)
 e8:∀ l b,Er (f.e8 l b)
 fB:∀ l b,Er (f.fB l b)
 either:Er f.either
 both:Er f.both
 jU:∀ l,Er (f.jU l)
 prec:∀ l,Er (f.prec l)
 kk:∀ l,Er (f.kk l)
 iq:Er f.iq
 data:Er f.data
 kS:Er f.kS
 specs:Er f.specs
 vars:Er f.vars
 hd:∀ w,Er (f.hd w)
 mF:∀ w,Er (f.mF w)
 l7:∀ w,Er (f.l7 w)
 lS:∀ e,Er (f.lS e)
 lC:∀ e,Er (f.lC e)
 lU:∀ l,Er (f.lU l)
 jK:Er f.jK
 oD:∀ w,Er (f.oD w)
 mG:∀ w,Er (f.mG w)
attribute [instance] EF.ty EF.pat EF.exp EF.dr EF.e8 EF.fB EF.either EF.both EF.jU EF.prec EF.kk EF.iq EF.data EF.kS EF.specs EF.vars EF.hd EF.mF EF.l7 EF.lS EF.lC EF.lU EF.jK EF.oD EF.mG
section
variable {X:Tx} {f:Fs} {n:Nat} [h:EF f]
instance {m:Nat}{l:List Nd}:Er (ek X m l):=by induction m generalizing l<;>(unfold ek;exact b_)
instance:Er (fe X f n):=by unfold fe;exact b_
instance {m:Nat}{l:List Nd}:Er (ik X f n m l):=by induction m generalizing l<;>(unfold ik;exact b_)
instance:Er (qh X f n):=by unfold qh;exact b_
instance:Er (qf X f):=by unfold qf;exact b_
instance {l:List ak}:Er (jz X f l):=by unfold jz;exact b_
instance {l:List ak}:Er (iI X f l):=by unfold iI;exact b_
instance {l:List ak}:Er (iJ X f l):=by unfold iJ;exact b_
instance {w:ak}:Er (h' X f n w):=by unfold h';exact b_
theorem zD{α:Type}{c:al->Prop}[∀ s,Decidable (c s)]{F G:al->PM α}{g:al->al}(d:∀ s,Er (F s))(f:∀ s,Er (G s)):Er (fun s=>if c s then F s (g s) else G s s):=⟨fun s a q e=>by
 by_cases b:c s
 ·exact(d s).er _ _ _ ((if_pos b).symm.trans e)
 ·exact(f s).er _ _ _ ((if_neg b).symm.trans e)⟩
theorem I9{α β:Type}{x:al->PM β}{f:al->β->PM α}(c:∀ s,Er (x s))(b:∀ s a,Er (f s a)):Er (fun s=>(x s>>=f s) s):=⟨fun s a q e=>(@Bu _ _ _ _ (c s) (b s)).er _ _ _ e⟩
instance:Er (fp X f n):=by
 unfold fp;exact zD (G:=fun _=>eo X) (fun s=>b_) fun s=>inferInstance
instance:Er (jg X f n):=by
 unfold jg;exact I9 (fun s=>inferInstance) fun s a=>b_
instance {m:Nat}{x:Nd}:Er (fq X f m x):=by induction m generalizing x<;>(unfold fq;exact b_)
instance {w:ak}:Er (jY f w):=by unfold jY;exact b_
instance:Er (nC X f n):=by
 unfold nC;exact I9 (fun s=>b_) fun s a=>b_
instance {e:Int}{g j:Bool}{d:Int->Bool->PM Nd}{i:ak->Nd->Nd->Nd}[k:∀ l b,Er (d l b)]{m:Nat}{a:Nd}{f:Int×Bool}:Er (fg X e g j d i m a f):=by
 induction m generalizing a f with
 |zero=>unfold fg;infer_instance
 |succ m n=>
  unfold fg;refine⟨fun s c q h=>?_⟩;simp only [] at h
  split at h
  ·cases h
  ·split at h
   ·cases h
   ·split at h
    ·cases h
    ·split at h
     ·cases h
     ·split at h
      ·cases h;decide
      ·exact(b_:Er (step1>>=fun _=>d _ _>>=fun b=>fg X e g j d i m (i _ a b) _)).er _ _ _ h
instance {l:Int}{b:Bool}:Er (ic X f n l b):=by unfold ic;exact b_
instance:Er (nN X f):=by unfold nN;exact b_
instance:Er (kd X f n):=by unfold kd;exact b_
instance:Er (paren X f):=by unfold paren;exact b_
instance {e:Nd}:Er (iw X f n e):=by unfold iw;exact b_
instance {e:Nd}:Er (ix X f n e):=by unfold ix;exact b_
instance {w:ak}:Er (jo X f n w):=by unfold jo;exact b_
instance:Er (atom X f):=by
 unfold atom;exact zD (G:=fun _=>eo X) (fun s=>b_) fun s=>inferInstance
instance {m:Nat}{a:Nd}:Er (j' X f m a):=by
 induction m generalizing a with
 |zero=>unfold j';infer_instance
 |succ m b=>
  unfold j';exact zD (G:=fun _=>pure a) (g:=fun s=>s) (fun s=>b_) fun s=>inferInstance
instance:Er (app X f n):=by unfold app;exact b_
instance {l:Int}{b:Bool}:Er (ie X f n l b):=by unfold ie;exact b_
instance {m:Nat}{x:Nd}:Er (gV X f m x):=by induction m generalizing x<;>(unfold gV;exact b_)
instance:Er (iz X f n):=by unfold iz;exact b_
instance {w:ak}:Er (h_ X f w):=by unfold h_;exact b_
instance:Er (ahead X f):=by
 unfold ahead;exact MS fun s=>b_
instance {c:ak}{b:Int}{one a:PM Nd}[e:Er one][d:Er a]:Er (j3 X f c b one a):=by unfold j3;exact b_
instance {m:Nat}{x:Nd}:Er (gH X f m x):=by induction m generalizing x<;>(unfold gH;exact b_)
instance:Er (mM X f n):=by unfold mM;exact b_
instance:Er (nD X f):=by unfold nD;exact b_
instance:Er (jA X f n):=by unfold jA;exact b_
instance {m:Nat}{l:List Nd}:Er (cg X f n m l):=by
 induction m generalizing l with
 |zero=>unfold cg;infer_instance
 |succ m a=>
  unfold cg;exact zD (G:=fun _=>pure l) (g:=fun s=>s) (fun s=>b_) fun s=>inferInstance
instance {k:ak×Int}:Er (iK X f n k):=by unfold iK;exact b_
instance:Er (lH X f n):=by unfold lH;exact b_
instance {m:Nat}{l:List Nd}:Er (gq X f n m l):=by induction m generalizing l<;>(unfold gq;exact b_)
instance:Er (gm X f n):=by unfold gm jN;exact b_
instance {w:ak}:Er (l0 X f n w):=by unfold l0;exact b_
instance {w:ak}:Er (kR X f n w):=by unfold kR;exact b_
instance {m:Nat}:Er (fz X m):=by induction m<;>(unfold fz;exact b_)
instance {a:Bool}{m:Nat}{l:List Nd}:Er (eR X f n a m l):=by induction m generalizing l<;>(unfold eR;exact b_)
instance:EF (k' X f n):=⟨inferInstanceAs (Er (qh X f n)),inferInstanceAs (Er (nC X f n)),inferInstanceAs (Er (mM X f n)),fun b=>inferInstanceAs (Er (eR X f n b n [])),fun l b=>inferInstanceAs (Er (ic X f n l b)),fun l b=>inferInstanceAs (Er (ie X f n l b)),inferInstanceAs (Er (j3 X f _ _ f.both f.either)),inferInstanceAs (Er (j3 X f _ _ (iz X f n) f.both)),fun l=>inferInstanceAs (Er (jz X f l)),fun l=>inferInstanceAs (Er (iI X f l)),fun l=>inferInstanceAs (Er (iJ X f l)),inferInstanceAs (Er (kd X f n)),inferInstanceAs (Er (jA X f n)),inferInstanceAs (Er (gm X f n)),inferInstanceAs (Er (gq X f n n [])),inferInstanceAs (Er (vars X n)),fun w=>inferInstanceAs (Er (h_ X f w)),fun w=>inferInstanceAs (Er (jo X f n w)),fun w=>inferInstanceAs (Er (h' X f n w)),fun e=>inferInstanceAs (Er (iw X f n e)),fun e=>inferInstanceAs (Er (ix X f n e)),fun l=>inferInstanceAs (Er (pure (AJ l))),inferInstanceAs (Er (names X n)),fun w=>inferInstanceAs (Er (l0 X f n w)),fun w=>inferInstanceAs (Er (jY f w))⟩
end
theorem EV(X:Tx):∀ n,EF (iZ X n)
 |0=>by constructor<;>(intros;exact inferInstanceAs (Er PM.none))
 |n+1=>have:=EV X n;inferInstanceAs (EF (k' X (iZ X n) n))
theorem Gp{X:Tx}{n c q:Nat}(h:gP X (iZ X n)=some (.error (c,q))):c≠0:=by
 have:=EV X n;have b:Er (nt X (iZ X n)):=by unfold nt;exact b_
 unfold gP at h
 rcases a:nt X (iZ X n) ⟨0,ez⟩ with _|e|⟨l,t⟩
 ·rw[a] at h;cases h
 ·rw[a] at h;cases h;exact b.er _ _ _ a
 ·rw[a] at h;cases h
end
end Go.Proofs.YtkblonfmjlopaaaGreatDoor
