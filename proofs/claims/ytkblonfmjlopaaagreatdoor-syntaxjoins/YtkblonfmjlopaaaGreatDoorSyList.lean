/-
  The parser's words, read: next, wrong.
-/
import Derived.Test.YtkblonfmjlopaaaGreatDoorSyTy
import Derived.StillTailTactics
set_option linter.all false
set_option maxRecDepth 1000000
set_option maxHeartbeats 16000000
namespace Go.Proofs.YtkblonfmjlopaaaGreatDoor
open Go Go.RowKit
variable {t:Tok}
theorem iR.at{w:World}{la:Option Addr}{lc:Nat}{ts:List Tok}(h:iR w la ts.length lc ts){i:Nat}(g:ts[i]?=some t):∃ x b f a e c,la=some ⟨x,b,none⟩/\(w.cell? ⟨x,b+i*7,none⟩=some (.int .i64 (t.kind:Nat))/\w.cell? ⟨x,b+i*7+1,none⟩=some (.string ⟨t.text.toArray⟩)/\w.cell? ⟨x,b+i*7+2,none⟩=some (.bool f)/\w.cell? ⟨x,b+i*7+3,none⟩=some (.slice a e c)/\w.cell? ⟨x,b+i*7+4,none⟩=some (.int .u64 (t.bits:Nat))/\w.cell? ⟨x,b+i*7+5,none⟩=some (.int .i64 (t.n:Nat))/\w.cell? ⟨x,b+i*7+6,none⟩=some (.int .i64 (t.pos:Nat)))/\Mg w f a e c t.num:=by
 obtain⟨u,A,_,_,s⟩:=h;have v:=(List.getElem?_eq_some_iff.1 g).1;have j:=A.le;obtain⟨x,b,rfl,d⟩:=A.addr O;obtain⟨f,a,e,c,k,l,n,o,p,q,r,m⟩:=s i t g;refine⟨x,b,f,a,e,c,rfl,⟨?_,?_,?_,?_,?_,?_,?_⟩,m⟩
 ·exact(d (i*7) O).trans (congrArg some k)
 ·rw[e9];exact(d (i*7+1) O).trans (congrArg some l)
 ·rw[e9];exact(d (i*7+2) O).trans (congrArg some n)
 ·rw[e9];exact(d (i*7+3) O).trans (congrArg some o)
 ·rw[e9];exact(d (i*7+4) O).trans (congrArg some p)
 ·rw[e9];exact(d (i*7+5) O).trans (congrArg some q)
 ·rw[e9];exact(d (i*7+6) O).trans (congrArg some r)
section
variable {G:Gh} {M:Nat->Prop} {u:Option Addr} {l:Nat} {f:Option Addr} {d:Nat} {w w':World} {s:al}
theorem PS.tok(C:ei G)(h:PS G M u l f d w s){j:Nat}(D:G.X.ts[j]?=some t):∃ x b g a n c,G.la=some ⟨x,b,none⟩/\x<G.B/\
 (w.cell? ⟨x,b+j*7,none⟩=some (.int .i64 (t.kind:Nat))/\w.cell? ⟨x,b+j*7+1,none⟩=some (.string ⟨t.text.toArray⟩)/\w.cell? ⟨x,b+j*7+2,none⟩=some (.bool g)/\w.cell? ⟨x,b+j*7+3,none⟩=some (.slice a n c)/\w.cell? ⟨x,b+j*7+4,none⟩=some (.int .u64 (t.bits:Nat))/\w.cell? ⟨x,b+j*7+5,none⟩=some (.int .i64 (t.n:Nat))/\w.cell? ⟨x,b+j*7+6,none⟩=some (.int .i64 (t.pos:Nat)))/\Mg G.w0 g a n c t.num:=by
 obtain⟨x,b,g,a,n,c,e,⟨i,r,v,y,z,A,B⟩,m⟩:=C.tk.at D;have q:x<G.B:=kU G.w0 _ i;have k:∀ o,w.cell? ⟨x,o,none⟩=G.w0.cell? ⟨x,o,none⟩:=fun o=>h.low.cell (p:=⟨x,o,none⟩) q;exact⟨x,b,g,a,n,c,e,q,⟨(k _).trans i,(k _).trans r,(k _).trans v,(k _).trans y,(k _).trans z,(k _).trans A,(k _).trans B⟩,m⟩
theorem ko{X:Tx}{s:al}(h:X.ts[s.i]?=some t):V X s=t:=by unfold V;rw[h];rfl
theorem Dj{X:Tx}{s:al}(h:¬s.i<X.ts.length):V X s=tA:=by unfold V;rw[j4 O];rfl
end
theorem OI(w:World):Mg w false none 0 0 0:=⟨fun _=>0,Us.nil _ _,hU _,.inl rfl,fun _=>rfl,rfl⟩
def ET(t:Tok)(sg:Bool)(am:Option Addr)(nm cm:Nat):Value:=.agg #[.int .i64 (t.kind:Nat),.string ⟨t.text.toArray⟩,.bool sg,.slice am nm cm,.int .u64 (t.bits:Nat),.int .i64 (t.n:Nat),.int .i64 (t.pos:Nat)]
theorem eh{G:Gh}{M:Nat->Prop}{u:Option Addr}{l:Nat}{f:Option Addr}{d:Nat}{w:World}{s:al}(p:ei G)(h:PS G M u l f d w s):
 Calls Tryz.prog 63 #[.pointer (some ⟨G.bp,0,none⟩)] w fun e w'=>∃ g k r o,e=.returned (.agg #[.int .i64 ((V G.X s).kind:Nat),.string ⟨(V G.X s).text.toArray⟩,.bool g,.slice k r o,.int .u64 ((V G.X s).bits:Nat),.int .i64 ((V G.X s).n:Nat),.int .i64 ((V G.X s).pos:Nat)])/\Mg G.w0 g k r o (V G.X s).num/\Below w.heap.size w w':=by
 have c0:=h.c0;have c1:=h.c1;have z:G.bp<w.heap.size:=h.lt;have A:¬G.bp=w.heap.size:=O
 have Q:=p.k0
 by_cases q:s.i<G.X.ts.length
 ·obtain⟨t,j⟩:∃ t,G.X.ts[s.i]?=some t:=⟨_,fv q⟩;have b:=U (ko j);obtain⟨x,D,g,a,n,c,e,R,⟨E,F,H,I,J,L,N⟩,m⟩:=h.tok p j;have y:=U m;have P:=h.bB;have i:(s.i:Int)<(G.X.ts.length:Int):=O
  rw[e] at c0;have B:x<w.heap.size:=O
  have C:¬x=w.heap.size:=O
  clear j m e h;go_enter Tryz.func63,Tryz.ntmps63
  go_wp2_with fail
  go_quiet (fail)
  go_wp2_with fail
  go_region
  go_wp2_with fail
  refine bodyPost_ret (v:=ET t g a n c) ?_ rfl ?_
  ·simp[results,Tryz.results63,go_sem,ET]
  refine⟨g,a,n,c,?_,?_,?_⟩
  ·rw[b.out];rfl
  ·rw[b.out];exact y.out
  ·repeat (with_reducible first|refine nw ?_ (aw _)|refine uM ?_|refine Below.drewN ?_ _|refine x_ ?_ (aw _)|exact eA _ _)
 ·have b:=U (Dj q);have i:¬(s.i:Int)<(G.X.ts.length:Int):=O
  clear h;go_enter Tryz.func63,Tryz.ntmps63
  go_wp2_with fail
  go_quiet (fail)
  go_wp2_with fail
  refine bodyPost_ret (v:=ET tA false none 0 0) (by simp[results,Tryz.results63,go_sem,ET,tA]) rfl ⟨false,none,0,0,?_,?_,?_⟩
  ·rw[b.out];rfl
  ·rw[b.out];exact OI _
  ·repeat (with_reducible first|refine nw ?_ (aw _)|refine uM ?_|refine Below.drewN ?_ _|refine x_ ?_ (aw _)|exact eA _ _)
theorem iU(w:World)(a b c d e f g:Value):(Instr.field 75 (.agg #[a,b,c,d,e,f,g]) 0).run Tryz.prog w=.ok a w:=aq
theorem tF(w:World)(b a c d e f g:Value):(Instr.field 75 (.agg #[b,a,c,d,e,f,g]) 1).run Tryz.prog w=.ok a w:=aq
theorem uf(a:List ByteArray)(l:List UInt8):Lib.containsS a ⟨l.toArray⟩=(a.map fun z=>z.data.toList).contains l:=by
 rw[yN,Lib.containsS_iff,List.contains_iff_mem,List.mem_map]
 constructor
 ·intro h;exact⟨_,h,rfl⟩
 ·rintro⟨z,b,e⟩
  have:z=⟨l.toArray⟩:=by
   cases z with
   |mk d=>simp only at e;rw[<-e]
  rw[<-this];exact b
def l5(w:World)(b:Nat)(zs:List ByteArray):Prop:=b<w.heap.size/\∀ j,j<zs.length->w.cell? ⟨b,0+j,none⟩=some (.string (zs.getD j ByteArray.empty))
theorem l5.made(w:World)(b:List ByteArray)(a:Array Value)(T:TypeId)(h:a=(b.map Value.string).toArray):l5 (w.alloc (.cells a T)) w.heap.size b:=by
 refine⟨ar,fun j c=>?_⟩;rw[gW,jl,h,List.getElem?_toArray,qo,xc,fv c]
 rfl
theorem l5.vP(w:World)(b:Nat)(c:List ByteArray)(a:Array Value)(T:TypeId)(d:b=w.heap.size)(h:a=(c.map Value.string).toArray):l5 (w.alloc (.cells a T)) b c:=by subst d;exact l5.made w c a T h
theorem l5.below{w w':World}{b:Nat}{c:List ByteArray}(h:l5 w b c)(a:Below w.heap.size w w'):l5 w' b c:=
 ⟨lQ h.1 a.size,fun j d=>(a.cell (p:=⟨b,0+j,none⟩) h.1).trans (h.2 j d)⟩
theorem k4{G:Gh}{M:Nat->Prop}{u:Option Addr}{l:Nat}{f:Option Addr}{d:Nat}{w:World}{s:al}(p:ei G)(h:PS G M u l f d w s)(b n:Nat)(a:List ByteArray)(r:a.length=n)(y:n<=100)(q:l5 w b a):
 Calls Tryz.prog 22 #[.pointer (some ⟨G.bp,0,none⟩),.slice (some ⟨b,0,none⟩) n n] w fun e w'=>e=.returned (.bool (ay G.X (a.map fun z=>z.data.toList) s))/\Below w.heap.size w w':=by
 have o:=U r;clear r;have t:=U q;clear q
 by_cases i:(V G.X s).kind=8
 ·have j:Hid (ay G.X (a.map fun z=>z.data.toList) s=(a.map fun z=>z.data.toList).contains (V G.X s).text):=U (by unfold ay;rw[i];simp);have k:(((V G.X s).kind:Int)==8)=true:=by rw[i];rfl
  clear i;go_enter Tryz.func22,Tryz.ntmps22
  go_wp2_with (first
   |(go_at_call 63;refine(eh p h).mono ?_;rintro e C ⟨B,v,A,x,rfl,m,g⟩;have c:=U g;clear g m)
   |(go_at_call 64;refine(Tryz.slices_Contains_string b 0 n n a _ _ (o8 o.symm) O ((t.below c).below (ab _ _)).2).mono ?_;rintro e D ⟨rfl,rfl⟩))
  go_ret;refine⟨?_,?_⟩
  ·rw[j.out,<-uf,<-o.out,Ej];rfl
  ·exact c.alloc c.size _
 ·have j:Hid (ay G.X (a.map fun z=>z.data.toList) s=false):=U (by unfold ay;simp[i]);have k:(((V G.X s).kind:Int)==8)=false:=b1
  clear i;go_enter Tryz.func22,Tryz.ntmps22
  go_wp2_with (go_at_call 63;refine(eh p h).mono ?_;rintro e C ⟨B,v,A,x,rfl,m,g⟩;have c:=U g;clear g m)
  go_ret;refine⟨by rw[j.out];rfl,?_⟩;exact c.alloc c.size _
section
open Go
section
variable {X:Tx} {α β:Type} {lo l1 l2:Nat} {s:al}
theorem dd(h:(V X s).kind≠0):s.i<X.ts.length:=by
 rcases gr s.i X.ts.length with c|c
 ·exact c
 ·exfalso;apply h;unfold V;rw[j4 c];rfl
theorem ee{l:List ak}(h:ay X l s=true):s.i<X.ts.length:=by
 unfold ay at h;simp only [Bool.and_eq_true,beq_iff_eq] at h;exact dd O
theorem rK(w:ak)(s:al):a7 X w s=some (.ok (true,{s with i:=s.i+1}))/\s.i<X.ts.length\/a7 X w s=some (.ok (false,s)):=by
 unfold a7
 split
 ·rename_i c;exact .inl ⟨rfl,ee c⟩
 ·exact .inr rfl
theorem p_{b:Bool}(h:dw X b s=true):s.i<X.ts.length:=by
 unfold dw at h;simp only [Bool.or_eq_true,Bool.and_eq_true,beq_iff_eq] at h
 rcases h with h|⟨_,h|h⟩
 ·exact dd O
 ·exact dd O
 ·exact ee h
end
end
end Go.Proofs.YtkblonfmjlopaaaGreatDoor
set_option linter.all false
namespace Go.Proofs.YtkblonfmjlopaaaGreatDoor
open Go
abbrev bq(z0:Gh):Array Value:=#[.pointer (some ⟨z0.bp,0,none⟩)]
abbrev lI(z0:Gh)(z1:al)(z2:Bool)(z3:Option Addr)(z4 z5:Nat):Array Value:=#[.int .i64 ((V z0.X z1).kind:Nat),.string ⟨(V z0.X z1).text.toArray⟩,.bool z2,.slice z3 z4 z5,.int .u64 ((V z0.X z1).bits:Nat),.int .i64 ((V z0.X z1).n:Nat),.int .i64 ((V z0.X z1).pos:Nat)]
abbrev KS(z0:Gh)(z1:al)(z2:Nat):List Value:=[.int .i64 8,.string ⟨(V z0.X z1).text.toArray⟩,.bool false,.slice none 0 0,.int .i64 0,.string ⟨#[]⟩,.slice none 0 0,.slice (some ⟨z2,0,none⟩) 1 1,.slice none 0 0]
abbrev vE(z0:Gh)(z1:List UInt8):Array Value:=#[.pointer (some ⟨z0.bp,0,none⟩),.string ⟨z1.toArray⟩]
abbrev AI(z0:Gh)(z1:Bool):Array Value:=#[.pointer (some ⟨z0.bp,0,none⟩),.bool z1]
end Go.Proofs.YtkblonfmjlopaaaGreatDoor
namespace Go.Proofs.YtkblonfmjlopaaaGreatDoor
open Go Go.RowKit
def gQ(X:Tx)(s:al):Nat×Nat:=match X.ts[s.i]? with|some t=>(40,t.pos)|none=>(31,X.en)
theorem kY{α:Type}(X:Tx)(s:al):(eo X:PM α) s=some (.error (gQ X s)):=rfl
section
variable {G:Gh} {M:Nat->Prop} {u:Option Addr} {l:Nat} {f:Option Addr} {d:Nat} {w:World} {s:al}
theorem xF{w:World}{b x a n c i p:Nat}(d:w.cell? ⟨b,0,none⟩=some (.slice (some ⟨x,a,none⟩) n c))(f:w.cell? ⟨b,1,none⟩=some (.int .i64 (i:Nat)))(g:w.cell? ⟨x,a+i*7+6,none⟩=some (.int .i64 (p:Nat)))(q:i<n)(r:n<=65536):
 Calls Tryz.prog 13 (t_ b) w fun e w'=>e=az 40 p/\Below w.heap.size w w':=by
 have m:(i:Int)<(n:Int):=O
 go_enter Tryz.func13,Tryz.ntmps13
 go_wp2_with fail
 go_quiet (fail)
 go_upto_region 1 with fail
 have j:(w.drewN nq).cell? ⟨b,0,none⟩=some (.slice (some ⟨x,a,none⟩) n c):=d;have k:(w.drewN nq).cell? ⟨b,1,none⟩=some (.int .i64 (i:Nat)):=f;have l:(w.drewN nq).cell? ⟨x,a+i*7+6,none⟩=some (.int .i64 (p:Nat)):=g;have h:Below w.heap.size w (w.drewN nq):=Below.drewN (eA _ _) _;generalize w.drewN nq=o at j k l h⊢;clear d f g
 go_still_tail 13,aq
 change wpList _ _ _ _ _ o.drew
 go_wp2_with fail
 exact⟨rfl,rfl,h.drew⟩
theorem mS(b:ei G)(h:PS G M u l f d w s):
 Calls Tryz.prog 13 (bq G) w fun e w'=>e=az (gQ G.X s).1 (gQ G.X s).2/\Below w.heap.size w w':=by
 have c0:=h.c0;have c1:=h.c1;have c2:=h.c2;have o:=b.k0
 by_cases g:s.i<G.X.ts.length
 ·obtain⟨t,i⟩:∃ t,G.X.ts[s.i]?=some t:=⟨_,fv g⟩;have q:gQ G.X s=(40,t.pos):=by unfold gQ;rw[i]
  obtain⟨x,r,E,a,n,c,e,D,⟨v,y,z,A,B,C,k⟩,m⟩:=h.tok b i;rw[e] at c0;rw[q];exact xF c0 c1 k g o
 ·have j:Hid (gQ G.X s=(31,G.X.en)):=U (by unfold gQ;rw[j4 O]);have p:¬(s.i:Int)<(G.X.ts.length:Int):=O
  clear h;go_enter Tryz.func13,Tryz.ntmps13
  go_wp2_with fail
  go_quiet (fail)
  go_wp2_with fail
  go_simp;refine⟨rfl,?_,Below.drewN (eA _ _) _⟩;rw[j.out];rfl
theorem kh(k:ei G)(h:PS G M u l f d w s)(a:List UInt8)(g:ay G.X [a] s=true):
 Calls Tryz.prog 21 (vE G a) w fun e w'=>e=.returned (.bool true)/\PS G M u l f d w' {s with i:=s.i+1}/\Kn G.B (Jp G) w w':=by
 have o:=ee g;have t:=k.k0;have n:=U g;have p:=h.lt;clear g;go_enter Tryz.func21,Tryz.ntmps21
 go_wp2_with (go_at_call 22;refine(k4 k (h.alloc _) w.heap.size 1 [⟨a.toArray⟩] rfl O (l5.made w [⟨a.toArray⟩] _ _ rfl)).mono ?_;rintro e v ⟨rfl,c⟩;rw[show ay G.X ([(⟨a.toArray⟩:ByteArray)].map fun z=>z.data.toList) s=true from n.out];have b:=(h.alloc (m' a)).new c;have m:=U ((ab w _).trans (c.mono ar));have q:=b.c1;have r:=b.fr 1;have j:=U b;clear c b)
 go_ret;exact⟨rfl,j.step (h5 _) o,(Kn.of m h.bB).step j rfl _⟩
theorem og(j:ei G)(h:PS G M u l f d w s)(a:List UInt8)(c:¬ay G.X [a] s=true):
 Calls Tryz.prog 21 (vE G a) w fun e w'=>e=.returned (.bool false)/\Below w.heap.size w w':=by
 have i:Hid (ay G.X [a] s=false):=U (by simpa using c);clear c;go_enter Tryz.func21,Tryz.ntmps21
 go_wp2_with (go_at_call 22;refine(k4 j (h.alloc _) w.heap.size 1 [⟨a.toArray⟩] rfl O (l5.made w [⟨a.toArray⟩] _ _ rfl)).mono ?_;rintro e k ⟨rfl,b⟩;rw[show ay G.X ([(⟨a.toArray⟩:ByteArray)].map fun z=>z.data.toList) s=false from i.out];have g:=U ((ab w _).trans (b.mono ar));clear b)
 go_ret;exact⟨rfl,g.out⟩
theorem vY(m:ei G)(h:PS G M u l f d w s)(a:List UInt8)(g:ay G.X [a] s=true):
 Calls Tryz.prog 66 (vE G a) w fun e w'=>e=.returned (.tuple #[])/\PS G M u l f d w' {s with i:=s.i+1}/\Kn G.B (Jp G) w w':=by
 have k:=U g;clear g;go_enter Tryz.func66,Tryz.ntmps66
 go_wp2_with (go_at_call 21;refine(kh m h a k).mono ?_;rintro e n ⟨rfl,c,b⟩;have j:=U (b4 c b);clear c b)
 go_end0;exact⟨rfl,j.out⟩
theorem yb(g:ei G)(h:PS G M u l f d w s)(a:List UInt8)(i:¬ay G.X [a] s=true):
 Calls Tryz.prog 66 (vE G a) w fun e w'=>e=az (gQ G.X s).1 (gQ G.X s).2/\Below w.heap.size w w':=by
 have j:=U i;clear i;go_enter Tryz.func66,Tryz.ntmps66
 go_wp2_with (go_at_call 21;refine(og g h a j).mono ?_;rintro e k ⟨rfl,b⟩;have c:=U b;clear b)
 refine(mS g (h.new c)).mono ?_;rintro e m ⟨rfl,b⟩;unfold az;go_simp;exact⟨rfl,rfl,c.trans (b.mono c.size)⟩
end
theorem mR(l:List UInt8):decide (0<=Lib.indexByte l 46)=oL l:=by
 unfold oL;rw[Lib.contains_iff_indexByte]
section
variable {G:Gh} {M:Nat->Prop} {u:Option Addr} {l:Nat} {f:Option Addr} {d:Nat} {w:World} {s:al}
theorem oP(o:ei G)(h:PS G M u l f d w s)(sym:Bool):
 Calls Tryz.prog 97 (AI G sym) w fun e w'=>e=.returned (.bool (dw G.X sym s))/\Below w.heap.size w w':=by
 have i:Hid (dw G.X sym s=((V G.X s).kind==1&&!oL (V G.X s).text||sym&&((V G.X s).kind==2||ay G.X [[61]] s))):=U rfl;generalize dw G.X sym s=r at i⊢;have L:Hid (V G.X s=V G.X s):=U rfl
 by_cases g:(V G.X s).kind=1
 ·have I:(((V G.X s).kind:Int)==1)=true:=by rw[g];rfl
  have F:(((V G.X s).kind:Int)==2)=false:=by rw[g];rfl
  have A:Hid (ay G.X [[61]] s=false):=U (by unfold ay;rw[g];rfl)
  rcases n:oL (V G.X s).text with _|_
  ·have c:r=true:=by rw[i.out,g,n];rfl
   have j:=U c;have t:=U ((mR _).trans n);clear c n g i;go_enter Tryz.func97,Tryz.ntmps97
   go_wp2_with (first
    |(go_at_call 63;refine(eh o h).mono ?_;rintro e q ⟨C,v,B,x,rfl,m,b⟩;have a:=U b;clear b m)
    |(go_at_call 94;refine(Tryz.strings_Contains_one _ 46 _).mono ?_;rintro e H ⟨rfl,rfl⟩;rw[t.out]))
   go_ret;refine⟨by rw[j.out];rfl,a.alloc a.size _⟩
  ·cases sym with
   |false=>
    have c:r=false:=by rw[i.out,g,n];rfl
    have j:=U c;have t:=U ((mR _).trans n);clear c n g i;go_enter Tryz.func97,Tryz.ntmps97
    go_wp2_with (first
     |(go_at_call 63;refine(eh o h).mono ?_;rintro e q ⟨C,v,B,x,rfl,m,b⟩;have a:=U b;clear b m)
     |(go_at_call 94;refine(Tryz.strings_Contains_one _ 46 _).mono ?_;rintro e H ⟨rfl,rfl⟩;rw[t.out]))
    go_ret;refine⟨by rw[j.out];rfl,a.alloc a.size _⟩
   |true=>
    have c:r=false:=by rw[i.out,g,n,A.out];rfl
    have j:=U c;have t:=U ((mR _).trans n);clear c n g i;go_enter Tryz.func97,Tryz.ntmps97
    go_wp2_with (first
     |(go_at_call 63;refine(eh o h).mono ?_;rintro e q ⟨C,v,B,x,rfl,m,b⟩;have a:=U b;clear b m)
     |(go_at_call 94;refine(Tryz.strings_Contains_one _ 46 _).mono ?_;rintro e H ⟨rfl,rfl⟩;rw[t.out])
     |(go_at_call 22;refine(k4 o ((((h.new a).alloc _)).alloc _) (q.heap.size+1) 1 [⟨([61]:List UInt8).toArray⟩] rfl O (l5.vP _ _ [⟨([61]:List UInt8).toArray⟩] _ _ ar rfl)).mono ?_;rintro e J ⟨rfl,k⟩;rw[show ay G.X ([(⟨([61]:List UInt8).toArray⟩:ByteArray)].map fun z=>z.data.toList) s=false from A.out];have p:=U k;clear k))
    go_ret;refine⟨by rw[j.out];rfl,((a.alloc a.size _).alloc (by have:=a.size;simp;omega) _).trans (p.mono (by have:=a.size;simp;omega))⟩
 ·have I:(((V G.X s).kind:Int)==1)=false:=b1
  cases sym with
  |false=>
   have c:r=false:=by rw[i.out];simp[g]
   have j:=U c;clear c g i;go_enter Tryz.func97,Tryz.ntmps97
   go_wp2_with (first
    |(go_at_call 63;refine(eh o h).mono ?_;rintro e q ⟨C,v,B,x,rfl,m,b⟩;have a:=U b;clear b m))
   go_ret;refine⟨by rw[j.out];rfl,a.alloc a.size _⟩
  |true=>
   by_cases y:(V G.X s).kind=2
   ·have F:(((V G.X s).kind:Int)==2)=true:=by rw[y];rfl
    have c:r=true:=by rw[i.out,y];rfl
    have j:=U c;clear c g y i;go_enter Tryz.func97,Tryz.ntmps97
    go_wp2_with (first
     |(go_at_call 63;refine(eh o h).mono ?_;rintro e q ⟨C,v,B,x,rfl,m,b⟩;have a:=U b;clear b m))
    go_ret;refine⟨by rw[j.out];rfl,a.alloc a.size _⟩
   ·have F:(((V G.X s).kind:Int)==2)=false:=b1
    have D:((V G.X s).kind==1)=false:=by simpa using g
    have E:((V G.X s).kind==2)=false:=by simpa using y
    have c:r=ay G.X [[61]] s:=by rw[i.out,D,E];rfl
    have j:=U c;clear c g y i D E;go_enter Tryz.func97,Tryz.ntmps97
    go_wp2_with (first
     |(go_at_call 63;refine(eh o h).mono ?_;rintro e q ⟨C,v,B,x,rfl,m,b⟩;have a:=U b;clear b m)
     |(go_at_call 22;refine(k4 o ((((h.new a).alloc _)).alloc _) (q.heap.size+1) 1 [⟨([61]:List UInt8).toArray⟩] rfl O (l5.vP _ _ [⟨([61]:List UInt8).toArray⟩] _ _ ar rfl)).mono ?_;rintro e J ⟨rfl,k⟩;have p:=U k;clear k))
    go_ret;refine⟨?_,((a.alloc a.size _).alloc (by have:=a.size;simp;omega) _).trans (p.mono (by have:=a.size;simp;omega))⟩;rw[j.out];rfl
end
section
variable {G:Gh} {M:Nat->Prop} {u:Option Addr} {l:Nat} {f:Option Addr} {d:Nat} {w:World} {s:al}
theorem xV(k:ei G)(h:PS G M u l f d w s)(sym:Bool)(o:dw G.X sym s=true):
 Calls Tryz.prog 73 (AI G sym) w fun e w'=>e=.returned (.string ⟨(V G.X s).text.toArray⟩)/\PS G M u l f d w' {s with i:=s.i+1}/\Kn G.B (Jp G) w w':=by
 have v:=p_ o;have L:=k.k0;obtain⟨t,p⟩:∃ t,G.X.ts[s.i]?=some t:=⟨_,fv v⟩;rw[ko p];have A:=U p;have z:=U o;clear o p;go_enter Tryz.func73,Tryz.ntmps73
 go_wp2_with (go_at_call 97;refine(oP k h sym).mono ?_;rintro e J ⟨rfl,m⟩;rw[z.out];have j:=h.new m;have y:=U m;have C:=j.c1;have D:=j.fr 1;have r:=U j;clear m j)
 have b:=r.step1 v;have g:=(Kn.of y h.bB).step r rfl (.int .i64 ((s.i:Int)+1));generalize J.setCell ⟨G.bp,1,none⟩ (.int .i64 ((s.i:Int)+1))=B at b g⊢;obtain⟨x,I,Q,a,n,c,e,N,⟨_,P,_⟩,_⟩:=b.tok k A;have c0:=b.c0;have c1:B.cell? ⟨G.bp,1,none⟩=some (.int .i64 ((s.i:Int)+1)):=b.c1;rw[e] at c0;have H:IntKind.i64.wrap ((s.i:Int)+1-1)=(s.i:Int):=by rw[Ae];exact gv _ O
 have E:(s.i:Int)<(G.X.ts.length:Int):=O
 have F:(0:Int)<=(s.i:Int):=O
 have q:=U (b4 b g);clear b g e C D
 go_wp2_with fail
 go_quiet (fail)
 go_wp2_with fail
 go_ret;exact⟨rfl,q.1.drewN _,q.2.drewN _⟩
theorem IQ(c:ei G)(h:PS G M u l f d w s)(sym:Bool)(g:¬dw G.X sym s=true):
 Calls Tryz.prog 73 (AI G sym) w fun e w'=>e=az (gQ G.X s).1 (gQ G.X s).2/\Below w.heap.size w w':=by
 have i:Hid (dw G.X sym s=false):=U (by simpa using g);clear g;go_enter Tryz.func73,Tryz.ntmps73
 go_wp2_with (go_at_call 97;refine(oP c h sym).mono ?_;rintro e j ⟨rfl,a⟩;rw[i.out];have b:=U a;clear a)
 refine(mS c (h.new b)).mono ?_;rintro e k ⟨rfl,a⟩;unfold az;go_simp;exact⟨rfl,rfl,b.trans (a.mono b.size)⟩
theorem Df(k:ei G)(h:PS G M u l f d w s)(v:(V G.X s).kind=3):
 Calls Tryz.prog 111 (bq G) w fun e w'=>e=.returned (.string ⟨(V G.X s).text.toArray⟩)/\PS G M u l f d w' {s with i:=s.i+1}/\Kn G.B (Jp G) w w':=by
 have r:s.i<G.X.ts.length:=dd O;have R:=k.k0;obtain⟨t,o⟩:∃ t,G.X.ts[s.i]?=some t:=⟨_,fv r⟩;have S:(((V G.X s).kind:Int) != 3)=false:=by rw[v];rfl
 have E:=iU;have z:=U (ko o);have A:=U o;clear v o;go_enter Tryz.func111,Tryz.ntmps111
 go_wp2_with (go_at_call 63;refine(eh k h).mono ?_;rintro e N ⟨L,P,X,Q,rfl,_,m⟩;have j:=h.new m;have y:=U m;have C:=j.c1;have D:=j.fr 1;have q:=U j;clear m j)
 have b:=q.step1 r;have g:=(Kn.of y h.bB).step q rfl (.int .i64 ((s.i:Int)+1));generalize N.setCell ⟨G.bp,1,none⟩ (.int .i64 ((s.i:Int)+1))=B at b g⊢;obtain⟨x,J,Y,a,n,c,e,T,⟨_,W,_⟩,_⟩:=b.tok k A;have c0:=b.c0;have c1:B.cell? ⟨G.bp,1,none⟩=some (.int .i64 ((s.i:Int)+1)):=b.c1;rw[e] at c0;have I:IntKind.i64.wrap ((s.i:Int)+1-1)=(s.i:Int):=by rw[Ae];exact gv _ O
 have F:(s.i:Int)<(G.X.ts.length:Int):=O
 have H:(0:Int)<=(s.i:Int):=O
 have p:=U (b4 b g);clear b g e C D
 go_wp2_with fail
 go_quiet (fail)
 go_wp2_with fail
 go_ret;refine⟨?_,p.1.drewN _,p.2.drewN _⟩;rw[z.out];rfl
theorem F_(c:ei G)(h:PS G M u l f d w s)(i:¬(V G.X s).kind=3):
 Calls Tryz.prog 111 (bq G) w fun e w'=>e=az (gQ G.X s).1 (gQ G.X s).2/\Below w.heap.size w w':=by
 have n:(((V G.X s).kind:Int) != 3)=true:=by rw[bne_iff_ne];omega
 have g:=iU;clear i;go_enter Tryz.func111,Tryz.ntmps111
 go_wp2_with (go_at_call 63;refine(eh c h).mono ?_;rintro e p ⟨j,k,o,m,rfl,_,a⟩;have b:=U a;clear a)
 refine(mS c (h.new b)).mono ?_;rintro e q ⟨rfl,a⟩;unfold az;go_simp;exact⟨rfl,rfl,b.trans (a.mono b.size)⟩
theorem Ga(k:ei G)(h:PS G M u l f d w s)(v:(V G.X s).kind=1):
 Calls Tryz.prog 114 (bq G) w fun e w'=>e=.returned (.string ⟨(V G.X s).text.toArray⟩)/\PS G M u l f d w' {s with i:=s.i+1}/\Kn G.B (Jp G) w w':=by
 have r:s.i<G.X.ts.length:=dd O;have R:=k.k0;obtain⟨t,o⟩:∃ t,G.X.ts[s.i]?=some t:=⟨_,fv r⟩;have S:(((V G.X s).kind:Int) != 1)=false:=by rw[v];rfl
 have E:=iU;have z:=U (ko o);have A:=U o;clear v o;go_enter Tryz.func114,Tryz.ntmps114
 go_wp2_with (go_at_call 63;refine(eh k h).mono ?_;rintro e N ⟨L,P,X,Q,rfl,_,m⟩;have j:=h.new m;have y:=U m;have C:=j.c1;have D:=j.fr 1;have q:=U j;clear m j)
 have b:=q.step1 r;have g:=(Kn.of y h.bB).step q rfl (.int .i64 ((s.i:Int)+1));generalize N.setCell ⟨G.bp,1,none⟩ (.int .i64 ((s.i:Int)+1))=B at b g⊢;obtain⟨x,J,Y,a,n,c,e,T,⟨_,W,_⟩,_⟩:=b.tok k A;have c0:=b.c0;have c1:B.cell? ⟨G.bp,1,none⟩=some (.int .i64 ((s.i:Int)+1)):=b.c1;rw[e] at c0;have I:IntKind.i64.wrap ((s.i:Int)+1-1)=(s.i:Int):=by rw[Ae];exact gv _ O
 have F:(s.i:Int)<(G.X.ts.length:Int):=O
 have H:(0:Int)<=(s.i:Int):=O
 have p:=U (b4 b g);clear b g e C D
 go_wp2_with fail
 go_quiet (fail)
 go_wp2_with fail
 go_ret;refine⟨?_,p.1.drewN _,p.2.drewN _⟩;rw[z.out];rfl
theorem IS(c:ei G)(h:PS G M u l f d w s)(i:¬(V G.X s).kind=1):
 Calls Tryz.prog 114 (bq G) w fun e w'=>e=az (gQ G.X s).1 (gQ G.X s).2/\Below w.heap.size w w':=by
 have n:(((V G.X s).kind:Int) != 1)=true:=by rw[bne_iff_ne];omega
 have g:=iU;clear i;go_enter Tryz.func114,Tryz.ntmps114
 go_wp2_with (go_at_call 63;refine(eh c h).mono ?_;rintro e p ⟨j,k,o,m,rfl,_,a⟩;have b:=U a;clear a)
 refine(mS c (h.new b)).mono ?_;rintro e q ⟨rfl,a⟩;unfold az;go_simp;exact⟨rfl,rfl,b.trans (a.mono b.size)⟩
end
def cellAt(cs:Array Value)(j:Nat):Value:=cs[j]!
theorem ij(w:World)(cs:Array Value)(T:TypeId):∀ j,j<cs.size->(w.alloc (.cells cs T)).cell? ⟨w.heap.size,0+j,none⟩=some (cellAt cs j):=fun j a=>by
 rw[gW,jl];unfold cellAt;simp[a]
theorem QB{w:World}{k:Nat}{a:Value}(h:∀ j,j<(#[a]:Array Value).size->w.cell? ⟨k,0+j,none⟩=some (cellAt #[a] j)):w.cell? ⟨k,0,none⟩=some a:=h 0 (show 0<1 from O)
theorem o0{w:World}{k:Nat}{a b:Value}(h:∀ j,j<(#[a,b]:Array Value).size->w.cell? ⟨k,0+j,none⟩=some (cellAt #[a,b] j)):w.cell? ⟨k,0,none⟩=some a/\w.cell? ⟨k,1,none⟩=some b:=⟨h 0 (show 0<2 from O),h 1 (show 1<2 from O)⟩
theorem NS{w:World}{k:Nat}{a b c:Value}(h:∀ j,j<(#[a,b,c]:Array Value).size->w.cell? ⟨k,0+j,none⟩=some (cellAt #[a,b,c] j)):w.cell? ⟨k,0,none⟩=some a/\w.cell? ⟨k,1,none⟩=some b/\w.cell? ⟨k,2,none⟩=some c:=⟨h 0 (show 0<3 from O),h 1 (show 1<3 from O),h 2 (show 2<3 from O)⟩
theorem Gb{w:World}{k:Nat}{a b c d:Value}(h:∀ j,j<(#[a,b,c,d]:Array Value).size->w.cell? ⟨k,0+j,none⟩=some (cellAt #[a,b,c,d] j)):w.cell? ⟨k,0,none⟩=some a/\w.cell? ⟨k,1,none⟩=some b/\w.cell? ⟨k,2,none⟩=some c/\w.cell? ⟨k,3,none⟩=some d:=⟨h 0 (show 0<4 from O),h 1 (show 1<4 from O),h 2 (show 2<4 from O),h 3 (show 3<4 from O)⟩
theorem KN{w:World}{k:Nat}{a b c d e f g:Value}(h:∀ j,j<(#[a,b,c,d,e,f,g]:Array Value).size->w.cell? ⟨k,0+j,none⟩=some (cellAt #[a,b,c,d,e,f,g] j)):w.cell? ⟨k,0,none⟩=some a/\w.cell? ⟨k,1,none⟩=some b/\w.cell? ⟨k,2,none⟩=some c/\w.cell? ⟨k,3,none⟩=some d/\w.cell? ⟨k,4,none⟩=some e/\w.cell? ⟨k,5,none⟩=some f/\w.cell? ⟨k,6,none⟩=some g:=⟨h 0 (show 0<7 from O),h 1 (show 1<7 from O),h 2 (show 2<7 from O),h 3 (show 3<7 from O),h 4 (show 4<7 from O),h 5 (show 5<7 from O),h 6 (show 6<7 from O)⟩
theorem lM{w:World}{k:Nat}{a b c d e f g i l:Value}(h:∀ j,j<(#[a,b,c,d,e,f,g,i,l]:Array Value).size->w.cell? ⟨k,0+j,none⟩=some (cellAt #[a,b,c,d,e,f,g,i,l] j)):w.cell? ⟨k,0,none⟩=some a/\w.cell? ⟨k,1,none⟩=some b/\w.cell? ⟨k,2,none⟩=some c/\w.cell? ⟨k,3,none⟩=some d/\w.cell? ⟨k,4,none⟩=some e/\w.cell? ⟨k,5,none⟩=some f/\w.cell? ⟨k,6,none⟩=some g/\w.cell? ⟨k,7,none⟩=some i/\w.cell? ⟨k,8,none⟩=some l:=⟨h 0 (show 0<9 from O),h 1 (show 1<9 from O),h 2 (show 2<9 from O),h 3 (show 3<9 from O),h 4 (show 4<9 from O),h 5 (show 5<9 from O),h 6 (show 6<9 from O),h 7 (show 7<9 from O),h 8 (show 8<9 from O)⟩
theorem dy{w:World}{k:Nat}{c d e f g i l m n o a b:Value}(h:∀ j,j<(#[c,d,e,f,g,i,l,m,n,o,a,b]:Array Value).size->w.cell? ⟨k,0+j,none⟩=some (cellAt #[c,d,e,f,g,i,l,m,n,o,a,b] j)):w.cell? ⟨k,0,none⟩=some c/\w.cell? ⟨k,1,none⟩=some d/\w.cell? ⟨k,2,none⟩=some e/\w.cell? ⟨k,3,none⟩=some f/\w.cell? ⟨k,4,none⟩=some g/\w.cell? ⟨k,5,none⟩=some i/\w.cell? ⟨k,6,none⟩=some l/\w.cell? ⟨k,7,none⟩=some m/\w.cell? ⟨k,8,none⟩=some n/\w.cell? ⟨k,9,none⟩=some o/\w.cell? ⟨k,10,none⟩=some a/\w.cell? ⟨k,11,none⟩=some b:=⟨h 0 (show 0<12 from O),h 1 (show 1<12 from O),h 2 (show 2<12 from O),h 3 (show 3<12 from O),h 4 (show 4<12 from O),h 5 (show 5<12 from O),h 6 (show 6<12 from O),h 7 (show 7<12 from O),h 8 (show 8<12 from O),h 9 (show 9<12 from O),h 10 (show 10<12 from O),h 11 (show 11<12 from O)⟩
theorem xW{w:World}{k:Nat}{d e f g i l m n o p a b c:Value}(h:∀ j,j<(#[d,e,f,g,i,l,m,n,o,p,a,b,c]:Array Value).size->w.cell? ⟨k,0+j,none⟩=some (cellAt #[d,e,f,g,i,l,m,n,o,p,a,b,c] j)):w.cell? ⟨k,0,none⟩=some d/\w.cell? ⟨k,1,none⟩=some e/\w.cell? ⟨k,2,none⟩=some f/\w.cell? ⟨k,3,none⟩=some g/\w.cell? ⟨k,4,none⟩=some i/\w.cell? ⟨k,5,none⟩=some l/\w.cell? ⟨k,6,none⟩=some m/\w.cell? ⟨k,7,none⟩=some n/\w.cell? ⟨k,8,none⟩=some o/\w.cell? ⟨k,9,none⟩=some p/\w.cell? ⟨k,10,none⟩=some a/\w.cell? ⟨k,11,none⟩=some b/\w.cell? ⟨k,12,none⟩=some c:=⟨h 0 (show 0<13 from O),h 1 (show 1<13 from O),h 2 (show 2<13 from O),h 3 (show 3<13 from O),h 4 (show 4<13 from O),h 5 (show 5<13 from O),h 6 (show 6<13 from O),h 7 (show 7<13 from O),h 8 (show 8<13 from O),h 9 (show 9<13 from O),h 10 (show 10<13 from O),h 11 (show 11<13 from O),h 12 (show 12<13 from O)⟩
theorem xO{w:World}{k:Nat}{e f g i l m n o p q a b c d:Value}(h:∀ j,j<(#[e,f,g,i,l,m,n,o,p,q,a,b,c,d]:Array Value).size->w.cell? ⟨k,0+j,none⟩=some (cellAt #[e,f,g,i,l,m,n,o,p,q,a,b,c,d] j)):w.cell? ⟨k,0,none⟩=some e/\w.cell? ⟨k,1,none⟩=some f/\w.cell? ⟨k,2,none⟩=some g/\w.cell? ⟨k,3,none⟩=some i/\w.cell? ⟨k,4,none⟩=some l/\w.cell? ⟨k,5,none⟩=some m/\w.cell? ⟨k,6,none⟩=some n/\w.cell? ⟨k,7,none⟩=some o/\w.cell? ⟨k,8,none⟩=some p/\w.cell? ⟨k,9,none⟩=some q/\w.cell? ⟨k,10,none⟩=some a/\w.cell? ⟨k,11,none⟩=some b/\w.cell? ⟨k,12,none⟩=some c/\w.cell? ⟨k,13,none⟩=some d:=⟨h 0 (show 0<14 from O),h 1 (show 1<14 from O),h 2 (show 2<14 from O),h 3 (show 3<14 from O),h 4 (show 4<14 from O),h 5 (show 5<14 from O),h 6 (show 6<14 from O),h 7 (show 7<14 from O),h 8 (show 8<14 from O),h 9 (show 9<14 from O),h 10 (show 10<14 from O),h 11 (show 11<14 from O),h 12 (show 12<14 from O),h 13 (show 13<14 from O)⟩
theorem PE{w:World}{k:Nat}{o p q r s t u v x y a b c d e f g i l m n:Value}(h:∀ j,j<(#[o,p,q,r,s,t,u,v,x,y,a,b,c,d,e,f,g,i,l,m,n]:Array Value).size->w.cell? ⟨k,0+j,none⟩=some (cellAt #[o,p,q,r,s,t,u,v,x,y,a,b,c,d,e,f,g,i,l,m,n] j)):w.cell? ⟨k,0,none⟩=some o/\w.cell? ⟨k,1,none⟩=some p/\w.cell? ⟨k,2,none⟩=some q/\w.cell? ⟨k,3,none⟩=some r/\w.cell? ⟨k,4,none⟩=some s/\w.cell? ⟨k,5,none⟩=some t/\w.cell? ⟨k,6,none⟩=some u/\w.cell? ⟨k,7,none⟩=some v/\w.cell? ⟨k,8,none⟩=some x/\w.cell? ⟨k,9,none⟩=some y/\w.cell? ⟨k,10,none⟩=some a/\w.cell? ⟨k,11,none⟩=some b/\w.cell? ⟨k,12,none⟩=some c/\w.cell? ⟨k,13,none⟩=some d/\w.cell? ⟨k,14,none⟩=some e/\w.cell? ⟨k,15,none⟩=some f/\w.cell? ⟨k,16,none⟩=some g/\w.cell? ⟨k,17,none⟩=some i/\w.cell? ⟨k,18,none⟩=some l/\w.cell? ⟨k,19,none⟩=some m/\w.cell? ⟨k,20,none⟩=some n:=⟨h 0 (show 0<21 from O),h 1 (show 1<21 from O),h 2 (show 2<21 from O),h 3 (show 3<21 from O),h 4 (show 4<21 from O),h 5 (show 5<21 from O),h 6 (show 6<21 from O),h 7 (show 7<21 from O),h 8 (show 8<21 from O),h 9 (show 9<21 from O),h 10 (show 10<21 from O),h 11 (show 11<21 from O),h 12 (show 12<21 from O),h 13 (show 13<21 from O),h 14 (show 14<21 from O),h 15 (show 15<21 from O),h 16 (show 16<21 from O),h 17 (show 17<21 from O),h 18 (show 18<21 from O),h 19 (show 19<21 from O),h 20 (show 20<21 from O)⟩
theorem tE{X:Tx}{σ:Type}{b:ak}{c:σ->PM (Nd×σ)}{a:List Nd}{x:σ}{s:al}:gy X b c 0 a x s=none:=rfl
theorem mT{X:Tx}{σ:Type}{a:ak}{b:σ->PM (Nd×σ)}{n:Nat}{c:List Nd}{x:σ}{s:al}(h:ay X [a] s=true):
 gy X a b (n+1) c x s=(b x>>=fun r=>gy X a b n (c++[r.1]) r.2) {s with i:=s.i+1}:=by
 conv=>lhs;unfold gy
 show PM.bind _ _ _=_;unfold PM.bind a7;rw[if_pos h];rfl
theorem oe{X:Tx}{σ:Type}{b:ak}{c:σ->PM (Nd×σ)}{n:Nat}{a:List Nd}{x:σ}{s:al}(h:¬ay X [b] s=true):
 gy X b c (n+1) a x s=some (.ok ((a,x),s)):=by
 conv=>lhs;unfold gy
 show PM.bind _ _ _=_;unfold PM.bind a7;rw[if_neg h];rfl
section
variable {G:Gh} {u:Option Addr} {l:Nat} {f:Option Addr} {d:Nat} {σ Γ:Type} {pr:Γ->σ} {a:Γ->Nat->Prop} {k:World->Γ->Prop}
def mU(G:Gh)(u:Option Addr)(l:Nat)(f:Option Addr)(d:Nat)(pr:Γ->σ)(a:Γ->Nat->Prop)(k:World->Γ->Prop)(sz:Nat)(w:World)(s:al)(g:Γ)(wr:World)(s1:al)(g1:Γ)(acc:List Nd)(A c:Nat):Prop:=
 s1.sc=s.sc/\s.i<=s1.i/\acc.length<=s1.i+1/\PS G (a g1) u l f d wr s1/\k wr g1/\(∀ j,a g j->a g1 j)/\(∀ j,a g1 j->a g j\/w.heap.size<=j)/\¬a g1 A/\
   jP wr (fun b=>b<G.B\/(w.heap.size<=b/\b<wr.heap.size/\¬a g1 b/\b≠A)) w.heap.size sz A c acc/\Kn G.B (a g) w wr
theorem mU.kn{y:Nat}{w wr i m:World}{s x:al}{g e:Γ}{b:List Nd}{A c:Nat}(h:mU G u l f d pr a k y w s g wr x e b A c)(t:Kn G.B (Jp G) wr i)(v:Kn G.B (a e) i m):Kn G.B (a g) w m:=by
 obtain⟨_,_,_,n,_,_,r,_,_,o⟩:=h;refine o.trans ((t.jp n.mp).go v) (fun j z p=>?_)
 rcases r j p with q|q
 ·exact q
 ·omega
theorem mU.round{sz:Nat}{w wr C m:World}{s bC aF:al}{g aB o:Γ}{n:List Nd}{A c:Nat}{cs:Array Value}{T:TypeId}{nd:Nd}{z:Value}(bM:ei G)(aY:oX G a k)(bF:G.B<=w.heap.size)
 (h:mU G u l f d pr a k sz w s g wr bC aB n A c) (X:Kn G.B (Jp G) wr C) (Y:Kn G.B (a aB) C m) (aX:aF.sc=bC.sc) (cI:bC.i+1<=aF.i)
 (aD:PS G (a o) u l f d m aF) (bN:k m o) (bS:∀ j,a aB j->a o j) (aT:∀ j,a o j->a aB j\/C.heap.size<=j) (bU:ah m (Own G.B C.heap.size m.heap.size (a o)) nd cs.toList) (aZ:cs.size=sz) (aW:0<sz):
 ∃ h,d' (m.alloc (.cells cs T)) (some ⟨A,0,none⟩) n.length c sz h/\dh (m.alloc (.cells cs T)) w.heap.size (some ⟨A,0,none⟩) (c*sz)/\w.heap.size<=(m.alloc (.cells cs T)).heap.size/\n.length<=65537/\
   ∀ H N aE x,(aE=h/\H=some ⟨A,0,none⟩/\N=c\/aE=jH z/\H=some ⟨(m.alloc (.cells cs T)).heap.size,0,none⟩/\(m.alloc (.cells cs T)).heap.size<x.heap.size/\∀ p:Addr,p.block<(m.alloc (.cells cs T)).heap.size->x.cell? p=(m.alloc (.cells cs T)).cell? p)->
     d' x H (n.length+1) N sz (c6 h (n.length*sz) sz (cellAt cs) aE)->dh x w.heap.size H (N*sz)->Below w.heap.size (m.alloc (.cells cs T)) x->Kq (m.alloc (.cells cs T)) x (some ⟨A,0,none⟩) (n.length*sz) ((n.length+1)*sz)->
     ∃ y,H=some ⟨y,0,none⟩/\mU G u l f d pr a k sz w s g x aF o (n++[nd]) y N:=by
 have aQ:=h.kn X Y;obtain⟨bD,aC,cH,S,bO,aR,aU,aJ,aL,bR⟩:=h;have cD:=X.size;have cE:=Y.size;have cG:=bR.size;have M:=ab m (.cells cs T);have Q:A<wr.heap.size:=by obtain⟨_,_,q,_⟩:=aL;exact q
 have bE:w.heap.size<=A:=by obtain⟨_,q,_⟩:=aL;exact q
 have P:¬a o A:=fun q=>(aT A q).elim aJ (fun q=>O);have W:=S.mp;have R:∀ j,a o j->j<m.heap.size:=fun j q=>(aD.mB j q).2
 have aM:jP (m.alloc (.cells cs T)) (fun b=>b<G.B\/(w.heap.size<=b/\b<(m.alloc (.cells cs T)).heap.size/\¬a o b/\b≠A)) w.heap.size sz A c n:=by
  refine aL.a6 (fun b v=>?_) ?_ b1 (fun b v=>?_) (fun q=>q.elim (fun q=>O) (fun q=>q.2.2.2 rfl))
  ·have aO:b<wr.heap.size:=by rcases v with q|q<;>omega
   have aG:C.heap[b]?=wr.heap[b]?:=by
    rcases v with q|q
    ·exact X.ia.block b q
    ·exact X.gM b aO (fun e=>q.2.2.1 (by rw[show b=G.bp from e];exact W))
   have aH:m.heap[b]?=C.heap[b]?:=by
    rcases v with q|q
    ·exact Y.ia.block b q
    ·exact Y.gM b O q.2.2.1
   exact((M.block b O).trans aH).trans aG
  ·have aG:C.heap[A]?=wr.heap[A]?:=X.gM A Q (fun e=>aJ (by rw[show A=G.bp from e];exact W));have aH:m.heap[A]?=C.heap[A]?:=Y.gM A O aJ;exact((M.block A O).trans aH).trans aG
  ·rcases v with q|⟨Z,bA,aA,bI⟩
   ·exact .inl q
   ·exact .inr ⟨Z,b1,fun q=>(aT b q).elim aA (fun q=>O),bI⟩
 obtain⟨bP,l1,l2,bV,bY,bX,bZ⟩:=aM;have bQ:=aD.il;have bH:m.heap.size<(m.alloc (.cells cs T)).heap.size:=ar
 refine⟨bP,bY,bX,O,by have:=S.il;have:=aD.il;have:=bM.k0;omega,fun H N aE x bG bJ bK bL b6=>?_⟩;have cF:=b6.kp.size
 have aV:∃ y,H=some ⟨y,0,none⟩/\(y=A\/y=(m.alloc (.cells cs T)).heap.size):=by
  rcases bG with⟨_,e,_⟩|⟨_,e,_⟩
  ·exact⟨A,e,.inl rfl⟩
  ·exact⟨_,e,.inr rfl⟩
 obtain⟨y,aI,B⟩:=aV
 have aK:¬a o y:=by
  rcases B with q|q
  ·rw[q];exact P
  ·rw[q];intro bT;have:=R _ bT;omega
 have D:∀ j,a o j->x.heap[j]?=m.heap[j]?:=fun j E=>by
  have aP:=R j E;refine(b6.gM j O (fun cA e=>?_)).trans (M.block j aP);simp only [Option.some.injEq,Addr.mk.injEq] at e;exact P (by rw[e.1];exact E)
 have J:Below w.heap.size m x:=(M.mono O).trans bL
 obtain⟨cB,I,_,aN⟩:=jP.push (L:=w.heap.size) (F:=fun b=>b<G.B\/(w.heap.size<=b/\b<(m.alloc (.cells cs T)).heap.size/\¬a o b/\b≠A)) (F1:=Own G.B C.heap.size m.heap.size (a o)) (F':=fun b=>b<G.B\/(w.heap.size<=b/\b<x.heap.size/\¬a o b/\b≠y)) (r:=nd) (g:=cellAt cs) aW
  l1 l2 bV bZ (fun b v=>by rcases v with q|q<;>omega) (fun b v=>by
   rcases v with q|⟨Z,bA,_⟩
   ·exact⟨O,O⟩
   ·exact⟨O,O⟩) (by
   have e:((List.range sz).map (cellAt cs))=cs.toList:=by
    apply xf
    ·simp[aZ]
    ·intro i bD aC;have aC:i<cs.size:=by simpa using aC
     simp[cellAt,aC]
   rw[e];exact bU.on (fun b v=>M.block b (by rcases v with q|⟨_,q,_⟩<;>omega)) (fun _ q=>q)) bG O bJ bK b6 (fun b v=>by
   rcases v with(q|⟨Z,bA,aA,bI⟩)|q|⟨Z,bA,aA⟩
   ·exact .inl q
   ·exact .inr ⟨Z,O,aA,by rcases B with e|e<;>omega⟩
   ·exact .inl q
   ·exact .inr ⟨O,O,aA,by rcases B with e|e<;>omega⟩) (fun cC e q=>by
   rw[aI] at e;simp only [Option.some.injEq,Addr.mk.injEq,and_true] at e;subst e
   rcases q with q|q
   ·rcases B with e|e<;>omega
   ·exact q.2.2.2 rfl)
 rw[aI] at I;simp only [Option.some.injEq,Addr.mk.injEq,and_true] at I;subst I;refine⟨y,aI,aX.trans bD,O,by rw[iQ];simp only [List.length_cons,List.length_nil];omega,aD.a6 (J.mono bF) D,aY _ _ _ bN (fun j E _=>D j E),fun j E=>bS j (aR j E),fun j E=>?_,aK,aN,aQ.low J bF (aw _)⟩
 rcases aT j E with q|q
 ·exact aU j q
 ·exact .inr O
theorem mU.fin{sz:Nat}{w wr w':World}{s B:al}{g p:Γ}{e:List Nd}{A c:Nat}(y:oX G a k)(h:mU G u l f d pr a k sz w s g wr B p e A c)(o:Below wr.heap.size wr w'):
 lX G u l f d pr a k w s g (.ok ((e,pr p),B)) (.returned (.slice (some ⟨A,0,none⟩) e.length c)) w':=by
 obtain⟨C,D,I,i,t,v,x,E,r,z⟩:=h;have F:=i.bB;have n:A<wr.heap.size:=by obtain⟨_,_,q,_⟩:=r;exact q
 have m:w.heap.size<=A:=by obtain⟨_,q,_⟩:=r;exact q
 refine⟨z.low o F z.size,C,D,p,_,rfl,rfl,i.new o,y _ _ _ t (fun j H _=>o.block j (i.mB j H).2),v,x,some ⟨A,0,none⟩,c,rfl,?_⟩;refine(r.rep (F':=fun b=>b<G.B\/(w.heap.size<=b/\b<wr.heap.size/\¬a p b)) (fun b q=>q.imp id fun q=>⟨q.1,q.2.1,q.2.2.1⟩) (.inr ⟨m,n,E⟩)).on (fun b q=>o.block b (by rcases q with q|q<;>omega)) (fun b q=>q.imp id fun q=>⟨q.1,ba o.size,q.2.2⟩)
end
end Go.Proofs.YtkblonfmjlopaaaGreatDoor
