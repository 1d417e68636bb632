/-
  blanks, walked.
-/
import Derived.Test.YtkblonfmjlopaaaGreatDoorLxWord
set_option linter.all false
set_option maxRecDepth 1000000
set_option maxHeartbeats 16000000
namespace Go.Proofs.YtkblonfmjlopaaaGreatDoor
open Go Go.RowKit
variable {s:ByteArray}{ts:List Tok}{F:List UInt8->Nat}{L b base c d i k n p q:Nat}{C:Nat->Nat}{w:World}
theorem s7(b:Nat)(s:ByteArray)(p:Nat)(ts:List Tok)(base:Nat)(w:World)(bO:s.size<=65536)(bK:p<=s.size)(h:St w b s p ts base):
 Calls Tryz.prog 17 (t_ b) w fun e bN=>LQ w bN b s ts base e (fj s 0 p):=by
 obtain⟨R,aH⟩:∃ R,Hid (fj s 0 p=R):=⟨_,U rfl⟩;rw[aH.out];have F:=h.base;go_enter Tryz.func17,Tryz.ntmps17
 go_wp2
 go_loopw [2] (fun aZ wr=>BR w b s ts base R aZ wr) (fun _ wr=>zr wr b s)
 case atStart=>exact .inl ⟨0,p,rfl,O,bK,h,Below.refl _ _,e6.refl _,aH⟩
 case round=>
  rcases hrel with⟨d,q,rfl,bI,aV,Y,j,k,L⟩|⟨q,g,bM,i,X,rfl,j,k,rfl⟩
  rotate_left 1
  ·have bL:=X.c3
   go_wp2
   go_end0;exact⟨rfl,j,k,_,g,bM,i,X⟩
  have a:=Y;obtain⟨g,i,f,bC,bD,bE,bF,bG⟩:=Y;have bP:=f.c0;have bQ:=f.c1;have bL:=f.c3;have bR:=f.fr 1;obtain⟨c,Q⟩:∃ c,bt s (q+0)=c:=⟨_,rfl⟩;obtain⟨c1,B⟩:∃ c1,bt s (q+1)=c1:=⟨_,rfl⟩;have bH:c<256:=Q▸gI s _;have aU:c1<256:=B▸gI s _;have y:c≠0->q<s.size:=fun x=>iX Q x;have u:c1≠0->q+1<s.size:=fun x=>iX B x;have r:=kE (s:=s) (d:=d) aV;rw[show bt s q=c from Q,B] at r;have v:=U Q;have m:=U B;have l:True:=trivial;clear bC bD bF bG Q B h
  by_cases aQ:c=40/\c1=42
  ·obtain⟨rfl,rfl⟩:=aQ;have D:=u O;clear y u;rw[if_pos ⟨rfl,rfl⟩,L.out] at r;have n:=U r.symm;clear r
   go_wp2_with (first|(have z:=l;go_at_call 47;refine(au b s q 0 g ts.length i 0 0 _ O O O f).mono ?_;rintro e o ⟨rfl,A,rfl⟩;rw[v.out];clear l)|(go_at_call 47;refine(au b s q 1 g ts.length i 0 0 _ O O O (f.drewN _)).mono ?_;rintro e o ⟨rfl,E,rfl⟩;rw[m.out]))
   refine⟨.inl ⟨d+1,q+2,?_,O,O,(a.drewN _).at O,(j.trans (b' _ _)).setCell F _,(k.trans (e6.below (bn _ _))).trans ((a.drewN _).rl _),n⟩,?_⟩
   ·first|rfl|exact congrArg (Value.int .i64) O
   ·refine q_ (o8 (ou (p':=q+2) (a.drewN _) ?_ O)) ?_
    ·first|rfl|exact congrArg (Value.int .i64) O
    ·rw[a.zr];omega
  rw[if_neg aQ] at r
  by_cases aR:0<d/\c=42/\c1=41
  ·obtain⟨S,rfl,rfl⟩:=aR;have D:=u O;clear y u;rw[if_pos ⟨S,rfl,rfl⟩,L.out] at r;have n:=U r.symm;have T:(0:Int)<(d:Int):=O
   clear r
   go_wp2_with (first|(have z:=l;go_at_call 47;refine(au b s q 0 g ts.length i 0 0 _ O O O f).mono ?_;rintro e o ⟨rfl,A,rfl⟩;rw[v.out];clear l)|(go_at_call 47;refine(au b s q 1 g ts.length i 0 0 _ O O O (f.drewN _)).mono ?_;rintro e o ⟨rfl,E,rfl⟩;rw[m.out]))
   refine⟨.inl ⟨d-1,q+2,?_,O,O,(a.drewN _).at O,(j.trans (b' _ _)).setCell F _,(k.trans (e6.below (bn _ _))).trans ((a.drewN _).rl _),n⟩,?_⟩
   ·first|rfl|exact congrArg (Value.int .i64) O
   ·refine q_ (o8 (ou (p':=q+2) (a.drewN _) ?_ O)) ?_
    ·first|rfl|exact congrArg (Value.int .i64) O
    ·rw[a.zr];omega
  rw[if_neg aR] at r
  by_cases aT:0<d/\s.size<=q
  ·obtain⟨S,aG⟩:=aT;rw[if_pos ⟨S,aG⟩,L.out] at r;subst r;have aF:q=s.size:=O
   obtain rfl:c=0:=by rw[<-v.out];exact k9 O
   have T:(0:Int)<(d:Int):=O
   have bJ:((s.size:Int)<=(q:Int)):=O
   clear y u;have aE:decide ((s.size:Int)<=(q:Int))=true:=by rw[decide_eq_true_eq];omega
   go_wp2_with (have z:=l;go_at_call 47;refine(au b s q 0 g ts.length i 0 0 _ O O O f).mono ?_;rintro e o ⟨rfl,A,rfl⟩;rw[v.out];clear l)
   go_quiet (fail)
   go_wp2_with (first|(go_at_call 48;refine(iA b s q g ts.length i 0 0 _ _ _ base bE (f.drewN _)).mono ?_;rintro e o ⟨rfl,aD,b6,bA⟩))
   refine⟨.inr ⟨q,g,_,i,aD,aF,(j.trans (b' _ _)).trans b6,(k.trans (e6.below (bn _ _))).trans bA,rfl⟩,?_⟩;rw[a.zr];unfold Go.Proofs.YtkblonfmjlopaaaGreatDoor.zr;rw[aD.pos,aD.go];simp
  rw[if_neg aT] at r;clear u
  by_cases S:0<d
  ·rw[if_pos (mq S),L.out] at r;have n:=U r.symm;have T:(0:Int)<(d:Int):=O
   have D:q<s.size:=O
   clear r y;have aE:decide ((s.size:Int)<=(q:Int))=false:=by rw[decide_eq_false_iff_not];omega
   by_cases J:c=40
   ·subst J;have I:¬(c1:Int)=42:=O
    have H:((c1:Int)==42)=false:=b1
    go_wp2_with (first|(have z:=l;go_at_call 47;refine(au b s q 0 g ts.length i 0 0 _ O O O f).mono ?_;rintro e o ⟨rfl,A,rfl⟩;rw[v.out];clear l)|(go_at_call 47;refine(au b s q 1 g ts.length i 0 0 _ O O O (f.drewN _)).mono ?_;rintro e o ⟨rfl,E,rfl⟩;rw[m.out]))
    go_quiet (fail)
    go_wp2_with fail
    refine⟨.inl ⟨d,q+1,?_,O,O,(a.drewN _).at O,(j.trans (b' _ _)).setCell F _,(k.trans (e6.below (bn _ _))).trans ((a.drewN _).rl _),n⟩,?_⟩
    ·first|rfl|exact congrArg (Value.int .i64) O
    ·refine q_ (o8 (ou (p':=q+1) (a.drewN _) ?_ O)) ?_
     ·first|rfl|exact congrArg (Value.int .i64) O
     ·rw[a.zr];omega
   by_cases aC:c=42
   ·subst aC;have aB:¬(c1:Int)=41:=O
    have aA:((c1:Int)==41)=false:=b1
    go_wp2_with (first|(have z:=l;go_at_call 47;refine(au b s q 0 g ts.length i 0 0 _ O O O f).mono ?_;rintro e o ⟨rfl,A,rfl⟩;rw[v.out];clear l)|(go_at_call 47;refine(au b s q 1 g ts.length i 0 0 _ O O O (f.drewN _)).mono ?_;rintro e o ⟨rfl,E,rfl⟩;rw[m.out]))
    go_quiet (fail)
    go_wp2_with fail
    refine⟨.inl ⟨d,q+1,?_,O,O,(a.drewN _).at O,(j.trans (b' _ _)).setCell F _,(k.trans (e6.below (bn _ _))).trans ((a.drewN _).rl _),n⟩,?_⟩
    ·first|rfl|exact congrArg (Value.int .i64) O
    ·refine q_ (o8 (ou (p':=q+1) (a.drewN _) ?_ O)) ?_
     ·first|rfl|exact congrArg (Value.int .i64) O
     ·rw[a.zr];omega
   have N:¬(c:Int)=40:=O
   have M:((c:Int)==40)=false:=b1
   have aP:¬(c:Int)=42:=O
   have aL:((c:Int)==42)=false:=b1
   go_wp2_with (first|(have z:=l;go_at_call 47;refine(au b s q 0 g ts.length i 0 0 _ O O O f).mono ?_;rintro e o ⟨rfl,A,rfl⟩;rw[v.out];clear l)|(go_at_call 47;refine(au b s q 1 g ts.length i 0 0 _ O O O (f.drewN _)).mono ?_;rintro e o ⟨rfl,E,rfl⟩;rw[m.out]))
   go_quiet (fail)
   go_wp2_with fail
   refine⟨.inl ⟨d,q+1,?_,O,O,(a.drewN _).at O,(j.trans (b' _ _)).setCell F _,(k.trans (e6.below (bn _ _))).trans ((a.drewN _).rl _),n⟩,?_⟩
   ·first|rfl|exact congrArg (Value.int .i64) O
   ·refine q_ (o8 (ou (p':=q+1) (a.drewN _) ?_ O)) ?_
    ·first|rfl|exact congrArg (Value.int .i64) O
    ·rw[a.zr];omega
  obtain rfl:d=0:=O
  by_cases P:c=32\/c=9\/c=10\/c=13
  ·have D:=y O;have W:decide ((q:Int)<(s.size:Int))=true:=by rw[decide_eq_true_eq];omega
   clear y;rw[if_pos (Or.inr ⟨D,P⟩),L.out] at r;have n:=U r.symm;clear r
   rcases P with rfl|rfl|rfl|rfl
   ·go_wp2_with (first|(have z:=l;go_at_call 47;refine(au b s q 0 g ts.length i 0 0 _ O O O f).mono ?_;rintro e o ⟨rfl,A,rfl⟩;rw[v.out];clear l)|(go_at_call 47;refine(au b s q 1 g ts.length i 0 0 _ O O O (f.drewN _)).mono ?_;rintro e o ⟨rfl,E,rfl⟩;rw[m.out]))
    go_quiet (fail)
    go_wp2_with fail
    go_quiet (fail)
    go_wp2_with fail
    refine⟨.inl ⟨0,q+1,?_,O,O,(a.drewN _).at O,(j.trans (b' _ _)).setCell F _,(k.trans (e6.below (bn _ _))).trans ((a.drewN _).rl _),n⟩,?_⟩
    ·first|rfl|exact congrArg (Value.int .i64) O
    ·refine q_ (o8 (ou (p':=q+1) (a.drewN _) ?_ O)) ?_
     ·first|rfl|exact congrArg (Value.int .i64) O
     ·rw[a.zr];omega
   ·go_wp2_with (first|(have z:=l;go_at_call 47;refine(au b s q 0 g ts.length i 0 0 _ O O O f).mono ?_;rintro e o ⟨rfl,A,rfl⟩;rw[v.out];clear l)|(go_at_call 47;refine(au b s q 1 g ts.length i 0 0 _ O O O (f.drewN _)).mono ?_;rintro e o ⟨rfl,E,rfl⟩;rw[m.out]))
    go_quiet (fail)
    go_wp2_with fail
    go_quiet (fail)
    go_wp2_with fail
    refine⟨.inl ⟨0,q+1,?_,O,O,(a.drewN _).at O,(j.trans (b' _ _)).setCell F _,(k.trans (e6.below (bn _ _))).trans ((a.drewN _).rl _),n⟩,?_⟩
    ·first|rfl|exact congrArg (Value.int .i64) O
    ·refine q_ (o8 (ou (p':=q+1) (a.drewN _) ?_ O)) ?_
     ·first|rfl|exact congrArg (Value.int .i64) O
     ·rw[a.zr];omega
   ·go_wp2_with (first|(have z:=l;go_at_call 47;refine(au b s q 0 g ts.length i 0 0 _ O O O f).mono ?_;rintro e o ⟨rfl,A,rfl⟩;rw[v.out];clear l)|(go_at_call 47;refine(au b s q 1 g ts.length i 0 0 _ O O O (f.drewN _)).mono ?_;rintro e o ⟨rfl,E,rfl⟩;rw[m.out]))
    go_quiet (fail)
    go_wp2_with fail
    go_quiet (fail)
    go_wp2_with fail
    refine⟨.inl ⟨0,q+1,?_,O,O,(a.drewN _).at O,(j.trans (b' _ _)).setCell F _,(k.trans (e6.below (bn _ _))).trans ((a.drewN _).rl _),n⟩,?_⟩
    ·first|rfl|exact congrArg (Value.int .i64) O
    ·refine q_ (o8 (ou (p':=q+1) (a.drewN _) ?_ O)) ?_
     ·first|rfl|exact congrArg (Value.int .i64) O
     ·rw[a.zr];omega
   ·go_wp2_with (first|(have z:=l;go_at_call 47;refine(au b s q 0 g ts.length i 0 0 _ O O O f).mono ?_;rintro e o ⟨rfl,A,rfl⟩;rw[v.out];clear l)|(go_at_call 47;refine(au b s q 1 g ts.length i 0 0 _ O O O (f.drewN _)).mono ?_;rintro e o ⟨rfl,E,rfl⟩;rw[m.out]))
    go_quiet (fail)
    go_wp2_with fail
    go_quiet (fail)
    go_wp2_with fail
    refine⟨.inl ⟨0,q+1,?_,O,O,(a.drewN _).at O,(j.trans (b' _ _)).setCell F _,(k.trans (e6.below (bn _ _))).trans ((a.drewN _).rl _),n⟩,?_⟩
    ·first|rfl|exact congrArg (Value.int .i64) O
    ·refine q_ (o8 (ou (p':=q+1) (a.drewN _) ?_ O)) ?_
     ·first|rfl|exact congrArg (Value.int .i64) O
     ·rw[a.zr];omega
  clear y;rw[if_neg O,L.out] at r;subst r;have G:∀ aW Z,LQ w ((wr.drewN aW).drewN Z) b s ts base (.returned (.tuple #[])) (some q):=fun aW Z=>⟨rfl,(j.trans (b' _ _)).trans (b' _ _),(k.trans (e6.below (bn _ _))).trans (e6.below (bn _ _)),(a.drewN _).drewN _,aV⟩;have C:=U G;clear G
  by_cases D:q<s.size
  ·have W:decide ((q:Int)<(s.size:Int))=true:=by rw[decide_eq_true_eq];omega
   have aO:¬(c:Int)=32:=O
   have aK:((c:Int)==32)=false:=b1
   have aY:¬(c:Int)=9:=O
   have aX:((c:Int)==9)=false:=b1
   have aM:¬(c:Int)=10:=O
   have aI:((c:Int)==10)=false:=b1
   have aN:¬(c:Int)=13:=O
   have aJ:((c:Int)==13)=false:=b1
   by_cases J:c=40
   ·subst J;have I:¬(c1:Int)=42:=O
    have H:((c1:Int)==42)=false:=b1
    go_wp2_with (first|(have z:=l;go_at_call 47;refine(au b s q 0 g ts.length i 0 0 _ O O O f).mono ?_;rintro e o ⟨rfl,A,rfl⟩;rw[v.out];clear l)|(go_at_call 47;refine(au b s q 1 g ts.length i 0 0 _ O O O (f.drewN _)).mono ?_;rintro e o ⟨rfl,E,rfl⟩;rw[m.out]))
    go_quiet (fail)
    go_wp2_with fail
    go_quiet (fail)
    go_wp2_with fail
    refine bodyPost_ret (results_none rfl _ _ _) rfl ?_;exact C.out _ _
   have N:¬(c:Int)=40:=O
   have M:((c:Int)==40)=false:=b1
   go_wp2_with (first|(have z:=l;go_at_call 47;refine(au b s q 0 g ts.length i 0 0 _ O O O f).mono ?_;rintro e o ⟨rfl,A,rfl⟩;rw[v.out];clear l)|(go_at_call 47;refine(au b s q 1 g ts.length i 0 0 _ O O O (f.drewN _)).mono ?_;rintro e o ⟨rfl,E,rfl⟩;rw[m.out]))
   go_quiet (fail)
   go_wp2_with fail
   go_quiet (fail)
   go_wp2_with fail
   refine bodyPost_ret (results_none rfl _ _ _) rfl ?_;exact C.out _ _
  ·have W:decide ((q:Int)<(s.size:Int))=false:=by rw[decide_eq_false_iff_not];omega
   obtain rfl:c=0:=by rw[<-v.out];exact k9 O
   go_wp2_with (first|(have z:=l;go_at_call 47;refine(au b s q 0 g ts.length i 0 0 _ O O O f).mono ?_;rintro e o ⟨rfl,A,rfl⟩;rw[v.out];clear l)|(go_at_call 47;refine(au b s q 1 g ts.length i 0 0 _ O O O (f.drewN _)).mono ?_;rintro e o ⟨rfl,E,rfl⟩;rw[m.out]))
   go_quiet (fail)
   go_wp2_with fail
   go_quiet (fail)
   go_wp2_with fail
   refine bodyPost_ret (results_none rfl _ _ _) rfl ?_;exact C.out _ _
theorem CQ(s:ByteArray):∀ m d i k,iY s m d i=some k->i<=s.size->i<=k/\k<=s.size:=by
 intro m
 induction m with
 |zero=>intro d i k h j;simp only [iY,Option.some.injEq] at h;omega
 |succ m c=>
  intro d i k h j;unfold iY at h
  by_cases a:bt s i=40/\bt s (i+1)=42
  ·have g:=iX a.2 O;rw[if_pos a] at h;have:=c _ _ _ h O;omega
  ·rw[if_neg a] at h
   by_cases b:0<d/\bt s i=42/\bt s (i+1)=41
   ·have g:=iX b.2.2 O;rw[if_pos b] at h;have:=c _ _ _ h O;omega
   ·rw[if_neg b] at h
    by_cases e:0<d/\s.size<=i
    ·rw[if_pos e] at h;cases h
    ·rw[if_neg e] at h
     by_cases f:0<d\/i<s.size/\(bt s i=32\/bt s i=9\/bt s i=10\/bt s i=13)
     ·rw[if_pos f] at h;have:=c _ _ _ h O;omega
     ·rw[if_neg f] at h;simp only [Option.some.injEq] at h;omega
theorem mC{d:Nat}(h:fj s d i=some k)(a:i<=s.size):i<=k/\k<=s.size:=CQ s _ _ _ _ h a
theorem jJ{a:Nat}{t:Tok}(h:gX s i k a=.ok (t,n)):n=k:=by
 unfold gX at h;split at h
 ·cases h
 ·simp only [Except.ok.injEq,Prod.mk.injEq] at h;exact h.2.symm
theorem n7{a:Nat}(h:gX s i k a=.error (c,q)):c≠0:=by
 unfold gX at h;split at h
 ·simp only [Except.error.injEq,Prod.mk.injEq] at h;omega
 ·cases h
theorem u7(s:ByteArray)(i:Nat):∀ m k t n,hJ s m i k=.ok (t,n)->k<=s.size->k<=n/\n<=s.size:=by
 intro m
 induction m with
 |zero=>intro k t n h d;have:=jJ (show gX s i k 1=_ from h);omega
 |succ m e=>
  intro k t n h d;unfold hJ at h
  by_cases a:bt s k=46/\isLet (bt s (k+1))=true
  ·rw[if_pos a] at h;have b:=kD a.2;have f:=e7 b (iB a.2);have c:=dm (p:=dx) (s:=s) (i:=k+1) O
   split at h
   ·cases h
   ·have:=e _ _ _ h c;omega
  ·rw[if_neg a] at h;have:=jJ h;omega
theorem Ir(s:ByteArray)(i:Nat):∀ m k c q,hJ s m i k=.error (c,q)->c≠0:=by
 intro m
 induction m with
 |zero=>intro k c q h;exact n7 (show gX s i k 1=_ from h)
 |succ m a=>
  intro k c q h;unfold hJ at h
  split at h
  ·split at h
   ·simp only [Except.error.injEq,Prod.mk.injEq] at h;omega
   ·exact a _ _ _ h
  ·exact n7 h
theorem j7{t:Tok}(h:gJ F s i=.ok (t,n))(e:i<s.size):i<n/\n<=s.size:=by
 unfold gJ at h;simp only at h
 split at h
 ·rename_i c;have b:=e7 e (iB c);have d:=dm (p:=dx) (s:=s) (i:=i) O;unfold lR at h
  split at h
  ·simp only [Except.ok.injEq,Prod.mk.injEq] at h;omega
  ·have:=u7 s i _ _ _ _ h d;omega
 ·split at h
  ·rename_i a
   have l:i<gF s i/\gF s i<=s.size:=by
    unfold gF
    rcases a with a|a
    ·have:=gx a;rw[if_neg O];exact⟨e7 e a,dm O⟩
    ·rw[if_pos a.1];have b:=h8 a.2;have:=e7 b a.2;exact⟨O,dm O⟩
   have j:=n3 l.2;have o:=n4 j.2;unfold h7 at h;simp only at h
   split at h
   ·split at h
    ·cases h
    ·simp only [Except.ok.injEq,Prod.mk.injEq] at h;omega
   ·split at h
    ·cases h
    ·simp only [Except.ok.injEq,Prod.mk.injEq] at h;omega
  ·split at h
   ·split at h
    ·cases h
    ·rename_i x k f;have:=uj s _ _ _ _ _ f;simp only [Except.ok.injEq,Prod.mk.injEq] at h;omega
   ·split at h
    ·split at h
     ·cases h
     ·rename_i x k f;have:=uj s _ _ _ _ _ f
      split at h
      ·cases h
      ·simp only [Except.ok.injEq,Prod.mk.injEq] at h;omega
    ·split at h
     ·split at h
      ·split at h
       ·rename_i c;have b:=kD c;have d:=e7 b (iB c);have g:=dm (p:=dx) (s:=s) (i:=i+2) O;have:=jJ h;omega
       ·cases h
      ·split at h
       ·rename_i c;have b:=kD c;have d:=e7 b (iB c);have g:=dm (p:=dx) (s:=s) (i:=i+1) O;have:=jJ h;omega
       ·cases h
     ·split at h
      ·simp only [Except.ok.injEq,Prod.mk.injEq] at h;omega
      ·split at h
       ·rename_i m;have b:=e7 (p:=fm) e m;have d:=dm (p:=fm) (s:=s) (i:=i) O;have:=jJ h;omega
       ·cases h
theorem AR(h:gJ F s i=.error (c,q)):c≠0:=by
 unfold gJ at h;simp only at h
 split at h
 ·unfold lR at h
  split at h
  ·cases h
  ·exact Ir s i _ _ _ _ h
 ·split at h
  ·unfold h7 at h;simp only at h
   split at h
   ·split at h
    ·simp only [Except.error.injEq,Prod.mk.injEq] at h;omega
    ·cases h
   ·split at h
    ·simp only [Except.error.injEq,Prod.mk.injEq] at h;omega
    ·cases h
  ·split at h
   ·split at h
    ·rename_i a;simp only [Except.error.injEq] at h;subst h;have:=rk s _ _ _ _ _ a;omega
    ·cases h
   ·split at h
    ·split at h
     ·rename_i a;simp only [Except.error.injEq] at h;subst h;have:=rk s _ _ _ _ _ a;omega
     ·split at h
      ·simp only [Except.error.injEq,Prod.mk.injEq] at h;omega
      ·cases h
    ·split at h
     ·split at h
      ·split at h
       ·exact n7 h
       ·simp only [Except.error.injEq,Prod.mk.injEq] at h;omega
      ·split at h
       ·exact n7 h
       ·simp only [Except.error.injEq,Prod.mk.injEq] at h;omega
     ·split at h
      ·cases h
      ·split at h
       ·exact n7 h
       ·simp only [Except.error.injEq,Prod.mk.injEq] at h;omega
def kF(go:Nat->List Tok->Except (Nat×Nat) (List Tok))(F:List UInt8->Nat)(s:ByteArray)(ts:List Tok):Option Nat->Except (Nat×Nat) (List Tok)
 |none=>.error (31,s.size)
 |some k=>if s.size<=k then .ok ts else
  match gJ F s k with
  |.error e=>.error e
  |.ok (t,n)=>go n (ts++[t])
theorem CR(F:List UInt8->Nat)(s:ByteArray):∀ m a i ts,i<=s.size->s.size+1<=m+i->s.size+1<=a+i->ov F s m i ts=ov F s a i ts:=by
 intro m
 induction m with
 |zero=>intro a i ts c h d;omega
 |succ m j=>
  intro a i ts c h d;obtain⟨a,rfl⟩:∃ k,a=k+1:=⟨a-1,O⟩;unfold ov
  rcases f:blank s i with _|k
  ·rfl
  ·simp only;have l:=mC (show fj s 0 i=some k from f) c
   by_cases b:s.size<=k
   ·rw[if_pos b,if_pos b]
   ·rw[if_neg b,if_neg b]
    rcases g:gJ F s k with e|⟨t,n⟩
    ·rfl
    ·have:=j7 g O;exact j a n _ O O O
def nG(F:List UInt8->Nat)(s:ByteArray)(i:Nat)(ts:List Tok):Except (Nat×Nat) (List Tok):=ov F s (s.size+1-i) i ts
theorem j8(c:i<=s.size):nG F s i ts=kF (nG F s) F s ts (fj s 0 i):=by
 unfold nG;obtain⟨m,d⟩:∃ m,s.size+1-i=m+1:=⟨s.size-i,O⟩;rw[d]
 conv=>lhs;unfold ov
 rw[show blank s i=fj s 0 i from rfl]
 rcases b:fj s 0 i with _|k
 ·rfl
 ·have g:=mC b c;unfold kF;simp only
  by_cases a:s.size<=k
  ·rw[if_pos a,if_pos a]
  ·rw[if_neg a,if_neg a]
   rcases f:gJ F s k with e|⟨t,n⟩
   ·rfl
   ·have:=j7 f O;exact CR F s m _ n _ O O O
theorem za(b:Nat)(s:ByteArray)(p:Nat)(j:Option Addr)(l k:Nat)(a c:Int)(w:World)(h:Sc w b s p j l k a c)(d:a≠0):
 Calls Tryz.prog 17 (t_ b) w fun e m=>e=.returned (.tuple #[])/\m=w:=by
 have n:=h.c3;have i:¬a=0:=d;have g:(a==0)=false:=by simpa using d
 go_enter Tryz.func17,Tryz.ntmps17
 go_wp2
 go_loopw [2] (fun f wr=>wr=w/\f=.int .i64 0) (fun _ wr=>0)
 case atStart=>exact⟨rfl,rfl⟩
 case round=>
  obtain⟨rfl,rfl⟩:=hrel
  go_wp2
  go_end0;exact⟨rfl,rfl⟩
def zt(w:World)(b:Nat)(s:ByteArray):Nat:=if intOf ((w.cell? ⟨b,3,none⟩).getD (.int .i64 0))=0 then s.size-yT w b+1 else 0
theorem St.zt(h:St w b s p ts base):Go.Proofs.YtkblonfmjlopaaaGreatDoor.zt w b s=s.size-p+1:=by
 obtain⟨c,d,a,_⟩:=h;unfold Go.Proofs.YtkblonfmjlopaaaGreatDoor.zt;rw[a.pos,a.c3];rfl
theorem Sc.zt{e:Option Addr}{g f:Nat}{a c:Int}(h:Sc w b s p e g f a c)(d:a≠0):Go.Proofs.YtkblonfmjlopaaaGreatDoor.zt w b s=0:=by
 unfold Go.Proofs.YtkblonfmjlopaaaGreatDoor.zt;rw[h.c3];exact if_neg d
def LU(w w':World)(e:Ending)(r:Except (Nat×Nat) (List Tok)):Prop:=
 Below w.heap.size w w'/\
 match r with
 |.ok ts=>∃ la lc,e=.returned (.tuple #[.slice la ts.length lc,.agg o5])/\iR w' la ts.length lc ts/\dh w' w.heap.size la (lc*7)
 |.error (c,q)=>e=.returned (.tuple #[.slice none 0 0,.agg (jj c q)])
def TR(F:List UInt8->Nat)(w:World)(b:Nat)(s:ByteArray)(base:Nat)(R:Except (Nat×Nat) (List Tok))(wr:World):Prop:=
 Below base w wr/\((∃ k ts,St wr b s k ts base/\k<=s.size/\Hid (kF (nG F s) F s ts (some k)=R))\/
  ∃ p la ln lc c q,Sc wr b s p la ln lc (c:Nat) (q:Nat)/\c≠0/\Hid (R=.error (c,q)))
theorem MB{w':World}(g:i<=s.size)
 (a:match fj s 0 i with
   |some q=>St w' b s q ts base/\q<=s.size
   |none=>∃ p d f e,Sc w' b s p d f e 31 (s.size:Nat)):Go.Proofs.YtkblonfmjlopaaaGreatDoor.zt w' b s<=s.size-i+1:=by
 rcases c:fj s 0 i with _|k
 ·rw[c] at a;obtain⟨p,d,f,e,h⟩:=a;rw[h.zt O];omega
 ·rw[c] at a;have:=mC c g;rw[a.1.zt];omega
theorem iR.other{a:Option Addr}(h:iR w a n c ts){p:Addr}{v:Value}(m:w.cell? p=some v)(q:∀ x,v≠.int .u32 x)(f:∀ x b,a=some ⟨x,b,none⟩->p.block≠x)(y:Value):iR (w.setCell p y) a n c ts:=by
 obtain⟨k,A,e,z,r⟩:=h;refine⟨k,⟨A.le,A.mx,fun j l=>?_⟩,e,z,fun i t o=>(r i t o).a6 ((e6.refl w).set m q y)⟩;obtain⟨x,b,d,g⟩:=A.cell j l;refine⟨x,b,d,?_⟩;have:=f x b d;rw[eb _ _ _ _ (by intro h;apply this;rw[h])];exact g
theorem xH{W w':World}{R:Except (Nat×Nat) (List Tok)}(g:Below base W w')(h:Hid (kF (nG F s) F s ts (fj s 0 i)=R))
 (a:match fj s 0 i with
   |some q=>St w' b s q ts base/\q<=s.size
   |none=>∃ p c e d,Sc w' b s p c e d 31 (s.size:Nat)):TR F W b s base R w':=by
 refine⟨g,?_⟩;have h:=h.out
 rcases f:fj s 0 i with _|k
 ·rw[f] at h a;obtain⟨p,c,e,d,j⟩:=a;exact .inr ⟨p,c,e,d,31,s.size,j,bh,U h.symm⟩
 ·rw[f] at h a;exact .inl ⟨k,ts,a.1,a.2,U h⟩
theorem iR.nil(w:World):iR w none 0 0 []:=⟨fun _=>.bool false,⟨aw _,hU _,fun j a=>O⟩,rfl,fun j _ a=>O,fun i t h=>by simp at h⟩
theorem Sc.made(w:World)(s:ByteArray):Sc (w.alloc (Cc s)) w.heap.size s 0 none 0 0 0 0:=
 ⟨ar,by rw[jl];rfl,by rw[jl];rfl,by rw[jl];rfl,by rw[jl];rfl,by rw[jl];rfl,fun o=>by simp[World.frozen?_alloc_new]⟩
theorem AS(F:List UInt8->Nat)(s:ByteArray)(m:Int)(w:World)(bD:3<w.heap.size)(bI:w.cell? ⟨3,0,none⟩=some (.int .i64 m))(aV:Fh F w.heap.size w s):
 Calls Tryz.prog 9 #[.string s] w fun e w'=>LU w w' e (j6 F s):=by
 obtain⟨R,P⟩:∃ R,Hid (j6 F s=R):=⟨_,U rfl⟩;rw[P.out]
 by_cases f:65536<s.size
 ·have aM:(65536:Int)<(s.size:Int):=O
  have h:=P.out;unfold j6 at h;rw[if_pos f] at h;subst h;go_enter Tryz.func9,Tryz.ntmps9
  go_wp2
  refine bodyPost_ret (v:=.tuple #[.slice none 0 0,.agg #[.int .i64 2,.int .i64 0]]) (by simp[results,Tryz.results9,go_sem,World.cell?_alloc_new]) rfl ⟨ab w _,rfl⟩
 have W:s.size<=65536:=O
 have aM:¬(65536:Int)<(s.size:Int):=O
 have aU:Hid (kF (nG F s) F s [] (fj s 0 0)=R):=U (by
  have h:=P.out;unfold j6 at h;rw[if_neg f] at h
  rw[<-h,<-j8 (Nat.zero_le _)];rfl)
 clear f P;have aT:=U aV;clear aV;go_enter Tryz.func9,Tryz.ntmps9
 go_wp2_with fail
 have aC:=Sc.made (w.alloc ml) s;have bC:(w.alloc ml).heap.size=w.heap.size+1:=ar
 rw[bC] at aC;have y:Below w.heap.size w ((w.alloc ml).alloc (Cc s)):=(ab w _).trans ((ab _ _).mono ar);have Y:=(Bx.made w (.int .i64 0) (.int .i64 0) 26).a6 (ab _ (Cc s));have g:St ((w.alloc ml).alloc (Cc s)) (w.heap.size+1) s 0 [] (w.heap.size+1):=⟨none,0,aC,iR.nil _,dh.nil _ _ _,aw _,(fun x A e=>by cases e),aw _⟩
 have aA:Hid (∀ r,Below (w.heap.size+1) ((w.alloc ml).alloc (Cc s)) r->r.cell? ⟨3,0,none⟩=some (.int .i64 m)):=U (fun r aO=>by
  have z:=aO.cell (p:=⟨3,0,none⟩) (by simp only;omega);have H:=y.cell (p:=⟨3,0,none⟩) (by simp only;omega)
  exact(z.trans H).trans bI)
 have G:Hid (∀ r,Below (w.heap.size+1) ((w.alloc ml).alloc (Cc s)) r->Fh F (w.heap.size+1) r s):=U (fun r aO i bE z H bQ bL=>aT.out i bE z H bQ (y.trans ((aO.trans bL).mono (h5 _))));generalize (w.alloc ml).alloc (Cc s)=aD at y Y g aA G⊢;clear aC aT;have Z:=U y;clear y;have bF:w.heap.size+1<aD.heap.size:=by obtain⟨_,_,z,_⟩:=g;exact z.lt
 refine(s7 (w.heap.size+1) s 0 [] (w.heap.size+1) _ W (hU _) g).mono ?_;intro e bN d;obtain⟨rfl,b,_,d⟩:=d;have aX:TR F aD (w.heap.size+1) s (w.heap.size+1) R bN:=xH b aU d;have bR:=xl Y b O;clear d g aU
 go_wp2_with fail
 go_loopw [] (fun wr=>TR F aD (w.heap.size+1) s (w.heap.size+1) R wr) (fun wr=>zt wr (w.heap.size+1) s)
 case atStart=>exact aX
 case round=>
  obtain⟨b,hrel⟩:=hrel;have E:=xl Y b O;have aF:=E.c0;have aG:=E.c1;have bU:=E.fr;have B:Below w.heap.size w wr:=Z.trans (b.mono (h5 _));have aW:=b.size
  rcases hrel with⟨k,ts,g,bY,I⟩|⟨p,N,bZ,X,c,q,M,J,I⟩
  rotate_left 1
  ·have c3:=M.c3;have c4:=M.c4;have bT:¬(c:Int)=0:=O
   have bS:((c:Int)==0)=false:=b1
   go_wp2_with fail
   refine b3 (S:=fun r=>r.cell? ⟨w.heap.size+1,3,none⟩=some (.int .i64 (c:Nat))/\r.cell? ⟨w.heap.size+1,4,none⟩=some (.int .i64 (q:Nat))) (T:=fun j=>j==5) aq ?_;have a:=b4 c3 c4;refine tq 0 a ?_;refine tq 1 a ?_;refine tq 2 a ?_;refine tq 3 a ?_;refine tq 4 a ?_;refine cw 5 fun K hK=>?_;go_simp;refine oZ hK ?_;clear hK K;refine bj aq ?_ _
   go_wp2_with fail
   refine bodyPost_ret (v:=.tuple #[.slice none 0 0,.agg (jj c q)]) (by simp[results,Tryz.results9,go_sem,aF,aG]) rfl ?_;rw[I.out];exact⟨((B.drew).setCell (aw _) _).setCell (aw _) _,rfl⟩
  have o:=g;obtain⟨N,X,z,H,aJ,bV,aK,bX⟩:=g;have c1:=z.c1;have c2:=z.c2;have c3:=z.c3;have c4:=z.c4
  by_cases C:s.size<=k
  ·have bK:¬(k:Int)<(s.size:Int):=O
   have bJ:decide ((k:Int)<(s.size:Int))=false:=by rw[decide_eq_false_iff_not];omega
   have l:R=.ok ts:=by
    have h:=I.out;unfold kF at h;simp only at h;rw[if_pos C] at h;exact h.symm
   have u:=U l;have aL:=U (b4 H (b4 aJ aK));clear l H aJ aK
   go_wp2_with fail
   refine b3 (S:=fun r=>r.cell? ⟨w.heap.size+1,2,none⟩=some (.slice N ts.length X)/\r.cell? ⟨w.heap.size+1,3,none⟩=some (.int .i64 0)/\r.cell? ⟨w.heap.size+1,4,none⟩=some (.int .i64 0)) (T:=fun j=>j==9) aq ?_;have a:=b4 c2 (b4 c3 c4);refine tq 0 a ?_;refine tq 1 a ?_;refine tq 2 a ?_;refine tq 3 a ?_;refine tq 4 a ?_;refine tq 5 a ?_;refine tq 6 a ?_;refine tq 7 a ?_;refine tq 8 a ?_;refine cw 9 fun K hK=>?_;go_simp;refine oZ hK ?_;clear hK K;refine bj aq ?_ _
   go_wp2_with fail
   refine bodyPost_ret (v:=.tuple #[.slice N ts.length X,.agg o5]) (by simp[results,Tryz.results9,go_sem,aF,aG]) rfl ?_;rw[u.out];obtain⟨aZ,b6,bA⟩:=aL.out;have aI:=aZ.below (w':=wr.drew) ⟨rfl,rfl,rfl,aw _,fun _ _=>rfl⟩;have L:∀ x A,N=some ⟨x,A,none⟩->w.heap.size≠x:=fun x A e=>ba ((bA x A e).1)
   have aH:(wr.drew.setCell ⟨w.heap.size,0,none⟩ (.int .i64 0)).cell? ⟨w.heap.size,1,none⟩=some (.int .i64 0):=by rw[eb _ _ _ _ ih];simpa using aG
   refine⟨((B.drew).setCell (aw _) _).setCell (aw _) _,N,X,rfl,(aI.other (by simpa using aF) (fun _ h=>by cases h) L _).other aH (fun _ h=>by cases h) L _,?_⟩;exact(((dh.drew b6).set _ _).set _ _).mono (h5 _)
  have bH:(k:Int)<(s.size:Int):=O
  have bG:decide ((k:Int)<(s.size:Int))=true:=by rw[decide_eq_true_eq];omega
  have l:=I.out;unfold kF at l;simp only at l;rw[if_neg C] at l;clear H aJ aK I
  rcases D:gJ F s k with⟨c,q⟩|⟨t,n⟩
  ·rw[D] at l;simp only at l;have J:=AR D;have aB:=U D;have u:=U l;clear D l
   go_wp2_with (first|(go_at_call 18;refine(xm F _ s k ts _ m wr W O o O O (aA.out wr b) (G.out wr b)).mono ?_;intro e bO d;rw[aB.out] at d;obtain⟨rfl,aE,_,bM,aP,aR,aQ,d⟩:=d)|(go_at_call 17;refine(za _ _ _ _ _ _ _ _ _ d O).mono ?_;rintro e bP ⟨rfl,rfl⟩))
   refine⟨⟨b.trans aE,.inr ⟨bM,aP,aR,aQ,c,q,d,J,U u.symm⟩⟩,?_⟩;rw[o.zt,d.zt O];omega
  ·rw[D] at l;simp only at l;have aN:=j7 D O;have aB:=U D;have u:Hid (kF (nG F s) F s (ts++[t]) (fj s 0 n)=R):=U (by rw[<-j8 aN.2];exact l);clear D l
   go_wp2_with (first|(go_at_call 18;refine(xm F _ s k ts _ m wr W O o O O (aA.out wr b) (G.out wr b)).mono ?_;intro e bO d;rw[aB.out] at d;obtain⟨rfl,aE,_,d⟩:=d)|(go_at_call 17;refine(s7 _ _ _ _ _ _ W aN.2 d).mono ?_;intro e bP Q;obtain⟨rfl,aY,_,Q⟩:=Q))
   refine⟨xH ((b.trans aE).trans aY) u Q,?_⟩;have:=MB aN.2 Q;rw[o.zt];omega
section
open Go
def cq(D:Nat->Nat):Nat->Nat
 |0=>0
 |m+1=>10*cq D m+(D m-48)
def ir(D:Nat->Nat)(n:Nat):Prop:=∀ i,i<n->48<=D i/\D i<=57
theorem jt{D:Nat->Nat}{a:Nat}:∀ {j:Nat},ir D (a+j)->cq D a*10^j<=cq D (a+j)/\cq D (a+j)<(cq D a+1)*10^j
 |0,_=>ar
 |j+1,h=>by
  obtain⟨d,e⟩:=jt (j:=j) (a:=a) (fun i g=>h i O);have f:=h (a+j) O;rw[show a+(j+1)=(a+j)+1 from O,cq,qu];generalize cq D (a+j)=x at*;generalize k:10^j=p at*;have b:cq D a*(p*10)=10*(cq D a*p):=by rw[<-kP,kj]
  have c:(cq D a+1)*(p*10)=10*((cq D a+1)*p):=by rw[<-kP,kj]
  rw[b,c];omega
theorem oG{D E:Nat->Nat}:∀ {m:Nat},(∀ i,i<m->D i=E i)->cq D m=cq E m
 |0,_=>rfl
 |m+1,h=>by rw[cq,cq,oG (fun i a=>h i O),h m O]
theorem Is{x y X Y r:Nat}(d:0<q)(e:0<r)(a:X<(x+1)*p)(b:y*q<=Y)(c:x+1<=y):X*(r*q)<Y*(r*p):=by
 have g:X*q<(x+1)*p*q:=Ab a d
 have h:(x+1)*p*q<=y*q*p:=by
  rw[kP,kj p q,<-kP];exact jX _ (jX _ c)
 have i:y*q*p<=Y*p:=jX _ b;have f:X*q<Y*p:=O
 calc X*(r*q)=r*(X*q):=by rw[Nat.mul_left_comm]
  _<r*(Y*p):=Hf f e
  _=Y*(r*p):=by rw[Nat.mul_left_comm]
def ju(D:Nat->Nat)(nd:Nat)(C:Nat->Nat):Nat->Nat->Bool
 |0,_=>false
 |m+1,i=>if nd<=i then true else if D i≠C i then decide (D i<C i) else ju D nd C m (i+1)
theorem tn{D C:Nat->Nat}{b L:Nat}(p:ir D b)(n:ir C L)(v:0<L->C (L-1)≠48):∀ (m i:Nat),m+i=L->i<=b->(∀ j,j<i->D j=C j)->
 (ju D b C m i=true->cq D b*10^L<cq C L*10^b)/\(ju D b C m i=false->cq C L*10^b<=cq D b*10^L)
 |0,i,hm,hi,o=>by
  refine⟨fun h=>by simp[ju] at h,fun _=>?_⟩;have s:i=L:=O
  subst s;obtain⟨j,rfl⟩:∃ j,b=i+j:=⟨b-i,O⟩;have w:=(jt (a:=i) (j:=j) p).1;rw[oG o] at w;rw[rh]
  calc cq C i*(10^i*10^j)=(cq C i*10^j)*10^i:=by rw[kj (10^i),kP]
   _<=_:=jX _ w
 |m+1,i,hm,hi,o=>by
  rw[ju];obtain⟨l,t⟩:∃ l,L=i+1+l:=⟨m,O⟩
  by_cases c:b<=i
  ·rw[if_pos c];refine⟨fun _=>?_,fun h=>by cases h⟩;have B:b=i:=O
   subst B;have r:=oG o;have d:L=b+(l+1):=O
   have x:=(jt (a:=b) (j:=l+1) (d▸n)).1;rw[<-d] at x
   have I:cq C b*10^(l+1)≠cq C L:=by
    intro e;have u:=v O;have J:=n (L-1) O
    have:cq C L=10*cq C (L-1)+(C (L-1)-48):=by
     conv=>lhs;rw[show L=(L-1)+1 from O]
     rw[cq]
    rw[this,qu,<-kP] at e;omega
   have y:cq C b*10^(l+1)<cq C L:=O
   rw[r,d,rh,<-d,kj (10^b),<-kP];exact Ab y (je O)
  ·rw[if_neg c]
   by_cases c2:D i≠C i
   ·rw[if_pos c2];obtain⟨j,q⟩:∃ j,b=i+1+j:=⟨b-i-1,O⟩;have g:=jt (a:=i+1) (j:=j) (q▸p);have f:=jt (a:=i+1) (j:=l) (t▸n);rw[<-q] at g;rw[<-t] at f;have r:=oG o;have A:=p i O;have z:=n i O;have G:cq D (i+1)=10*cq C i+(D i-48):=by rw[cq,r]
    have H:cq C (i+1)=10*cq C i+(C i-48):=rfl;have E:10^L=10^(i+1)*10^l:=by rw[t,rh]
    have F:10^b=10^(i+1)*10^j:=by rw[q,rh]
    rw[E,F]
    rcases gr (D i) (C i) with k|k
    ·refine⟨fun _=>?_,fun h=>by simp at h;omega⟩;exact Is (je O) (je O) g.2 f.1 O
    ·refine⟨fun h=>by simp at h;omega,fun _=>?_⟩;exact Nat.le_of_lt (Is (je O) (je O) f.2 g.1 O)
   ·rw[if_neg c2];refine tn p n v m (i+1) O O (fun j q=>?_)
    rcases gr j i with k|k
    ·exact o j k
    ·have:j=i:=O
     subst this;simpa using c2
def jZ(D:Nat->Nat)(nd k:Nat):Nat->Nat
 |0=>0
 |j+1=>((D (nd-1-j)-48)*2^k+jZ D nd k j)/10
theorem su{D:Nat->Nat}{a k:Nat}(b:ir D a):∀ {j:Nat},j<=a->∃ W,cq D a=cq D (a-j)*10^j+W/\W<10^j/\jZ D a k j=W*2^k/10^j
 |0,_=>⟨0,ar,ar,by simp[jZ]⟩
 |j+1,h=>by
  obtain⟨W,c,f,d⟩:=su b (k:=k) (j:=j) O;have g:=b (a-1-j) O;have e:a-j=(a-1-j)+1:=O
  refine⟨(D (a-1-j)-48)*10^j+W,?_,?_,?_⟩
  ·rw[c,e,cq,show a-(j+1)=a-1-j from O,qu,uL];generalize cq D (a-1-j)=x;generalize 10^j=p;rw[show x*(p*10)=10*x*p by rw[kj p,<-kP,kj x]];omega
  ·rw[qu];generalize 10^j=p at*;have:(D (a-1-j)-48)*p<=9*p:=jX _ O;omega
  ·rw[jZ,d,qu,<-Nat.div_div_eq_div_mul]
   congr 1
   rw[uL,Ee,ra (_*2^k*10^j),Nat.add_mul_div_right _ _ (je O),ra]
theorem Ez{D:Nat->Nat}{a j:Nat}(d:ir D a)(h:j<=a):jZ D a k j<2^k:=by
 obtain⟨W,_,b,c⟩:=su d (k:=k) h;rw[c];exact sY (Ab b (je O))
structure pv(k d L:Nat)(C:Nat->Nat):Prop where
 Nz:ir C L
 val:cq C L=5^k
 last:0<L->C (L-1)≠48
 len:d+L=k+1
 pos:0<L
 lo:10^(L-1)<5^k
 hi:5^k<10^L
theorem pv.zb(h:pv k d L C):0<d:=by
 rcases Ef d with e|e
 ·have:=h.len;have a:=h.lo;rw[show L-1=k from O] at a;have:5^k<=10^k:=Nat.pow_le_pow_left O k;omega
 ·exact e
theorem pv.two(h:pv k d L C):2^k<10^d/\10^(d-1)<2^k:=by
 have j:=h.zb;have f:(10:Nat)^k=2^k*5^k:=by rw[<-Nat.mul_pow]
 have i:=h.len
 constructor
 ·have e:(10:Nat)^k=10^d*10^(L-1):=by rw[<-rh];congr 1;have:=h.pos;omega
  have b:=h.lo
  rcases gr (2^k) (10^d) with c|c
  ·exact c
  ·have g:10^d*10^(L-1)<2^k*5^k:=gi (Hf b (je O)) (jX _ c);omega
 ·have e:(10:Nat)^k=10^(d-1)*10^L:=by rw[<-rh];congr 1;omega
  have a:=h.hi
  rcases gr (10^(d-1)) (2^k) with c|c
  ·exact c
  ·have g:2^k*5^k<10^(d-1)*10^L:=gi (Hf a (je O)) (jX _ c);omega
theorem CS{D:Nat->Nat}{b:Nat}(i:ir D b)(z:0<b)(A:D 0≠48)(h:pv k d L C):
 (ju D b C L 0=true->jZ D b k b<10^(d-1)/\(1<d->10^(d-2)<=jZ D b k b))/\
 (ju D b C L 0=false->jZ D b k b<10^d/\10^(d-1)<=jZ D b k b):=by
 obtain⟨W,l,t,u⟩:=su i (k:=k) (j:=b) (aw _);rw[qt,cq,uN,gW] at l;have m:=tn i h.Nz h.last L 0 O O (fun j B=>O);rw[h.val,l] at m;have f:(10:Nat)^k=2^k*5^k:=by rw[<-Nat.mul_pow]
 have E:=h.zb;have y:=h.len;have e:(10:Nat)^k=10^(d-1)*10^L:=by rw[<-rh];congr 1;omega
 have v:0<(10:Nat)^L:=je O;have o:0<(10:Nat)^b:=je O;rw[u];refine⟨fun q=>?_,fun q=>?_⟩
 ·have n:=m.1 q;refine⟨sY ?_,fun x=>(Nat.le_div_iff_mul_le o).2 ?_⟩
  ·refine Nat.lt_of_mul_lt_mul_right (a:=10^L) ?_
   calc W*2^k*10^L=W*10^L*2^k:=by rw[Ee]
    _<5^k*10^b*2^k:=Ab n (je O)
    _=10^b*(2^k*5^k):=by rw[kj (2^k),<-kP,kj (10^b)]
    _=10^b*10^(d-1)*10^L:=by rw[<-f,e,kP]
  ·have g:=(jt (D:=D) (a:=1) (j:=b-1) (by rw[show 1+(b-1)=b from O];exact i)).1;rw[show 1+(b-1)=b from O,l] at g;have w:=i 0 z;have p:1<=cq D 1:=by simp[cq];omega
   have r:10^(b-1)<=W:=fy (ba (jX (10^(b-1)) p)) g;have s:=h.two.2
   calc 10^(d-2)*10^b=10^(b-1)*10^(d-1):=by rw[<-rh,<-rh];congr 1;omega
    _<=W*2^k:=Nat.mul_le_mul r (Nat.le_of_lt s)
 ·have n:=m.2 q;refine⟨sY ?_,(Nat.le_div_iff_mul_le o).2 ?_⟩
  ·exact gi (Ab t (je O)) (Nat.mul_le_mul_left _ (Nat.le_of_lt h.two.1))
  ·refine Nat.le_of_mul_le_mul_right (c:=10^L) ?_ v
   calc 10^(d-1)*10^b*10^L=10^b*(2^k*5^k):=by rw[<-f,e,kj (10^(d-1)),kP]
    _=5^k*10^b*2^k:=by rw[kj (2^k),<-kP,kj (10^b)]
    _<=W*10^L*2^k:=jX _ n
    _=W*2^k*10^L:=by rw[Ee]
end
end Go.Proofs.YtkblonfmjlopaaaGreatDoor
