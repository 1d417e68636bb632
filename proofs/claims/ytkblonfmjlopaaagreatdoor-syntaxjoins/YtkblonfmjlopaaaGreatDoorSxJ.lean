/-
  patApp, walked.
-/
import Derived.Test.YtkblonfmjlopaaaGreatDoorSxS3
set_option linter.all false
set_option maxRecDepth 1000000
set_option maxHeartbeats 16000000
namespace Go.Proofs.YtkblonfmjlopaaaGreatDoor
open Go Go.RowKit
variable {t:al}{R c:al->Prop}
theorem F8{w:World}{F:Nat->Prop}{f:Nd}{j:Int}{g:ByteArray}{r:List Value}(h:ah w F f (.int .i64 j::.string g::r)):∃ t q,f=t::.v (.string g)::q:=by
 cases f with
 |nil=>have:=h.nl;cases this
 |cons t q=>
  cases t with
  |kN z=>obtain⟨i,a,n,c,b,e,_⟩:=h.bg;cases e
  |sl es=>obtain⟨a,c,b,e,_⟩:=h.ls;cases e
  |v x=>
   obtain⟨b,e,d⟩:=h.v
   cases e
   cases q with
   |nil=>have:=d.nl;cases this
   |cons t2 k=>
    cases t2 with
    |kN z=>obtain⟨i,a,n,c,b,e,_⟩:=d.bg;cases e
    |sl es=>obtain⟨a,c,b,e,_⟩:=d.ls;cases e
    |v y=>
     obtain⟨b,e,_⟩:=d.v
     cases e
     exact⟨_,_,rfl⟩
theorem F9{w:World}{F:Nat->Prop}{d:Nd}{c:List Value}(h:n9 cy 9 d c)(g:ah w F d c):∃ b t q,cellAt c.toArray 1=.string b/\d=t::.v (.string b)::q:=by
 obtain⟨i,b,_,_,_,_,_,_,_,_,_,_,_,_,_,_,_,e,f⟩:=h.back w F g
 obtain rfl:=congrArg (fun v:Value=>match v with|.agg a=>a.toList|_=>[]) e
 obtain⟨t,q,rfl⟩:=F8 f;exact⟨b,t,q,rfl,rfl⟩
def rH(t:Tok):Bool:=t.kind==1||t.kind==2||(t.kind==8&&t.text==[111,112])
theorem vO{p:Prop}(h:p:=by
 go_wp2_with (go_at_call 107;refine(mP hG oO HA).mono ?_;rintro e b ⟨rfl,a⟩)
 go_meet
 case rel=>exact⟨by rw[HC.out];simp[*],a⟩):p:=h
theorem EO{p:Prop}(h:p:=by
 go_wp2_with fail
 go_meet
 case rel=>exact⟨by rw[HC.out];simp[*],oO⟩):p:=h
section
variable {G:Gh} {f:Fs} {n:Nat}
set_option maxRecDepth 100000
set_option maxHeartbeats 16000000
theorem AL(hG:ei G)(J:FN G 108 #[.pointer (some ⟨G.bp,0,none⟩)] cy (fp G.X f n)):FN G 99 #[.pointer (some ⟨G.bp,0,none⟩)] cy (jg G.X f n):=by
 intro M aY aZ aU fc w s r aF c
 have aC:=Bd.start aF
 unfold jg at c;simp only [] at c;have m:=U c;clear aF c
 go_enter Tryz.func99,Tryz.ntmps99
 go_upto_region 1 with fail
 have g:=U (aC.box #[.int .i64 0,.string ⟨#[]⟩,.bool false,.slice none 0 0,.int .i64 0,.string ⟨#[]⟩,.slice none 0 0,.slice none 0 0,.slice none 0 0] 82)
 obtain⟨aB,L⟩:∃ aB,w.heap.size=aB:=⟨_,rfl⟩
 generalize w.alloc _=bJ at g⊢;rw[L] at g⊢;clear L aC
 go_upto_region 2 with(go_at_call 63;refine(e' hG g).mono ?_;rintro e aJ ⟨bD,aL,b6,aP,rfl,_,aD⟩)
 obtain⟨aI,bA,aG,bN,bC,P⟩:=aD.tok (V G.X s) bD aL b6 aP 75
 generalize aJ.heap.size=bG at P⊢;generalize aJ.alloc _=bK at P⊢;clear aD g
 have bP:aI≠#[]:=fun e=>by subst e;simp at bC
 go_wp2_with (first
  |(go_at_call 108;refine(FN.bo J cy.ok (jq:sA cy 9) P m).mono ?_;rintro e bH (⟨aO,q,rfl,rfl,Z⟩|⟨x,aH,Y,rfl,k,l,I⟩);(·unfold az;go_simp;exact⟨rfl,Z,rfl⟩))
  |(refine IJ (z:=xU) I k O aq rfl ?_))
 intro W oO;generalize bH.heap.size=aK at oO⊢;clear I m P
 obtain⟨aE,B⟩:∃ b,du G.X aH=b:=⟨_,rfl⟩
 have HA:=U B;have D:=l.out;rw[get_bind,B] at D;have m:=U D;clear B D l
 have bE:=oO.c 1 0 rfl O bA
 go_upto_region 3 with fail
 go_cut [30] from 5 (fun aM bI=>aM=.bool (rH (V G.X s)&&aE)/\Hid (Bd G M aY aZ aU fc w s [] [(aK,Y.toArray),(bG,aI),(aB,#[.int .i64 0,.string ⟨#[]⟩,.bool false,.slice none 0 0,.int .i64 0,.string ⟨#[]⟩,.slice none 0 0,.slice none 0 0,.slice none 0 0])] [(x,Y)] bI aH))
 case first=>
  clear m
  by_cases E:(V G.X s).kind=1
  ·have aQ:(((V G.X s).kind:Nat):Int)=1:=O
   have HC:=U (show rH (V G.X s)=true by unfold rH;rw[E];rfl);clear E;exact vO
  have aQ:¬(((V G.X s).kind:Nat):Int)=1:=O
  by_cases F:(V G.X s).kind=2
  ·have aR:(((V G.X s).kind:Nat):Int)=2:=O
   have HC:=U (show rH (V G.X s)=true by unfold rH;rw[F];rfl);clear E F;exact vO
  have aR:¬(((V G.X s).kind:Nat):Int)=2:=O
  by_cases H:(V G.X s).kind=8
  ·have aT:(((V G.X s).kind:Nat):Int)=8:=O
   by_cases N:(V G.X s).text=[111,112]
   ·have HC:=U (show rH (V G.X s)=true by unfold rH;rw[H,N];rfl)
    have bF:=oO.c 1 1 (v:=.string ⟨#[111,112]⟩) rfl O (by rw[aG,N]);clear E F H N;exact vO
   ·have HC:=U (show rH (V G.X s)=false by unfold rH;rw[H];simp[N])
    have bF:=oO.c 1 1 rfl O aG
    have aX:¬(V G.X s).text.toArray=#[111,112]:=fun e=>N (by have:=congrArg Array.toList e;simpa using this);clear E F H;exact EO
  ·have aT:¬(((V G.X s).kind:Nat):Int)=8:=O
   have HC:=U (show rH (V G.X s)=false by unfold rH;simp[E,F,H]);clear E F H;exact EO
 case rest=>
 rename World=>W3
 obtain⟨rfl,d⟩:=hcut;clear bE oO
 obtain⟨aN,a⟩:∃ b,(rH (V G.X s)&&aE)=b:=⟨_,rfl⟩
 rw[a]
 cases aN with
 |true=>
  obtain⟨Q,bR,bO,C,rfl⟩:=F9 k (d.t 0)
  have c:=m.out;rw[if_pos (by have a:=a;unfold rH at a;simp only[Bool.and_eq_true,Bool.or_eq_true,beq_iff_eq] at a;exact⟨by rcases a.1 with(q|q)|q;exact .inl q;exact .inr (.inl q);exact .inr (.inr q),a.2⟩)] at c
  have l:=U c;clear c m a
  go_upto_region 4 with fail
  refine b3 (S:=fun v=>v.cell? ⟨aK,1,none⟩=some (.string Q)) (T:=fun j=>j==6) aq ?_
  have o:=U d.drew;generalize W3.drew=bS at o⊢;clear d
  have aA:1<Y.toArray.size:=by rw[lZ,k.len];omega
  have A:=o.c 0 1 rfl aA C
  refine tq 0 A ?_;refine tq 1 A ?_;refine tq 2 A ?_
  refine cw 3 fun K hK=>?_;go_simp
  refine(FN.bo J cy.ok (jq:sA cy 9) o l).mono ?_;rintro e bV (⟨aO,q,rfl,rfl,Z⟩|⟨y,bQ,bL,rfl,R,X,i⟩)
  ·unfold az;go_simp;exact⟨rfl,Z,rfl⟩
  cases aj X
  refine nx hK (i.c 0 1 rfl aA C) ?_;clear hK K A
  refine cw 4 fun K hK=>?_;rw[if_pos (by rfl)]
  refine i.MJ (i.t 0) Tryz.underlying34 Tryz.oJ (fun bM bT p=>?_) R.len
  have A:=p.c 0 1 rfl aA C
  refine nx hK A ?_;clear hK K i
  refine tq 5 A ?_
  refine p.sv 6 2 (gL (name:=Q.data.toList) cv aa (p.t 0).hd aa:ah _ _ (c_ 6 Q.data.toList 0 0 [] [] [y] []) _) fun bU t=>?_
  refine bj aq ?_ _
  go_wp2_with fail
  exact oI (t.bx _ (.tail _ (.tail _ (.head _)))) (t.res cy.ok ((rF:n9 cy 9 (c_ 6 Q.data.toList 0 0 [] [] [y] []) _).back _ _ (t.t 0)))
 |false=>
  have c:=m.out;rw[if_neg (by have a:=a;unfold rH at a;rintro⟨aV,aW⟩;rw[aW] at a;simp at a;rcases aV with h|h|h<;>simp[h] at a)] at c
  cases aj c;clear c m a
  go_wp2_with (first
   |(refine zl (d.bx _ (.head _) (k.nn O)) k aq ?_)
   |(refine rD 2 d k rfl O aq ?_))
  intro W u
  go_wp2_with fail
  exact oI (u.bx _ (.tail _ (.tail _ (.head _))) (k.nn O)) (u.res cy.ok (k.back _ _ (u.t 0))) (hi:=by rw[lZ,k.len];kernel_rfl)
end
section
open Go
def Lv(sc:List Fx):Prop:=∀ f∈sc,f.level<1000
def Fu{α:Type}(X:Tx)(lo:Nat)(x:PM α)(s:al):Prop:=Lv s.sc->x s≠none/\∀ a s',x s=some (.ok (a,s'))->s.i+lo<=s'.i/\s'.i<=X.ts.length/\Lv s'.sc
class FC{α:Type}(X:Tx)(R:outParam (al->Prop))(lo:outParam Nat)(x:PM α):Prop where
 fu:∀ s,s.i<=X.ts.length->R s->Fu X lo x s
section
variable {X:Tx} {α β σ:Type} {lo l1 l2:Nat} {s:al}
theorem NR{x:PM α}(h:Fu X l1 x s)(c:lo<=l1):Fu X lo x s:=fun L=>⟨(h L).1,fun a b e=>⟨ba (((h L).2 a b e).1),((h L).2 a b e).2⟩⟩
theorem mQ{x:PM α}{f:α->PM β}(h:Fu X l1 x s)(k:∀ a c,x s=some (.ok (a,c))->s.i+l1<=c.i->c.i<=X.ts.length->Fu X (lo-l1) (f a) c):Fu X lo (x>>=f) s:=by
 intro L;show(PM.bind x f) s≠none/\∀ a c,(PM.bind x f) s=some (.ok (a,c))->_;unfold PM.bind;obtain⟨i,j⟩:=h L
 rcases d:x s with _|e|⟨a,c⟩
 ·exact absurd d i
 ·exact⟨fun h=>(by cases h),fun a c h=>by cases h⟩
 ·have:=j a c d;have g:=k a c d this.1 this.2.1 this.2.2;refine⟨g.1,fun b l e=>?_⟩;have:=g.2 b l e;exact⟨O,this.2⟩
theorem jO{x:PM α}{a:α}{s':al}(e:x s=some (.ok (a,s')))(d:s.i+lo<=s'.i)(f:s'.i<=X.ts.length)(g:s'.sc=s.sc):Fu X lo x s:=fun L=>⟨by rw[e];exact fun h=>(by cases h),fun b t c=>by rw[e] at c;cases c;exact⟨d,f,by rw[g];exact L⟩⟩
theorem uw{x:PM α}{e:Nat×Nat}(h:x s=some (.error e)):Fu X lo x s:=fun _=>⟨by rw[h];exact fun h=>(by cases h),fun b t a=>by rw[h] at a;cases a⟩
theorem zv{a:α}(h:s.i<=X.ts.length)(b:lo=0):Fu X lo (pure a) s:=jO rfl O h rfl
theorem od:Fu X lo (eo X:PM α) s:=uw rfl
theorem nO{x y:PM α}{s1:al}(h:Fu X l1 y s1)(e:x s=y s1)(d:s.i+lo<=s1.i+l1)(b:s1.sc=s.sc):Fu X lo x s:=fun L=>by
 have:=h (by rw[b];exact L);rw[e];exact⟨this.1,fun a c e=>⟨ba ((this.2 a c e).1),(this.2 a c e).2⟩⟩
theorem rJ{c:Prop}[Decidable c]{x y:PM α}(a:c->Fu X lo x s)(b:¬c->Fu X lo y s):Fu X lo (if c then x else y) s:=by
 split
 ·exact a ‹_›
 ·exact b ‹_›
theorem Dd{w:ak}{A B:PM α}(f:∀ c:al,c.i=s.i+1->c.i<=X.ts.length->Fu X (lo-1) A c)(g:Fu X lo B s):Fu X lo (a7 X w>>=fun o=>if o=true then A else B) s:=by
 intro L;show(PM.bind (a7 X w) _) s≠none/\∀ a b,(PM.bind (a7 X w) _) s=some (.ok (a,b))->_;unfold PM.bind
 rcases rK (X:=X) w s with⟨h,j⟩|h
 ·rw[h];simp only [if_true];have:=f {s with i:=s.i+1} rfl j L;exact⟨this.1,fun a b e=>⟨by have d:=(this.2 a b e).1;have k:s.i+1+(lo-1)<=b.i:=d;omega,(this.2 a b e).2⟩⟩
 ·rw[h];simp only [Bool.false_eq_true,if_false];exact g L
theorem KK{b:al}{sc:List Fx}{y:PM β}(L:Lv sc)(h:Fu X lo y ⟨b.i,sc⟩):Fu X lo (PM.set {b with sc:=sc}>>=fun _=>y) b:=fun _=>by
 have:=h L;exact⟨this.1,fun a c e=>this.2 a c e⟩
theorem KL{f:al->PM β}(a:s.i<=X.ts.length)(h:Lv s.sc->Fu X lo (f s) s):Fu X lo (PM.get>>=f) s:=fun L=>h L L
theorem IL{l:List ak}{A B:PM α}(a:s.i<X.ts.length->Fu X lo A s)(b:Fu X lo B s):Fu X lo (iE X l>>=fun o=>if o=true then A else B) s:=by
 show Fu X lo (if ay X l s=true then A else B) s
 exact rJ (fun c=>a (ee c)) fun _=>b
theorem KM{f:Int->PM β}(i:s.i<=X.ts.length)(h:∀ (g:Int) (b:al),g<1000->s.i<=b.i->b.i<=X.ts.length->Fu X lo (f g) b):Fu X lo (ga X>>=f) s:=by
 by_cases c:(V X s).kind=4
 ·have a:=dd (X:=X) (s:=s) O
  by_cases d:(V X s).text.length=1
  ·refine nO (s1:=⟨s.i+1,s.sc⟩) (l1:=lo) (h ((((V X s).text[0]?.getD 0).toNat:Int)-48) _ ?_ (h5 _) a) ?_ (by show s.i+lo<=s.i+1+lo;omega) rfl
   ·have:=((V X s).text[0]?.getD 0).toNat_lt;have j:(2:Nat)^8=256:=rfl;omega
   ·show PM.bind _ _ _=_;unfold PM.bind ga;simp only [];rw[if_pos c,if_pos d]
  ·refine uw (e:=match X.ts[s.i]? with|some t=>(40,t.pos)|none=>(31,X.en)) ?_;show PM.bind _ _ _=_;unfold PM.bind ga;simp only [];rw[if_pos c,if_neg d];rfl
 ·refine nO (s1:=s) (l1:=lo) (h 0 s O (aw _) i) ?_ (aw _) rfl;show PM.bind _ _ _=_;unfold PM.bind ga;simp only [];rw[if_neg c]
def En(X:Tx)(k n:Nat)(s:al):Prop:=8*(X.ts.length-s.i)+k<=n
theorem fc{x:PM α}[h:FC X R l1 x](a:s.i<=X.ts.length:=by omega)(b:R s:=by first|trivial|((try dsimp only [En]);omega)|(refine⟨fun _ _ _=>?_,?_⟩<;>first|trivial|((try dsimp only [En]);omega))):Fu X l1 x s:=h.fu s a b
theorem gS{x:PM α}(h:Fu X lo x s:=by
 repeat' (first
  |exact zv O O
  |exact od
  |exact NR fc O
  |with_reducible refine Dd (fun _ _ _=>?_) ?_
  |with_reducible refine IL (fun _=>?_) ?_
  |with_reducible refine KL ?_ fun _=>?_
  |with_reducible refine KK ?_ ?_
  |with_reducible refine KM ?_ fun _ _ _ _ _=>?_
  |refine mQ fc fun _ _ _ _ _=>?_
  |refine mQ (l1:=0) ?_ fun _ _ _ _ _=>?_
  |refine rJ (fun _=>?_) (fun _=>?_)
  |omega
  |assumption
  |split)):Fu X lo x s:=h
theorem dT{x:PM α}(h:∀ s,s.i<=X.ts.length->R s->Fu X lo x s:=by intro s b a;(try dsimp only [En] at a);exact gS):FC X R lo x:=⟨h⟩
instance:FC X (fun _=>True) 0 (next X):=⟨fun s h _=>jO rfl (aw _) h rfl⟩
instance {w:ak}:FC X (fun _=>True) 0 (a7 X w):=⟨fun s h _=>by
 rcases rK (X:=X) w s with⟨e,a⟩|e
 ·exact jO e (h5 _) a rfl
 ·exact jO e (aw _) h rfl⟩
instance {l:List ak}:FC X (fun _=>True) 0 (iE X l):=⟨fun s h _=>jO rfl (aw _) h rfl⟩
instance {b:Bool}:FC X (fun _=>True) 0 (p5 X b):=⟨fun s h _=>jO rfl (aw _) h rfl⟩
instance:FC X (fun _=>True) 0 PM.get:=⟨fun s h _=>jO rfl (aw _) h rfl⟩
instance {w:ak}:FC X (fun _=>True) 1 (a8 X w):=by unfold a8;exact dT
instance:FC X (fun s=>s.i<X.ts.length) 1 step1:=⟨fun s _ h=>jO rfl (aw _) h rfl⟩
theorem zw[∀ s,Decidable (c s)]{g:al->α}{y:PM α}(h:∀ s,c s->s.i<X.ts.length)(a:∀ s,Fu X 1 y s):FC X (fun _=>True) 1 (fun s=>if c s then some (.ok (g s,{s with i:=s.i+1})) else y s):=⟨fun s _ _=>by
 by_cases k:c s
 ·exact jO (s':={s with i:=s.i+1}) (if_pos k) (aw _) (h s k) rfl
 ·exact nO (a s) (if_neg k) (aw _) rfl⟩
instance {b:Bool}:FC X (fun _=>True) 1 (name X b):=zw (fun _ h=>p_ h) fun _=>od
instance:FC X (fun _=>True) 1 (hv X):=zw (fun _ h=>dd O) fun _=>od
instance:FC X (fun _=>True) 1 (gR X):=zw (fun _ h=>dd O) fun _=>od
theorem IM{b:Bool}:Fu X 1 (name X b) s:=by
 by_cases h:s.i<=X.ts.length
 ·exact fc
 ·refine uw (e:=match X.ts[s.i]? with|some t=>(40,t.pos)|none=>(31,X.en)) ?_;unfold name;rw[if_neg (fun q=>ba (p_ q))];rfl
instance:FC X (fun _=>True) 1 (label X):=zw (fun s c=>by
 unfold iH at c;simp only [Bool.and_eq_true,beq_iff_eq] at c;exact dd O) fun _=>IM
instance {e:ak}{c:σ->PM (Nd×σ)}{R:al->Prop}[∀ x,FC X R 1 (c x)]{m:Nat}{b:List Nd}{x:σ}:FC X (fun s=>(∀ d:al,s.i<=d.i->d.i<=X.ts.length->R d)/\X.ts.length<m+s.i) 0 (gy X e c m b x):=by
 induction m generalizing b x with
 |zero=>exact⟨fun s q r=>O⟩
 |succ m k=>
  refine⟨fun s j ⟨g,t⟩=>?_⟩;unfold gy;refine Dd (fun h o f=>mQ (FC.fu h f (g h O f)) fun a n _ p i=>?_) (zv j rfl)
  exact k.fu n i ⟨fun d u l=>g d O l,O⟩
instance {d:ak}{b:σ->PM (Nd×σ)}{R:al->Prop}[∀ x,FC X R 1 (b x)]{m:Nat}{x:σ}:FC X (fun s=>(∀ c:al,s.i<=c.i->c.i<=X.ts.length->R c)/\X.ts.length<m+s.i) 1 (list X m d b x):=⟨fun s f ⟨e,k⟩=>by
 unfold list;exact mQ (FC.fu s f (e s (aw _) f)) fun a i _ j g=>FC.fu i g ⟨fun c l h=>e c O h,O⟩⟩
instance {c:ak}{b:σ->PM (Nd×σ)}{R:al->Prop}[∀ x,FC X R 1 (b x)]{m:Nat}{x:σ}:FC X (fun s=>(∀ d:al,s.i<=d.i->d.i<=X.ts.length->R d)/\X.ts.length<m+s.i) 1 (hF X m c b x):=⟨fun s g f=>by
 unfold hF;exact Dd (fun k h e=>zv e rfl) (mQ (FC.fu s g f) fun a l _ i j=>gS)⟩
instance {b:PM Nd}{R:al->Prop}[h:FC X R 1 b]{u:Unit}:FC X R 1 (lone b u):=⟨fun s d c=>by
 unfold lone;exact mQ (FC.fu s d c) fun a g _ e f=>gS⟩
instance {c:ak}{b:PM Nd}{R:al->Prop}[FC X R 1 b]{m:Nat}:FC X (fun s=>(∀ d:al,s.i<=d.i->d.i<=X.ts.length->R d)/\X.ts.length<m+s.i) 1 (df X m c b):=⟨fun s f e=>by
 unfold df;exact mQ (FC.fu s f e) fun a i _ g h=>gS⟩
instance {c:ak}{b:PM Nd}{R:al->Prop}[FC X R 1 b]{m:Nat}:FC X (fun s=>(∀ d:al,s.i<=d.i->d.i<=X.ts.length->R d)/\X.ts.length<m+s.i) 1 (gd X m c b):=⟨fun s f e=>by
 unfold gd;exact mQ (FC.fu s f e) fun a i _ g h=>gS⟩
instance {m:Nat}{l:List ak}:FC X (fun s=>X.ts.length<m+s.i) 0 (hQ X m l):=by
 induction m generalizing l with
 |zero=>exact⟨fun s _ _=>O⟩
 |succ m a=>unfold hQ;exact dT
instance {m:Nat}:FC X (fun s=>X.ts.length<m+s.i) 1 (names X m):=by unfold names;exact dT
instance:FC X (fun _=>True) 1 (do let a<-hv X;pure [vS a]:PM Nd):=dT
instance {m:Nat}:FC X (fun s=>X.ts.length<m+s.i) 0 (vars X m):=by unfold vars;exact dT
instance {m:Nat}{l:List Nd}:FC X (fun s=>X.ts.length<m+s.i) 0 (ek X m l):=by
 induction m generalizing l with
 |zero=>exact⟨fun s _ _=>O⟩
 |succ m a=>unfold ek;exact dT
end
class MM(X:Tx)(f:Fs)(n:outParam Nat):Prop where
 ty:FC X (En X 2 n) 1 f.ty
 pat:FC X (En X 3 n) 1 f.pat
 exp:FC X (En X 5 n) 1 f.exp
 dr:∀ b,FC X (En X 2 n) 0 (f.dr b)
 e8:∀ l b,FC X (En X 2 n) 1 (f.e8 l b)
 fB:∀ l b,FC X (En X 2 n) 1 (f.fB l b)
 either:FC X (En X 4 n) 1 f.either
 both:FC X (En X 3 n) 1 f.both
 jU:∀ l,FC X (En X 2 n) 1 (f.jU l)
 prec:∀ l,FC X (En X 2 n) 1 (f.prec l)
 kk:∀ l,FC X (En X 2 n) 1 (f.kk l)
 iq:FC X (En X 4 n) 1 f.iq
 data:FC X (En X 3 n) 1 f.data
 kS:FC X (En X 6 n) 1 f.kS
 specs:FC X (En X 6 n) 0 f.specs
 vars:FC X (En X 2 n) 0 f.vars
 hd:∀ w,FC X (En X 6 n) 0 (f.hd w)
 mF:∀ w,FC X (En X 6 n) 0 (f.mF w)
 l7:∀ w,FC X (En X 4 n) 0 (f.l7 w)
 lS:∀ e,FC X (En X 6 n) 0 (f.lS e)
 lC:∀ e,FC X (En X 6 n) 0 (f.lC e)
 lU:∀ l,FC X (En X 1 n) 0 (f.lU l)
 jK:FC X (En X 2 n) 1 f.jK
 oD:∀ w,FC X (En X 7 n) 0 (f.oD w)
 mG:∀ w,FC X (fun s=>s.i+2<=X.ts.length/\En X 2 n s) 1 (f.mG w)
attribute [instance] MM.ty MM.pat MM.exp MM.dr MM.e8 MM.fB MM.either MM.both MM.jU MM.prec MM.kk MM.iq MM.data MM.kS MM.specs MM.vars MM.hd MM.mF MM.l7 MM.lS MM.lC MM.lU MM.jK MM.oD MM.mG
section
variable {α β:Type} {X:Tx} {f:Fs} {n m lo:Nat} {s:al} [g:MM X f n]
instance {a:List ak}:FC X (En X 2 (n+1)) 1 (jz X f a):=by unfold jz;exact dT
instance {a:List ak}:FC X (En X 2 (n+1)) 1 (iI X f a):=by unfold iI;exact dT
instance {a:List ak}:FC X (En X 2 (n+1)) 1 (iJ X f a):=by unfold iJ;exact dT
instance:FC X (En X 2 (n+1)) 1 (fe X f n):=by
 unfold fe;refine⟨fun s b a=>?_⟩;(try dsimp only [En] at a);exact mQ fc fun _ _ _ _ _=>mQ (l1:=1) gS fun _ _ _ _ _=>gS
instance {l:List Nd}:FC X (fun s=>En X 2 (n+1) s/\X.ts.length<m+s.i) 0 (ik X f n m l):=by
 induction m generalizing l with
 |zero=>exact⟨fun s _ _=>O⟩
 |succ m e=>
  unfold ik;refine⟨fun s d b=>?_⟩;(try dsimp only [En] at b)
  show Fu X 0 (if(V X s).kind=2/\(V X s).text=[42] then(do
   step1
   let a<-fe X f n
   ik X f n m (l++[a])) else pure l) s
  refine rJ (fun c=>?_) fun _=>gS
  have:=dd (X:=X) (s:=s) O;exact gS
instance:FC X (En X 2 (n+1)) 1 (qh X f n):=by unfold qh;exact dT
instance:FC X (En X 2 (n+1)) 0 (qf X f):=by unfold qf;exact dT
theorem tD(h:ea X s=true):s.i<X.ts.length:=by
 unfold ea at h;simp only [Bool.and_eq_true,Bool.or_eq_true,beq_iff_eq] at h;exact dd O
theorem A9(h:du X s=true):s.i<X.ts.length:=by
 unfold du at h;simp only [Bool.or_eq_true,beq_iff_eq] at h
 rcases h with(((h|h)|h)|h)|h
 iterate 3 exact dd O
 ·exact tD h
 ·exact ee h
theorem A_(h:ed X s=true):s.i<X.ts.length:=by
 unfold ed at h;simp only [Bool.or_eq_true,beq_iff_eq] at h
 rcases h with((((h|h)|h)|h)|h)|h
 iterate 4 exact dd O
 ·exact tD h
 ·exact ee h
theorem IN[∀ s,Decidable (c s)]{F:al->PM α}(a:∀ s,c s->s.i<X.ts.length)(h:∀ s b:al,b.i=s.i+1->b.i<=X.ts.length->R s->Fu X 0 (F s) b):FC X R 1 (fun s=>if c s then F s {s with i:=s.i+1} else eo X s):=⟨fun s e d=>by
 by_cases k:c s
 ·exact nO (s1:=⟨s.i+1,s.sc⟩) (h s _ rfl (a s k) d) (if_pos k) (aw _) rfl
 ·exact nO (l1:=1) od (if_neg k) (aw _) rfl⟩
theorem IP[∀ s,Decidable (c s)]{x:PM α}{a:α}(h:∀ s,s.i<=X.ts.length->R s->Fu X 0 x s):FC X R 0 (fun s=>if c s then x s else some (.ok (a,s))):=⟨fun s b d=>by
 by_cases k:c s
 ·exact nO (h s b d) (if_pos k) (aw _) rfl
 ·exact jO (if_neg k) (aw _) b rfl⟩
instance {w:ak}:FC X (En X 4 (n+1)) 0 (h' X f n w):=by unfold h';exact dT
instance:FC X (En X 2 (n+1)) 1 (fp X f n):=by
 unfold fp;exact IN (fun _ c=>A9 c) fun s b e h a=>by
  (try dsimp only [En] at a);exact gS
instance:FC X (En X 2 (n+1)) 1 (jg X f n):=⟨fun s b a=>by
 (try dsimp only [En] at a);refine nO (s1:=s) (l1:=1) ?_ (by unfold jg;rfl) (aw _) rfl;exact gS⟩
instance {x:Nd}:FC X (fun s=>8*(X.ts.length-s.i)+2<=n+8/\X.ts.length<m+s.i) 0 (fq X f m x):=by
 induction m generalizing x with
 |zero=>exact⟨fun s _ _=>O⟩
 |succ m a=>unfold fq;exact dT
instance {w:ak}:FC X (fun s=>s.i+2<=X.ts.length/\En X 2 (n+1) s) 1 (jY f w):=by
 unfold jY;refine⟨fun s g a=>?_⟩;(try dsimp only [En] at a);refine mQ fc fun _ b e c d=>?_;have e:b.i=s.i+1:=by cases e;rfl
 exact gS
instance:FC X (En X 3 (n+1)) 1 (nC X f n):=⟨fun s e b=>by
 (try dsimp only [En] at b);refine nO (s1:=s) (l1:=1) ?_ (by unfold nC;rfl) (aw _) rfl;refine mQ (l1:=1) (rJ (fun c=>?_) fun _=>fc) fun _ _ _ _ _=>gS
 have d:s.i+1<X.ts.length:=by
  have c2:=c.2;unfold hR at c2
  rcases a:X.ts[s.i+1]? with _|u
  ·rw[a] at c2;cases c2
  ·exact(List.getElem?_eq_some_iff.mp a).1
 exact fc⟩
theorem zx{level:Int}{f c:Bool}{d:Int->Bool->PM Nd}{h:ak->Nd->Nd->Nd}{a:Nd}{e:Int×Bool}{g:Fx}(k:¬¬((V X s).kind=1\/(V X s).kind=2\/c=true/\ay X [[61]] s=true))(i:j2 s.sc (V X s).text=some g)(l:¬(g.level<0\/g.level<level))(j:¬(1000<=g.level))(n:¬(g.level=e.1/\g.right≠e.2\/f=true/\g.level=level/\g.right=false)):
 fg X level f c d h (m+1) a e s=(step1>>=fun _=>d (if g.right then g.level else g.level+1) g.right>>=fun b=>fg X level f c d h m (h (V X s).text a b) (g.level,g.right)) s:=by
 conv=>lhs;unfold fg
 simp only [];rw[if_neg k,i];simp only [];rw[if_neg l,if_neg j,if_neg n]
instance {level:Int}{j d:Bool}{i:Int->Bool->PM Nd}{p:ak->Nd->Nd->Nd}{a:Nd}{f:Int×Bool}[∀ l b,FC X (En X 2 n) 1 (i l b)]:FC X (fun s=>8*(X.ts.length-s.i)+2<=n+8/\X.ts.length<m+s.i) 0 (fg X level j d i p m a f):=by
 induction m generalizing a f with
 |zero=>exact⟨fun s _ _=>O⟩
 |succ m v=>
  refine⟨fun s o u L=>?_⟩;(try dsimp only [En] at u)
  revert L
  show Fu X 0 _ s
  by_cases k:¬((V X s).kind=1\/(V X s).kind=2\/d=true/\ay X [[61]] s=true)
  ·exact jO (s':=s) (a:=a) (by unfold fg;simp only [];rw[if_pos k]) (aw _) o rfl
  have t:s.i<X.ts.length:=by
   rcases Classical.not_not.mp k with c|c|c
   ·exact dd O
   ·exact dd O
   ·exact ee c.2
  rcases h:j2 s.sc (V X s).text with _|g
  ·exact jO (s':=s) (a:=a) (by unfold fg;simp only [];rw[if_neg k,h]) (aw _) o rfl
  by_cases c2:g.level<0\/g.level<level
  ·exact jO (s':=s) (a:=a) (by unfold fg;simp only [];rw[if_neg k,h];simp only [];rw[if_pos c2]) (aw _) o rfl
  intro L;have q:¬(1000<=g.level):=by unfold j2 at h;have:=L g (List.mem_reverse.1 (List.mem_of_find?_eq_some h));omega
  revert L
  show Fu X 0 _ s
  by_cases r:g.level=f.1/\g.right≠f.2\/j=true/\g.level=level/\g.right=false
  ·exact uw (e:=(41,(V X s).pos)) (by unfold fg;simp only [];rw[if_neg k,h];simp only [];rw[if_neg c2,if_neg q,if_pos r])
  exact nO (l1:=0) gS (zx k h c2 q r) (aw _) rfl
instance {l:Int}{b:Bool}:FC X (En X 2 (n+1)) 1 (ic X f n l b):=by unfold ic;exact dT
instance:FC X (fun s=>8*(X.ts.length-s.i)+3<=n) 1 (nN X f):=by unfold nN;exact dT
instance:FC X (En X 4 (n+1)) 1 (kd X f n):=by unfold kd;exact dT
instance {e:Nd}:FC X (En X 6 (n+1)) 0 (iw X f n e):=by unfold iw;exact dT
instance {e:Nd}:FC X (En X 6 (n+1)) 0 (ix X f n e):=by unfold ix;exact dT
instance:FC X (En X 6 n) 1 (paren X f):=by unfold paren;exact dT
instance {w:ak}:FC X (En X 6 (n+1)) 0 (jo X f n w):=by unfold jo;exact dT
instance:FC X (En X 2 (n+1)) 1 (atom X f):=by
 unfold atom;exact IN (fun _ c=>A_ c) fun s b e h a=>by
  (try dsimp only [En] at a);exact gS
instance {a:Nd}:FC X (fun s=>En X 2 (n+1) s/\X.ts.length<m+s.i) 0 (j' X f m a):=by
 induction m generalizing a with
 |zero=>exact⟨fun s _ _=>O⟩
 |succ m d=>
  unfold j';exact IP fun s c b=>by
   (try dsimp only [En] at b);exact gS
instance:FC X (En X 2 (n+1)) 1 (app X f n):=by unfold app;exact dT
instance {l:Int}{b:Bool}:FC X (En X 2 (n+1)) 1 (ie X f n l b):=by unfold ie;exact dT
instance {x:Nd}:FC X (fun s=>8*(X.ts.length-s.i)+2<=n+8/\X.ts.length<m+s.i) 0 (gV X f m x):=by
 induction m generalizing x with
 |zero=>exact⟨fun s _ _=>O⟩
 |succ m a=>unfold gV;exact dT
instance:FC X (En X 3 (n+1)) 1 (iz X f n):=by unfold iz;exact dT
instance {w:ak}:FC X (En X 6 (n+1)) 0 (h_ X f w):=by unfold h_;exact dT
instance:FC X (fun s=>s.i<X.ts.length/\8*(X.ts.length-s.i)<=n+2) 1 (ahead X f):=⟨fun s c b=>by
 (try dsimp only at b);refine nO (s1:=⟨s.i+1,s.sc⟩) (l1:=0) ?_ (by unfold ahead;rfl) (aw _) rfl
 generalize a:(⟨s.i+1,s.sc⟩:al)=q
 have a:q.i=s.i+1:=by rw[<-a]
 exact gS⟩
instance:FC X (En X 4 (n+1)) 1 (oa X f):=by unfold oa j3;exact dT
instance:FC X (En X 3 (n+1)) 1 (sC X f n):=by unfold sC j3;exact dT
instance {x:Nd}:FC X (fun s=>8*(X.ts.length-s.i)+5<=n+8/\X.ts.length<m+s.i) 0 (gH X f m x):=by
 induction m generalizing x with
 |zero=>exact⟨fun s _ _=>O⟩
 |succ m a=>unfold gH;exact dT
instance:FC X (En X 5 (n+1)) 1 (mM X f n):=by unfold mM;exact dT
instance:FC X (En X 2 (n+8)) 1 (nD X f):=by unfold nD;exact dT
instance:FC X (En X 3 (n+1)) 1 (jA X f n):=by unfold jA;exact dT
instance {l:List Nd}:FC X (fun s=>8*(X.ts.length-s.i)+2<=n+1/\X.ts.length<m+s.i) 0 (cg X f n m l):=by
 induction m generalizing l with
 |zero=>exact⟨fun s _ _=>O⟩
 |succ m c=>
  unfold cg;exact IP fun s b a=>by
   (try dsimp only [En] at a);exact gS
instance {k:ak×Int}:FC X (En X 5 n) 1 (iK X f n k):=by unfold iK;exact dT
instance:FC X (En X 5 n) 1 (lH X f n):=by unfold lH;exact dT
instance {l:List Nd}:FC X (fun s=>8*(X.ts.length-s.i)+5<=n/\X.ts.length<m+s.i) 0 (gq X f n m l):=by
 induction m generalizing l with
 |zero=>exact⟨fun s _ _=>O⟩
 |succ m a=>unfold gq;exact dT
instance:FC X (En X 5 n) 0 (jN X f n):=by unfold jN;exact dT
instance:FC X (En X 5 n) 1 (gm X f n):=by unfold gm;exact dT
instance {l:List ak}{b:Int}{r:Bool}:FC X (fun _=>b<1000) 0 (jh l b r):=⟨fun s d c L=>⟨fun h=>(by cases h),fun a i e=>by
 cases e;refine⟨aw _,d,fun f g=>?_⟩
 rcases List.mem_append.1 g with q|q
 ·exact L f q
 ·obtain⟨x,_,rfl⟩:=List.mem_map.1 q
  exact c⟩⟩
instance {w:ak}:FC X (En X 7 (n+1)) 0 (l0 X f n w):=by unfold l0;exact dT
instance {w:ak}:FC X (En X 7 n) 0 (kR X f n w):=by unfold kR;exact dT
instance:FC X (fun s=>X.ts.length<m+s.i) 0 (fz X m):=by
 induction m with
 |zero=>exact⟨fun s _ _=>O⟩
 |succ m a=>unfold fz;exact dT
instance {a:Bool}{l:List Nd}:FC X (fun s=>8*(X.ts.length-s.i)+2<=n+1/\X.ts.length<m+s.i) 0 (eR X f n a m l):=by
 induction m generalizing l with
 |zero=>exact⟨fun s _ _=>O⟩
 |succ m k=>
  unfold eR;refine⟨fun s j g=>?_⟩;(try dsimp only at g);refine mQ fc fun _ b _ h i=>?_
  show Fu X _ (if ¬(ay X _ b=true\/a=true/\ay X _ b=true) then _ else _) b
  refine rJ (fun _=>gS) fun c=>?_
  have d:b.i<X.ts.length:=by
   rcases Classical.not_not.mp c with c|c
   ·exact ee c
   ·exact ee c.2
  refine mQ fc fun t o e _ _=>?_;cases e;exact gS
instance {a:Bool}:FC X (En X 2 (n+1)) 0 (vH X f n a):=by unfold vH;exact dT
instance {a:α}:FC X (fun _=>True) 0 (pure a):=dT
theorem fk{x:PM α}{c:al->Prop}[h:FC X R lo x](k:∀ s:al,s.i<=X.ts.length->c s->R s:=by intro s e d;first|trivial|((try dsimp only [En] at d⊢);omega)):FC X c lo x:=⟨fun s a b=>h.fu s a (k s a b)⟩
theorem OC:MM X (k' X f n) (n+1):=⟨fk (x:=qh X f n),fk (x:=nC X f n),fk (x:=mM X f n),fun b=>fk (x:=vH X f n b),fun l b=>fk (x:=ic X f n l b),fun l b=>fk (x:=ie X f n l b),fk (x:=oa X f),fk (x:=sC X f n),fun l=>fk (x:=jz X f l),fun l=>fk (x:=iI X f l),fun l=>fk (x:=iJ X f l),fk (x:=kd X f n),fk (x:=jA X f n),fk (x:=gm X f n),fk (x:=jN X f n),fk (x:=vars X n),fun w=>fk (x:=h_ X f w),fun w=>fk (x:=jo X f n w),fun w=>fk (x:=h' X f n w),fun e=>fk (x:=iw X f n e),fun e=>fk (x:=ix X f n e),fun l=>fk (x:=(pure (AJ l):PM Nd)),fk (x:=names X n),fun w=>fk (x:=l0 X f n w),fun w=>fk (x:=jY f w)⟩
end
theorem EP(X:Tx):∀ n,MM X (iZ X n) n
 |0=>by constructor<;>(intros;exact⟨fun s b a=>by(try dsimp only [En] at a);omega⟩)
 |n+1=>have:=EP X n;OC
theorem A'(X:Tx)(n:Nat)(b:8*X.ts.length+2<=n):∃ r,gP X (iZ X n)=some r:=by
 have:=EP X n;have h:En X 2 n ⟨0,ez⟩:=b
 have a:Fu X 0 (nt X (iZ X n)) ⟨0,ez⟩:=by
  unfold nt;exact mQ (FC.fu _ (hU _) h) fun _ _ _ _ _=>gS
 unfold gP
 rcases c:nt X (iZ X n) ⟨0,ez⟩ with _|e|⟨l,s⟩
 ·exact absurd c (a (by unfold Lv ez;decide)).1
 ·exact⟨_,rfl⟩
 ·exact⟨_,rfl⟩
end
section
open Go
section
variable {X b:Tx}
def Kk(X:Tx)(i:Nat):Prop:=ay X [[59]] ⟨i,[]⟩=true
theorem mD:∀ (m:Nat) (s t:al) (u:Unit),fz X m s=some (.ok (u,t))->t.sc=s.sc/\s.i<=t.i/\(∀ i,s.i<=i->i<t.i->Kk X i)/\¬Kk X t.i
 |0,s,t,u,h=>by cases h
 |m+1,s,t,u,h=>by
  unfold fz at h
  by_cases c:ay X [[59]] s=true
  ·rw[e4 (a:=true) (s1:=⟨s.i+1,s.sc⟩) (by unfold a7;rw[if_pos c])] at h;simp only [if_true] at h;obtain⟨d,f,g,j⟩:=mD m _ t u h;refine⟨d,by have:s.i+1<=t.i:=f;omega,fun i k b=>?_,j⟩
   by_cases e:i=s.i
   ·rw[e];exact c
   ·exact g i (by show s.i+1<=i;omega) b
  ·rw[e4 (a:=false) (s1:=s) (by unfold a7;rw[if_neg c])] at h;cases h;exact⟨rfl,aw _,fun i k b=>O,c⟩
theorem tg:∀ (m:Nat) (s:al),s.i<=X.ts.length->X.ts.length<m+s.i->∃ t,fz X m s=some (.ok ((),t))
 |0,s,b,h=>O
 |m+1,s,b,h=>by
  unfold fz
  by_cases c:ay X [[59]] s=true
  ·have:=ee c;obtain⟨t,d⟩:=tg m ⟨s.i+1,s.sc⟩ this (by show X.ts.length<m+(s.i+1);omega);refine⟨t,?_⟩;rw[e4 (a:=true) (s1:=⟨s.i+1,s.sc⟩) (by unfold a7;rw[if_pos c])];exact d
  ·refine⟨s,?_⟩;rw[e4 (a:=false) (s1:=s) (by unfold a7;rw[if_neg c])]
   rfl
theorem xy{m:Nat}{s e:al}(x:s.i<=e.i)(a:e.sc=s.sc)(p:∀ i,s.i<=i->i<e.i->Kk X i)(r:s.i<=X.ts.length)(w:X.ts.length<m)(h:fz X m e=some (.ok ((),t))):fz X m s=some (.ok ((),t)):=by
 obtain⟨u,b⟩:=tg (X:=X) m s r O;obtain⟨d,f,g,j⟩:=mD m s u () b;obtain⟨k,v,l,n⟩:=mD m e t () h
 have:u.i=t.i:=by
  rcases Af u.i t.i with c|c|c
  ·exfalso;apply j
   by_cases q:u.i<e.i
   ·exact p _ f q
   ·exact l _ O c
  ·exact c
  ·exact absurd (g t.i O c) n
 rw[b]
 have o:u=t:=by
  cases u;cases t;simp only [al.mk.injEq];exact⟨this,d.trans (a.symm.trans k.symm)⟩
 rw[o]
variable {f j:Fs} {n m:Nat} {a:Bool}
theorem gU{p:Nat}{l:List Nd}{s:al}(h:fz X n s=some (.ok ((),t))):eR X f n a (p+1) l s=
 (if ¬(ay X [[118,97,108],[102,117,110],[100,97,116,97,116,121,112,101],[116,121,112,101],[101,120,99,101,112,116,105,111,110],[105,110,102,105,120],[105,110,102,105,120,114],[110,111,110,102,105,120]] t=true\/a=true/\ay X [[115,116,114,117,99,116,117,114,101],[115,105,103,110,97,116,117,114,101]] t=true) then(pure l:PM (List Nd)) else
   (kR X f n (V X t).text>>=fun d=>eR X f n a p (l++[d]))) (if ¬(ay X [[118,97,108],[102,117,110],[100,97,116,97,116,121,112,101],[116,121,112,101],[101,120,99,101,112,116,105,111,110],[105,110,102,105,120],[105,110,102,105,120,114],[110,111,110,102,105,120]] t=true\/a=true/\ay X [[115,116,114,117,99,116,117,114,101],[115,105,103,110,97,116,117,114,101]] t=true) then t else⟨t.i+1,t.sc⟩):=by
 conv=>lhs;unfold eR
 rw[e4 h];show(if _ then(pure l:PM (List Nd)) else _) t=_
 split
 ·rfl
 ·rfl
theorem qL:∀ (p:Nat) (g:List Nd) (s:al) (l:List Nd) (t:al),eR X f n a p g s=some (.ok (l,t))->∃ k,l=g++k/\∀ b,eR X f n a p b s=some (.ok (b++k,t))
 |0,g,s,l,t,h=>by cases h
 |p+1,g,s,l,t,h=>by
  have j:∃ m,fz X n s=some (.ok ((),m)):=by
   have h:=h;unfold eR at h;obtain⟨u,m,o,_⟩:=di h;exact⟨m,o⟩
  obtain⟨m,i⟩:=j;rw[gU i] at h
  split at h
  ·rename_i c;cases h;exact⟨[],ar,fun b=>by rw[gU i,if_pos c,if_pos c,uJ];rfl⟩
  ·rename_i c;obtain⟨d,v,o,q⟩:=di h;obtain⟨k,e,r⟩:=qL p _ _ _ _ q;refine⟨d::k,by rw[e];simp,fun b=>?_⟩;rw[gU i,if_neg c,if_neg c,e4 o,r (b++[d])];simp
theorem jb(X:Tx):Ext X X 0:=⟨fun i t h=>⟨t,by rw[gW];exact h,rfl,rfl,rfl,rfl,rfl⟩,fun t h=>by rw[gW,j4 (aw _)] at h;cases h⟩
theorem Ie(X:Tx):Wk X X 0:=by unfold Wk;rw[gW,j4 (aw _)]
theorem y5(s:al):gl 0 s=s:=by unfold gl;rw[gW]
theorem th(g:Sf X X 0 f f){p q:Nat}(b:p<=q){l:List Nd}{s:al}(c:s.i<=X.ts.length){r:List Nd×al}(h:eR X f n a p l s=some (.ok r)):eR X f n a q l s=some (.ok r):=by
 have:=(n5 (jb X) g (aw n) a p q l s b c r.1 r.2 h).2.2.2 (.inr (Ie X))
 rwa [y5,y5] at this
def iD(d:Nd):Int:=match d with|.v (.int _ z)::_=>z|_=>0
theorem CD(b:∀ w s d t,f.oD w s=some (.ok (d,t))->¬oE w->iD d=9){w:ak}{s:al}{d:Nd}(h:kR X f n w s=some (.ok (d,t)))(a:¬rq w):iD d=8\/iD d=9:=by
 unfold kR at h;rw[if_neg (fun e=>a (.inl e)),if_neg (fun e=>a (.inr (.inl e)))] at h
 split at h
 ·obtain⟨_,_,_,h⟩:=di h;obtain⟨_,_,_,h⟩:=di h;obtain⟨_,_,_,h⟩:=di h;cases h;exact .inl rfl
 ·exact .inr (b _ _ _ _ h (fun q=>a (.inr (.inr q))))
theorem xz(g:Sf X X 0 f f)(A:∀ w s d t,f.oD w s=some (.ok (d,t))->¬oE w->iD d=9):∀ (p:Nat) (j:List Nd) (s:al) (l:List Nd) (t:al),s.i<=X.ts.length->eR X f n a p j s=some (.ok (l,t))->(∀ d∈l,iD d≠8/\iD d≠9)->t.sc=s.sc
 |0,j,s,l,t,B,h,r=>by cases h
 |p+1,j,s,l,t,B,h,r=>by
  have m:∃ b,fz X n s=some (.ok ((),b)):=by
   have h:=h;unfold eR at h;obtain⟨u,b,o,_⟩:=di h;exact⟨b,o⟩
  obtain⟨b,k⟩:=m;obtain⟨y,G,H,I⟩:=mD _ _ _ _ k;have C:b.i<=X.ts.length:=(p3 (Q:=True) (jb X) n n s (aw _) B () b k).2.1;rw[gU k] at h
  split at h
  ·rename_i c;cases h;exact y
  ·rename_i c;obtain⟨d,D,o,z⟩:=di h
   have x:b.i<X.ts.length:=by
    rcases Decidable.not_not.1 c with q|q
    ·exact ee q
    ·exact ee q.2
   obtain⟨L,E,F,_⟩:=vb (jb X) g (aw n) (V X b).text (s:=⟨b.i+1,b.sc⟩) x d D o
   have i:d∈l:=by
    obtain⟨J,e,_⟩:=qL p _ _ _ _ z;rw[e];simp
   have v:rq (V X b).text:=by
    by_cases v:rq (V X b).text
    ·exact v
    ·rcases CD A o v with q|q
     ·exact absurd q (r d i).1
     ·exact absurd q (r d i).2
   exact(xz g A p _ D l t E z r).trans ((F v).trans y)
theorem xA(E:Ext X b 0)(g:Sf X b 0 f j)(D:Sf b b 0 j j)(M:n<=m)(F:b.ts.length<m)(L:X.ts.length<=b.ts.length):∀ (p:Nat) (x:List Nd) (s:al) (l:List Nd) (t:al),s.i<=X.ts.length->eR X f n a p x s=some (.ok (l,t))->t.i=X.ts.length->
 ∀ (v:Nat) (r:List Nd×al),eR b j m a v l t=some (.ok r)->eR b j m a (p+v) x s=some (.ok r)
 |0,x,s,l,t,S,h,T,v,r,H=>by cases h
 |p+1,x,s,l,t,S,h,T,v,r,H=>by
  have J:∃ k,fz X n s=some (.ok ((),k)):=by
   have h:=h;unfold eR at h;obtain⟨u,k,C,_⟩:=di h;exact⟨k,C⟩
  obtain⟨k,y⟩:=J;obtain⟨Z,aA,aB,aJ⟩:=mD _ _ _ _ y;obtain⟨_,o,_,aC⟩:=p3 (Q:=True) E n m s M S () k y;rw[gU y] at h
  split at h
  ·rename_i c;cases h;cases v with
   |zero=>cases H
   |succ v=>
    have z:∃ A,fz b m t=some (.ok ((),A)):=by
     have h:=H;unfold eR at h;obtain⟨u,k,C,_⟩:=di h;exact⟨k,C⟩
    obtain⟨A,I⟩:=z
    have N:fz b m s=some (.ok ((),A)):=by
     refine xy aA Z (fun i aF aG=>?_) O F I;have q:=aB i aF aG;have e:=E.CE (s:=⟨i,[]⟩) (l:=[[59]]) (by show i<=X.ts.length;omega) (.inl (by show i<X.ts.length;omega));rw[y5] at e;exact e.trans q
    refine th D (p:=v+1) O O ?_;rw[gU N,<-gU I];exact H
  ·rename_i c;obtain⟨d,A,C,aD⟩:=di h
   have G:k.i<X.ts.length:=by
    rcases Decidable.not_not.1 c with q|q
    ·exact ee q
    ·exact ee q.2
   have R:=aC (.inl G);rw[y5,y5] at R;obtain⟨aK,aH,_,aI⟩:=vb E g M (V X k).text (s:=⟨k.i+1,k.sc⟩) G d A C;have W:=aI (.inr trivial);rw[y5,y5] at W;have Y:=xA E g D M F L p _ A l t aH aD T v r H;have P:=E.iE (s:=k) o (l:=[[118,97,108],[102,117,110],[100,97,116,97,116,121,112,101],[116,121,112,101],[101,120,99,101,112,116,105,111,110],[105,110,102,105,120],[105,110,102,105,120,114],[110,111,110,102,105,120]]) bh;have B:=E.iE (s:=k) o (l:=[[115,116,114,117,99,116,117,114,101],[115,105,103,110,97,116,117,114,101]]) bh;rw[y5] at P B
   have aE:(V b k).text=(V X k).text:=by
    rcases E.next o with⟨_,w⟩|⟨q,_⟩
    ·have:=w.2.1
     rwa [y5] at this
    ·omega
   rw[show p+1+v=(p+v)+1 from O,gU R,P,B,if_neg c,if_neg c,aE,e4 W];exact Y
end
theorem AG{X Y Z:Tx}(aB:Ext X Z 0)(j:Kk Z X.ts.length)(aC:Ext Y Z (X.ts.length+1))(aA:Z.ts.length=X.ts.length+1+Y.ts.length){n k:Nat}{x y:List Nd}(N:gP X (iZ X n)=some (.ok x))(aG:gP Y (iZ Y k)=some (.ok y))(D:∀ d∈x,iD d≠8/\iD d≠9)(m:Nat)(aK:n+k+2<=m)(aL:Z.ts.length+2<=m):
 gP Z (iZ Z m)=some (.ok (x++y)):=by
 have b:∀ {X:Tx} {n:Nat} {x:List Nd},gP X (iZ X n)=some (.ok x)->∃ L t,n=L+1/\eR X (iZ X L) L true L [] ⟨0,ez⟩=some (.ok (x,t))/\t.i=X.ts.length:=by
  intro X n x h;unfold gP at h
  rcases G:nt X (iZ X n) ⟨0,ez⟩ with _|e|⟨l,t⟩
  ·rw[G] at h;cases h
  ·rw[G] at h;cases h
  ·rw[G] at h;cases h;unfold nt at G;obtain⟨l,f,r,aE⟩:=di G;cases n with
   |zero=>cases r
   |succ n=>
    have r:eR X (iZ X n) n true n [] ⟨0,ez⟩=some (.ok (l,f)):=r;have aJ:=(n5 (jb X) (nu (jb X) n n (aw _)) (aw n) true n n [] ⟨0,ez⟩ (aw _) (hU _) l f r).2.1;obtain⟨s,o,aF,M⟩:=di aE;cases aF
    split at M
    ·cases M
    ·cases M;exact⟨n,_,rfl,r,O⟩
 obtain⟨n,f,rfl,z,H⟩:=b N;obtain⟨k,o,rfl,A,aI⟩:=b aG;obtain⟨m,rfl⟩:∃ q,m=q+1:=⟨m-1,O⟩;have c:=nu (jb Z) m m (aw _)
 have B:∀ w s d t,(iZ X n).oD w s=some (.ok (d,t))->¬oE w->iD d=9:=by
  intro w s d t h E;cases n with
  |zero=>cases h
  |succ n=>
   have h:l0 X (iZ X n) n w s=some (.ok (d,t)):=h;unfold l0 at h;rw[if_neg (fun e=>E (.inl e)),if_neg (fun e=>E (.inr (.inl e))),if_neg (fun e=>E (.inr (.inr (.inl e)))),if_neg (fun e=>E (.inr (.inr (.inr (.inl e))))),if_neg (fun e=>E (.inr (.inr (.inr (.inr e)))))] at h;obtain⟨_,_,_,h⟩:=di h;obtain⟨_,_,_,h⟩:=di h;cases h
   rfl
 have Q:f.sc=ez:=xz (nu (jb X) n n (aw _)) B n [] ⟨0,ez⟩ x f (hU _) z D
 have R:=(n5 aC (nu aC k m O) (show k<=m from O) true k k [] ⟨0,ez⟩ (aw _) (hU _) y o A).2.2.2 (.inr (by unfold Wk;rw[j4 O]));obtain⟨W,e,S⟩:=qL k _ _ _ _ R;obtain rfl:W=y:=by simpa using e.symm
 have J:=S x;cases k with
 |zero=>cases A
 |succ k=>
 have g:∃ T,fz Z m (gl (X.ts.length+1) ⟨0,ez⟩)=some (.ok ((),T)):=by
  have h:=J;unfold eR at h;obtain⟨u,s1,N,_⟩:=di h;exact⟨s1,N⟩
 obtain⟨T,F⟩:=g
 have P:fz Z m f=some (.ok ((),T)):=by
  refine xy (by rw[H];show X.ts.length<=X.ts.length+1+0;omega) (by rw[Q];rfl) (fun i aM aD=>?_) O O F
  have:i=X.ts.length:=by
   have aD:i<X.ts.length+1+0:=aD;omega
  rw[this];exact j
 have aH:eR Z (iZ Z m) m true (k+1) x f=some (.ok (x++W,gl (X.ts.length+1) o)):=by
  rw[gU P,<-gU F];exact J
 have v:=xA aB (nu aB n m O) c (show n<=m from O) (show Z.ts.length<m from O) (show X.ts.length<=Z.ts.length from O) n [] ⟨0,ez⟩ x f (hU _) z H (k+1) _ aH;have C:=th c (p:=n+(k+1)) (q:=m) O (hU _) v
 have I:nt Z (iZ Z (m+1)) ⟨0,ez⟩=some (.ok (x++W,gl (X.ts.length+1) o)):=by
  unfold nt;rw[e4 (show(iZ Z (m+1)).dr true ⟨0,ez⟩=_ from C)];rw[e4 (a:=gl (X.ts.length+1) o) (s1:=gl (X.ts.length+1) o) rfl];rw[if_neg (by show ¬(X.ts.length+1+o.i<Z.ts.length);omega)]
  rfl
 unfold gP;rw[I]
end
end Go.Proofs.YtkblonfmjlopaaaGreatDoor
