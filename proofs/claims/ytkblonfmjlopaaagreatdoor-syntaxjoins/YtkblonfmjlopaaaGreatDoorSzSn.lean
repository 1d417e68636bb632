/-
  Parse, on any text: what it answers, as a plain function of the text; and of two texts joined.
-/
import Derived.Test.YtkblonfmjlopaaaGreatDoorSzEr
set_option linter.all false
set_option maxRecDepth 1000000
set_option maxHeartbeats 16000000
namespace Go.Proofs.YtkblonfmjlopaaaGreatDoor
open Go Go.RowKit
variable {s:ByteArray}{l:List Nd}{F:List UInt8->Nat}{c:Nat}{w w':World}
theorem Bv(F:List UInt8->Nat)(s:ByteArray):∀ m i b c q,ov F s m i b=.error (c,q)->c≠0
 |0,i,b,c,q,h=>by cases h
 |m+1,i,b,c,q,h=>by
  unfold ov at h
  rcases d:blank s i with _|k
  ·rw[d] at h;simp only [Except.error.injEq,Prod.mk.injEq] at h;omega
  ·rw[d] at h;simp only at h
   split at h
   ·cases h
   ·rcases a:gJ F s k with⟨x,y⟩|⟨t,n⟩
    ·rw[a] at h;simp only [Except.error.injEq,Prod.mk.injEq] at h;have:=AR a;omega
    ·rw[a] at h;exact Bv F s m _ _ c q h
theorem EW{q:Nat}(h:j6 F s=.error (c,q)):c≠0:=by
 unfold j6 at h
 split at h
 ·simp only [Except.error.injEq,Prod.mk.injEq] at h;omega
 ·exact Bv F s _ _ _ _ _ h
def K0:Nat:=10000000000000
def jD(F:List UInt8->Nat)(s:ByteArray):Except (Nat×Nat) (List Nd):=match j6 F s with
 |.error e=>.error e
 |.ok ts=>match gP ⟨ts,s.size⟩ (iZ ⟨ts,s.size⟩ (8*s.size+2)) with
  |some (.ok l)=>match eW (dep K0 .dec) l 0 with
   |some d=>if 200<d then .error (3,0) else .ok l
   |none=>.error (1,0)
  |some (.error e)=>.error e
  |none=>.error (1,0)
theorem wa(h:jD F s=.ok l):∃ a d,j6 F s=.ok a/\gP ⟨a,s.size⟩ (iZ ⟨a,s.size⟩ (8*s.size+2))=some (.ok l)/\eW (dep K0 .dec) l 0=some d/\d<=200:=by
 unfold jD at h
 split at h
 ·cases h
 ·rename_i a c
  split at h
  ·rename_i f e
   split at h
   ·rename_i d b
    split at h
    ·cases h
    ·cases h;exact⟨a,d,c,e,b,O⟩
   ·cases h
  ·cases h
  ·cases h
theorem wi{a:List Tok}{d:Nat}(b:j6 F s=.ok a)(c:gP ⟨a,s.size⟩ (iZ ⟨a,s.size⟩ (8*s.size+2))=some (.ok l))(e:eW (dep K0 .dec) l 0=some d)(f:d<=200):jD F s=.ok l:=by
 unfold jD;simp only [b,c,e];rw[if_neg O]
theorem KX{b:Nd->Option Nat}:∀ (l:List Nd) (n d:Nat),eW b l 0=some d->eW b l n=some (max n d):=by
 have c:∀ (l:List Nd) (a n d:Nat),eW b l a=some d->eW b l (max n a)=some (max n d):=by
  intro l
  induction l with
  |nil=>intro a n d h;cases h;rfl
  |cons x r e=>
   intro a n d h;unfold eW at h⊢
   split at h
   ·rename_i k f;have:=e (max a k) n d h;rw[<-Nat.max_assoc] at this;exact this
   ·cases h
 intro l n d h;have:=c l 0 n d h
 rwa [Nat.max_zero] at this
theorem By{b:Nd->Option Nat}:∀ (x y:List Nd) (n d:Nat),eW b x n=some d->eW b (x++y) n=eW b y d
 |[],y,n,d,h=>by cases h;rfl
 |a::x,y,n,d,h=>by
  rw[uI];unfold eW at h
  split at h
  ·rename_i k c;rw[show eW b (a::(x++y)) n=eW b (x++y) (max n k) by rw[eW,c]];exact By x y _ d h
  ·cases h
theorem Dy{a b:ByteArray}{x y:List Nd}(o:jD F a=.ok x)(p:jD F b=.ok y)(c:∀ d∈x,iD d≠8/\iD d≠9)(w:a.size+b.size+2<=65536):jD F (a++⟨#[10,59]⟩++b)=.ok (x++y):=by
 obtain⟨s,e,g,k,l,u⟩:=wa o;obtain⟨t,i,h,m,n,v⟩:=wa p;obtain⟨q,j,f⟩:=Gi a b;have z:=j.size;have r:=Gg q j f g h O;have A:=mX s 0 (hU _) (jm g).2;have B:=mX t 0 (hU _) (jm h).2;refine wi r (Bm k m c _ _ O O) (d:=max e i) ?_ O;rw[By x y 0 e l];exact KX y e i n
structure WT(F:List UInt8->Nat)(w:World):Prop where
 KY:CN w
 pf:∀ s w',Below w.heap.size w w'->Fh F w'.heap.size w' s
theorem CN.mono(h:CN w)(hb:Below w.heap.size w w'):CN w':=by
 obtain⟨m,c⟩:=h.mx;exact⟨gi h.kN hb.size,⟨m,(hb.cell (p:=⟨3,0,none⟩) h.kN).trans c⟩,fun b a=>h.sp b (hb.trans (a.mono hb.size)),fun b a=>h.Nv b (hb.trans (a.mono hb.size))⟩
theorem WT.mono(h:WT F w)(hb:Below w.heap.size w w'):WT F w':=⟨h.KY.mono hb,fun s b a=>h.pf s b (hb.trans (a.mono hb.size))⟩
theorem EX(a:WT F w):∀ w',Below w.heap.size w w'->Calls Tryz.prog 9 #[.string s] w' fun e d=>LU w' d e (j6 F s):=fun w' b=>by
 have h:=a.KY.mono b;obtain⟨m,c⟩:=h.mx;exact AS F s m w' h.kN c (a.pf s w' b)
def N7(w:World)(r:Except (Nat×Nat) (List Nd))(e:Ending)(w':World):Prop:=
 Below w.heap.size w w'/\match r with
  |.error (c,q)=>c≠0/\e=.returned (.tuple #[.slice none 0 0,.agg (jj c q)])
  |.ok l=>(∀ x,x∈l->Wf .dec x)/\∃ v F,e=.returned (.tuple #[v,.agg o5])/\ey w' F l v/\∀ b,F b->b<w'.heap.size
theorem wj(s:ByteArray)(w:World)(u:WT F w):Calls Tryz.prog 6 #[.string s] w fun e w'=>N7 w (jD F s) e w':=by
 rcases f:j6 F s with⟨c,q⟩|g
 ·have e:jD F s=.error (c,q):=by unfold jD;rw[f]
  rw[e];refine(vo s c q w (EW f) fun w' v=>(EX u w' v).mono fun e p h=>?_).mono fun e w' h=>⟨h.1,EW f,h.2⟩;rw[f] at h;exact h
 ·obtain⟨o,n⟩:=KU f;have E:=(jm f).1;have C:=mX g 0 (hU _) (jm f).2;obtain⟨r,j⟩:=A' ⟨g,s.size⟩ (8*s.size+2) (by show 8*g.length+2<=_;omega)
  have i:∀ w',Below w.heap.size w w'->Calls Tryz.prog 9 #[.string s] w' fun e p=>Below w'.heap.size w' p/\∃ A B,e=.returned (.tuple #[.slice A g.length B,.agg o5])/\iR p A g.length B g/\dh p w'.heap.size A (B*7):=fun w' v=>(EX u w' v).mono fun e p h=>by
   rw[f] at h;exact h
  rcases r with⟨c,q⟩|l
  ·have e:jD F s=.error (c,q):=by unfold jD;simp only [f,j]
   rw[e];refine(vk s g w u.KY o n (8*s.size+2) 0 O (.error (c,q)) j (fun l h=>by cases h) O i).mono fun e w' h=>⟨h.1,Gp j,?_⟩;exact h.2
  ·--OK trees
   have b:gh K0 .dec l:=by
    have k:=(Dq.all ⟨g,s.size⟩ 1000000 (8*s.size+2) O).dr true
    rcases nI j with⟨_,_,_,h⟩|⟨H,I,D,⟨_,h⟩|⟨_,h⟩⟩
    ·cases h
    ·cases h
    ·cases h;refine pP (k _ _ _ D) ?_;have:(8*s.size+2)*(3*1000000+7)<=(8*65536+2)*(3*1000000+7):=jX _ O;exact fy this bh
   obtain⟨d,k⟩:=nh.of b;have y:d<=1000000000000000000:=fy (zE (fun x d h=>EY K0 .dec x d h) l 0 d (hU _) k) bh;have z:∀ x,x∈l->Wf .dec x:=fun x G=>(b x G).2.2.2;refine(vk s g w u.KY o n (8*s.size+2) d O (.ok l) j (fun H h=>by cases h;exact⟨hT.de b,K0,k⟩) y i).mono fun e w' h=>⟨h.1,?_⟩;have m:=h.2;simp only at m
   by_cases a:200<d
   ·rw[if_pos a] at m;have e:jD F s=.error (3,0):=by unfold jD;simp only [f,j,k];rw[if_pos a]
    rw[e];exact⟨bh,m⟩
   ·rw[if_neg a] at m;rw[wi f j k O];exact⟨z,m⟩
def I_(a b:Tok):Bool:=a.kind==b.kind&&a.text==b.text&&decide (a.num=b.num)&&a.bits==b.bits&&a.n==b.n&&a.pos==b.pos
theorem I'{a b:Tok}(h:I_ a b=true):a=b:=by
 unfold I_ at h;simp only [Bool.and_eq_true,beq_iff_eq,decide_eq_true_eq] at h;cases a;cases b
 simp_all
def EZ:List Tok->List Tok->Bool
 |[],[]=>true
 |a::l,b::r=>I_ a b&&EZ l r
 |_,_=>false
theorem Bz:∀ {l r:List Tok},EZ l r=true->l=r
 |[],[],_=>rfl
 |a::l,b::r,h=>by
  unfold EZ at h;rw[mo] at h;rw[I' h.1,Bz h.2]
 |[],_::_,h=>by cases h
 |_::_,[],h=>by cases h
def Dz:ByteArray:=⟨#[102,117,110,32,102,32,40,120,32,58,58,32,108,41,32,61,32,102,32,108,32,43,32,49,32,124,32,102,32,91,93,32,61,32,48,32,118,97,108,32,121,32,61,32,49,32,43,32,50,32,42,32,51]⟩
def DA:ByteArray:=⟨#[105,110,102,105,120,32,54,32,35,32,118,97,108,32,120,32,61,32,49]⟩
def Ja:List Tok:=[⟨8,[102,117,110],0,0,0,0⟩,⟨1,[102],0,0,0,4⟩,⟨8,[40],0,0,0,6⟩,⟨1,[120],0,0,0,7⟩,⟨2,[58,58],0,0,0,9⟩,⟨1,[108],0,0,0,12⟩,⟨8,[41],0,0,0,13⟩,⟨8,[61],0,0,0,15⟩,⟨1,[102],0,0,0,17⟩,⟨1,[108],0,0,0,19⟩,⟨2,[43],0,0,0,21⟩,⟨4,[49],1,0,0,23⟩,⟨8,[124],0,0,0,25⟩,⟨1,[102],0,0,0,27⟩,⟨8,[91],0,0,0,29⟩,⟨8,[93],0,0,0,30⟩,⟨8,[61],0,0,0,32⟩,⟨4,[48],0,0,0,34⟩,⟨8,[118,97,108],0,0,0,36⟩,⟨1,[121],0,0,0,40⟩,⟨8,[61],0,0,0,42⟩,⟨4,[49],1,0,0,44⟩,⟨2,[43],0,0,0,46⟩,⟨4,[50],2,0,0,48⟩,⟨2,[42],0,0,0,50⟩,⟨4,[51],3,0,0,52⟩]
def Jb:List Tok:=[⟨8,[105,110,102,105,120],0,0,0,0⟩,⟨4,[54],6,0,0,6⟩,⟨8,[35],0,0,0,8⟩,⟨8,[118,97,108],0,0,0,10⟩,⟨1,[120],0,0,0,14⟩,⟨8,[61],0,0,0,16⟩,⟨4,[49],1,0,0,18⟩]
def okW(r:Except (Nat×Nat) (List Tok))(l:List Tok):Bool:=match r with
 |.ok x=>EZ x l
 |.error _=>false
theorem E0{r:Except (Nat×Nat) (List Tok)}{l:List Tok}(h:okW r l=true):r=.ok l:=by
 unfold okW at h
 split at h
 ·rw[Bz h]
 ·cases h
theorem N8(F:List UInt8->Nat):j6 F Dz=.ok Ja:=E0 aq
theorem N9(F:List UInt8->Nat):j6 F DA=.ok Jb:=E0 aq
def ym:List Nd->Bool
 |[[.v (.int .i64 2),.v (.string _),.sl _,.v (.int .i64 _),.v (.bool _),.v (.bool _),.sl _,.sl _,.sl [[.v (.string _),.v (.int .i64 _),.sl [_,_]]],.sl _,.sl _,.sl _,.sl _,.sl _],_]=>true
 |_=>false
theorem Jc(h:ym l=true):∃ e f g i j k m o p q s n a b c d r,l=[[.v (.int .i64 2),.v (.string e),.sl f,.v (.int .i64 g),.v (.bool i),.v (.bool j),.sl k,.sl m,.sl [[.v (.string o),.v (.int .i64 p),.sl [q,s]]],.sl n,.sl a,.sl b,.sl c,.sl d],r]:=by
 unfold ym at h
 split at h
 ·exact⟨_,_,_,_,_,_,_,_,_,_,_,_,_,_,_,_,_,rfl⟩
 ·cases h
def L_:Option (Except (Nat×Nat) (List Nd))->Bool
 |some (.ok l)=>ym l&&(match eW (dep K0 .dec) l 0 with|some d=>decide (d<=200)|none=>false)
 |_=>false
theorem Jd{r:Option (Except (Nat×Nat) (List Nd))}(h:L_ r=true):∃ l d,r=some (.ok l)/\ym l=true/\eW (dep K0 .dec) l 0=some d/\d<=200:=by
 unfold L_ at h
 split at h
 ·rename_i l;rw[mo] at h;obtain⟨b,a⟩:=h
  split at a
  ·rename_i d c;exact⟨l,d,rfl,b,c,of_decide_eq_true a⟩
  ·cases a
 ·cases h
def L'(c q:Nat):Option (Except (Nat×Nat) (List Nd))->Bool
 |some (.error (a,b))=>a==c&&b==q
 |_=>false
theorem Je{q:Nat}{r:Option (Except (Nat×Nat) (List Nd))}(h:L' c q r=true):r=some (.error (c,q)):=by
 unfold L' at h
 split at h
 ·rw[mo,beq_iff_eq,beq_iff_eq] at h;rw[h.1,h.2]
 ·cases h
theorem N_(F:List UInt8->Nat):∃ l,jD F Dz=.ok l/\ym l=true:=by
 obtain⟨l,d,a,b,c,e⟩:=Jd (r:=gP ⟨Ja,Dz.size⟩ (iZ ⟨Ja,Dz.size⟩ (8*Dz.size+2))) (by decide+kernel);exact⟨l,wi (N8 F) a c e,b⟩
theorem N'(F:List UInt8->Nat):jD F DA=.error (40,8):=by
 have h:=Je (c:=40) (q:=8) (r:=gP ⟨Jb,DA.size⟩ (iZ ⟨Jb,DA.size⟩ (8*DA.size+2))) (by decide+kernel);unfold jD;simp only [N9 F,h]
theorem ey.first{F:Nat->Prop}{r:Nd}{a:Option Addr}{n:Nat}(h:ey w F (r::l) (.slice a n c)):n=l.length+1/\n<=c/\c<=maxLen/\∃ b d f,a=some ⟨b,d,none⟩/\F b/\ah w F r f/\∀ j,j<f.length->w.cell? ⟨b,d+j,none⟩=f[j]?:=by
 obtain⟨p,s,e,h⟩:=h;cases e;unfold b8 at h;obtain⟨q,c2,e,m,o,h⟩:=h;cases e;refine⟨rfl,m,o,?_⟩
 rcases h with h|⟨b,d,rfl,k,h⟩
 ·cases h
 ·unfold gZ at h;obtain⟨⟨f,g,i⟩,_⟩:=h;exact⟨b,d,f,rfl,k,i,g⟩
theorem BA{F:Nat->Prop}{v:Value}(I:ym l=true)(h:ey w F l v)(s:∀ b,F b->b<w.heap.size):∃ b d c e i g q c2,v=.slice (some ⟨b,d,none⟩) 2 c/\2<=c/\b<w.heap.size/\w.cell? ⟨b,d,none⟩=some (.int .i64 2)/\w.cell? ⟨b,d+8,none⟩=some (.slice (some ⟨e,i,none⟩) 1 g)/\1<=g/\e<w.heap.size/\w.cell? ⟨e,i+2,none⟩=some (.slice q 2 c2):=by
 obtain⟨aI,aJ,aK,aL,aM,aN,aO,aQ,aR,aT,aU,aP,Q,R,S,T,r,rfl⟩:=Jc I;obtain⟨a,c,rfl,h⟩:=h;have h:ey w F _ (.slice a _ c):=⟨a,c,rfl,h⟩;obtain⟨_,o,_,b,d,aD,rfl,G,H,t⟩:=h.first;obtain⟨q,c2,W,aA,X,aB,Y,g,Z,aC,u,A,x,B,y,C,z,D,rfl,aE,aF,aG,P,aH,J,L,M,N⟩:=KZ H;obtain⟨_,f,_,e,i,E,rfl,m,p,n⟩:=P.first;obtain⟨j,k,rfl,_⟩:=K1 p;exact⟨b,d,c,e,i,g,j,k,rfl,o,s b G,t 0 (by show 0<14;omega),t 8 (by show 8<14;omega),f,s e m,n 2 (by show 2<3;omega)⟩
theorem Gq(w:World)(n:WT F w):Calls Tryz.prog 6 #[.string Dz] w fun e w'=>Below w.heap.size w w'/\∃ b a c d g f i c2,e=.returned (.tuple #[.slice (some ⟨b,a,none⟩) 2 c,.agg o5])/\2<=c/\b<w'.heap.size/\w'.cell? ⟨b,a,none⟩=some (.int .i64 2)/\w'.cell? ⟨b,a+8,none⟩=some (.slice (some ⟨d,g,none⟩) 1 f)/\1<=f/\d<w'.heap.size/\w'.cell? ⟨d,g+2,none⟩=some (.slice i 2 c2):=by
 obtain⟨l,p,q⟩:=N_ F;refine(wj Dz w n).mono ?_;rintro e w' ⟨o,k⟩;refine⟨o,?_⟩;rw[p] at k;obtain⟨_,v,F,rfl,j,m⟩:=k;obtain⟨b,a,c,d,g,f,i,c2,rfl,h⟩:=BA q j m;exact⟨b,a,c,d,g,f,i,c2,rfl,h⟩
theorem Gr(w:World)(b:WT F w):Calls Tryz.prog 6 #[.string DA] w fun e w'=>Below w.heap.size w w'/\e=.returned (.tuple #[.slice none 0 0,.agg #[.int .i64 40,.int .i64 8]]):=by
 refine(wj DA w b).mono ?_;rintro e w' ⟨c,a⟩;rw[N' F] at a;exact⟨c,a.2⟩
theorem DB(w:World)(z:WT F w):Calls Tryz.prog 5 #[] w fun e w'=>e=.returned (.bool true)/\Below w.heap.size w w':=by
 have y:=U z;clear z;go_enter Tryz.func5,Tryz.ntmps5
 go_upto_region 2 with(go_at_call 6;refine(Gq w y).mono ?_;rintro e j ⟨A,b,o,c,B,I,M,L,c2,rfl,N,i,t,v,D,f,u⟩;have d:=U A;clear A)
 have r:=U (d.trans ((ab j ml).mono d.size));have s:=U (cc.new j o5 26)
 go_upto_region 3 with(go_at_call 6;refine(Gr _ (y.mono r)).mono ?_;rintro e q ⟨n,rfl⟩;have k:Hid (Below (j.alloc ml).heap.size (j.alloc ml) q):=U n;clear n)
 have g:=(ab j ml).trans (k.mono (ab j _).size);have h:=ab q (.cells #[.int .i64 40,.int .i64 8] 26);have a:=g.trans (h.mono g.size);have x:=U (d.trans (a.mono d.size));have l:=U ((s.bl k).bl h);have m:=U (cc.new q #[.int .i64 40,.int .i64 8] 26);have t:=(a.cell (p:=⟨b,o,none⟩) i).trans t;have v:=(a.cell (p:=⟨b,o+8,none⟩) i).trans v;have u:=(a.cell (p:=⟨B,I+2,none⟩) f).trans u;obtain⟨E,m1⟩:=o0 l.2.2;obtain⟨G,H⟩:=o0 m.2.2;generalize C:q.alloc (.cells #[.int .i64 40,.int .i64 8] 26)=J at x t v u E m1 G H⊢;clear g h a l m i f
 go_wp2_with fail
 go_ret;exact⟨rfl,x.out⟩
def rY(k:Nat)(v1 v2:Value)(w:World):Prop:=Calls Tryz.prog k #[v1,v2] w fun e w'=>e=.returned (.bool true)/\Below w.heap.size w w'
def jR(k:Nat)(l:List Nd):Prop:=∀ (w:World) (F:Nat->Prop) (v1 v2:Value),ey w F l v1->ey w F l v2->(∀ b,F b->b<w.heap.size)->rY k v1 v2 w
def oj(k:Nat)(nd:Nd):Prop:=∀ (w:World) (F:Nat->Prop) (c1 c2:List Value),ah w F nd c1->ah w F nd c2->(∀ b,F b->b<w.heap.size)->rY k (.agg c1.toArray) (.agg c2.toArray) w
def Ov(w:World)(F:Nat->Prop)(l:List Nd)(s:Nat)(a:Option Addr):Prop:=
 ∀ (i:Nat) (nd:Nd),l[i]?=some nd->∃ b off cs,a=some ⟨b,off,none⟩/\ah w F nd cs/\∀ w',Below w.heap.size w w'->∀ j v,cs[j]?=some v->w'.cell? ⟨b,off+i*s+j,none⟩=some v
theorem ey.rws{F:Nat->Prop}{v:Value}{s:Nat}(h:ey w F l v)(B:∀ r∈l,gn r=s)(x:∀ b,F b->b<w.heap.size):∃ a c,v=.slice a l.length c/\l.length<=c/\c<=9223372036854775807/\Ov w F l s a:=by
 obtain⟨a,c,rfl,f⟩:=h;unfold b8 at f;obtain⟨_,_,d,k,g,f⟩:=f;cases d;refine⟨a,c,rfl,k,by unfold maxLen at g;omega,fun i D n=>?_⟩
 rcases f with rfl|⟨b,e,rfl,y,A⟩
 ·simp at n
 ·obtain⟨m,o,t,u⟩:=A.at B i D n;refine⟨b,e,m,rfl,u,fun w' C j v d=>?_⟩
  have z:j<s:=by
   rw[<-o]
   rcases gr j m.length with q|q
   ·exact q
   ·rw[j4 q] at d;cases d
  rw[C.cell (p:=⟨b,e+i*s+j,none⟩) (x b y),t j z];exact d
theorem jR.at{k:Nat}(h:jR k l){F:Nat->Prop}(a:∀ b,F b->b<w.heap.size)(hb:Below w.heap.size w w'){c d:Value}(h1:ey w F l c)(e:ey w F l d):rY k c d w':=
 h w' F c d (h1.on (Kb.of hb a) fun _ q=>q) (e.on (Kb.of hb a) fun _ q=>q) fun b q=>gi (a b q) hb.size
theorem oj.at{k:Nat}{nd:Nd}(h:oj k nd){F:Nat->Prop}(c:∀ b,F b->b<w.heap.size)(hb:Below w.heap.size w w'){c1 a:List Value}(h1:ah w F nd c1)(d:ah w F nd a):rY k (.agg c1.toArray) (.agg a.toArray) w':=
 h w' F c1 a (h1.on (Kb.of hb c) fun _ q=>q) (d.on (Kb.of hb c) fun _ q=>q) fun b q=>gi (c b q) hb.size
theorem ax{a b:World}(h:Below w.heap.size w a)(g:Below a.heap.size a b):Below w.heap.size w b:=h.trans (g.mono h.size)
theorem ah.bt{F:Nat->Prop}{z:Int}{r:List Tr}{g:List Value}(h:ah w F (.kN z::r) g):∃ b a n c i,g=.bool b::.slice a n c::i/\ah w F r i/\b8 w F (.kN z) [.bool b,.slice a n c]:=by
 unfold ah at h;obtain⟨l,c2,rfl,d,j⟩:=h;have k:=d;unfold b8 at d;obtain⟨b,a,n,c,f,e,_⟩:=d;subst e;exact⟨b,a,n,c,c2,rfl,j,k⟩
theorem yJ{F:Nat->Prop}{z:Int}{m n:Bool}{i j:Option Addr}{r k s l:Nat}(o:∀ b,F b->b<w.heap.size)(p:Below w.heap.size w w')(a:b8 w F (.kN z) [.bool m,.slice i r k])(c:b8 w F (.kN z) [.bool n,.slice j s l]):
 Calls Tryz.prog 84 #[.agg #[.bool m,.slice i r k],.agg #[.bool n,.slice j s l]] w' fun e t=>e=.returned (.int .i64 0)/\Below w'.heap.size w' t:=by
 have a:=a.on (Kb.of p o) fun _ q=>q;have c:=c.on (Kb.of p o) fun _ q=>q;unfold b8 at a c;obtain⟨_,_,_,_,f,e,u,I,H,E,C,G⟩:=a;cases e;obtain⟨_,_,_,_,v,e,D,B,A,x,g,y⟩:=c;cases e;refine(Ff _ _ _ _ _ _ _ _ f v w' O O u D).mono fun e t h=>?_;obtain⟨rfl,d⟩:=h;exact⟨by rw[C,g];unfold nj;rw[if_neg (Int.lt_irrefl _),if_neg (Int.lt_irrefl _)],d⟩
theorem ey.rw{F:Nat->Prop}{a:Option Addr}{n:Nat}{s:Nat}(h:ey w F l (.slice a n c))(hs:∀ r∈l,gn r=s)(i:∀ b,F b->b<w.heap.size):l.length<=9223372036854775807/\l.length<=c/\c<=9223372036854775807/\Ov w F l s a:=by
 obtain⟨j,k,e,d,f,g⟩:=h.rws hs i;cases e;exact⟨fy d f,d,f,g⟩
theorem ah.parts{w:World}{F:Nat->Prop}:∀ {a b:List Tr} {d:List Value},ah w F (a++b) d->∃ c c2,d=c++c2/\ah w F a c/\ah w F b c2
 |[],b,d,h=>⟨[],d,rfl,by unfold ah;rfl,h⟩
 |t::a,b,d,h=>by
  rw[uI] at h;unfold ah at h;obtain⟨c,c2,rfl,g,i⟩:=h;obtain⟨e,f,rfl,j,k⟩:=ah.parts i;refine⟨c++e,f,by rw[q'],?_,k⟩;unfold ah;exact⟨c,e,rfl,g,j⟩
theorem BL(w:World)(b c:List Value)(T:TypeId):∃ a,(w.alloc (.cells b.toArray T)).alloc (.cells c.toArray T)=a/\Below w.heap.size w a/\(∀ W,Below a.heap.size a W->∀ j v,b[j]?=some v->W.cell? ⟨w.heap.size,j,none⟩=some v)/\∀ W,Below a.heap.size a W->∀ j v,c[j]?=some v->W.cell? ⟨w.heap.size+1,j,none⟩=some v:=by
 have f:=ab w (.cells b.toArray T);have g:=ab (w.alloc (.cells b.toArray T)) (.cells c.toArray T);have h:(w.alloc (.cells b.toArray T)).heap.size=w.heap.size+1:=ar
 have i:((w.alloc (.cells b.toArray T)).alloc (.cells c.toArray T)).heap.size=w.heap.size+2:=ar
 refine⟨_,rfl,f.trans (g.mono f.size),fun W d j v e=>?_,fun W d j v e=>?_⟩
 ·rw[d.cell (p:=⟨w.heap.size,j,none⟩) (by show w.heap.size<_;omega),g.cell (p:=⟨w.heap.size,j,none⟩) (by show w.heap.size<_;omega),jl]
  simpa using e
 ·rw[d.cell (p:=⟨w.heap.size+1,j,none⟩) (by show w.heap.size+1<_;omega),<-h,jl]
  simpa using e
theorem G7{b:List ak}{a:Nd}(h:a∈strs b):∃ s,a=[vS s]:=by
 induction b with
 |nil=>cases h
 |cons x r c=>
  have h:a∈[vS x]::strs r:=h
  rcases List.mem_cons.1 h with rfl|q
  ·exact⟨_,rfl⟩
  ·exact c q
theorem JZ(l:List Nd)(h:∀ r∈l,∃ s,r=[vS s]):jR 43 l:=by
 intro w F aD aE C D k;have p:∀ r∈l,gn r=1:=fun r R=>by obtain⟨s,rfl⟩:=h r R;rfl
 obtain⟨X,Z,rfl,T,m1,y⟩:=C.rws p k;obtain⟨Y,c2,rfl,aC,m2,z⟩:=D.rws p k;have L:=U h;have W:=U k;have m:=U y;have n:=U z;have Q:l.length<=9223372036854775807:=fy T m1;clear h p y z C D k;unfold rY;go_enter Tryz.func43,Tryz.ntmps43
 go_wp2_with fail
 go_loopg [5] l.length (fun g S wr=>∃ i:Nat,S=.int .i64 (i:Nat)/\g+i=l.length/\Hid (Below w.heap.size w wr))
 case atStart=>exact⟨0,rfl,O,U (Below.refl _ _)⟩
 case round=>
 obtain⟨i,rfl,P,j⟩:=hrel
 by_cases E:i<l.length
 ·have o:(i:Int)<(l.length:Int):=O
  have a:=fv E;obtain⟨q,d⟩:=L.out _ (lk E);rw[d] at a;obtain⟨A,G,M,rfl,I,t⟩:=m.out i _ a;obtain⟨B,H,N,rfl,J,u⟩:=n.out i _ a;obtain⟨_,rfl,e⟩:=I.v;obtain⟨_,rfl,f⟩:=J.v;have b:Hid (∀ w',Below w.heap.size w w'->w'.cell? ⟨A,G+i,none⟩=some (.string ⟨q.toArray⟩)):=U fun w' h=>by have:=t w' h 0 _ rfl;rwa [lp] at this
  have c:Hid (∀ w',Below w.heap.size w w'->w'.cell? ⟨B,H+i,none⟩=some (.string ⟨q.toArray⟩)):=U fun w' h=>by have:=u w' h 0 _ rfl;rwa [lp] at this
  clear I J t u a d e f;generalize (⟨q.toArray⟩:ByteArray)=x at b c
  go_upto_region 6 with fail
  have aA:wr.cell? ⟨A,G+i,none⟩=some (.string x):=b.out _ j.out;have aB:wr.cell? ⟨B,H+i,none⟩=some (.string x):=c.out _ j.out
  go_quiet (fail)
  go_wp2_with fail
  go_roundg (gk-1)
  case measure=>omega
  case rel=>exact⟨i+1,by first|rfl|(congr 1),O,U (by repeat (first|with_reducible refine Below.drew ?_|with_reducible refine Below.drewN ?_ _);exact j.out)⟩
 ·have o:¬(i:Int)<(l.length:Int):=O
  go_wp2_with fail
  refine bodyPost_ret (v:=.bool true) (by simp[results,Tryz.results43,go_sem]) rfl ⟨rfl,j.out⟩
theorem om(b:List ak):jR 43 (strs b):=JZ _ fun r a=>G7 a
theorem sS(l:List Nd)(h:∀ bM∈l,∃ k n a ls,bM=ho k n a ls/\jR 46 a):jR 46 l:=by
 intro w F bX bY aQ aR aB;have aJ:∀ r∈l,gn r=4:=fun r bJ=>by obtain⟨_,_,_,_,rfl,_⟩:=h r bJ;rfl
 obtain⟨bO,bQ,rfl,bL,m1,aO⟩:=aQ.rws aJ aB;obtain⟨bP,c2,rfl,bV,m2,aP⟩:=aR.rws aJ aB;have b6:=U h;have aN:=U aB;have aF:=U aO;have aG:=U aP;have bI:l.length<=9223372036854775807:=fy bL m1;clear h aJ aO aP aQ aR aB;unfold rY;go_enter Tryz.func46,Tryz.ntmps46
 go_wp2_with fail
 go_loopg [5] l.length (fun g bK wr=>∃ i:Nat,bK=.int .i64 (i:Nat)/\g+i=l.length/\Hid (Below w.heap.size w wr))
 case atStart=>exact⟨0,rfl,O,U (Below.refl _ _)⟩
 case round=>
 obtain⟨i,rfl,bH,Y⟩:=hrel
 by_cases aT:i<l.length
 ·have aI:(i:Int)<(l.length:Int):=O
  have j:=fv aT;obtain⟨aX,bN,aY,aK,T,aU⟩:=b6.out _ (lk aT);rw[T] at j;obtain⟨Z,aC,bA,rfl,aV,aL⟩:=aF.out i _ j;obtain⟨aA,aD,bC,rfl,aW,aM⟩:=aG.out i _ j;obtain⟨_,rfl,o⟩:=aV.v;obtain⟨_,rfl,p⟩:=o.v;obtain⟨I,N,_,rfl,q,x⟩:=p.ls;obtain⟨J,P,_,rfl,W,y⟩:=q.ls;obtain⟨_,rfl,s⟩:=aW.v;obtain⟨_,rfl,t⟩:=s.v;obtain⟨L,Q,_,rfl,u,z⟩:=t.ls;obtain⟨M,R,_,rfl,X,A⟩:=u.ls;have D:=U x;have G:=U z;have E:=U y;have H:=U A;have aH:=U aU;have d:=U aL;have f:=U aM;clear aV aW aL aM j T o p q W s t u X x y z A aU;generalize (⟨bN.toArray⟩:ByteArray)=aZ at d f
  go_upto_region 6 with fail
  have bR:wr.cell? ⟨Z,aC+i*4+2,none⟩=some (.slice I aY.length N):=d.out _ Y.out 2 _ rfl;have bS:wr.cell? ⟨aA,aD+i*4+2,none⟩=some (.slice L aY.length Q):=f.out _ Y.out 2 _ rfl
  go_still_tail 10,aq
  change wpList _ _ _ _ _ wr.drew;have B:=U Y.drew;generalize wr.drew=bZ at B⊢
  go_upto_region 7 with(go_at_call 46;refine(aH.at aN.out B D G).mono ?_;rintro e aE ⟨rfl,S⟩;have C:=U (ax B S);clear S)
  go_upto_region 7 with fail
  have bT:aE.cell? ⟨Z,aC+i*4+3,none⟩=some (.slice J (strs aK).length P):=d.out _ C.out 3 _ rfl;have bU:aE.cell? ⟨aA,aD+i*4+3,none⟩=some (.slice M (strs aK).length R):=f.out _ C.out 3 _ rfl
  go_still_tail 10,aq
  change wpList _ _ _ _ _ aE.drew;have c:=U C.drew;generalize aE.drew=cA at c⊢
  go_upto_region 8 with(go_at_call 43;refine((om aK).at aN.out c E H).mono ?_;rintro e m ⟨rfl,S⟩;have b:=U (ax c S);clear S)
  have bD:m.cell? ⟨Z,aC+i*4,none⟩=some (.int .i64 aX):=d.out _ b.out 0 _ rfl;have bE:m.cell? ⟨aA,aD+i*4,none⟩=some (.int .i64 aX):=f.out _ b.out 0 _ rfl;have bF:m.cell? ⟨Z,aC+i*4+1,none⟩=some (.string aZ):=d.out _ b.out 1 _ rfl;have bG:m.cell? ⟨aA,aD+i*4+1,none⟩=some (.string aZ):=f.out _ b.out 1 _ rfl
  go_quiet (fail)
  go_wp2_with fail
  go_roundg (gk-1)
  case measure=>omega
  case rel=>exact⟨i+1,by first|rfl|(congr 1),O,U (by repeat (first|with_reducible refine Below.drew ?_|with_reducible refine Below.drewN ?_ _);exact b.out)⟩
 ·have aI:¬(i:Int)<(l.length:Int):=O
  go_wp2_with fail
  refine bodyPost_ret (v:=.bool true) (by simp[results,Tryz.results46,go_sem]) rfl ⟨rfl,Y.out⟩
theorem uz(l:List Nd)(h:∀ dS∈l,∃ k n z m dU ls a b,dS=c_ k n z m dU ls a b/\jR 44 a/\jR 46 b):jR 44 l:=by
 intro w F eG eH cE cF bR;have bY:∀ r∈l,gn r=9:=fun r dP=>by obtain⟨_,_,_,_,_,_,_,_,rfl,_,_⟩:=h r dP;rfl
 obtain⟨eC,eE,rfl,dR,m1,cC⟩:=cE.rws bY bR;obtain⟨eD,c2,rfl,eF,m2,cD⟩:=cF.rws bY bR;have cR:=U h;have bQ:=U bR;have bS:=U cC;have bT:=U cD;have dO:l.length<=9223372036854775807:=fy dR m1;clear h bY cC cD cE cF bR;unfold rY;go_enter Tryz.func44,Tryz.ntmps44
 go_wp2_with fail
 go_loopg [5] l.length (fun g dQ wr=>∃ i:Nat,dQ=.int .i64 (i:Nat)/\g+i=l.length/\Hid (Below w.heap.size w wr))
 case atStart=>exact⟨0,rfl,O,U (Below.refl _ _)⟩
 case round=>
 obtain⟨i,rfl,dM,bP⟩:=hrel
 by_cases cG:i<l.length
 ·have bX:(i:Int)<(l.length:Int):=O
  have D:=fv cG;obtain⟨cL,dZ,eI,cM,eB,bZ,cN,cO,bK,cH,cI⟩:=cR.out _ (lk cG);rw[bK] at D;obtain⟨B,E,cS,rfl,cJ,cA⟩:=bS.out i _ D;obtain⟨C,G,cT,rfl,cK,cB⟩:=bT.out i _ D;obtain⟨_,rfl,J⟩:=cJ.v;obtain⟨_,rfl,L⟩:=J.v;obtain⟨bI,aR,bL,b6,_,rfl,M,aB⟩:=L.bt;obtain⟨_,rfl,N⟩:=M.v;obtain⟨_,rfl,P⟩:=N.v;obtain⟨aT,bA,_,rfl,Q,aC⟩:=P.ls;obtain⟨aU,bC,_,rfl,R,aD⟩:=Q.ls;obtain⟨aV,bD,_,rfl,bN,aE⟩:=R.ls;obtain⟨_,rfl,S⟩:=cK.v;obtain⟨_,rfl,T⟩:=S.v;obtain⟨bJ,aW,bM,bE,_,rfl,W,aF⟩:=T.bt;obtain⟨_,rfl,X⟩:=W.v;obtain⟨_,rfl,Y⟩:=X.v;obtain⟨aX,bF,_,rfl,Z,aG⟩:=Y.ls;obtain⟨aY,bG,_,rfl,aA,aH⟩:=Z.ls;obtain⟨aZ,bH,_,rfl,bO,aI⟩:=aA.ls;have aK:=U aC;have aO:=U aG;have aL:=U aD;have aP:=U aH;have aM:=U aE;have aQ:=U aI;have aJ:=U aB;have aN:=U aF;have bU:=U cH;have bV:=U cI;have d:=U cA;have f:=U cB;clear cJ cK cA cB D bK J L M N P Q R bN S T W X Y Z aA bO aB aC aD aE aF aG aH aI cH cI;generalize (⟨dZ.toArray⟩:ByteArray)=cP at d f;generalize (⟨eB.toArray⟩:ByteArray)=cQ at d f
  go_upto_region 6 with fail
  have cU:wr.cell? ⟨B,E+i*9+7,none⟩=some (.slice aU cN.length bC):=d.out _ bP.out 7 _ rfl;have cV:wr.cell? ⟨C,G+i*9+7,none⟩=some (.slice aY cN.length bG):=f.out _ bP.out 7 _ rfl
  go_still_tail 10,aq
  change wpList _ _ _ _ _ wr.drew;have q:=U bP.drew;generalize wr.drew=dV at q⊢
  go_upto_region 7 with(go_at_call 44;refine(bU.at bQ.out q aL aP).mono ?_;rintro e H ⟨rfl,A⟩;have s:=U (ax q A);clear A)
  go_upto_region 7 with fail
  have cW:H.cell? ⟨B,E+i*9+8,none⟩=some (.slice aV cO.length bD):=d.out _ s.out 8 _ rfl;have cX:H.cell? ⟨C,G+i*9+8,none⟩=some (.slice aZ cO.length bH):=f.out _ s.out 8 _ rfl
  go_still_tail 10,aq
  change wpList _ _ _ _ _ H.drew;have t:=U s.drew;generalize H.drew=dW at t⊢
  go_upto_region 8 with(go_at_call 46;refine(bV.at bQ.out t aM aQ).mono ?_;rintro e I ⟨rfl,A⟩;have u:=U (ax t A);clear A)
  go_upto_region 8 with fail
  have cY:I.cell? ⟨B,E+i*9+6,none⟩=some (.slice aT (strs bZ).length bA):=d.out _ u.out 6 _ rfl;have cZ:I.cell? ⟨C,G+i*9+6,none⟩=some (.slice aX (strs bZ).length bF):=f.out _ u.out 6 _ rfl
  go_still_tail 10,aq
  change wpList _ _ _ _ _ I.drew;have x:=U u.drew;generalize I.drew=dX at x⊢
  go_upto_region 9 with(go_at_call 43;refine((om bZ).at bQ.out x aK aO).mono ?_;rintro e p ⟨rfl,A⟩;have j:=U (ax x A);clear A)
  go_upto_region 9 with fail
  have dA:p.cell? ⟨B,E+i*9+2,none⟩=some (.bool bI):=d.out _ j.out 2 _ rfl;have dB:p.cell? ⟨C,G+i*9+2,none⟩=some (.bool bJ):=f.out _ j.out 2 _ rfl;have dC:p.cell? ⟨B,E+i*9+3,none⟩=some (.slice aR bL b6):=d.out _ j.out 3 _ rfl;have dD:p.cell? ⟨C,G+i*9+3,none⟩=some (.slice aW bM bE):=f.out _ j.out 3 _ rfl
  go_still_tail 10,aq
  change wpList _ _ _ _ _ p.drew;have y:=U j.drew;generalize p.drew=dY at y⊢
  go_upto_region 10 with(go_at_call 84;refine(yJ bQ y aJ aN).mono ?_;rintro e o ⟨rfl,A⟩;have c:=U (ax y A);clear A)
  have dE:o.cell? ⟨B,E+i*9,none⟩=some (.int .i64 cL):=d.out _ c.out 0 _ rfl;have dF:o.cell? ⟨C,G+i*9,none⟩=some (.int .i64 cL):=f.out _ c.out 0 _ rfl;have dG:o.cell? ⟨B,E+i*9+1,none⟩=some (.string cP):=d.out _ c.out 1 _ rfl;have dH:o.cell? ⟨C,G+i*9+1,none⟩=some (.string cP):=f.out _ c.out 1 _ rfl;have dI:o.cell? ⟨B,E+i*9+4,none⟩=some (.int .i64 cM):=d.out _ c.out 4 _ rfl;have dJ:o.cell? ⟨C,G+i*9+4,none⟩=some (.int .i64 cM):=f.out _ c.out 4 _ rfl;have dK:o.cell? ⟨B,E+i*9+5,none⟩=some (.string cQ):=d.out _ c.out 5 _ rfl;have dL:o.cell? ⟨C,G+i*9+5,none⟩=some (.string cQ):=f.out _ c.out 5 _ rfl
  go_quiet (fail)
  go_wp2_with fail
  go_roundg (gk-1)
  case measure=>omega
  case rel=>exact⟨i+1,by first|rfl|(congr 1),O,U (by repeat (first|with_reducible refine Below.drew ?_|with_reducible refine Below.drewN ?_ _);exact c.out)⟩
 ·have bX:¬(i:Int)<(l.length:Int):=O
  go_wp2_with fail
  refine bodyPost_ret (v:=.bool true) (by simp[results,Tryz.results44,go_sem]) rfl ⟨rfl,bP.out⟩
theorem gD{P:Program}{c:Array Oper}{Q:Act->Prop}{rest:List Oper}{op:Oper}{a:Act}(n:Region.wanted op (yielded c a.tmps)=true)(g:TypeId)(x:Operand)(l:op.op=.load g x)
 (b o:Nat) (p:a.eval x=.pointer (some ⟨b,o,none⟩)) (f:List Value) (d:TypeDesc) (i:w.rangeAt b o f)
 (m:P.underlying g=some d) (j:d.isRow=true) (k:(P.info? g).map (·.size)=some f.length)
 (h:wpStill P c w Q rest (a.put op.dst (.agg f.toArray))):wpStill P c w Q (op::rest) a:=by
 unfold wpStill;rw[if_pos n];unfold Oper.still
 have e:(execOp a.eval op).run P w=.ok (.value (.agg f.toArray)) w:=by
  unfold execOp;simp only [l,p,Instr.loadAt,Instr.sureAddr,Sem.run_bind,Sem.run_pure,Result.andThen_ok,run_loadVar_mid w b o g f d i m j k]
 rw[e,Oper.stillUpon_value];exact h
theorem BM(l:List Nd)(h:∀ cT∈l,∃ k n z m b cH ls a r d t,cT=b9 k n z m b cH ls a r d t/\oj 83 (b9 k n z m b cH ls a r d t)):jR 45 l:=by
 intro w F dD dE cA cB aI;have aW:∀ r∈l,gn r=12:=fun r cQ=>by obtain⟨_,_,_,_,_,_,_,_,_,_,_,rfl,_⟩:=h r cQ;rfl
 obtain⟨cZ,dB,rfl,cS,m1,bA⟩:=cA.rws aW aI;obtain⟨dA,c2,rfl,dC,m2,bC⟩:=cB.rws aW aI;have cI:=U h;have cJ:=U aI;have aN:=U bA;have aO:=U bC;have cP:l.length<=9223372036854775807:=fy cS m1;clear h aW bA bC cA cB aI;unfold rY;go_enter Tryz.func45,Tryz.ntmps45
 go_wp2_with fail
 go_loopg [5] l.length (fun g cR wr=>∃ i:Nat,cR=.int .i64 (i:Nat)/\g+i=l.length/\Hid (Below w.heap.size w wr))
 case atStart=>exact⟨0,rfl,O,U (Below.refl _ _)⟩
 case round=>
 obtain⟨i,rfl,cO,aH⟩:=hrel
 by_cases cD:i<l.length
 ·have aV:(i:Int)<(l.length:Int):=O
  have o:=fv cD;obtain⟨dF,dG,dH,dI,dJ,dK,dL,dM,dO,dP,cY,W,cE⟩:=cI.out _ (lk cD);rw[W] at o;obtain⟨cK,cU,cM,rfl,aX,aZ⟩:=aN.out i _ o;obtain⟨cL,cV,cN,rfl,aY,b6⟩:=aO.out i _ o;obtain⟨_,rfl,p⟩:=aX.v;obtain⟨_,rfl,q⟩:=p.v;obtain⟨bY,bD,cF,bN,_,rfl,s,X⟩:=q.bt;obtain⟨_,rfl,u⟩:=s.v;obtain⟨_,rfl,x⟩:=u.v;obtain⟨_,rfl,y⟩:=x.v;obtain⟨bE,bO,_,rfl,A,Y⟩:=y.ls;obtain⟨bF,bP,_,rfl,B,Z⟩:=A.ls;obtain⟨bG,bQ,_,rfl,C,aA⟩:=B.ls;obtain⟨bH,bR,_,rfl,D,aB⟩:=C.ls;obtain⟨aQ,aT,_,rfl,f,R⟩:=D.ls;obtain rfl:=f.nl;obtain⟨_,rfl,E⟩:=aY.v;obtain⟨_,rfl,G⟩:=E.v;obtain⟨bZ,bI,cG,bS,_,rfl,H,aC⟩:=G.bt;obtain⟨_,rfl,I⟩:=H.v;obtain⟨_,rfl,J⟩:=I.v;obtain⟨_,rfl,L⟩:=J.v;obtain⟨bJ,bT,_,rfl,M,aD⟩:=L.ls;obtain⟨bK,bU,_,rfl,N,aE⟩:=M.ls;obtain⟨bL,bV,_,rfl,P,aF⟩:=N.ls;obtain⟨bM,bX,_,rfl,Q,aG⟩:=P.ls;obtain⟨aR,aU,_,rfl,j,S⟩:=Q.ls;obtain rfl:=j.nl;have aP:=U cE;have aL:=U aX;have aM:=U aY;have aJ:=U aZ;have aK:=U b6;clear aX aY aZ b6 o W p q s u x y A B C D f E G H I J L M N P Q j X Y Z aA aB R aC aD aE aF aG S cE
  go_upto_region 6 with fail
  refine wp_region_still_tail 8 aq aq ?_;simp only [List.take_succ_cons,List.take_zero,List.drop_succ_cons,List.drop_zero]
  iterate 3 still_step
  refine gD rfl 87 _ rfl cK (cU+i*12) rfl _ _ (aJ.out _ aH.drew) Tryz.underlying87 rfl aq ?_
  iterate 3 still_step
  refine gD rfl 87 _ rfl cL (cV+i*12) rfl _ _ (aK.out _ aH.drew) Tryz.underlying87 rfl aq ?_;refine wpStill_nil ?_;change wpList _ _ _ _ _ wr.drew;have c:=U aH.drew;generalize wr.drew=cW at c⊢
  go_upto_region 7 with(go_at_call 83;refine(aP.at cJ.out c aL aM).mono ?_;rintro e cX ⟨rfl,cC⟩;have T:=U (ax c cC);clear cC)
  go_wp2_with fail
  go_roundg (gk-1)
  case measure=>omega
  case rel=>exact⟨i+1,by first|rfl|(congr 1),O,U (by(repeat (first|with_reducible refine Below.drew ?_|with_reducible refine Below.drewN ?_ _));exact T.out)⟩
 ·have aV:¬(i:Int)<(l.length:Int):=O
  go_wp2_with fail
  refine bodyPost_ret (v:=.bool true) (by simp[results,Tryz.results45,go_sem]) rfl ⟨rfl,aH.out⟩
theorem BN(l:List Nd)(h:∀ cN∈l,∃ k n v m c t,cN=fl k n (mkData v m c) t/\oj 41 (mkData v m c)/\jR 46 t):jR 42 l:=by
 intro w F cZ dA bJ bK aO;have bA:∀ r∈l,gn r=6:=fun r cK=>by obtain⟨_,_,_,_,_,_,rfl,_,_⟩:=h r cK;rfl
 obtain⟨cR,cT,rfl,cM,m1,bH⟩:=bJ.rws bA aO;obtain⟨cS,c2,rfl,cW,m2,bI⟩:=bK.rws bA aO;have bS:=U h;have bG:=U aO;have aW:=U bH;have aX:=U bI;have cJ:l.length<=9223372036854775807:=fy cM m1;clear h bA bH bI bJ bK aO;unfold rY;go_enter Tryz.func42,Tryz.ntmps42
 go_wp2_with fail
 go_loopg [5] l.length (fun g cL wr=>∃ i:Nat,cL=.int .i64 (i:Nat)/\g+i=l.length/\Hid (Below w.heap.size w wr))
 case atStart=>exact⟨0,rfl,O,U (Below.refl _ _)⟩
 case round=>
 obtain⟨i,rfl,cI,y⟩:=hrel
 by_cases bL:i<l.length
 ·have b6:(i:Int)<(l.length:Int):=O
  have s:=fv bL;obtain⟨bQ,cQ,aP,aQ,aR,aT,aL,bM,bN⟩:=bS.out _ (lk bL);rw[aL] at s;obtain⟨S,W,bT,rfl,bO,bE⟩:=aW.out i _ s;obtain⟨T,X,bU,rfl,bP,bF⟩:=aX.out i _ s;obtain⟨_,rfl,z⟩:=bO.v;obtain⟨_,rfl,A⟩:=z.v;obtain⟨cU,cX,rfl,bC,B⟩:=ah.parts (a:=mkData aP aQ aR) (b:=[.sl aT]) A;obtain⟨Y,aE,_,rfl,I,_⟩:=bC.ls;obtain⟨_,rfl,J⟩:=I.v;obtain⟨Z,aF,_,rfl,L,_⟩:=J.ls;obtain rfl:=L.nl;obtain⟨aA,aG,_,rfl,aM,G⟩:=B.ls;have aU:=U bC;have Q:=U G;obtain⟨_,rfl,C⟩:=bP.v;obtain⟨_,rfl,D⟩:=C.v;obtain⟨cV,cY,rfl,bD,E⟩:=ah.parts (a:=mkData aP aQ aR) (b:=[.sl aT]) D;obtain⟨aB,aH,_,rfl,M,_⟩:=bD.ls;obtain⟨_,rfl,N⟩:=M.v;obtain⟨aC,aI,_,rfl,P,_⟩:=N.ls;obtain rfl:=P.nl;obtain⟨aD,aJ,_,rfl,aN,H⟩:=E.ls;have aV:=U bD;have R:=U H;have aY:=U bM;have aZ:=U bN;have f:=U bE;have j:=U bF;clear bO bP bE bF s aL bM bN z A B aM bC I J L G C D E aN bD M N P H;generalize (⟨cQ.toArray⟩:ByteArray)=bR at f j
  go_upto_region 6 with fail
  have bV:wr.cell? ⟨S,W+i*6+2,none⟩=some (.slice Y (strs aP).length aE):=f.out _ y.out 2 _ rfl;have bX:wr.cell? ⟨S,W+i*6+3,none⟩=some (.string ⟨aQ.toArray⟩):=f.out _ y.out 3 _ rfl;have bY:wr.cell? ⟨S,W+i*6+4,none⟩=some (.slice Z aR.length aF):=f.out _ y.out 4 _ rfl;have bZ:wr.cell? ⟨T,X+i*6+2,none⟩=some (.slice aB (strs aP).length aH):=j.out _ y.out 2 _ rfl;have cA:wr.cell? ⟨T,X+i*6+3,none⟩=some (.string ⟨aQ.toArray⟩):=j.out _ y.out 3 _ rfl;have cB:wr.cell? ⟨T,X+i*6+4,none⟩=some (.slice aC aR.length aI):=j.out _ y.out 4 _ rfl
  go_still_tail 10,aq
  change wpList _ _ _ _ _ wr.drew;have o:=U y.drew;generalize wr.drew=cO at o⊢
  go_upto_region 7 with(go_at_call 41;refine(aY.at bG.out o aU aV).mono ?_;rintro e u ⟨rfl,aK⟩;have p:=U (ax o aK);clear aK)
  go_upto_region 7 with fail
  have cC:u.cell? ⟨S,W+i*6+5,none⟩=some (.slice aA aT.length aG):=f.out _ p.out 5 _ rfl;have cD:u.cell? ⟨T,X+i*6+5,none⟩=some (.slice aD aT.length aJ):=j.out _ p.out 5 _ rfl
  go_still_tail 10,aq
  change wpList _ _ _ _ _ u.drew;have q:=U p.drew;generalize u.drew=cP at q⊢
  go_upto_region 8 with(go_at_call 46;refine(aZ.at bG.out q Q R).mono ?_;rintro e x ⟨rfl,aK⟩;have d:=U (ax q aK);clear aK)
  have cE:x.cell? ⟨S,W+i*6,none⟩=some (.int .i64 bQ):=f.out _ d.out 0 _ rfl;have cF:x.cell? ⟨T,X+i*6,none⟩=some (.int .i64 bQ):=j.out _ d.out 0 _ rfl;have cG:x.cell? ⟨S,W+i*6+1,none⟩=some (.string bR):=f.out _ d.out 1 _ rfl;have cH:x.cell? ⟨T,X+i*6+1,none⟩=some (.string bR):=j.out _ d.out 1 _ rfl
  go_quiet (fail)
  go_wp2_with fail
  go_roundg (gk-1)
  case measure=>omega
  case rel=>exact⟨i+1,by first|rfl|(congr 1),O,U (by(repeat (first|with_reducible refine Below.drew ?_|with_reducible refine Below.drewN ?_ _));exact d.out)⟩
 ·have b6:¬(i:Int)<(l.length:Int):=O
  go_wp2_with fail
  refine bodyPost_ret (v:=.bool true) (by simp[results,Tryz.results42,go_sem]) rfl ⟨rfl,y.out⟩
theorem wy(l:List Nd)(h:∀ dF∈l,∃ f,dF=d_ f/\oj 16 (d_ f)):jR 8 l:=by
 intro w F dP dQ cP cQ aN;have bN:∀ r∈l,gn r=14:=fun r dC=>by obtain⟨_,rfl,_⟩:=h r dC;rfl
 obtain⟨dK,dM,rfl,dE,m1,bS⟩:=cP.rws bN aN;obtain⟨dL,c2,rfl,dO,m2,bT⟩:=cQ.rws bN aN;have cU:=U h;have cV:=U aN;have aT:=U bS;have aU:=U bT;have dB:l.length<=9223372036854775807:=fy dE m1;clear h bN bS bT cP cQ aN;unfold rY;go_enter Tryz.func8,Tryz.ntmps8
 go_wp2_with fail
 go_loopg [5] l.length (fun g dD wr=>∃ i:Nat,dD=.int .i64 (i:Nat)/\g+i=l.length/\Hid (Below w.heap.size w wr))
 case atStart=>exact⟨0,rfl,O,U (Below.refl _ _)⟩
 case round=>
 obtain⟨i,rfl,dA,aM⟩:=hrel
 by_cases cS:i<l.length
 ·have bM:(i:Int)<(l.length:Int):=O
  have p:=fv cS;obtain⟨dR,aB,cT⟩:=cU.out _ (lk cS);rw[aB] at p;obtain⟨cW,dG,cY,rfl,bO,bQ⟩:=aT.out i _ p;obtain⟨cX,dH,cZ,rfl,bP,bR⟩:=aU.out i _ p;obtain⟨_,rfl,q⟩:=bO.v;obtain⟨_,rfl,s⟩:=q.v;obtain⟨bU,cF,_,rfl,t,aC⟩:=s.ls;obtain⟨_,rfl,u⟩:=t.v;obtain⟨_,rfl,x⟩:=u.v;obtain⟨_,rfl,y⟩:=x.v;obtain⟨bV,cG,_,rfl,z,aD⟩:=y.ls;obtain⟨bX,cH,_,rfl,A,aE⟩:=z.ls;obtain⟨bY,cI,_,rfl,B,aF⟩:=A.ls;obtain⟨bZ,cJ,_,rfl,C,aG⟩:=B.ls;obtain⟨aW,bE,_,rfl,b,Q⟩:=C.ls;obtain⟨aX,bF,_,rfl,c,R⟩:=b.ls;obtain⟨aY,bG,_,rfl,d,S⟩:=c.ls;obtain⟨aZ,bH,_,rfl,j,T⟩:=d.ls;obtain rfl:=j.nl;obtain⟨_,rfl,D⟩:=bP.v;obtain⟨_,rfl,E⟩:=D.v;obtain⟨cA,cK,_,rfl,G,aH⟩:=E.ls;obtain⟨_,rfl,H⟩:=G.v;obtain⟨_,rfl,I⟩:=H.v;obtain⟨_,rfl,J⟩:=I.v;obtain⟨cB,cL,_,rfl,L,aI⟩:=J.ls;obtain⟨cC,cM,_,rfl,M,aJ⟩:=L.ls;obtain⟨cD,cN,_,rfl,N,aK⟩:=M.ls;obtain⟨cE,cO,_,rfl,P,aL⟩:=N.ls;obtain⟨b6,bI,_,rfl,k,W⟩:=P.ls;obtain⟨bA,bJ,_,rfl,m,X⟩:=k.ls;obtain⟨bC,bK,_,rfl,n,Y⟩:=m.ls;obtain⟨bD,bL,_,rfl,o,Z⟩:=n.ls;obtain rfl:=o.nl;have aV:=U cT;have aQ:=U bO;have aR:=U bP;have aO:=U bQ;have aP:=U bR;clear bO bP bQ bR p aB q s t u x y z A B C b c d j D E G H I J L M N P k m n o aC aD aE aF aG Q R S T aH aI aJ aK aL W X Y Z cT
  go_upto_region 6 with fail
  refine wp_region_still_tail 8 aq aq ?_;simp only [List.take_succ_cons,List.take_zero,List.drop_succ_cons,List.drop_zero]
  iterate 3 still_step
  refine gD rfl 42 _ rfl cW (dG+i*14) rfl _ _ (aO.out _ aM.drew) Tryz.underlying42 rfl aq ?_
  iterate 3 still_step
  refine gD rfl 42 _ rfl cX (dH+i*14) rfl _ _ (aP.out _ aM.drew) Tryz.underlying42 rfl aq ?_;refine wpStill_nil ?_;change wpList _ _ _ _ _ wr.drew;have a:=U aM.drew;generalize wr.drew=dI at a⊢
  go_upto_region 7 with(go_at_call 16;refine(aV.at cV.out a aQ aR).mono ?_;rintro e dJ ⟨rfl,cR⟩;have aA:=U (ax a cR);clear cR)
  go_wp2_with fail
  go_roundg (gk-1)
  case measure=>omega
  case rel=>exact⟨i+1,by first|rfl|(congr 1),O,U (by(repeat (first|with_reducible refine Below.drew ?_|with_reducible refine Below.drewN ?_ _));exact aA.out)⟩
 ·have bM:¬(i:Int)<(l.length:Int):=O
  go_wp2_with fail
  refine bodyPost_ret (v:=.bool true) (by simp[results,Tryz.results8,go_sem]) rfl ⟨rfl,aM.out⟩
end Go.Proofs.YtkblonfmjlopaaaGreatDoor
