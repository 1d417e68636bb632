/-
  Decimal digits: what a shift to the left or to the right leaves. Plain.
-/
import Derived.Test.YtkblonfmjlopaaaGreatDoorPdP
set_option linter.all false
set_option maxRecDepth 1000000
set_option maxHeartbeats 16000000
namespace Go.Proofs.YtkblonfmjlopaaaGreatDoor
section
open Go
theorem oH(E:Nat->Nat)(p v:Nat):jG E p v p=v:=by unfold jG;rw[if_pos rfl]
theorem l8{E:Nat->Nat}{p v i:Nat}(h:i≠p):jG E p v i=E i:=by unfold jG;rw[if_neg h]
def iF(E:Nat->Nat):Nat->Nat
 |0=>0
 |n+1=>if E n=48 then iF E n else n+1
theorem sw(E:Nat->Nat):∀ n,iF E n<=n
 |0=>aw _
 |n+1=>by
  have:=sw E n;unfold iF;split<;>omega
theorem mH{E:Nat->Nat}(h:E 0≠48):∀ n,0<n->0<iF E n
 |0,a=>absurd a O
 |1,_=>by unfold iF;rw[if_neg h];omega
 |n+2,_=>by
  have:=mH h (n+1) O;unfold iF;split<;>omega
theorem least{p:Nat->Prop}[DecidablePred p](m:Nat)(h:p m):∃ R,R<=m/\p R/\∀ j,j<R->¬p j:=by
 have c:∀ m,(∃ R,R<=m/\p R/\∀ j,j<R->¬p j)\/∀ j,j<=m->¬p j:=by
  intro m
  induction m with
  |zero=>
   by_cases h:p 0
   ·exact .inl ⟨0,aw _,h,fun j d=>O⟩
   ·exact .inr fun j d=>by rw[show j=0 from O];exact h
  |succ m b=>
   rcases b with⟨R,a,e,f⟩|b
   ·exact .inl ⟨R,O,e,f⟩
   ·by_cases h:p (m+1)
    ·exact .inl ⟨m+1,aw _,h,fun j d=>b j O⟩
    ·refine .inr fun j d=>?_
     rcases gr j (m+1) with k|k
     ·exact b j O
     ·rw[show j=m+1 from O];exact h
 rcases c m with a|a
 ·exact a
 ·exact absurd h (a m (aw _))
def ext(D:Nat->Nat)(nd:Nat):Nat->Nat:=fun i=>if i<nd then D i else 48
theorem p6{D:Nat->Nat}{nd i:Nat}(h:i<nd):ext D nd i=D i:=by unfold ext;rw[if_pos h]
theorem rv{D:Nat->Nat}{nd i:Nat}(h:nd<=i):ext D nd i=48:=by unfold ext;rw[if_neg O]
theorem n8{D:Nat->Nat}{nd:Nat}(a:ir D nd)(m:Nat):ir (ext D nd) m:=fun i _=>by
 rcases gr i nd with k|k
 ·rw[p6 k];exact a i k
 ·rw[rv k];omega
theorem FX{D:Nat->Nat}{nd:Nat}(k:Nat)(b:ir D nd)(c:0<nd)(n:D 0≠48):
 ∃ R,0<R/\R<=k+1/\2^k<=cq (ext D nd) R/\cq (ext D nd) R<10*2^k/\∀ j,j<R->cq (ext D nd) j<2^k:=by
 have g:=(jt (D:=ext D nd) (a:=1) (j:=k) (n8 b _)).1
 have f:1<=cq (ext D nd) 1:=by
  have:=b 0 c;simp[cq,p6 c];omega
 have o:(2:Nat)^k<=10^k:=Nat.pow_le_pow_left O k
 have h:2^k<=cq (ext D nd) (k+1):=by
  rw[ra k 1];have:=jX (10^k) f;omega
 obtain⟨R,l,d,e⟩:=least (p:=fun m=>2^k<=cq (ext D nd) m) (k+1) h;have s:0<(2:Nat)^k:=je O
 rcases R with _|R
 ·simp[cq] at d
 ·refine⟨R+1,O,l,d,?_,fun j i=>ba (e j i)⟩;have q:=e R O;have r:=n8 b (R+1) R O;rw[cq];omega
def rn(X:Nat->Nat)(k R:Nat):Nat->Nat
 |0=>cq X R
 |j+1=>(rn X k R j%2^k)*10+(X (R+j)-48)
theorem CT{X:Nat->Nat}{k R:Nat}(a:∀ m,ir X m)(h:cq X R<10*2^k):∀ j,rn X k R j<10*2^k
 |0=>h
 |j+1=>by
  have b:=a (R+j+1) (R+j) O;have c:rn X k R j%2^k<2^k:=sZ _ (je O);rw[rn];omega
theorem EA{X:Nat->Nat}{k R a:Nat}(h:∀ i,R+a<=i->X i=48):∀ i,i<=k->2^i∣rn X k R (a+i)
 |0,_=>⟨_,(Nat.one_mul _).symm⟩
 |i+1,hi=>by
  have b:=EA (k:=k) (R:=R) h i O;rw[show a+(i+1)=(a+i)+1 from O,rn,h (R+(a+i)) O];have d:2^i∣rn X k R (a+i)%2^k:=(Nat.dvd_mod_iff (Nat.pow_dvd_pow 2 (show i<=k from O))).2 b;obtain⟨c,e⟩:=d;exact⟨c*5,by rw[e,qu];simp only [Nat.sub_self,Nat.add_zero];rw[kP,kP];congr 1;omega⟩
theorem Ko{X:Nat->Nat}{k R a:Nat}(h:∀ i,R+a<=i->X i=48):rn X k R (a+k+1)=0:=by
 have b:=EA (k:=k) h k (aw _);rw[rn,h (R+(a+k)) O,Nat.mod_eq_zero_of_dvd b]
theorem Kr{X:Nat->Nat}{k R J0:Nat}(h:∀ i,R+J0<=i->X i=48):∃ J,J0<=J/\J<=J0+k+1/\rn X k R J=0/\∀ j,J0<=j->j<J->rn X k R j≠0:=by
 obtain⟨i,c,a,b⟩:=least (p:=fun i=>rn X k R (J0+i)=0) (k+1) (Ko h);refine⟨J0+i,O,O,a,fun j d e=>?_⟩;have:=b (j-J0) O
 rwa [show J0+(j-J0)=j from O] at this
def rE(D X:Nat->Nat)(k R:Nat):Nat->Nat->Nat
 |0=>D
 |j+1=>if j<800 then jG (rE D X k R j) j (rn X k R j/2^k+48) else rE D X k R j
def rT(X:Nat->Nat)(k R:Nat)(tr:Bool):Nat->Bool
 |0=>tr
 |j+1=>if j<800 then rT X k R tr j else if 0<rn X k R j/2^k then true else rT X k R tr j
theorem zc{D X:Nat->Nat}{k R:Nat}:∀ {j i:Nat},j<=i->rE D X k R j i=D i
 |0,_,_=>rfl
 |j+1,i,h=>by
  unfold rE
  split
  ·rw[l8 O,zc O]
  ·exact zc O
theorem ry{D X:Nat->Nat}{k R:Nat}(b:∀ m,ir X m)(h:cq X R<10*2^k):∀ {j i:Nat},i<j->i<800->rE D X k R j i=rn X k R i/2^k+48
 |0,_,h,_=>absurd h O
 |j+1,i,hi,a=>by
  unfold rE
  split
  ·by_cases e:i=j
   ·subst e;rw[oH]
   ·rw[l8 e];exact ry b h O a
  ·exact ry b h O a
theorem Ks{X:Nat->Nat}{k R:Nat}(a:∀ m,ir X m)(h:cq X R<10*2^k)(j:Nat):rn X k R j/2^k<=9:=by
 have b:=CT a h j;have:rn X k R j/2^k<10:=sY O;omega
def lx(D:Nat->Nat)(nd k j:Nat):Nat:=(D (nd-1-j)-48)*2^k+jZ D nd k j
def lE(D:Nat->Nat)(nd k dl:Nat):Nat->Nat->Nat
 |0=>D
 |j+1=>if nd+dl-1-j<800 then jG (lE D nd k dl j) (nd+dl-1-j) (lx D nd k j%10+48) else lE D nd k dl j
def lT(D:Nat->Nat)(nd k dl:Nat)(tr:Bool):Nat->Bool
 |0=>tr
 |j+1=>if nd+dl-1-j<800 then lT D nd k dl tr j else if lx D nd k j%10≠0 then true else lT D nd k dl tr j
def mE(E:Nat->Nat)(n dl:Nat):Nat->Nat->Nat
 |0=>E
 |j+1=>jG (mE E n dl j) (dl-1-j) (n/10^j%10+48)
theorem zd{D:Nat->Nat}{nd k a:Nat}:∀ {j i:Nat},j<=nd->i+j<nd+a->lE D nd k a j i=D i
 |0,_,_,_=>rfl
 |j+1,i,h,b=>by
  unfold lE
  split
  ·rw[l8 O,zd O O]
  ·exact zd O O
theorem vp{D:Nat->Nat}{nd k a:Nat}:∀ {j i:Nat},j<=nd->nd+a<=i+j->i<nd+a->i<800->48<=lE D nd k a j i/\lE D nd k a j i<=57
 |0,_,_,_,_,_=>O
 |j+1,i,h,d,b,c=>by
  unfold lE
  split
  ·by_cases e:i=nd+a-1-j
   ·subst e;rw[oH];have:=sZ (lx D nd k j) (show 0<10 from O);omega
   ·rw[l8 e];exact vp O O b c
  ·exact vp O O b c
theorem EB{E:Nat->Nat}{n a:Nat}:∀ {j i:Nat},j<=a->(i+j<a\/a<=i)->mE E n a j i=E i
 |0,_,_,_=>rfl
 |j+1,i,h,b=>by
  unfold mE;rw[l8 O,EB O O]
theorem vq{E:Nat->Nat}{n a:Nat}:∀ {j i:Nat},j<=a->a<=i+j->i<a->mE E n a j i=n/10^(a-1-i)%10+48
 |0,_,_,_,_=>O
 |j+1,i,h,c,b=>by
  unfold mE
  by_cases e:i=a-1-j
  ·subst e;rw[oH,show a-1-(a-1-j)=j from O]
  ·rw[l8 e];exact vq O O b
def lD(D:Nat->Nat)(nd k dl:Nat):Nat->Nat:=mE (lE D nd k dl nd) (jZ D nd k nd) dl dl
structure Exact(D:Nat->Nat)(nd k dl:Nat):Prop where
 lt:jZ D nd k nd<10^dl
 ge:0<dl->10^(dl-1)<=jZ D nd k nd
theorem Exact.of{D C:Nat->Nat}{nd k a L:Nat}(e:ir D nd)(g:0<nd)(f:D 0≠48)(h:pv k a L C):Exact D nd k (if ju D nd C L 0=true then a-1 else a):=by
 obtain⟨b,d⟩:=CS e g f h
 by_cases c:ju D nd C L 0=true
 ·rw[if_pos c];exact⟨(b c).1,fun q=>by have:=(b c).2 O;rwa [show a-1-1=a-2 from O]⟩
 ·rw[if_neg c];have:=d (by simpa using c);exact⟨this.1,fun _=>this.2⟩
theorem Exact.more{D:Nat->Nat}{nd k a:Nat}(h:Exact D nd k a){j:Nat}(d:j<a):0<jZ D nd k nd/10^j:=by
 have b:=h.ge O;have c:10^j<=10^(a-1):=nV O O;exact Nat.div_pos O (je O)
theorem Exact.out{D:Nat->Nat}{nd k a:Nat}(h:Exact D nd k a):jZ D nd k nd/10^a=0:=Nat.div_eq_of_lt h.lt
theorem It{D:Nat->Nat}{nd k a:Nat}{m:Nat}(e:m<=nd+a)(b:m<=800):ir (lD D nd k a) m:=fun i d=>by
 unfold lD
 rcases gr i a with c|c
 ·rw[vq (aw _) O c];have:=sZ (jZ D nd k nd/10^(a-1-i)) (show 0<10 from O);omega
 ·rw[EB (aw _) (.inr c)];exact vp (aw _) O O O
theorem ze{D:Nat->Nat}{nd k a:Nat}(g:ir D nd)(l:0<nd)(p:D 0≠48)(i:0<k)(h:Exact D nd k a):lD D nd k a 0≠48/\(a=0->D 0<lD D nd k a 0):=by
 have n:=g 0 l
 rcases a with _|a
 ·have d:D 0<lD D nd k 0 0:=by
   unfold lD mE;obtain⟨m,rfl⟩:∃ m,nd=m+1:=⟨nd-1,O⟩;unfold lE;rw[show m+1+0-1-m=0 from O,if_pos O,oH];have b:=h.lt;rw[jZ] at b
   have c:lx D (m+1) k m<10:=by
    unfold lx;rw[show m+1-1-m=0 from O] at b⊢;simp at b;omega
   rw[Nat.mod_eq_of_lt c];unfold lx;rw[show m+1-1-m=0 from O];have f:2^1<=2^k:=nV O i;have o:=Nat.mul_le_mul_left (D 0-48) f;omega
  exact⟨O,fun _=>d⟩
 ·refine⟨?_,fun e=>O⟩;unfold lD;rw[vq (aw _) O O];have b:=h.more (j:=a) O;have c:jZ D nd k nd/10^a<10:=sY (by have:=h.lt;rwa [qu] at this);rw[show a+1-1-0=a from O,Nat.mod_eq_of_lt c];omega
theorem Iu{D X:Nat->Nat}{k R J m:Nat}(a:∀ m,ir X m)(h:cq X R<10*2^k)(d:m<=J)(b:m<=800):ir (rE D X k R J) m:=fun i c=>by
 rw[ry a h O O];have:=Ks a h i;generalize rn X k R i/2^k=q at*;omega
theorem zf{D X:Nat->Nat}{k R J:Nat}(b:∀ m,ir X m)(h:cq X R<10*2^k)(a:0<J):rE D X k R J 0=cq X R/2^k+48:=ry b h a O
end
open Go Go.RowKit
variable {z:Int}{k:Nat}{cs:Nat->ByteArray}{cd:Nat->Nat}
structure Dc(w:World)(b:Nat)(D:Nat->Nat)(nd:Nat)(dp:Int)(a tr:Bool):Prop where
 lt:b<w.heap.size
 arr:∀ i,i<800->w.cell? ⟨b,i,none⟩=some (.int .u8 (D i:Nat))
 n:w.cell? ⟨b,800,none⟩=some (.int .i64 (nd:Nat))
 p:w.cell? ⟨b,801,none⟩=some (.int .i64 dp)
 g:w.cell? ⟨b,802,none⟩=some (.bool a)
 t:w.cell? ⟨b,803,none⟩=some (.bool tr)
 fr:∀ o,w.frozen? ⟨b,o,none⟩=false
theorem ev{b i j:Nat}(h:i≠j):(⟨b,i,none⟩:Addr)≠⟨b,j,none⟩:=by
 intro e;simp only [Addr.mk.injEq,and_true,true_and] at e;exact h e
section
variable {w:World} {b:Nat} {D:Nat->Nat} {nd:Nat} {dp:Int} {a tr:Bool}
theorem Dc.a6(h:Dc w b D nd dp a tr){w':World}(k:Below (b+1) w w'):Dc w' b D nd dp a tr:=by
 obtain⟨m,c,d,e,f,g,j⟩:=h;refine⟨ba k.size,fun i l=>?_,?_,?_,?_,?_,fun o=>?_⟩
 ·rw[k.cell ar];exact c i l
 ·rw[k.cell ar];exact d
 ·rw[k.cell ar];exact e
 ·rw[k.cell ar];exact f
 ·rw[k.cell ar];exact g
 ·rw[k.frozen ar];exact j o
theorem Dc.xI(h:Dc w b D nd dp a tr){i v:Nat}(q:i<800)(p:z=(v:Int)):Dc (w.setCell ⟨b,i,none⟩ (.int .u8 z)) b (jG D i v) nd dp a tr:=by
 subst p;obtain⟨f,c,g,k,l,m,n⟩:=h;refine⟨by simpa using f,fun j d=>?_,?_,?_,?_,?_,fun o=>by rw[xd];exact n o⟩
 ·by_cases e:j=i
  ·subst e;rw[oH];exact kA _ _ _ (c j d)
  ·rw[l8 e,eb _ _ _ _ (ev (Ne.symm e))];exact c j d
 ·rw[eb _ _ _ _ (ev O)];exact g
 ·rw[eb _ _ _ _ (ev O)];exact k
 ·rw[eb _ _ _ _ (ev O)];exact l
 ·rw[eb _ _ _ _ (ev O)];exact m
theorem Dc.pA(h:Dc w b D nd dp a tr){v:Nat}(m:z=(v:Int)):Dc (w.setCell ⟨b,800,none⟩ (.int .i64 z)) b D v dp a tr:=by
 subst m;obtain⟨c,d,e,f,g,i,k⟩:=h;refine⟨by simpa using c,fun j l=>?_,?_,?_,?_,?_,fun o=>by rw[xd];exact k o⟩
 ·rw[eb _ _ _ _ (ev O)];exact d j l
 ·exact kA _ _ _ e
 ·rw[eb _ _ _ _ (ev O)];exact f
 ·rw[eb _ _ _ _ (ev O)];exact g
 ·rw[eb _ _ _ _ (ev O)];exact i
theorem Dc.pC(h:Dc w b D nd dp a tr){y:Int}(m:z=y):Dc (w.setCell ⟨b,801,none⟩ (.int .i64 z)) b D nd y a tr:=by
 subst m;obtain⟨c,d,e,f,g,i,k⟩:=h;refine⟨by simpa using c,fun j l=>?_,?_,?_,?_,?_,fun o=>by rw[xd];exact k o⟩
 ·rw[eb _ _ _ _ (ev O)];exact d j l
 ·rw[eb _ _ _ _ (ev O)];exact e
 ·exact kA _ _ _ f
 ·rw[eb _ _ _ _ (ev O)];exact g
 ·rw[eb _ _ _ _ (ev O)];exact i
theorem Dc.Iv(h:Dc w b D nd dp a tr)(z:Bool):Dc (w.setCell ⟨b,802,none⟩ (.bool z)) b D nd dp z tr:=by
 obtain⟨c,d,e,f,g,i,k⟩:=h;refine⟨by simpa using c,fun j l=>?_,?_,?_,?_,?_,fun o=>by rw[xd];exact k o⟩
 ·rw[eb _ _ _ _ (ev O)];exact d j l
 ·rw[eb _ _ _ _ (ev O)];exact e
 ·rw[eb _ _ _ _ (ev O)];exact f
 ·exact kA _ _ _ g
 ·rw[eb _ _ _ _ (ev O)];exact i
theorem Dc.EC(h:Dc w b D nd dp a tr)(z:Bool):Dc (w.setCell ⟨b,803,none⟩ (.bool z)) b D nd dp a z:=by
 obtain⟨c,d,e,f,g,i,k⟩:=h;refine⟨by simpa using c,fun j l=>?_,?_,?_,?_,?_,fun o=>by rw[xd];exact k o⟩
 ·rw[eb _ _ _ _ (ev O)];exact d j l
 ·rw[eb _ _ _ _ (ev O)];exact e
 ·rw[eb _ _ _ _ (ev O)];exact f
 ·rw[eb _ _ _ _ (ev O)];exact g
 ·exact kA _ _ _ i
end
structure Dw(w:World)(b:Nat)(w':World)(D:Nat->Nat)(nd:Nat)(dp:Int)(a tr:Bool):Prop where
 dc:Dc w' b D nd dp a tr
 bl:Below b w w'
theorem Dw.trans{w w' w2:World}{b nd d:Nat}{D g:Nat->Nat}{dp c:Int}{a tr e f:Bool}(h:Dw w b w' D nd dp a tr)(k:Dw w' b w2 g d c e f):Dw w b w2 g d c e f:=⟨k.dc,h.bl.trans k.bl⟩
theorem dN(B:Nat)(w:World)(q:Nat):Below B w (w.drewN q):=⟨rfl,rfl,rfl,aw _,fun _ _=>rfl⟩
theorem qN(b:Nat)(D:Nat->Nat)(nd:Nat)(dp:Int)(a tr:Bool)(w:World)(y:nd<=800)(h:Dc w b D nd dp a tr):
 Calls Tryz.prog 252 (t_ b) w fun e t=>e=.returned (.tuple #[])/\Dw w b t D (iF D nd) (if iF D nd=0 then 0 else dp) a tr:=by
 obtain⟨T,p⟩:∃ T,iF D nd=T:=⟨_,rfl⟩;obtain⟨j,g⟩:∃ d:Int,(if T=0 then 0 else dp)=d:=⟨_,rfl⟩;rw[p,g];have q:=U g;have n:=U p;clear g p;go_enter Tryz.func252,Tryz.ntmps252
 go_wp2_with fail
 go_loopg [] nd (fun k wr=>k<=nd/\Hid (iF D k=T)/\Dw w b wr D k dp a tr)
 case atStart=>exact⟨Nat.le_refl _,n,h,Below.refl _ _⟩
 case round=>
  obtain⟨x,m,l⟩:=hrel;have c:=l.dc;have u:=c.n;have v:=c.p;have fr:=c.fr
  rcases gk with _|k
  ·go_wp2_with fail
   go_quiet (fail)
   go_wp2_with fail
   go_end0;refine⟨rfl,?_⟩;have i:0=T:=m.out;have o:0=j:=by have:=q.out;rwa [<-i,if_pos rfl] at this
   rw[<-i,<-o];exact⟨(c.a6 (dN _ _ _)).pC rfl,(l.bl.trans (dN _ _ _)).setCell (aw _) _⟩
  ·have c2:=c.arr k O;have z:IntKind.i64.wrap ((k:Int)+1-1)=(k:Int):=by rw[show(k:Int)+1-1=k by omega];exact gv _ O
   by_cases f:D k=48
   ·rw[f] at c2
    go_wp2_with fail
    go_quiet (fail)
    go_wp2_with fail
    go_roundg k
    case measure=>omega
    case rel=>exact⟨O,U (by have:=m.out;rw[iF,if_pos f] at this;exact this),(c.a6 (dN _ _ _)).pA rfl,(l.bl.trans (dN _ _ _)).setCell (aw _) _⟩
   ·have r:¬(D k:Int)=48:=O
    have s:((D k:Int)==48)=false:=b1
    have i:((k:Int)+1==0)=false:=b1
    go_wp2_with fail
    go_quiet (fail)
    go_wp2_with fail
    go_end0;refine⟨rfl,?_⟩;have i:k+1=T:=by have:=m.out;rw[iF,if_neg f] at this;exact this
    have o:dp=j:=by have:=q.out;rwa [<-i,if_neg O] at this
    rw[<-i,<-o];exact⟨c.a6 (dN _ _ _),l.bl.trans (dN _ _ _)⟩
theorem Kt:Tryz.prog.arrayLen 279=800:=aq
theorem Ku(b nd:Nat)(e:nd<=800)(w:World):(Instr.sliceAt 279 (.pointer (some ⟨b,0,none⟩)) (some (.int .i64 0)) (some (.int .i64 (nd:Nat))) none).run Tryz.prog w=.ok (.slice (some ⟨b,0,none⟩) nd 800) w:=by
 have a:=Kt;have c:Tryz.prog.elem 279=5:=aq
 have d:Tryz.prog.underlying 279=some (.array (Tryz.prog.arrayLen 279) (Tryz.prog.elem 279)):=by rw[a,c];kernel_rfl
 rw[run_sliceAt_array_lh w 279 ⟨b,0,none⟩ d .i64 .i64 0 (nd:Int) O O (by rw[a];omega)];rw[c,a];go_simp
theorem MC{w a:World}{n:Nat}(h:∃ q,a=w.drewN q):∃ q,a.drewN n=w.drewN q:=by
 obtain⟨q,rfl⟩:=h;exact⟨q+n,by first|exact nW ..|simp⟩
theorem CU(b:Nat)(D:Nat->Nat)(nd:Nat)(dp:Int)(a tr:Bool)(s:ByteArray)(w:World)(z:nd<=800)(A:s.size<2^62)(h:Dc w b D nd dp a tr):
 Calls Tryz.prog 251 #[.slice (some ⟨b,0,none⟩) nd 800,.string s] w fun e v=>e=.returned (.bool (ju D nd (bt s) s.size 0))/\∃ q,v=w.drewN q:=by
 obtain⟨R,c⟩:∃ R,ju D nd (bt s) s.size 0=R:=⟨_,rfl⟩;rw[c];have l:=U c;clear c;go_enter Tryz.func251,Tryz.ntmps251
 go_wp2_with fail
 go_loopg [5] s.size (fun k u wr=>∃ i:Nat,u=.int .i64 (i:Nat)/\k+i=s.size/\i<=nd/\Hid (ju D nd (bt s) k i=R)/\∃ q,wr=w.drewN q)
 case atStart=>exact⟨0,rfl,O,O,l,0,rfl⟩
 case round=>
  obtain⟨i,rfl,t,p,j,q,rfl⟩:=hrel;have fr:=h.fr;have y:=h.n
  rcases gk with _|k
  ·go_wp2_with fail
   go_ret;exact⟨congrArg (fun x=>Ending.returned (Value.bool x)) (by have:=j.out;rw[ju] at this;exact this),q,rfl⟩
  ·have c:=j.out;rw[ju] at c
   by_cases f:nd<=i
   ·have d:=U (if_pos (α:=Bool) f▸c);clear c
    go_wp2_with fail
    go_ret;exact⟨congrArg (fun x=>Ending.returned (Value.bool x)) d,q,rfl⟩
   ·rw[if_neg f] at c;have c2:=h.arr i O;have r:∀ w,(Instr.index 9 (.string s) (.int .i64 (i:Int))).run Tryz.prog w=.ok (.int .u8 (bt s i:Nat)) w:=fun w=>f' Tryz.underlying9 O rfl;have n:(i:Int)<nd:=O
    have o:(0:Int)<=(i:Int):=O
    by_cases g:D i=bt s i
    ·have m:((D i:Int)==(bt s i:Int))=true:=by simp[g]
     rw[if_neg (by simp[g])] at c;have d:=U c;clear c
     go_wp2_with fail
     go_quiet (fail)
     go_wp2_with fail
     go_roundg k
     case measure=>omega
     case rel=>exact⟨i+1,by first|rfl|skip,O,O,d,_,rfl⟩
    ·have m:((D i:Int)==(bt s i:Int))=false:=b1
     rw[if_pos g] at c;have d:=U c;clear c
     go_wp2_with fail
     go_quiet (fail)
     go_wp2_with fail
     go_quiet (fail)
     go_wp2_with fail
     go_ret;exact⟨congrArg (fun x=>Ending.returned (Value.bool x)) (by have:=d.out;rw[<-this];try simp),MC (MC ⟨_,rfl⟩)⟩
section
open Go
structure Sd where
 D:Nat->Nat
 nd:Nat
 dp:Int
 tr:Bool
structure gG(S:Sd):Prop where
 pos:0<S.nd
 le:S.nd<=800
 dg:ir S.D S.nd
 top:S.D 0≠48
def xJ(cd:Nat->Nat)(cs:Nat->ByteArray)(k:Nat)(S:Sd):Nat:=
 if ju S.D S.nd (bt (cs k)) (cs k).size 0=true then cd k-1 else cd k
def shl(cd:Nat->Nat)(cs:Nat->ByteArray)(k:Nat)(S:Sd):Sd:=
 let dl:=xJ cd cs k S
 ⟨lD S.D S.nd k dl,iF (lD S.D S.nd k dl) (min (S.nd+dl) 800),IntKind.i64.wrap (S.dp+(dl:Nat)),lT S.D S.nd k dl S.tr S.nd⟩
def kG(cd:Nat->Nat)(cs:Nat->ByteArray):Prop:=∀ k,1<=k->k<=60->pv k (cd k) (cs k).size (bt (cs k))
theorem qO{S:Sd}(c:kG cd cs)(b:1<=k)(a:k<=60)(h:gG S):Exact S.D S.nd k (xJ cd cs k S):=Exact.of h.dg h.pos h.top (c k b a)
theorem uu{S:Sd}(f:kG cd cs)(c:1<=k)(b:k<=60)(h:gG S):gG (shl cd cs k S):=by
 have g:=qO f c b h;obtain⟨p,l,d,t⟩:=h;unfold shl;generalize xJ cd cs k S=a at*;have e:=(ze d p t c g).1;have n:=sw (lD S.D S.nd k a) (min (S.nd+a) 800);refine⟨mH e _ O,by show iF _ _<=800;omega,?_,e⟩;show ir _ (iF _ _);intro i j;exact It (m:=min (S.nd+a) 800) O O i O
theorem Kv{S:Sd}(c:kG cd cs)(b:1<=k)(a:k<=60)(h:gG S):
 ∃ d:Nat,d<=60/\(shl cd cs k S).dp=IntKind.i64.wrap (S.dp+(d:Nat))/\(d=0->S.D 0<(shl cd cs k S).D 0):=by
 have f:=qO c b a h;refine⟨xJ cd cs k S,?_,rfl,fun e=>?_⟩
 ·have:=(c k b a).two;have:=(c k b a).len;have:=(c k b a).pos;unfold xJ;split<;>omega
 ·exact(ze h.dg h.pos h.top b f).2 e
structure FY(k:Nat)(S:Sd)(R J:Nat):Prop where
 r0:0<R
 r1:R<=k+1
 lo:2^k<=cq (ext S.D S.nd) R
 hi:cq (ext S.D S.nd) R<10*2^k
 bf:∀ j,j<R->cq (ext S.D S.nd) j<2^k
 j0:S.nd<=R+J
 jr:R<=S.nd->S.nd-R<=J
 z:rn (ext S.D S.nd) k R J=0
 nz:∀ j,S.nd<=R+j->j<J->rn (ext S.D S.nd) k R j≠0
theorem zg(k:Nat){S:Sd}(h:gG S):∃ R J,FY k S R J:=by
 obtain⟨R,l,m,f,c,d⟩:=FX k h.dg h.pos h.top;obtain⟨J,e,n,z,g⟩:=Kr (X:=ext S.D S.nd) (k:=k) (R:=R) (J0:=S.nd-R) (fun i c=>rv O);exact⟨R,J,l,m,f,c,d,O,fun _=>e,z,fun j a b=>g j O b⟩
def xK(k:Nat)(S:Sd)(R J:Nat):Sd:=
 ⟨rE S.D (ext S.D S.nd) k R J,iF (rE S.D (ext S.D S.nd) k R J) (min J 800),IntKind.i64.wrap (S.dp-IntKind.i64.wrap ((R:Nat)-1)),rT (ext S.D S.nd) k R S.tr J⟩
theorem FY.LV{S:Sd}{R J:Nat}(h:FY k S R J):0<J:=by
 rcases J with _|J
 ·have:=h.z;have a:=h.lo;have b:0<(2:Nat)^k:=je O;rw[rn] at this;omega
 ·omega
open Classical in
noncomputable def shr(k:Nat)(S:Sd):Sd:=if h:gG S then xK k S (Classical.choose (zg k h)) (Classical.choose (Ad (zg k h))) else S
theorem sx(k:Nat){S:Sd}(h:gG S):∃ R J,FY k S R J/\shr k S=xK k S R J:=by
 refine⟨_,_,Ad (Ad (zg k h)),?_⟩;unfold shr;rw[dif_pos h]
theorem Iw{S:Sd}{R J:Nat}(h:gG S)(r:FY k S R J):gG (xK k S R J):=by
 have a:=fun m=>n8 h.dg m;have c:=r.LV
 have b:rE S.D (ext S.D S.nd) k R J 0≠48:=by
  rw[zf a r.hi c];have:0<cq (ext S.D S.nd) R/2^k:=Nat.div_pos r.lo (je O);omega
 unfold xK;have d:=sw (rE S.D (ext S.D S.nd) k R J) (min J 800);refine⟨mH b _ O,by show iF _ _<=800;omega,?_,b⟩;show ir _ (iF _ _);intro i hi;exact Iu a r.hi (m:=min J 800) O O i O
theorem zh{S:Sd}(h:gG S):gG (shr k S):=by
 obtain⟨R,J,r,e⟩:=sx k h;rw[e];exact Iw h r
theorem Kw{S:Sd}(f:3<=k)(g:k<=60)(h:gG S)(p:0<S.dp)(l:S.dp<=1000000):
 (shr k S).dp<=S.dp/\-100<=(shr k S).dp/\(2*(shr k S).dp+(if 56<=(shr k S).D 0 then 1 else 0)<2*S.dp+(if 56<=S.D 0 then 1 else 0)):=by
 obtain⟨R,J,r,e⟩:=sx k h;rw[e];have i:=fun m=>n8 h.dg m;have r0:=r.r0;have r1:=r.r1
 have a:(xK k S R J).dp=S.dp-((R:Nat)-1):=by
  show IntKind.i64.wrap (S.dp-IntKind.i64.wrap ((R:Nat)-1))=_;rw[gv ((R:Int)-1) O];exact gv _ O
 have b:(xK k S R J).D 0=cq (ext S.D S.nd) R/2^k+48:=zf i r.hi r.LV;rw[a];refine⟨O,O,?_⟩;rw[b]
 rcases gr R 2 with c|c
 ·obtain rfl:R=1:=O
  have d:cq (ext S.D S.nd) 1=S.D 0-48:=by simp[cq,p6 h.pos]
  have j:=h.dg 0 h.pos;have lo:=r.lo;rw[d] at lo⊢;have o:2^3<=2^k:=nV O f
  have n:(S.D 0-48)/2^k<=1:=by
   have:(S.D 0-48)/2^k<2:=sY O;omega
  rw[if_neg O,if_pos O];omega
 ·split<;>split<;>omega
def CV(cd:Nat->Nat)(cs:Nat->ByteArray)(k:Nat)(S:Sd):Sd:=if 60<k then CV cd cs (k-60) (shl cd cs 60 S) else shl cd cs k S
noncomputable def CW(k:Nat)(S:Sd):Sd:=if 60<k then CW (k-60) (shr 60 S) else shr k S
theorem Kx(a:kG cd cs):∀ {k:Nat} {S:Sd},1<=k->gG S->gG (CV cd cs k S):=by
 intro k
 induction k using Nat.strongRecOn with
 |ind k c=>
  intro S b h;unfold CV
  split
  ·exact c (k-60) O O (uu a O O h)
  ·exact uu a b O h
theorem Ky:∀ {k:Nat} {S:Sd},gG S->gG (CW k S):=by
 intro k
 induction k using Nat.strongRecOn with
 |ind k a=>
  intro S h;unfold CW
  split
  ·exact a (k-60) O (zh h)
  ·exact zh h
noncomputable def nK(cd:Nat->Nat)(cs:Nat->ByteArray)(k:Int)(S:Sd):Sd:=
 if 0<k then CV cd cs k.toNat S else if k<0 then CW (-k).toNat S else S
theorem uv(a:kG cd cs){k:Int}{S:Sd}(h:gG S):gG (nK cd cs k S):=by
 unfold nK
 split
 ·exact Kx a O h
 ·split
  ·exact Ky h
  ·exact h
end
theorem OA{w a:World}{n:Nat}(h:∃ q,a=(w.drewN n).drewN q):∃ q,a=w.drewN q:=by
 obtain⟨q,rfl⟩:=h;exact MC ⟨_,rfl⟩
theorem FZ(b:Nat)(D:Nat->Nat)(nd k p f:Nat)(dp:Int)(a tr:Bool)(s:ByteArray)(x Z:Nat)(w:World)
 (bH:0<nd) (bX:nd<=800) (bT:ir D nd) (aJ:D 0≠48) (bF:1<=k) (aL:k<=60) (dB:s.size<2^62) (bD:p<=60) (bV:0<p)
 (aK:Exact D nd k f) (X:(if ju D nd (bt s) s.size 0=true then p-1 else p)=f) (h:Dc w b D nd dp a tr)
 (cM:w.cell? ⟨16,0,none⟩=some (.slice (some ⟨x,Z,none⟩) 61 61)) (cN:w.cell? ⟨x,Z+k*2,none⟩=some (.int .i64 (p:Nat))) (cO:w.cell? ⟨x,Z+k*2+1,none⟩=some (.string s)):
 Calls Tryz.prog 246 #[.pointer (some ⟨b,0,none⟩),.int .u64 (k:Nat)] w fun e o=>e=.returned (.tuple #[])/\
  Dw w b o (lD D nd k f) (iF (lD D nd k f) (min (nd+f) 800)) (IntKind.i64.wrap (dp+(f:Nat))) a (lT D nd k f tr nd):=by
 have cQ:f<=60:=by rw[<-X];split<;>omega
 obtain⟨aW,aF⟩:∃ L,ju D nd (bt s) s.size 0=L:=⟨_,rfl⟩;have P:=U aF;have aC:=U X;have R:=U aK;have aQ:=U bT;have aU:=U aJ;have bS:=U h;have bL:=Ku b nd bX;have aM:(k:Int)<61:=O
 have bA:=h.n;have bC:=h.p;have fr:=h.fr;clear aF X aK bT aJ h;go_enter Tryz.func246,Tryz.ntmps246
 go_upto_region 1 with fail
 go_cut [30] from 17 to 30 (fun cC bQ=>cC=.bool aW/\∃ q,bQ=w.drewN q)
 case first=>
  go_wp2_with fail
  go_quiet ((refine(CU b D nd dp a tr s _ bX O (bS.a6 (dN _ _ _))).mono ?_;rintro e o ⟨rfl,cS⟩;exact⟨congrArg (fun x=>Ending.returned (Value.bool x)) P,OA cS⟩))
  go_wp2_with fail
  go_meet
  exact⟨rfl,_,rfl⟩
 case rest=>
 obtain⟨rfl,q,rfl⟩:=hcut
 go_upto_if 30 with fail
 go_cut [4] from 31 to 32 (fun cG bQ=>cG=.int .i64 (f:Nat)/\bQ=w.drewN q)
 case first=>
  by_cases c:aW=true
  ·have aB:p-1=f:=by have:=aC.out;rwa [P.out,if_pos c] at this
   have dC:IntKind.i64.wrap ((p:Int)-1)=(f:Nat):=by rw[gv _ O];omega
   have bR:=U aB;clear aB;subst c
   go_wp2_with fail
   go_meet
   exact⟨rfl,rfl⟩
  ·have aB:p=f:=by have:=aC.out;rwa [P.out,if_neg c] at this
   have cD:aW=false:=by simpa using c
   have bR:=U aB;clear aB c;subst cD
   go_wp2_with fail
   go_meet
   exact⟨by rw[bR.out],rfl⟩
 case rest=>
 obtain⟨rfl,rfl⟩:=hcut;have cT:IntKind.i64.wrap ((nd:Int)+f)=(nd:Int)+f:=gv _ O;have bM:IntKind.i64.wrap ((nd:Int)-1)=(nd:Int)-1:=gv _ O
 go_wp2_with fail
 go_loopg [5,6,7] nd (fun g cU bP bO wr=>∃ j:Nat,g+j=nd/\cU=.int .i64 ((g:Int)-1)/\bP=.int .i64 ((g:Int)+f)/\bO=.int .u64 (jZ D nd k j:Nat)/\Dw w b wr (lE D nd k f j) nd dp a (lT D nd k f tr j))
 case atStart=>exact⟨0,rfl,rfl,rfl,rfl,bS.a6 (dN _ _ _),dN _ _ _⟩
 case round=>
  obtain⟨j,bE,rfl,rfl,rfl,l⟩:=hrel;have d:=l.dc;have aX:=d.n;have aY:=d.p;have S:=d.fr
  rcases gk with _|g
  ·have cR:j=nd:=O
   subst cR
   go_wp2_with fail
   go_loopg [6,7] f (fun g bP bO wr=>∃ i:Nat,g+i=f/\bP=.int .i64 (g:Nat)/\bO=.int .u64 (jZ D j k j/10^i:Nat)/\Dw w b wr (mE (lE D j k f j) (jZ D j k j) f i) j dp a (lT D j k f tr j))
   case atStart=>exact⟨0,O,congrArg (Value.int .i64) O,ar,l⟩
   case round=>
    obtain⟨i,z,rfl,rfl,l⟩:=hrel;have d:=l.dc;have aX:=d.n;have aY:=d.p;have S:=d.fr
    rcases gk with _|g
    ·obtain rfl:i=f:=O
     have bY:jZ D j k j/10^i=0:=R.out.out;rw[bY];clear bY bM aM bL bA bC fr aX aY S cM cN cO bE z;have aX:=d.n;have aY:=d.p;have S:=d.fr;have aP:=(ze aQ bH aU bF R).1;have n:=mH aP (min (j+i) 800) O
     by_cases F:j+i<800
     ·have G:¬(800:Int)<=(j:Int)+i:=O
      have E:min (j+i) 800=j+i:=O
      rw[E] at n;have N:=U E;have aT:=U n;clear n E
      go_wp2_with fail
      refine(qN b (lD D j k i) (j+i) (IntKind.i64.wrap (dp+(i:Nat))) a (lT D j k i tr j) _ O ?_).mono ?_
      ·exact(d.pA (v:=j+i) O).pC (Ai _).symm
      ·rintro e o ⟨rfl,m⟩;rw[if_neg (ba aT.out)] at m
       go_wp2_with fail
       go_end0;refine⟨rfl,?_⟩;rw[N.out];exact Dw.trans ⟨(d.pA (v:=j+i) O).pC (Ai _).symm,((l.bl.setCell (aw _) _).setCell (aw _) _)⟩ m
     ·have G:(800:Int)<=(j:Int)+i:=O
      have E:min (j+i) 800=800:=O
      rw[E] at n;have N:=U E;have aT:=U n;clear n E
      go_wp2_with fail
      refine(qN b (lD D j k i) (800) (IntKind.i64.wrap (dp+(i:Nat))) a (lT D j k i tr j) _ O ?_).mono ?_
      ·exact((d.pA (v:=j+i) O).pA (v:=800) rfl).pC (Ai _).symm
      ·rintro e o ⟨rfl,m⟩;rw[if_neg (ba aT.out)] at m
       go_wp2_with fail
       go_end0;refine⟨rfl,?_⟩;rw[N.out];exact Dw.trans ⟨((d.pA (v:=j+i) O).pA (v:=800) rfl).pC (Ai _).symm,(((l.bl.setCell (aw _) _).setCell (aw _) _).setCell (aw _) _)⟩ m
    ·have Y:=R.more (j:=i) O;have aI:=Ez aQ (k:=k) (aw j);have I:2^k<=2^60:=nV O aL;have aN:jZ D j k j/10^(i+1)=jZ D j k j/10^i/10:=by rw[Nat.div_div_eq_div_mul,qu]
     have bG:jZ D j k j/10^i<=jZ D j k j:=Nat.div_le_self _ _
     have u:Hid (∀ o,Dw w b o (jG (mE (lE D j k f j) (jZ D j k j) f i) g (jZ D j k j/10^i%10+48)) j dp a (lT D j k f tr j)->Dw w b o (mE (lE D j k f j) (jZ D j k j) f (i+1)) j dp a (lT D j k f tr j)):=U (by
      intro o m;unfold mE;rw[show f-1-i=g from O]
      exact m)
     have aV:=U aN;clear aN;obtain⟨L,W⟩:∃ L,jZ D j k j/10^i=L:=⟨_,rfl⟩;rw[W] at Y bG u⊢;have bZ:=U W;clear W;obtain⟨r,aO⟩:∃ r,L%10=r:=⟨_,rfl⟩;obtain⟨Q,bU⟩:∃ r,L/10=r:=⟨_,rfl⟩;rw[aO] at u;have cE:=d.arr g O;have cZ:(0:Int)<L:=O
     have aZ:IntKind.u64.wrap ((L:Int)/10)=(Q:Int):=by rw[gN _ O];omega
     have cJ:IntKind.u64.wrap (10*(Q:Int))=10*(Q:Int):=gN _ O;have cK:IntKind.u64.wrap ((L:Int)-10*(Q:Int))=(r:Int):=by rw[gN _ O];omega
     have bK:r<10:=O
     have E:((r:Int)+48)%256=(r:Int)+48:=O
     have cL:IntKind.u64.wrap ((r:Int)+48)=(r:Int)+48:=gN _ O;have cA:=U bU;have G:(g:Int)+1-1<800:=O
     have cP:(g:Int)<800:=O
     clear aO bU
     go_wp2_with fail
     go_roundg g
     case measure=>omega
     case rel=>exact⟨i+1,O,congrArg (Value.int .i64) O,by rw[aV.out,bZ.out,cA.out],u.out _ ⟨d.xI O O,l.bl.setCell (Nat.le_refl _) _⟩⟩
  ·have dA:=aQ.out g O;have c2:=d.arr g O;rw[zd O O] at c2;obtain⟨t,B⟩:∃ t,D g=t+48:=⟨D g-48,O⟩;rw[B] at c2;have bN:t<=9:=O
   obtain⟨M,aG⟩:∃ M,M=t*2^k:=⟨_,rfl⟩;obtain⟨C,aD⟩:∃ C,jZ D nd k j=C:=⟨_,rfl⟩;obtain⟨aA,T⟩:∃ C,jZ D nd k (j+1)=C:=⟨_,rfl⟩;have I:2^k<=2^60:=nV O aL;have aI:C<2^k:=by rw[<-aD];exact Ez aQ O
   have b6:M<=9*2^k:=by rw[aG];exact jX _ bN
   have z:nd-1-j=g:=O
   have W:lx D nd k j=M+C:=by unfold lx;rw[z,B,aG,aD,Nat.add_sub_cancel]
   have H:aA=(M+C)/10:=by rw[<-T,jZ,z,B,aG,aD,Nat.add_sub_cancel]
   have cW:IntKind.u64.wrap ((t:Int)+48)=(t:Int)+48:=gN _ O;have aB:IntKind.u64.wrap ((t:Int)+48-48)=(t:Int):=by rw[show(t:Int)+48-48=t by omega];exact gN _ O
   have cH:IntKind.u64.wrap (t:Int)=(t:Int):=gN _ O;have aH:(M:Int)=(t:Int)*2^k:=by rw[aG];push_cast;rfl
   have cX:IntKind.u64.wrap ((t:Int)*2^k)=(M:Int):=by rw[<-aH];exact gN _ O
   have cI:IntKind.u64.wrap ((C:Int)+(M:Int))=((M+C:Nat):Int):=by rw[gN _ O];omega
   obtain⟨L,aE⟩:∃ L,M+C=L:=⟨_,rfl⟩;rw[aE] at cI W H;obtain⟨r,aO⟩:∃ r,L%10=r:=⟨_,rfl⟩;have cY:IntKind.u64.wrap ((L:Int).tdiv 10)=(aA:Int):=by rw[Int.tdiv_eq_ediv_of_nonneg O];rw[gN _ O];omega
   have aZ:IntKind.u64.wrap ((L:Int)/10)=(aA:Int):=by rw[gN _ O];omega
   have cJ:IntKind.u64.wrap (10*(aA:Int))=10*(aA:Int):=gN _ O;have cK:IntKind.u64.wrap ((L:Int)-10*(aA:Int))=(r:Int):=by rw[gN _ O];omega
   have bK:r<10:=O
   have E:((r:Int)+48)%256=(r:Int)+48:=O
   have cL:IntKind.u64.wrap ((r:Int)+48)=(r:Int)+48:=gN _ O;have aR:nd+f-1-j=g+f:=O
   have u:Hid (∀ o,Dw w b o (if nd+f-1-j<800 then jG (lE D nd k f j) (g+f) (r+48) else lE D nd k f j) nd dp a (if nd+f-1-j<800 then lT D nd k f tr j else if r≠0 then true else lT D nd k f tr j)->Dw w b o (lE D nd k f (j+1)) nd dp a (lT D nd k f tr (j+1))):=U (by
    intro o m;unfold lE lT;rw[W,aO,aR];rw[aR] at m
    exact m)
   rw[aR] at u;have J:=U T;have cV:=U B;rw[aD];clear aD T B aG aH aE aO W z aR I aI b6 H
   by_cases F:g+f<800
   ·have G:(g:Int)+1+f-1<800:=O
    have cE:=d.arr (g+f) F;have cF:=d.t;have y:=U (fun o=>by have:=u.out o;rw[if_pos F,if_pos F] at this;exact this);clear u
    go_wp2_with fail
    go_roundg g
    case measure=>omega
    case rel=>
     refine⟨j+1,O,by first|rfl|exact congrArg (Value.int .i64) O,congrArg (Value.int .i64) O,by rw[J.out],y.out _ ⟨d.xI F O,l.bl.setCell (aw _) _⟩⟩
   ·have G:¬(g:Int)+1+f-1<800:=O
    have cF:=d.t
    by_cases A:r=0
    ·have bI:((r:Int) != 0)=false:=by simp[A]
     have bJ:((r:Int)==0)=true:=by simp[A]
     have y:=U (fun o=>by have:=u.out o;rw[if_neg F,if_neg F,if_neg O] at this;exact this);have cB:=U A;clear u A
     go_wp2_with fail
     go_roundg g
     case measure=>omega
     case rel=>
      refine⟨j+1,O,by first|rfl|exact congrArg (Value.int .i64) O,congrArg (Value.int .i64) O,by rw[J.out],y.out _ ⟨d,l.bl⟩⟩
    ·have bI:((r:Int) != 0)=true:=b1
     have bJ:((r:Int)==0)=false:=b1
     have y:=U (fun o=>by have:=u.out o;rw[if_neg F,if_neg F,if_pos A] at this;exact this);clear u
     go_wp2_with fail
     go_roundg g
     case measure=>omega
     case rel=>
      refine⟨j+1,O,by first|rfl|exact congrArg (Value.int .i64) O,congrArg (Value.int .i64) O,by rw[J.out],y.out _ ⟨d.EC true,l.bl.setCell (aw _) _⟩⟩
end Go.Proofs.YtkblonfmjlopaaaGreatDoor
