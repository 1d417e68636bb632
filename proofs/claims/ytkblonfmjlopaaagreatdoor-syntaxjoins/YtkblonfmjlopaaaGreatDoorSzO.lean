/-
  upTo, walked: things with commas, up to a word; for types, patterns, expressions by one script.
-/
import Derived.Test.YtkblonfmjlopaaaGreatDoorSyLi2
set_option linter.all false
set_option maxRecDepth 1000000
set_option maxHeartbeats 16000000
namespace Go.Proofs.YtkblonfmjlopaaaGreatDoor
open Go Go.RowKit
variable {l:List Nd}{m:Nat}{M:Nat->Prop}{X:Tx}
def Js(f:Nat)(I:jL):Prop:=∀ {G:Gh}{C:Option Addr}{B:Nat}{o:Option Addr}{d:Nat}{σ Γ:Type}{pr:Γ->σ}{a:Γ->Nat->Prop}{b:World->Γ->Prop}(hG:ei G)(yW:oX G a b)(k:Nat)(fb cp:Array Value)(eg:∀ args w,(callFunc k args).run Tryz.prog w=.ok (.enter k args) w)(fin:List UInt8)(one:σ->PM (Nd×σ))(hc:pM G C B o d I k fb cp one pr a b)(n:Nat)(w:World)(s:al)(g:Γ)(r:Except (Nat×Nat) ((List Nd×σ)×al))(hP:PS G (a g) C B o d w s)(hS:b w g)(hx:hF G.X n fin one (pr g) s=some r),Calls Tryz.prog f #[.pointer (some ⟨G.bp,0,none⟩),.string ⟨fin.toArray⟩,.func (.func k) fb cp] w fun e w'=>lX G C B o d pr a b w s g r e w'
section
variable {G:Gh} {C:Option Addr} {B:Nat} {o:Option Addr} {d:Nat} {σ Γ α β:Type} {pr:Γ->σ} {a:Γ->Nat->Prop} {b:World->Γ->Prop} {w:World} {s:al} {i:Γ} {k:Nat} {args:Array Value} {r:Except (Nat×Nat) (β×al)}
theorem lX.or{x:PM (List Nd×σ)}{g:List Nd×σ->PM β}(h:∀ t,x s=some t->Calls Tryz.prog k args w fun e f=>lX G C B o d pr a b w s i t e f)(z:(x>>=g) s=some r):Calls Tryz.prog k args w fun e f=>(∃ c q,r=.error (c,q)/\e=az c q/\Kn G.B (a i) w f)\/∃ p l v,e=.returned v/\Hid (g p l=some r)/\Hid (lX G C B o d pr a b w s i (.ok (p,l)) (.returned v) f):=by
 rcases a_ z with⟨c,q,m,rfl⟩|⟨p,l,m,u⟩
 ·exact(h _ m).mono fun e f ⟨y,j⟩=>.inl ⟨_,_,rfl,j,y⟩
 ·refine(h _ m).mono fun e f n=>.inr ?_;have⟨_,_,_,A,v,j,_⟩:=n;exact⟨p,l,v,j,U u,U (by rw[<-j];exact n)⟩
theorem GH{b:ak}{g:Unit->PM β}(m:ei G)(l:PS G M C B o d w s)(f:(a8 G.X b>>=g) s=some r):Calls Tryz.prog 66 (vE G b) w fun e a=>(∃ c q,r=.error (c,q)/\e=az c q/\Kn G.B (Jp G) w a)\/e=.returned (.tuple #[])/\Hid (g () {s with i:=s.i+1}=some r)/\Hid (PS G M C B o d a {s with i:=s.i+1}/\Kn G.B (Jp G) w a):=by
 by_cases h:ay G.X [b] s=true
 ·rw[ti h] at f;exact(vY m l b h).mono fun e a ⟨j,k,n⟩=>.inr ⟨j,U f,U ⟨k,n⟩⟩
 ·rw[vQ h] at f;cases f;exact(yb m l b h).mono fun e a ⟨j,k⟩=>.inl ⟨_,_,rfl,j,Kn.of k l.bB⟩
end
theorem sO{p:Prop}(h:p:=by
 have X:=hP.bB;have r:=hP.mp;have w:=U (b4 hP hS);have J:=U hc;have f:=U yW
 by_cases A:ay G.X [fin] s=true
 ·rw[sG A] at hx;obtain rfl:=f_ hx;have L:=U A;clear hx A hP hS hc yW
  go_wp2_with (go_at_call 21;refine(kh hG w.1 fin L).mono ?_;rintro e Y ⟨rfl,H,E⟩;have I:=U (b4 H E);clear H E)
  go_ret;exact⟨I.2.jp r,rfl,h5 _,g,_,rfl,rfl,I.1,f.out _ _ _ w.2 (fun j D z=>I.2.gM j (w.1.mB j D).2 z),fun _ h=>h,fun _ h=>.inl h,none,0,rfl,aa⟩
 ·rw[vT A] at hx;have L:=U A;have aA:=U hx;clear hx A hP hS hc yW
  go_wp2_with (first
   |(go_at_call 21;refine(og hG w.1 fin L).mono ?_;rintro e Y ⟨rfl,C⟩;have c:=U C;clear C)
   |((first|go_at_call 241|go_at_call 171|go_at_call 146);refine(lX.or (fun aJ=>HL.out hG f k fb cp eg [44] one J n Y s g aJ (w.1.new c) (f.out _ _ _ w.2 (fun j D _=>c.block j (w.1.mB j D).2))) aA).mono ?_;rintro e aO (⟨aD,q,rfl,rfl,S⟩|⟨⟨l,x⟩,aN,v,rfl,M,B⟩);(·unfold az;go_simp;exact⟨rfl,(Kn.of c X).go S,rfl⟩);have⟨y,u,R,aE,v,aF,t,m,o,F,z,aB,aC,W,a⟩:=B.out;cases aF;subst W;have i:=((Kn.of c X).go y);have B:=U (b4 i (b4 u (b4 R (b4 t (b4 m (b4 o (b4 F (b4 (fun j h=>(z j h).imp id fun q=>fy c.size q) (b4 a y.size)))))))));clear y u R t m o F z a i)
   |(go_at_call 66;refine(GH hG B.2.2.2.2.1 M).mono ?_;rintro e aP (⟨aD,q,rfl,rfl,S⟩|⟨rfl,N,Z⟩);(·unfold az;go_simp;exact⟨rfl,B.1.go (S.jp r),rfl⟩)))
  go_ret;cases aj N;obtain⟨i,u,R,t,m,o,F,z,a,aG⟩:=B.out;have⟨P,d⟩:=Z.out;have aL:=d.size;have aK:=c.size;refine⟨i.go (d.jp r),u,by simp only;omega,aE,_,rfl,t,P,f.out _ _ _ o (fun j D T=>d.gM j (m.mB j D).2 T),F,z,aB,aC,rfl,a.on (fun b Q=>?_) (fun b Q=>Q.imp id (fun q=>⟨O,O,q.2.2⟩))⟩
  rcases Q with q|⟨aM,aH,aI⟩
  ·exact d.ia.block b q
  ·exact d.gM b aH (fun e=>aI (by rw[show b=G.bp from e];exact F _ r))):p:=h
theorem ys:Js 242 bc:=by
 intro G C B o d σ Γ pr a b hG yW k fb cp eg fin one hc n w s g r hP hS hx;have HL:Hid (pN 241 bc):=U qa
 go_enter Tryz.func242,Tryz.ntmps242
 exact sO
theorem sP:Js 143 cy:=by
 intro G C B o d σ Γ pr a b hG yW k fb cp eg fin one hc n w s g r hP hS hx;have HL:Hid (pN 171 cy):=U Gc
 go_enter Tryz.func143,Tryz.ntmps143
 exact sO
theorem DD:Js 147 cz:=by
 intro G C B o d σ Γ pr a b hG yW k fb cp eg fin one hc n w s g r hP hS hx;have HL:Hid (pN 146 cz):=U vZ
 go_enter Tryz.func147,Tryz.ntmps147
 exact sO
def BH(X:Tx)(l:List Nd):PM Nd:=match l with|[a]=>pure a|_=>eo X
theorem xa{b:List Nd}{s c:al}(k:(V X s).kind=1)(h:ek X (m+1) l s=some (.ok (b,c))):(gR X>>=fun a=>ek X m [ho 2 a l []]) s=some (.ok (b,c)):=by
 unfold ek at h;rw[jy,if_pos k] at h;exact h
theorem zF{a:List Nd}{s b:al}(k:¬(V X s).kind=1)(h:ek X (m+1) l s=some (.ok (a,b))):l=a/\s=b:=by
 unfold ek at h;rw[jy,if_neg k] at h;cases h;exact⟨rfl,rfl⟩
theorem qC{X:Tx}:∀ (m:Nat) (l:List Nd) (s:al) (e:Nat×Nat),ek X m l s≠some (.error e)
 |0,l,s,e,h=>by cases h
 |m+1,l,s,e,h=>by
  unfold ek at h;rw[jy] at h
  by_cases k:(V X s).kind=1
  ·rw[if_pos k] at h;have b:gR X s=some (.ok ((V X s).text,{s with i:=s.i+1})):=by unfold gR;rw[if_pos k]
   have h:PM.bind (gR X) (fun a=>ek X m [ho 2 a l []]) s=some (.error e):=h;unfold PM.bind at h;rw[b] at h;exact qC m _ _ _ h
  ·rw[if_neg k] at h;cases h
def nE(X:Tx)(n:Nat)(l:List Nd):PM Nd:=ek X n l>>=BH X
theorem BI(X:Tx)(f:Fs)(n:Nat)(s:al):fe X f n s=(if(V X s).kind=3 then(hv X>>=fun a=>nE X n [ho 1 a [] []]) s else if(V X s).kind=1 then(gR X>>=fun a=>nE X n [ho 2 a [] []]) s else(a7 X [40]>>=fun o=>if o=true then df X n [44] f.ty>>=fun l=>a8 X [41]>>=fun _=>nE X n l else a8 X [123]>>=fun _=>hF X n [125] f.jU []>>=fun r=>nE X n [ho 4 [] r.1 r.2]) s):=by
 unfold fe;rw[jy]
 split
 ·exact(db (hv X) (fun a=>pure [ho 1 a [] []]) (nE X n) s).symm
 ·split
  ·exact(db (gR X) (fun a=>pure [ho 2 a [] []]) (nE X n) s).symm
  ·refine(db (a7 X [40]) _ (nE X n) s).symm.trans ?_;show PM.bind _ _ s=PM.bind _ _ s;unfold PM.bind
   rcases a7 X [40] s with _|e|⟨b,c⟩
   ·rfl
   ·rfl
   cases b with
   |true=>
    refine(db (df X n [44] f.ty) _ (nE X n) c).symm.trans ?_;show PM.bind _ _ c=PM.bind _ _ c;unfold PM.bind
    rcases df X n [44] f.ty c with _|e|⟨b,d⟩
    ·rfl
    ·rfl
    exact(db (a8 X [41]) (fun _=>pure b) (nE X n) d).symm
   |false=>
    refine(db (a8 X [123]) _ (nE X n) c).symm.trans ?_;show PM.bind _ _ c=PM.bind _ _ c;unfold PM.bind
    rcases a8 X [123] c with _|e|⟨b,d⟩
    ·rfl
    ·rfl
    exact(db (hF X n [125] f.jU []) (fun r=>pure [ho 4 [] r.1 r.2]) (nE X n) d).symm
section
variable {G:Gh} {f:Fs} {n:Nat}
theorem y7(u:ei G)(b6:FN G 74 (bq G) cz f.ty)(aZ:∀ s a cQ,fe G.X f n s=some (.ok (a,cQ))->jE a)(aH:kZ G cz ur 148 f.jU)(aY:nH G.X f.jU):FN G 113 (bq G) cz (fe G.X f n):=by
 intro M C B o d w s r X aL;have S:=U aL;have H:=Bd.start X;have cJ:=iU;have aD:=U (fun k bK=>(X.mB k bK).2:∀ k,M k->k<w.heap.size);clear aL X;go_enter Tryz.func113,Tryz.ntmps113
 go_upto_region 1 with fail
 have H:=(H.box (bq G) 49).box tZ 78;rw[show(w.alloc (.cells (bq G) 49)).heap.size=w.heap.size+1 from ar] at H;obtain⟨Q,Y⟩:∃ Q,w.heap.size+1=Q:=⟨_,rfl⟩;rw[Y] at H⊢;generalize (w.alloc (.cells (bq G) 49)).alloc (.cells tZ 78)=cU at H⊢;have bS:=U Y;have H:=U H;have cM:=H.p 1;clear Y
 go_upto_block 0 with fail
 go_cut [3] from 4 (fun bD cR=>∃ l a c aA,bD=.slice a l.length c/\Hid (Bd G M C B o d w s [] [(Q,tZ),(w.heap.size,(bq G))] [([.sl l],[.slice a l.length c])] cR aA)/\Hid (nE G.X n l aA=some r))
 case first=>
  have h:=S.out;clear S;rw[BI] at h
  by_cases aJ:(V G.X s).kind=3
  ·rw[if_pos aJ] at h;have E:=U h;have cE:(((V G.X s).kind:Nat):Int)=3:=O
   clear h aJ
   go_wp2_with (first
    |(go_at_call 63;refine(e' u H).mono ?_;rintro e bG ⟨_,_,_,_,rfl,-,p⟩;have bE:=p.p 1)
    |(go_at_call 111;refine oc (FB.bd (sM u) p E) ?_;rintro e bH ⟨a,aA,rfl,I,j⟩))
   have i:=U ((j.one (nd:=ho 1 a [] []) (cs:=#[.int .i64 1,.string ⟨a.toArray⟩,.slice none 0 0,.slice none 0 0]) 78 (ej _ (ej _ (cr aa (cr aa gO))))))
   go_meet
   case rel=>exact⟨_,_,1,_,rfl,i,I⟩
  rw[if_neg aJ] at h;have cE:¬(((V G.X s).kind:Nat):Int)=3:=O
  by_cases P:(V G.X s).kind=1
  ·rw[if_pos P] at h;have E:=U h;have aW:(((V G.X s).kind:Nat):Int)=1:=O
   clear h aJ P
   go_wp2_with (first
    |(go_at_call 63;refine(e' u p).mono ?_;rintro e bR ⟨_,_,_,_,rfl,-,A⟩;have bN:=A.p 1)
    |(go_at_call 63;refine(e' u H).mono ?_;rintro e bG ⟨_,_,_,_,rfl,-,p⟩;have bE:=p.p 1)
    |(go_at_call 114;refine oc (FB.bd (wo u) A E) ?_;rintro e bH ⟨a,aA,rfl,I,j⟩))
   have i:=U ((j.one (nd:=ho 2 a [] []) (cs:=#[.int .i64 2,.string ⟨a.toArray⟩,.slice none 0 0,.slice none 0 0]) 78 (ej _ (ej _ (cr aa (cr aa gO))))))
   go_meet
   case rel=>exact⟨_,_,1,_,rfl,i,I⟩
  rw[if_neg P] at h;have aW:¬(((V G.X s).kind:Nat):Int)=1:=O
  obtain⟨b,bP,bL,h⟩:=cx h;have bJ:=U bL;clear bL aJ P;cases b with
  |true=>
   have E:Hid ((df G.X n [44] f.ty>>=fun l=>a8 G.X [41]>>=fun _=>nE G.X n l) bP=some r):=U h;have aR:Hid (gu G 146 #[.pointer (some ⟨G.bp,0,none⟩),.string ⟨[44].toArray⟩,.func (.func 74) (bq G) #[]] (df G.X n [44] f.ty)):=U (kf fun M C B o d w s r X aL=>vZ u (fun _ _ _ h _=>h) 74 _ #[] (fun _ _=>rfl) [44] (lone f.ty) (FN.pE cz.ok b6) n w s () r X trivial aL);clear h
   go_wp2_with (first
    |(go_at_call 63;refine(e' u p).mono ?_;rintro e bR ⟨_,_,_,_,rfl,-,A⟩;have bN:=A.p 1)
    |(go_at_call 63;refine(e' u H).mono ?_;rintro e bG ⟨_,_,_,_,rfl,-,p⟩;have bE:=p.p 1)
    |(go_at_call 21;refine(bz u A bJ).mono ?_;rintro e bH ⟨rfl,j⟩;have cN:=j.p 1)
    |(go_at_call 146;refine oc (gu.bd aR j E) ?_;rintro e bI ⟨l,L,cV,cW,rfl,T,i⟩;have cO:=i.p 1)
    |(go_at_call 66;refine oc (FU.bd (fi u [41]) i T) ?_;rintro e F ⟨dE,rfl,aV,g⟩))
   go_meet
   case rel=>exact⟨_,_,_,_,rfl,g,aV⟩
  |false=>
   have E:Hid ((a8 G.X [123]>>=fun _=>hF G.X n [125] f.jU []>>=fun r=>nE G.X n [ho 4 [] r.1 r.2]) bP=some r):=U h;clear h
   go_upto_region 3 with(first
    |(go_at_call 63;refine(e' u p).mono ?_;rintro e bR ⟨_,_,_,_,rfl,-,A⟩;have bN:=A.p 1)
    |(go_at_call 63;refine(e' u H).mono ?_;rintro e bG ⟨_,_,_,_,rfl,-,p⟩;have bE:=p.p 1)
    |(go_at_call 21;refine(bz u A bJ).mono ?_;rintro e bH ⟨rfl,j⟩;have cN:=j.p 1)
    |(go_at_call 66;refine oc (FU.bd (fi u [123]) j E) ?_;rintro e bI ⟨L,rfl,T,i⟩))
   go_upto_region 4 with fail
   have g:=i.box #[.int .i64 4,.string ⟨#[]⟩,.slice none 0 0,.slice none 0 0] 78;obtain⟨N,aG⟩:∃ N,bI.heap.size=N:=⟨_,rfl⟩;rw[aG] at g⊢;generalize bI.alloc (.cells #[.int .i64 4,.string ⟨#[]⟩,.slice none 0 0,.slice none 0 0] 78)=F at g⊢;have bF:=g.p 2;have aE:Hid (w.heap.size<N):=U (by have:=(g.dj);have:=bS.out;have:=(i.bw _ (.head _)).1;simp at this;omega);have g:=U g;clear aG
   go_upto_region 5 with(go_at_call 147;refine oc (zG (fun bO cL X cH cG=>DD u cG 148 #[] _ (fun _ _=>rfl) [125] (rV f.jU) (aH.pE g aD (.tail _ (.head _)) aE) n F _ LG.zero bO X cH cL) aD aY (fun v h=>absurd (congrArg Array.size h) (by simp[ur])) g (.tail _ (.head _)) aE T) ?_;rintro e aO ⟨l,aM,bQ,a,c,bA,bC,rfl,W,D⟩;have D:=U (show Bd G M C B o d w s [] ((N,#[.int .i64 4,.string ⟨#[]⟩,.slice none 0 0,.slice bA aM.length bC])::_) _ aO bQ from D.out);have cP:aO.cell? ⟨N,2,none⟩=some (.slice none 0 0):=D.c 0 2;have dA:=D.f 0)
   have z:=U (D.set 0 2 (.slice a l.length c));generalize aO.setCell ⟨N,2,none⟩ (.slice a l.length c)=aP at z⊢;have bO:aP.cell? ⟨N,0,none⟩=some (.int .i64 4):=z.c 0 0;have dB:aP.cell? ⟨N,1,none⟩=some (.string ⟨#[]⟩):=z.c 0 1;have dC:aP.cell? ⟨N,2,none⟩=some (.slice a l.length c):=z.c 0 2;have dD:aP.cell? ⟨N,3,none⟩=some (.slice bA aM.length bC):=z.c 0 3
   go_wp2_with fail
   have aQ:=U (z.drop.one (nd:=ho 4 [] l aM) (cs:=#[.int .i64 4,.string ⟨#[]⟩,.slice a l.length c,.slice bA aM.length bC]) 78 (ej _ (ej _ (cr (z.drop.t 0).hd (cr (z.drop.t 1).hd gO)))))
   go_meet
   case rel=>exact⟨_,_,1,_,rfl,U (aQ.sub fun _ h=>by cases h with|head=>exact .head _|tail _ h=>cases h),W⟩
 case rest=>
  obtain⟨bM,cA,cB,aA,rfl,j,I⟩:=hcut;clear H cM
  obtain⟨aB,aC,aF,aI⟩:∃ aB aC,ek G.X n bM aA=some (.ok (aB,aC))/\BH G.X aB aC=some r:=by
   rcases a_ I with⟨cC,q,aX,rfl⟩|⟨aB,aC,aX,cF⟩
   ·exact absurd aX (qC _ _ _ _)
   ·exact⟨aB,aC,aX,cF⟩
  have E:=U aF;have R:=U aI;clear aF I aI
  go_wp2_with fail
  go_loopg [3] n (fun gk bD wr=>∃ L l a c,bD=.slice a l.length c/\Hid (ek G.X gk l L=some (.ok (aB,aC)))/\Hid (Bd G M C B o d w s [] [(Q,tZ),(w.heap.size,(bq G))] [([.sl l],[.slice a l.length c])] wr L))
  case atStart=>exact⟨aA,bM,cA,cB,rfl,E,j⟩
  case round=>
   clear E j;obtain⟨L,l,a,c,rfl,E,i⟩:=hrel;cases gk with
   |zero=>exact absurd E.out (by simp[ek,PM.none])
   |succ m=>
   have cO:=i.p 1
   by_cases P:(V G.X L).kind=1
   ·have aU:=U (xa P E);have aW:(((V G.X L).kind:Nat):Int)=1:=O
    clear E P
    go_wp2_with (first
     |(go_at_call 63;refine(e' u i).mono ?_;rintro e F ⟨_,_,_,_,rfl,-,g⟩;have bF:=g.p 1)
     |(go_at_call 114;refine(FB.bd (wo u) g aU).mono ?_;rintro e aO (⟨cC,q,cI,rfl,bK⟩|⟨x,bQ,rfl,W,D⟩);(·exact absurd cI ar)))
    have z:=U (D.one (nd:=ho 2 x l []) (cs:=#[.int .i64 2,.string ⟨x.toArray⟩,.slice a l.length c,.slice none 0 0]) 78 (ej _ (ej _ (cr (D.t 0).hd (cr aa gO)))))
    go_roundg m
    case measure=>omega
    case rel=>exact⟨_,[ho 2 x l []],_,1,rfl,W,U (z.sub fun _ h=>by cases h with|head=>exact .head _|tail _ h=>cases h)⟩
   ·obtain⟨rfl,rfl⟩:=zF P E;have aW:¬(((V G.X L).kind:Nat):Int)=1:=O
    clear E P
    rcases l with _|⟨x,_|⟨y,l⟩⟩
    ·have R:Hid ((eo G.X:PM Nd) L=some r):=R
     go_wp2_with (first
      |(go_at_call 63;refine(e' u i).mono ?_;rintro e F ⟨_,_,_,_,rfl,-,g⟩;have bF:=g.p 1)
      |(go_at_call 13;exact ow (km u g R)))
    ·obtain rfl:r=.ok (x,L):=aj (a:=x) R
     go_upto_region 17 with(go_at_call 63;refine(e' u i).mono ?_;rintro e F ⟨_,_,_,_,rfl,-,g⟩)
     obtain⟨aK,aN,cD,rfl,J,Z⟩:=qZ (g.t 0);obtain⟨cS,cT,bT,bV,bU,bX,bZ,bY,rfl⟩:=(aZ _ _ _ S.out).cells Z;have cX:F.cell? ⟨aK,aN,none⟩=some (.int .i64 cS):=J 0 ar;have cY:F.cell? ⟨aK,aN+1,none⟩=some (.string cT):=J 1 ar;have cP:F.cell? ⟨aK,aN+2,none⟩=some (.slice bT bV bU):=J 2 ar;have cZ:F.cell? ⟨aK,aN+3,none⟩=some (.slice bX bZ bY):=J 3 ar;have dF:F.cell? ⟨Q,0,none⟩=some (.int .i64 0):=g.c 0 0;have dG:F.cell? ⟨Q,1,none⟩=some (.string ⟨#[]⟩):=g.c 0 1;have dH:F.cell? ⟨Q,2,none⟩=some (.slice none 0 0):=g.c 0 2;have dI:F.cell? ⟨Q,3,none⟩=some (.slice none 0 0):=g.c 0 3;have dJ:=g.f 0;have aT:=U Z;clear J Z
     go_wp2_with fail
     exact g.iu 0 aT cz.ok
    ·have R:Hid ((eo G.X:PM Nd) L=some r):=R;have cK:¬(((l.length+1+1:Nat):Nat):Int)=1:=O
     go_wp2_with (first
      |(go_at_call 63;refine(e' u i).mono ?_;rintro e F ⟨_,_,_,_,rfl,-,g⟩;have bF:=g.p 1)
      |(go_at_call 13;exact ow (km u g R)))
end
theorem GU{w:World}{F:Nat->Prop}{x:Nd}{a:Option Addr}{n c:Nat}(h:ah w F [.sl (x::l)] [.slice a n c]):∃ b o d,a=some ⟨b,o,none⟩/\n=(x::l).length/\(∀ j,j<d.length->w.cell? ⟨b,o+j,none⟩=d[j]?)/\ah w F x d:=by
 have g:b8 w F (.sl (x::l)) [.slice a n c]:=h.hd;clear h;unfold b8 at g;obtain⟨m,p,k,_,_,g⟩:=g;cases k
 rcases g with g|⟨b,o,rfl,q,f⟩
 ·cases g
 unfold gZ at f;obtain⟨⟨d,e,i⟩,_⟩:=f;exact⟨b,o,d,rfl,rfl,e,i⟩
theorem jC{G:Gh}{C:Option Addr}{B:Nat}{o:Option Addr}{d:Nat}{w b:World}{s j:al}{i:List (Nat×List Nd×Option Addr×Nat)}{f:List (Nat×Array Value)}{k:List (Nd×List Value)}(m:ei G)(n:Nat)(q:n<=65540)(h:Bd G M C B o d w s i f k b j):
 Calls Tryz.prog 101 #[.int .i64 (n:Nat)] b fun e l=>∃ a c,e=.returned (.slice a n c)/\Hid (Bd G M C B o d w s i f (([.sl (strs (labels n))],[.slice a n c])::k) l j):=by
 refine(Bc m n q b h.ps.low).mono ?_;rintro e l ⟨v,rfl,p,r⟩;obtain⟨a,c,rfl,g⟩:=r.ue (Kb.refl _ _) (h.own (aw _));have e:(strs (labels n)).length=n:=by rw[jc];simp[labels]
 rw[e] at g⊢;exact⟨a,c,rfl,U ((h.below p).add g)⟩
def zQ(l:List Nd):Nd:=match l with|[a]=>a|_=>ho 4 [] l (labels l.length)
def arrow(X:Tx)(f:Fs)(a:Nd):PM Nd:=a7 X [45,62]>>=fun o=>if o=true then f.ty>>=fun b=>pure (ho 3 [] [a,b] []) else pure a
theorem Nk(X:Tx)(f:Fs)(n:Nat)(s:al):qh X f n s=(fe X f n>>=fun a=>ik X f n n [a]>>=fun l=>arrow X f (zQ l)) s:=rfl
theorem JN{α β:Type}{x y:PM α}{g:α->PM β}{s t:al}(h:x s=y t):(x>>=g) s=(y>>=g) t:=by
 show PM.bind x g s=PM.bind y g t;unfold PM.bind;rw[h]
theorem DL{f:Fs}{n:Nat}{s:al}(k:(V X s).kind=2/\(V X s).text=[42]):ik X f n (m+1) l s=(fe X f n>>=fun a=>ik X f n m (l++[a])) {s with i:=s.i+1}:=by
 show(next X>>=fun t=>if t.kind=2/\t.text=[42] then step1>>=fun _=>fe X f n>>=fun a=>ik X f n m (l++[a]) else pure l) s=_;rw[jy,if_pos k]
 rfl
theorem GV{f:Fs}{n:Nat}{s:al}(k:¬((V X s).kind=2/\(V X s).text=[42])):ik X f n (m+1) l s=some (.ok (l,s)):=by
 show(next X>>=fun t=>if t.kind=2/\t.text=[42] then step1>>=fun _=>fe X f n>>=fun a=>ik X f n m (l++[a]) else pure l) s=_;rw[jy,if_neg k]
 rfl
section
variable {G:Gh} {f:Fs} {n:Nat}
set_option maxRecDepth 100000
set_option maxHeartbeats 16000000
theorem Kl(bD:ei G)(fH:n<=1000000)(cD:FN G 113 (bq G) cz (fe G.X f n))(dG:FN G 74 (bq G) cz f.ty)(dF:∀ s a eS,fe G.X f n s=some (.ok (a,eS))->jE a):FN G 74 (bq G) cz (qh G.X f n):=by
 intro M C B o d w s r dW P;rw[Nk] at P;have eE:=U P;have eC:=Bd.start dW;clear P dW;go_enter Tryz.func74,Tryz.ntmps74
 go_upto_region 1 with fail
 have aI:=eC.box tZ 78;generalize w.alloc _=fE at aI⊢;have aI:=U aI
 go_upto_region 2 with(go_at_call 113;refine oc (FN.pF cD cz.ok aI eE) ?_;rintro e cL ⟨x,cO,_,rfl,cU,bR,bN,cM,cN,bT,bV,bU,bX,bZ,bY,rfl,aT⟩)
 have aV:Hid (Bd G M C B o d w s [(4,[x],some ⟨cL.heap.size,0,none⟩,1)] ((w.heap.size,tZ)::(cL.heap.size,#[])::[]) [] (cL.alloc (.cells (nF cM cN bT bV bU bX bZ bY) 78)) cO):=U (Bd.BV (fx:=[_]) (js:=[]) bN 78 aT);have fD:Hid (s.i<=cO.i):=U bN.i;generalize cL.heap.size=A at aV⊢;generalize cL.alloc _=fU at aV⊢;clear aT
 go_upto_region 3 with(go_at_call 63;refine(e' bD aV).mono ?_;rintro e fV ⟨aP,aK,aO,aL,rfl,-,cS⟩)
 have cX:=U (dF _ _ _ cU.1);have H:=U (cS.box (lI G cO aP aK aO aL) 75)
 go_loopg [3,4] n (fun gk eL eU wr=>∃ D l a c aU aP aK aO aL js,eL=.slice a (l.length+1) c/\eU=.pointer (some ⟨aU,0,none⟩)/\Hid ((ik G.X f n gk (x::l)>>=fun l=>arrow G.X f (zQ l)) D=some r)/\Hid (∀ q,q∈js->q.2=#[])/\Hid (l.length+gk<=n/\l.length<=D.i)/\Hid (Bd G M C B o d w s [(4,x::l,a,c)] ((aU,(lI G D aP aK aO aL))::(w.heap.size,tZ)::js) [] wr D))
 case atStart=>exact⟨cO,[],_,1,_,aP,aK,aO,aL,[(A,#[])],rfl,rfl,bR,U ar,U ⟨ar,Nat.zero_le _⟩,H⟩
 case round=>
  clear H bR;obtain⟨D,l,a,c,aU,aP,aK,aO,aL,js,rfl,rfl,aE,dP,bQ,H⟩:=hrel;cases gk with
  |zero=>exact absurd aE.out (by intro h;cases h)
  |succ m=>
  have eB:wr.cell? ⟨aU,0,none⟩=some (.int .i64 ((V G.X D).kind:Nat)):=H.c 0 0;have dK:wr.cell? ⟨aU,1,none⟩=some (.string ⟨(V G.X D).text.toArray⟩):=H.c 0 1
  by_cases aN:(V G.X D).kind=2/\(V G.X D).text=[42]
  ·have bP:=U (dd (X:=G.X) (s:=D) O);have P:=aE.out;rw[JN (DL aN),<-db] at P;have aJ:=U P;have dH:(((V G.X D).kind:Nat):Int)=2:=O
   have bL:=aN.2;rw[bL] at dK;have c1:=H.ps.c1;have fr:=H.ps.fr;have cG:=bP.out;have cE:=bD.k0;clear P aN aE
   go_upto_region 6 with fail
   have Q:=U (H.step bP);generalize wr.setCell ⟨G.bp,1,none⟩ (.int .i64 ((D.i:Int)+1))=fW at Q⊢;clear c1 fr eB dK cG cE
   go_wp2_with (first
    |(go_at_call 113;refine oc (FN.pF cD cz.ok Q aJ) ?_;rintro e cP ⟨y,bH,_,rfl,cV,cY,J,bJ,bK,aW,aY,aX,aZ,bA,b6,rfl,aT⟩;obtain⟨dX,dU,dV,cH,aR⟩:=Bd.push (fx:=[_,_]) (js:=js) (z:=Dh) (cs:=(nF bJ bK aW aY aX aZ bA b6)) 78 J dP aT rfl O;have aH:=U (b4 dU (b4 dV cH));have bO:=U aR;have eD:=U J.i;clear aT dU dV cH aR)
    |(at_builtin;refine hH _ rfl _ _ 38 38 rfl 78 78 Dh 4 72 Tryz.underlying38 Tryz.underlying38 Tryz.zn rfl O w.heap.size ?hb a (l.length+1) c dX (cellAt (nF bJ bK aW aY aX aZ bA b6)) cP.heap.size 0 1 rfl rfl ?A ?N ?hg ?one ?hl ?h63 ?_))
   case hb=>exact aH.2.2
   case A=>exact aH.1
   case N=>exact aH.2.1
   case hg=>exact ij cP (nF bJ bK aW aY aX aZ bA b6) 78
   case one=>exact ib (nF bJ bK aW aY aX aZ bA b6) rfl
   case hl=>have:=bQ.out;omega
   case h63=>have:=bQ.out;omega
   intro dB dC eQ bI aF dO dR dS dZ;obtain⟨cI,cF,L⟩:=bO.out dB dC eQ bI (by rw[qp];exact aF) dO dR dS dZ;have L:Hid (Bd G M C B o d w s [(4,x::(l++[y]),dB,dC)] ((aU,(lI G D aP aK aO aL))::(w.heap.size,tZ)::cI) [] bI bH):=U L;have cW:=U cF;obtain⟨fK,fL,fM,fN,fO,fP,fQ⟩:=KN (L.bx _ (.head _)).2.2;clear aF dO dR dS dZ cF bO aH dX
   go_upto_region 4 with fail
   have E:=U (L.box #[.int .i64 2,.string ⟨#[42]⟩,.bool aP,.slice aK aO aL,.int .u64 ((V G.X D).bits:Nat),.int .i64 ((V G.X D).n:Nat),.int .i64 ((V G.X D).pos:Nat)] 75).Nl
   go_wp2_with (go_at_call 63;refine(e' bD E).mono ?_;rintro e cQ ⟨cK,cA,cJ,cB,rfl,-,v⟩;obtain⟨eV,eX,eY,eZ,fR,fS,fT⟩:=KN (v.bx _ (.head _)).2.2;have fA:=v.f 0)
   have F:=U (v.store 0 [.int .i64 ((V G.X bH).kind:Nat),.string ⟨(V G.X bH).text.toArray⟩,.bool cK,.slice cA cJ cB,.int .u64 ((V G.X bH).bits:Nat),.int .i64 ((V G.X bH).n:Nat),.int .i64 ((V G.X bH).pos:Nat)])
   go_roundg m
   case measure=>omega
   case rel=>exact⟨bH,l++[y],dB,dC,bI.heap.size,cK,cA,cJ,cB,cI,ar,rfl,cY,cW,U ⟨by have:=bQ.out;simp;omega,by have:=bQ.out;have:=cV.2;simp at this⊢;omega⟩,F⟩
  ·have P:=(JN (y:=pure (x::l)) (t:=D) (g:=fun l=>arrow G.X f (zQ l)) (GV aN)).symm.trans aE;have aJ:Hid (arrow G.X f (zQ (x::l)) D=some r):=U P;clear P aE;have Q:=H.nM (fx:=[_,_]) dP ar;obtain⟨bC,bG,eG,rfl,-,aG,bF⟩:=GU (Q.t 0);obtain⟨cM,cN,bT,bV,bU,bX,bZ,bY,rfl⟩:=cX.cells bF;have eM:wr.cell? ⟨bC,bG,none⟩=some (.int .i64 cM):=aG 0 ar;have eN:wr.cell? ⟨bC,bG+1,none⟩=some (.string cN):=aG 1 ar;have eO:wr.cell? ⟨bC,bG+2,none⟩=some (.slice bT bV bU):=aG 2 ar;have eP:wr.cell? ⟨bC,bG+3,none⟩=some (.slice bX bZ bY):=aG 3 ar;have J:=U ((Q.add bF).box (nF cM cN bT bV bU bX bZ bY) 78);clear Q bF aG;have dD:(0:Int)<((l.length:Nat):Int)+1:=O
   rcases(show ¬(V G.X D).kind=2\/(V G.X D).kind=2/\¬(V G.X D).text=[42] by by_cases k:(V G.X D).kind=2;exact .inr ⟨k,fun bL=>aN ⟨k,bL⟩⟩;exact .inl k) with k|⟨k,bL⟩
   focus
    have dH:¬(((V G.X D).kind:Nat):Int)=2:=O
    clear aN k
    go_upto_region 10 with fail
   rotate_left 1
   focus
    have dH:(((V G.X D).kind:Nat):Int)=2:=O
    have fI:((V G.X D).text==[42])=false:=by simp[bL]
    clear aN k bL
    go_upto_region 10 with fail
   all_goals
    clear dH eM eN eO eP dD eB dK;generalize wr.alloc _=cP at J⊢;generalize wr.heap.size=aQ at J⊢
    rcases l with _|⟨y,l⟩
    focus
     go_upto_region 12 with fail
     generalize cP=bI at J⊢;obtain⟨nd,aC,aD,R,Y,W,Z,aB,aA,L,bS⟩:∃ (nd:Nd) (aC:Int) (aD:ByteArray) (R:Option Addr) (Y W:Nat) (Z:Option Addr) (aB aA:Nat),Hid (Bd G M C B o d w s [] [(aQ,(nF aC aD R Y W Z aB aA)),(aU,(lI G D aP aK aO aL)),(w.heap.size,tZ)] [(nd,[.int .i64 aC,.string aD,.slice R Y W,.slice Z aB aA])] bI D)/\Hid (arrow G.X f nd D=some r):=⟨x,cM,cN,bT,bV,bU,bX,bZ,bY,U (J.sub fun p dE=>by rcases List.mem_singleton.1 dE with rfl;exact .head _),aJ⟩
    rotate_left 1
    focus
     have eK:(1:Int)<((l.length:Nat):Int)+1+1:=O
     go_upto_region 12 with(go_at_call 101;rw[show(((l.length:Nat):Int)+1+1)=((l.length+1+1:Nat):Int) by omega];refine(jC bD (l.length+1+1) (by have:=bQ.2;have:=H.ps.il;have:=bD.k0;simp at*;omega) J).mono ?_;rintro e bM ⟨dI,dJ,rfl,E⟩;obtain⟨i,eH,eI,eJ⟩:=Gb (E.bx _ (.head _)).2.2;have fG:=E.f 0)
     have v:=E.store 0 [.int .i64 4,.string ⟨#[]⟩,.slice (some ⟨bC,bG,none⟩) (l.length+1+1) c,.slice dI (l.length+1+1) dJ];change Code.wp _ _ _ _ (bM.setCells aQ 0 [.int .i64 4,.string ⟨#[]⟩,.slice (some ⟨bC,bG,none⟩) (l.length+1+1) c,.slice dI (l.length+1+1) dJ]);generalize bM.setCells aQ 0 _=bI at v⊢;have cT:=v.add (nd:=ho 4 [] (x::y::l) (labels (l.length+1+1))) (cs:=[.int .i64 4,.string ⟨#[]⟩,.slice (some ⟨bC,bG,none⟩) (l.length+1+1) c,.slice dI (l.length+1+1) dJ]) (ej _ (ej _ (cr (v.t 2).hd (cr (v.t 0).hd gO))));obtain⟨nd,aC,aD,R,Y,W,Z,aB,aA,L,bS⟩:∃ (nd:Nd) (aC:Int) (aD:ByteArray) (R:Option Addr) (Y W:Nat) (Z:Option Addr) (aB aA:Nat),Hid (Bd G M C B o d w s [] [(aQ,(nF aC aD R Y W Z aB aA)),(aU,(lI G D aP aK aO aL)),(w.heap.size,tZ)] [(nd,[.int .i64 aC,.string aD,.slice R Y W,.slice Z aB aA])] bI D)/\Hid (arrow G.X f nd D=some r):=⟨_,_,_,_,_,_,_,_,_,U (cT.sub fun p dE=>by rcases List.mem_singleton.1 dE with rfl;exact .head _),aJ⟩
    all_goals
     obtain⟨eF,eT,dY,P⟩:=cx bS;have dQ:=U dY;clear dY;cases eF with
     |false=>
      cases aj P;clear P
      go_upto_region 14 with(go_at_call 21;refine(bz bD L dQ).mono ?_;rintro e bM ⟨rfl,E⟩)
      obtain⟨i,eH,eI,eJ⟩:=Gb (E.bx _ (.head _)).2.2;obtain⟨eV,eX,eY,eZ⟩:=Gb (E.bx _ (.tail _ (.tail _ (.head _)))).2.2;have fA:=E.f 2
      go_wp2_with fail
      have v:=E.store 2 [.int .i64 aC,.string aD,.slice R Y W,.slice Z aB aA];change bodyPost _ _ _ _ _ (bM.setCells w.heap.size 0 [.int .i64 aC,.string aD,.slice R Y W,.slice Z aB aA]);generalize bM.setCells w.heap.size 0 _=cQ at v⊢;exact oI (v.bx _ (.tail _ (.tail _ (.head _)))) (v.res cz.ok ⟨_,_,_,_,_,_,_,_,rfl,v.t 0⟩)
     |true=>
      have cZ:Hid ((f.ty>>=fun b=>pure (ho 3 [] [nd,b] [])) eT=some r):=U P;clear P
      go_upto_region 13 with(go_at_call 21;refine(bz bD L dQ).mono ?_;rintro e bM ⟨rfl,E⟩)
      refine b3 (S:=fun cR=>cR.cell? ⟨aQ,0,none⟩=some (.int .i64 aC)/\cR.cell? ⟨aQ,1,none⟩=some (.string aD)/\cR.cell? ⟨aQ,2,none⟩=some (.slice R Y W)/\cR.cell? ⟨aQ,3,none⟩=some (.slice Z aB aA)) (T:=fun j=>j==5) aq ?_;have bE:=Gb (E.drew.bx _ (.head _)).2.2;refine tq 0 bE ?_;refine tq 1 bE ?_;refine cw 2 fun K hK=>?_;go_simp;refine(FN.bd dG cz.ok E.drew cZ).mono ?_;rintro e cQ (⟨fF,q,rfl,rfl,aN⟩|⟨u,fJ,_,rfl,dA,v,bJ,bK,aW,aY,aX,aZ,bA,b6,rfl,aT⟩)
      ·unfold az;go_simp;exact⟨rfl,aN,rfl⟩
      have cC:=Gb (v.bx _ (.head _)).2.2;have F:=U (v.two (A:=#[.int .i64 aC,.string aD,.slice R Y W,.slice Z aB aA,.int .i64 bJ,.string bK,.slice aW aY aX,.slice aZ bA b6]) (cs:=[.int .i64 aC,.string aD,.slice R Y W,.slice Z aB aA]) (BP:=[.int .i64 bJ,.string bK,.slice aW aY aX,.slice aZ bA b6]) 78 rfl (v.t 0) aT);clear aT;refine nx hK cC ?_;clear hK K;refine cw 3 fun K hK=>?_;go_simp;have aM:=Gb (F.bx _ (.head _)).2.2;generalize cQ.heap.size=dL at F⊢;generalize cQ.alloc _=dM at F aM⊢;refine nx hK aM ?_;clear hK K;refine tq 4 aM ?_;refine vM 5 [.int .i64 3,.string ⟨#[]⟩,.slice (some ⟨dL,0,none⟩) 2 2,.slice none 0 0] (F.bx _ (.tail _ (.tail _ (.head _)))) ?_;cases aj dA;have I:=(F.add (nd:=ho 3 [] [nd,u] []) (cs:=[.int .i64 3,.string ⟨#[]⟩,.slice (some ⟨dL,0,none⟩) 2 2,.slice none 0 0]) (ej _ (ej _ (cr (F.t 0).hd (cr aa gO))))).store 2 [.int .i64 3,.string ⟨#[]⟩,.slice (some ⟨dL,0,none⟩) 2 2,.slice none 0 0];clear bE cC aM;generalize dM.setCells _ 0 _=fC at I⊢;refine bj aq ?_ _;have I:=U I
      go_wp2_with fail
      exact oI (I.bx _ (.tail _ (.tail _ (.head _)))) (I.res cz.ok ⟨_,_,_,_,_,_,_,_,rfl,I.t 0⟩)
end
section
variable {G:Gh} {f:Fs} {n:Nat}
set_option maxRecDepth 100000
set_option maxHeartbeats 16000000
theorem oR{C:Option Addr}{B:Nat}{o:Option Addr}{d:Nat}{w cD:World}{s bI:al}{bJ:List (Nd×List Value)}{word:List UInt8}{kind:Int}{Q y:Nat}{a:Option Addr}{c:Nat}{js:List (Nat×Array Value)}{β:Type}{g:Nd->PM β}{r:Except (Nat×Nat) (β×al)}(cJ:ei G)(L:FN G 67 (bq G) bc f.exp)
 (h:Bd G M C B o d w s [(12,l,a,c)] ((y,#[.int .i64 kind,.string ⟨#[]⟩,.bool false,.slice none 0 0,.int .i64 0,.int .u64 0,.string ⟨#[]⟩,.slice none 0 0,.slice a l.length c,.slice none 0 0,.slice none 0 0,.slice none 0 0])::(Q,(bq G))::js) bJ cD bI) (bD:∀ q,q∈js->q.2=#[]) (cP:l.length<=10)
 (cB:((if word=[] then f.exp else a8 G.X word>>=fun _=>f.exp)>>=g) bI=some r):
 Calls Tryz.prog 136 #[.string ⟨word.toArray⟩,.pointer (some ⟨Q,0,none⟩),.pointer (some ⟨y,0,none⟩)] cD fun e W=>(∃ c q,r=.error (c,q)/\e=az c q/\Kn G.B M w W)\/∃ nd R bA D v,e=.returned (.tuple #[])/\Hid (g nd R=some r)/\Hid (∀ q,q∈v->q.2=#[])/\Hid (Bd G M C B o d w s [(12,l++[nd],bA,D)] ((y,#[.int .i64 kind,.string ⟨#[]⟩,.bool false,.slice none 0 0,.int .i64 0,.int .u64 0,.string ⟨#[]⟩,.slice none 0 0,.slice bA (l.length+1) D,.slice none 0 0,.slice none 0 0,.slice none 0 0])::(Q,(bq G))::v) bJ W R):=by
 have bP:=U cB;have bL:=U h;have cH:=U bD;clear cB h bD;go_enter Tryz.func136,Tryz.ntmps136
 go_upto_if 5 with fail
 go_cut [0] from 5 to 8 (fun cN bM=>∃ R,cN=.string ⟨word.toArray⟩/\Hid ((f.exp>>=g) R=some r)/\Hid (Bd G M C B o d w s [(12,l,a,c)] ((y,#[.int .i64 kind,.string ⟨#[]⟩,.bool false,.slice none 0 0,.int .i64 0,.int .u64 0,.string ⟨#[]⟩,.slice none 0 0,.slice a l.length c,.slice none 0 0,.slice none 0 0,.slice none 0 0])::(Q,(bq G))::js) bJ bM R))
 case first=>
  rcases word with _|⟨x,cG⟩
  ·have X:Hid ((f.exp>>=g) bI=some r):=bP
   go_wp2_with fail
   go_meet
   case rel=>exact⟨bI,rfl,X,bL⟩
  ·have X:Hid ((a8 G.X (x::cG)>>=fun _=>f.exp>>=g) bI=some r):=U (by have:=bP.out;rw[if_neg ar,<-db] at this;exact this);have cQ:=bL.p 1
   go_wp2_with (go_at_call 66;refine(FU.bd (fi cJ (x::cG)) bL X).mono ?_;rintro e W (⟨bY,q,rfl,rfl,bE⟩|⟨R,rfl,I,m⟩);(·unfold az;go_simp;exact⟨rfl,.inl ⟨_,_,rfl,rfl,bE⟩⟩))
   go_meet
   case rel=>exact⟨R,rfl,I,m⟩
 case rest=>
  obtain⟨R,rfl,I,m⟩:=hcut;clear bL bP
  go_upto_region 2 with fail
  refine b3 (S:=fun bM=>bM.cell? ⟨Q,0,none⟩=some (.pointer (some ⟨G.bp,0,none⟩))/\bM.cell? ⟨y,8,none⟩=some (.slice a l.length c)) (T:=fun j=>j==7||j==8||j==9||j==10) aq ?_;have m:=U m.drew;generalize wc.drew=W at m⊢;have J:W.cell? ⟨Q,0,none⟩=some (.pointer (some ⟨G.bp,0,none⟩))/\W.cell? ⟨y,8,none⟩=some (.slice a l.length c):=⟨m.c 1 0,m.c 0 8⟩;refine tq 0 J ?_;refine tq 1 J ?_;refine tq 2 J ?_;refine tq 4 J ?_;refine gC (i:=3) (j:=5) aq rfl rfl (fun K hK=>?_) (fun K hK=>?_)
  focus
   go_simp;refine(FN.bd L bc.ok m I).mono ?_;rintro e bT (⟨bY,q,rfl,rfl,bE⟩|⟨nd,aX,_,rfl,b6,b,aQ,aR,aT,Z,aB,aA,aU,aV,aW,aC,aE,aD,aF,aH,aG,aI,aK,aJ,aL,aN,aM,aO,Y,aP,rfl,bG⟩)
   ·unfold az;go_simp;exact⟨rfl,.inl ⟨_,_,rfl,rfl,bE⟩⟩
   have b:=U (b.add bG);clear bG;refine nx hK ⟨b.c 1 0,b.c 0 8⟩ ?_;clear hK K;refine cw 5 fun K hK=>?_;go_simp;have k:=U (b.box ke 87);obtain⟨P,F⟩:∃ P,bT.heap.size=P:=⟨_,rfl⟩;rw[F] at k⊢;generalize bT.alloc _=cE at k⊢;clear F;refine nx hK ⟨k.c 2 0,k.c 1 8⟩ ?_;clear hK K
  rotate_left 1
  focus
   go_simp;have b:=U (m.box ke 87);obtain⟨P,F⟩:∃ P,W.heap.size=P:=⟨_,rfl⟩;rw[F] at b⊢;generalize W.alloc _=bT at b⊢;clear F;refine nx hK ⟨b.c 2 0,b.c 1 8⟩ ?_;clear hK K;refine cw 3 fun K hK=>?_;go_simp;refine(FN.bd L bc.ok b I).mono ?_;rintro e cE (⟨bY,q,rfl,rfl,bE⟩|⟨nd,aX,_,rfl,b6,k,aQ,aR,aT,Z,aB,aA,aU,aV,aW,aC,aE,aD,aF,aH,aG,aI,aK,aJ,aL,aN,aM,aO,Y,aP,rfl,bG⟩)
   ·unfold az;go_simp;exact⟨rfl,.inl ⟨_,_,rfl,rfl,bE⟩⟩
   have k:=U (k.add bG);clear bG;refine nx hK ⟨k.c 2 0,k.c 1 8⟩ ?_;clear hK K
  all_goals
   obtain⟨cK,bZ,cA,bF,N⟩:=Bd.app (fx:=[_,_,_]) (js:=js) (z:=rG) (cs:=ke) (nd:=b9 0 [] 0 0 0 [] [] [] [] [] []) k cH (dq (kind:=0) (n:=0) (bits:=0) (name:=[]) (text:=[]) (ls:=[]) (kids:=[]) (rules:=[]) (dr:=[]) (types:=[]) cv aa aa aa aa aa) rfl O;have H:=U (b4 bZ (b4 cA bF));have aZ:=U N;clear bZ cA bF N;refine cw 6 fun K hK=>?_;rw[if_pos (by rfl)];refine hO cE (some 15) rfl _ _ 35 35 rfl 87 87 rG 12 208 Tryz.underlying35 Tryz.underlying35 Tryz.ny rfl O w.heap.size H.2.2 a l.length c cK (cellAt ke) P 0 1 (by rfl) (by rfl) H.1 H.2.1 (k.bx _ (.head _)).2.2 (ib ke rfl) O O ?_;intro bA D cM aY E bU bV bX cC;obtain⟨v,bC,p⟩:=aZ.out bA D cM aY E bU bV bX cC;have bO:=U bC;have p:Hid (Bd G M C B o d w s [(12,l++[b9 0 [] 0 0 0 [] [] [] [] [] []],bA,D)] ((P,ke)::(y,#[.int .i64 kind,.string ⟨#[]⟩,.bool false,.slice none 0 0,.int .i64 0,.int .u64 0,.string ⟨#[]⟩,.slice none 0 0,.slice a l.length c,.slice none 0 0,.slice none 0 0,.slice none 0 0])::(Q,(bq G))::v) ((nd,(ot aQ aR aT Z aB aA aU aV aW aC aE aD aF aH aG aI aK aJ aL aN aM aO Y aP))::bJ) aY aX):=U p;clear E bU bV bX cC aZ H bC;refine nx hK ⟨p.c 2 0,p.c 1 8⟩ ?_;clear hK K;obtain⟨A,rfl,bS,bN⟩:=p.Mc rfl (p.t 0);have cL:((l.length:Nat):Int)<((l.length:Nat):Int)+1:=O
   refine tp 7 ?_;refine tp 9 ?_;refine gC (i:=8) (j:=10) aq rfl rfl (fun K hK=>?_) (fun K hK=>?_)
   focus
    rw[if_pos (by rfl)];refine wp_store_mid 87 _ _ rfl A (l.length*12) (kv aQ aR aT Z aB aA aU aV aW aC aE aD aF aH aG aI aK aJ aL aN aM aO Y aP) (by rfl) (by rfl) bS aq (by rw[<-Aj];rfl) ?_;refine oZ hK ?_;clear hK K;have t:Hid (Bd G M C B o d w s [(12,l++[nd],(some ⟨A,0,none⟩),D)] _ _ (aY.setCells A (l.length*12) ((kv aQ aR aT Z aB aA aU aV aW aC aE aD aF aH aG aI aK aJ aL aN aM aO Y aP):Array Value).toList) aX):=U bN;generalize aY.setCells A (l.length*12) _=bK at t⊢;refine cw 10 fun K hK=>?_;have bQ:bK.cell? ⟨y,8,none⟩=some (.slice a l.length c):=t.c 1 8;have bR:=t.f 1;go_simp;have u:=U (t.set 1 8 (.slice (some ⟨A,0,none⟩) (l.length+1) D));generalize bK.setCell ⟨y,8,none⟩ _=cF at u⊢;refine oZ hK ?_;clear hK K bQ bR
   rotate_left 1
   focus
    have bQ:aY.cell? ⟨y,8,none⟩=some (.slice a l.length c):=p.c 1 8;have bR:=p.f 1;go_simp;have t:=p.set 1 8 (.slice (some ⟨A,0,none⟩) (l.length+1) D);generalize aY.setCell ⟨y,8,none⟩ _=bK at t⊢;refine oZ hK ?_;clear hK K bQ bR;obtain⟨cO,cI,bH,u⟩:=t.Mc rfl (t.t 0);cases cI;refine cw 8 fun K hK=>?_;rw[if_pos (by rfl)];refine wp_store_mid 87 _ _ rfl A (l.length*12) (kv aQ aR aT Z aB aA aU aV aW aC aE aD aF aH aG aI aK aJ aL aN aM aO Y aP) (by rfl) (by rfl) bH aq (by rw[<-Aj];rfl) ?_;have u:Hid (Bd G M C B o d w s [(12,l++[nd],(some ⟨A,0,none⟩),D)] _ _ (bK.setCells A (l.length*12) ((kv aQ aR aT Z aB aA aU aV aW aC aE aD aF aH aG aI aK aJ aL aN aM aO Y aP):Array Value).toList) aX):=U u;generalize bK.setCells A (l.length*12) _=cF at u⊢;refine oZ hK ?_;clear hK K
   all_goals
    refine bj aq ?_ _
    go_wp2_with fail
    go_end0;have u:Bd G M C B o d w s [(12,l++[nd],(some ⟨A,0,none⟩),D)] ((P,ke)::(y,#[.int .i64 kind,.string ⟨#[]⟩,.bool false,.slice none 0 0,.int .i64 0,.int .u64 0,.string ⟨#[]⟩,.slice none 0 0,.slice (some ⟨A,0,none⟩) (l.length+1) D,.slice none 0 0,.slice none 0 0,.slice none 0 0])::(Q,(bq G))::v) ((nd,(ot aQ aR aT Z aB aA aU aV aW aC aE aD aF aH aG aI aK aJ aL aN aM aO Y aP))::bJ) cF aX:=u.out;exact .inr ⟨nd,aX,_,_,v,rfl,b6,bO,U u.drop.tl⟩
end
end Go.Proofs.YtkblonfmjlopaaaGreatDoor
