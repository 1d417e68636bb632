/-
  Big integers, the part that the lexer reaches: what stands in the claims of chapter 01, turned to this seat by program.
-/
import Derived.Test.YtkblonfmjlopaaaGreatDoorAbL
set_option linter.all false
set_option maxRecDepth 1000000
set_option maxHeartbeats 16000000
namespace Go.Proofs.YtkblonfmjlopaaaGreatDoor
open Go Go.RowKit
variable {z:Int}{c n q x y:Nat}{f h:Nat->Nat}{a:Option Addr}{w:World}
theorem J'(w:World){v:Int}(a:v=(x:Int))(b:x<=4294967295):Us (w.alloc (Obj.cells #[Value.int IntKind.u32 v] 171)) (some ⟨w.heap.size,0,none⟩) 1 1 (fun _=>x):=by
 subst a;refine⟨aw _,bh,fun _ _=>b,fun i c=>⟨_,_,rfl,?_⟩⟩;obtain rfl:i=0:=O
 simp[World.cell?_alloc_new]
theorem Fa{k:Nat}(a:∀ i,i<k->f i=h i)(b:∀ i,i<1->f (k+i)=x):val f (k+1)=val h k+x*pw k:=by
 rw[val_succ,val_congr a,show f k=x from b 0 O]
def Nn:Value->Nat|.string s=>s.size|_=>0
theorem yO{c:UInt8}{l:List UInt8}(h:isNum (c::l)=true):(l=[]\/c≠48)/\(c::l).all (D8.contains ·)=true/\∀ x∈c::l,48<=x.toNat/\x.toNat<=57:=by
 unfold isNum at h;rw[mo,mo] at h;obtain⟨⟨_,b⟩,a⟩:=h;refine⟨?_,?_,?_⟩
 ·rcases l with _|⟨d,l⟩
  ·exact .inl rfl
  ·right
   intro e;subst e;simp at b
 ·rw[<-a];congr 1;funext x;exact G9 x
 ·intro x f;rw[qs] at a
  simpa using a x f
theorem Hm(L:List UInt8)(a b:Nat):(⟨L.toArray⟩:ByteArray).extract a b=⟨((L.drop a).take (b-a)).toArray⟩:=by
 apply ByteArray.ext;rw[Hk];simp
theorem yP(w:World)(e:TypeId)(s:ByteArray):Below w.heap.size w (Lib.bytesWorld w e s):=
 ⟨rfl,rfl,rfl,by rw[Lib.bytesWorld_size];omega,fun j a=>Lib.bytesWorld_at_old w e s j a⟩
theorem Fb{D:List UInt8}{j:Nat}(h:j<D.length):iO 0 (D.take (j+1))=10*iO 0 (D.take j)+((D[j]?.getD 0).toNat-48):=by
 rw[List.take_add_one,sV,fv h];simp only [Option.toList_some,Option.getD_some];rw[nS,nR];rfl
theorem Ch{g c b q a d v f p:Nat}(h:g+c*p=v*1000000000+f)(e:c+b*1000000000=d+a*4294967296):g+d*p+a*(4294967296*p)=(v+b*p)*1000000000+f:=by
 have i:(c+b*1000000000)*p=(d+a*4294967296)*p:=by rw[e]
 rw[uL,uL] at i;have j:b*1000000000*p=b*p*1000000000:=Ee _ _ _;have k:a*4294967296*p=a*(4294967296*p):=kP _ _ _;rw[uL v];omega
theorem xg{v b N:Nat}{done D:List UInt8}(c:v=iO 0 done)(d:iO 0 D=b)(e:D.length=N%9+1)(a:done=[]\/(N+1)%9=0)(h:y=v*1000000000+b):y=iO 0 (done++D):=by
 rw[sV,q7,<-c,d,h,e]
 rcases a with a|a
 ·have:v=0:=by rw[c,a,nR]
  rw[this,uN,uN]
 ·rw[show N%9+1=9 from O]
theorem pW(x:UInt8)(t:List UInt8)(k:Nat):Value.string ((⟨(x::t).toArray⟩:ByteArray).extract k (t.length+1))=.string ⟨((x::t).drop k).toArray⟩:=by
 rw[Hm,List.take_of_length_le ar]
theorem o9(l:List UInt8)(w:World)(cM:l.length<=274877906944)(aV:isNum l=true):
 Calls Tryz.prog 122 (jk l) w fun e bG=>∃ a n c h,e=.returned (.tuple #[.slice a n c,.int .i64 0])/\Us bG a n c h/\dh bG w.heap.size a c/\Below w.heap.size w bG/\Hid (val h n=iO 0 l)/\n<=l.length:=by
 rcases l with _|⟨c,l⟩
 ·cases aV
 obtain⟨aG,aH,bJ⟩:=yO aV;clear aV;have bV:=U (Ca aH);have bT:=U bJ;have C:(({data:=(c::l).toArray}:ByteArray)[0]'(by simp[ByteArray.size])).toNat=c.toNat:=rfl;have cN:l.length+1<=274877906944:=cM;clear aH bJ
 have bO:(1<(l.length:Int)+1/\¬(c.toNat:Int)=48)\/¬(1<(l.length:Int)+1):=by
  rcases aG with h|h
  ·subst h;right;simp
  ·by_cases q:1<(l.length:Int)+1
   ·left
    exact⟨q,fun e=>h (UInt8.toNat_inj.1 (by rw[show(48:UInt8).toNat=48 from rfl];omega))⟩
   ·exact .inr q
 clear aG
 have b6:((1<(l.length:Int)+1/\¬(c.toNat:Int)=48)/\((c.toNat:Int)==48)=false)\/¬(1<(l.length:Int)+1):=by
  rcases bO with⟨Q,aF⟩|Q
  ·exact .inl ⟨⟨Q,aF⟩,by simpa using aF⟩
  ·exact .inr Q
 clear bO;go_enter Tryz.func122,Tryz.ntmps122
 rcases b6 with⟨⟨bA,cJ⟩,cK⟩|bA
 all_goals
  go_wp2_with (go_at_call 155;refine(E' _ _ b1).mono ?_;rintro e cV ⟨rfl,aB⟩;rw[bV.out])
  go_loopw [0,4,5,6,8,9,10] (fun bF bY dE aE cB E dH wr=>∃ (t done:List UInt8) (m d:Nat) (r:Option Addr) (h:Nat->Nat),bF=.string ⟨t.toArray⟩/\Hid (done++t=c::l)/\bY=.slice r m d/\Us wr r m d h/\dh wr w.heap.size r d/\Hid (val h m=iO 0 done)/\Hid (done=[]\/t.length%9=0)/\m<=done.length/\done.length+t.length<=274877906944/\Below w.heap.size w wr) (fun bF _ _ _ _ _ _ _=>Nn bF)
  case atStart=>exact⟨c::l,[],0,0,_,fun _=>0,rfl,U rfl,rfl,⟨Nat.le_refl _,Nat.zero_le _,fun _ bP=>O,fun _ bP=>O⟩,dh.nil _ _ _,U rfl,U (.inl rfl),Nat.zero_le _,b1,by first|exact aB|exact aB.alloc aB.size _⟩
  case round=>
   obtain⟨t,done,m,d,r,h,rfl,aD,rfl,X,bM,aU,bL,dB,k,aN⟩:=hrel
   rcases t with _|⟨x,t⟩
   ·go_wp2
    go_ret2
    have aI:=aD.out;rw[uJ] at aI;exact⟨_,_,_,_,rfl,X,bM,aN,U (by rw[aU.out,aI]),by have:=congrArg List.length aI;rw[ni] at this;omega⟩
   ·have cH:=fun w s=>Lib.run_convert_string_bytes (P:=Tryz.prog) w 9 165 5 s Tryz.underlying9 Tryz.underlying165 Tryz.underlying5;have aI:t.length+1<=274877906944:=by simp at k;omega
    have bQ:min (t.length%9) t.length=t.length%9:=Nat.min_eq_left (Nat.mod_le _ _);have aW:=aN.size
    go_wp2
    have cF:t.length%9+1<=t.length+1:=ba (Nat.mod_le t.length 9)
    have bN:Hid (∃ D:List UInt8,D=(x::t).take (t.length%9+1)/\D.length=t.length%9+1):=U ⟨_,rfl,b1⟩;obtain⟨D,p,T⟩:=bN.out;clear bN
    have aP:∀ j,j<t.length%9+1->(Lib.bytesWorld wr 5 (({data:=(x::t).toArray}:ByteArray).extract 0 (t.length%9+1))).cell? ⟨wr.heap.size,j,none⟩=some (.int .u8 ((D[j]?.getD 0).toNat:Nat)):=by
     intro j aK;have:=Lib.bytesWorld_cell wr 5 (({data:=(x::t).toArray}:ByteArray).extract 0 (t.length%9+1)) j (by rw[Hm];show _<((List.take (t.length%9+1-0) (List.drop 0 (x::t))).length);simp;omega);rw[this,Hm];simp[p]
    have aJ:=yP wr 5 (({data:=(x::t).toArray}:ByteArray).extract 0 (t.length%9+1));have M:=U p
    have F:Hid (∀ z∈D,48<=z.toNat/\z.toNat<=57):=U (fun z L=>by
     rw[p] at L;refine bT.out z ?_;rw[<-aD.out]
     exact Ce _ (List.mem_of_mem_take L))
    generalize Lib.bytesWorld wr 5 (({data:=(x::t).toArray}:ByteArray).extract 0 (t.length%9+1))=cW at aP aJ⊢;clear p C;have f:=U T;clear T
    go_loopw [6,8,42] (fun aE cB E aC=>aC=cW/\∃ j:Nat,j<=t.length%9+1/\E=.int .i64 j/\aE=.int .u64 (iO 0 (D.take j):Nat)) (fun _ _ E _=>(t.length%9+1)-(intOf E).toNat)
    case atStart=>exact⟨rfl,0,Nat.zero_le _,rfl,by simp[nR]⟩
    case round=>
     obtain⟨bE,j,aK,rfl,rfl⟩:=hrel;obtain rfl:=bE.symm
     by_cases aA:j<t.length%9+1
     ·have G:=aP j aA;have A:j<D.length:=by rw[f.out];exact aA
      obtain⟨Q,aF⟩:48<=(D[j]?.getD 0).toNat/\(D[j]?.getD 0).toNat<=57:=by
       rw[fv A];exact F.out _ (lk A)
      have I:=yK (D.take j) (fun z L=>(F.out z (List.mem_of_mem_take L)).2);rw[List.length_take] at I;have J:=U (Fb (D:=D) (j:=j) A);generalize (D[j]?.getD 0).toNat=y at G Q aF J;generalize iO 0 (D.take j)=R at I J⊢
      have dA:R<100000000:=by
       have aG:10^min j D.length<=10^8:=nV bh O;have aH:(10:Nat)^8=100000000:=bh
       omega
      clear I A aP
      go_wp2
      refine⟨⟨trivial,j+1,O,rfl,?_⟩,by simp[intOf];omega⟩;rw[J.out]
      congr 1
      omega
     ·obtain rfl:j=t.length%9+1:=O
      have S:=yK D (fun z L=>(F.out z L).2);rw[f.out] at S
      have B:iO 0 D<1000000000:=by
       have aG:10^(t.length%9+1)<=10^9:=nV bh O;have aH:(10:Nat)^9=1000000000:=bh
       omega
      clear S;rw[List.take_of_length_le (by rw[f.out];exact aw _)];have aT:=X.below aJ (aw _);have aQ:=dh.below bM X aJ (aw _);have aO:=aN.trans (aJ.mono aW);have dD:=X.lm;have cO:=X.le;have aL:=U (show iO 0 D=iO 0 D from rfl);generalize W:iO 0 D=bH at B⊢;have N:=U W;clear W aL
      go_wp2
      go_loopw [6,9,10,55] (fun aE dC cX E aC=>∃ (i g:Nat) (H:Nat->Nat),i<=m/\g<1000000000/\E=.int .i64 i/\aE=.int .u64 g/\Us aC r m d H/\dh aC w.heap.size r d/\Hid (∀ j,i<=j->H j=h j)/\Hid (val H i+g*pw i=val h i*1000000000+bH)/\Below w.heap.size w aC) (fun _ _ _ E _=>m-(intOf E).toNat)
      case atStart=>exact⟨0,bH,h,Nat.zero_le _,B,rfl,rfl,aT,aQ,U (fun _ _=>rfl),by show _=_;simp[val,pw],aO⟩
      case round=>
       obtain⟨i,g,H,bP,cG,rfl,rfl,b,u,bK,aR,o⟩:=hrel;have bC:=o.size
       by_cases cL:i<m
       ·obtain⟨cZ,dG,rfl,aZ⟩:=b.cell i (ba b.le);obtain⟨cY,dF,bI,bD,cI⟩:=u i (ba b.le);simp only [Option.some.injEq,Addr.mk.injEq,and_true] at bI;obtain⟨rfl,rfl⟩:=bI;have cS:=b.lm i (ba b.le);have Z:=U (bK.out i (aw _));generalize Y:H i=C at aZ cS Z;have bU:=U Y;clear Y
        go_wp2
        go_roundw
        case rel=>
         go_light
         have cU:(g+C*1000000000)/4294967296<1000000000:=O
         refine⟨i+1,(g+C*1000000000)/4294967296,jG H i ((g+C*1000000000)%4294967296),O,cU,by congr 1,by congr 1,?_,fun j aK=>?_,?_,?_,o.setCell (by simpa using bD) _⟩
         ·have aY:=b.cs.set (j:=i) (ba b.le) ((g+C*1000000000)%4294967296);have aM:((g:Int)+(C:Int)*1000000000)%4294967296=(((g+C*1000000000)%4294967296:Nat):Int):=O
          rw[aM];exact aY.us b.le b.mx (b.lm.jG O)
         ·obtain⟨bZ,cT,aM,cD,cE⟩:=u j aK;exact⟨bZ,cT,aM,cD,by rw[xd];exact cE⟩
         ·exact U (fun j aK=>by rw[oq _ _ _ _ O];exact bK.out j O)
         ·refine U ?_;rw[z',val_succ,zZ];rw[<-Z.out];exact Ch (q:=0) aR O
        case measure=>simp[intOf];omega
       ·obtain rfl:i=m:=O
        by_cases aX:g=0
        ·subst aX
         go_wp2
         have v:=aR.out;rw[uN,qv] at v;refine⟨⟨(x::t).drop (t.length%9+1),done++D,i,d,r,H,pW x t _,U (by rw[q',M.out,Ea];exact aD.out),rfl,b,u,U (xg aU N f (by have:=bL.out;rwa [ni] at this) v),U (.inr b1),by rw[iQ,f.out];omega,by rw[iQ,f.out,Ag,ni];rw[ni] at k;omega,o⟩,?_⟩;rw[pW];show((x::t).drop (t.length%9+1)).length<(x::t).length;rw[Ag,ni];omega
        ·go_wp2_with (at_builtin;refine mj _ rfl _ _ 70 70 rfl 171 Tryz.underlying70 Tryz.underlying70 Tryz.nQ w.heap.size b1 _ _ _ _ 1 1 _ (fun _=>g) rfl rfl (b.alloc _) (u.below b (ab _ _) (aw _)) (J' _ O O) O ?_;intro bX cA cC cV aB bR bS cP cQ;have cR:=U (Fa bR bS);clear bR bS)
         have v:=aR.out;refine⟨⟨(x::t).drop (t.length%9+1),done++D,i+1,cA,bX,cC,pW x t _,U (by rw[q',M.out,Ea];exact aD.out),rfl,aB,cP,U (xg aU N f (by have:=bL.out;rwa [ni] at this) (by rw[cR.out];exact v)),U (.inr b1),by rw[iQ,f.out];omega,by rw[iQ,f.out,Ag,ni];rw[ni] at k;omega,o.trans (((ab _ _).mono bC).trans cQ)⟩,?_⟩;rw[pW];show((x::t).drop (t.length%9+1)).length<(x::t).length;rw[Ag,ni];omega
def LO:Value->Nat|.slice _ n _=>n|_=>0
def gw(neg:Bool)(x:Nat):Int:=if neg then-(x:Int) else x
def uO(w w':World)(z:Int)(L:Nat)(e:Ending):Prop:=
 ∃ sg a n c f,e=.returned (.agg #[.bool sg,.slice a n c])/\Us w' a n c f/\dh w' w.heap.size a c/\Below w.heap.size w w'/\Nm f n/\(n=0->sg=false)/\gw sg (val f n)=z/\n<=L
theorem Us.none(k:Us w none n c f):n=0/\c=0:=by
 have h:c=0:=by
  rcases Ef c with h|h
  ·exact h
  ·obtain⟨b,o,e,_⟩:=k.cell 0 h;cases e
 have:=k.le;exact⟨O,h⟩
theorem xh(a:Option Addr)(n c:Nat)(f:Nat->Nat)(w:World)(Q:n<=4398046511104)(t:Us w a n c f):
 Calls Tryz.prog 123 #[.slice a n c] w fun e s=>∃ i r l h,e=.returned (.slice i r l)/\Us s i r l h/\dh s w.heap.size i l/\Below w.heap.size w s/\Nm h r/\val h r=val f n/\r<=n:=by
 have P:=t.le;go_enter Tryz.func123,Tryz.ntmps123
 go_wp2
 go_loop [0] (fun v=>∃ k:Nat,k<=n/\oY f k=oY f n/\v=.slice a k c) (fun v=>LO v)
 case atStart=>exact⟨n,Nat.le_refl _,rfl,rfl⟩
 case round=>
  obtain⟨k,M,p,rfl⟩:=hrel;have D:=U p;clear p;have u:=t.mono M;have G:∀ F,a=F->F=none->k=0/\c=0:=by rintro _ rfl rfl;exact u.none
  by_cases m:0<k/\f (k-1)=0
  ·obtain⟨N,g⟩:=m;obtain⟨j,rfl⟩:∃ j,k=j+1:=⟨k-1,O⟩;simp at g;obtain⟨b,C,rfl,d⟩:=t.cell j O;rw[g] at d;have L:j+1<=c:=O
   have I:¬c=0:=O
   have H:=U g;clear g G
   go_wp2
   refine⟨⟨j,O,?_,rfl⟩,by simp[LO]⟩;rw[<-D.out]
   conv=>rhs;unfold oY
   rw[if_pos H.out]
  ·have q:oY f n=k:=by
    rw[<-D.out];cases k with
    |zero=>rfl
    |succ j=>unfold oY;rw[if_neg (by simpa using m)]
   have E:=U q;clear q
   rcases o:k with _|j
   ·subst o;clear m
    go_wp2_with (go_at_call 156;refine(uB _ _ _ _ _ O u (by intro h;exact G _ rfl h)).mono ?_;rintro e s ⟨i,l,h,rfl,x,y,z,A⟩)
    go_ret;refine⟨_,_,_,_,rfl,x,y,z,.inl rfl,?_,O⟩;rw[<-uA f n,E.out];rfl
   ·subst o;have B:¬f j=0:=by simpa using m
    have J:¬(f j:Int)=0:=O
    obtain⟨b,C,rfl,d⟩:=t.cell j O;clear m
    go_wp2_with (go_at_call 156;refine(uB _ _ _ _ _ O u (by intro h;cases h)).mono ?_;rintro e s ⟨i,l,h,rfl,x,y,z,A⟩)
    go_ret;refine⟨_,_,_,_,rfl,x,y,z,Nm.congr (f:=f) (.inr (by simpa using B)) A,?_,O⟩;rw[val_congr A,<-E.out,uA]
theorem Us.apart{d:Nat}(k:Us w a n c h)(u:dh w d a c){p:Addr}(j:p.block<d)(x:Value):Us (w.setCell p x) a n c h:=
 ⟨k.le,k.mx,k.lm,fun i g=>by
   obtain⟨b,f,e,l,_⟩:=u i g;subst e
   exact⟨b,f,rfl,by rw[eb _ _ _ _ (by intro h;subst h;simp at j;omega)];exact k.cs i g⟩⟩
theorem Ek{b:World}{d e:Value}{T:TypeId}(c:Below (w.alloc (.cells #[d,e] T)).heap.size (w.alloc (.cells #[d,e] T)) b):
 b.cell? ⟨w.heap.size,0,none⟩=some d/\b.cell? ⟨w.heap.size,1,none⟩=some e/\b.frozen? ⟨w.heap.size,0,none⟩=false/\b.frozen? ⟨w.heap.size,1,none⟩=false/\w.heap.size<b.heap.size:=by
 have a:w.heap.size<(w.alloc (.cells #[d,e] T)).heap.size:=ar
 refine⟨?_,?_,?_,?_,gi a c.size⟩
 ·rw[c.cell (p:=⟨w.heap.size,0,none⟩) a,jl];rfl
 ·rw[c.cell (p:=⟨w.heap.size,1,none⟩) a,jl];rfl
 ·rw[c.frozen (p:=⟨w.heap.size,0,none⟩) a,o6]
 ·rw[c.frozen (p:=⟨w.heap.size,1,none⟩) a,o6]
theorem r_(d:Bool)(a:Option Addr)(n c:Nat)(f:Nat->Nat)(w:World)(z:n<=4398046511104)(q:Us w a n c f):
 Calls Tryz.prog 124 #[.bool d,.slice a n c] w fun e y=>uO w y (gw d (val f n)) n e:=by
 cases d
 all_goals
  go_enter Tryz.func124,Tryz.ntmps124
  go_wp2_with (go_at_call 123;refine(xh _ _ _ _ _ O (q.alloc _)).mono ?_;rintro e p ⟨k,i,l,h,rfl,r,s,m,t,o,u⟩;obtain⟨v,x,A,B,C⟩:=Ek m;have j:=U o;clear o)
  have b:dh p (w.heap.size+1) k l:=s.mono ar;have g:Below w.heap.size w p:=(ab w _).trans (m.mono ar);refine bodyPost_ret (by simp[results,Tryz.results124,go_sem,v,x];rfl) rfl ⟨_,k,i,l,h,rfl,(r.apart b ar _).apart (b.set _ _) ar _,((b.set _ _).set _ _).mono O,(g.setCell ar _).setCell ar _,t,?_,?_,u⟩
 ·intro _;rfl
 ·rw[j.out]
 ·intro e;subst e;rfl
 ·rw[<-j.out]
  by_cases e:0<i
  ·simp[e]
  ·have:i=0:=O
   subst this;simp[gw,val]
theorem qH{W a:World}(c:Below W.heap.size W a):(∀ b o,b<W.heap.size->a.cell? ⟨b,o,none⟩=W.cell? ⟨b,o,none⟩)/\(∀ b o,b<W.heap.size->a.frozen? ⟨b,o,none⟩=W.frozen? ⟨b,o,none⟩):=
 ⟨fun b o h=>c.cell (p:=⟨b,o,none⟩) h,fun b o h=>c.frozen (p:=⟨b,o,none⟩) h⟩
theorem uO.out{b e:World}{j:Int}{L h:Nat}{d:Bool}(m:Us e a n c f)(g:dh e b.heap.size a c)(o:Below b.heap.size b e)(p:Nm f n)(r:n=0->d=false)(s:gw d (val f n)=j)(t:n<=h)
 (k:Below w.heap.size w b) (h1:w.heap.size<=q) (i:q<b.heap.size) (l:j=z) (hl:h<=L) (x y:Value):uO w ((e.setCell ⟨q,0,none⟩ x).setCell ⟨q,1,none⟩ y) z L (.returned (.agg #[.bool d,.slice a n c])):=
 ⟨d,a,n,c,f,rfl,(m.apart g i _).apart (g.set _ _) i _,((g.set _ _).set _ _).mono O,((k.trans (o.mono O)).setCell h1 _).setCell h1 _,p,r,s.trans l,O⟩
theorem below_alloc2(w:World)(o a:Obj):Below w.heap.size w ((w.alloc o).alloc a):=((eA _ _).alloc (aw _) _).alloc ar _
theorem Fc(b:Bool)(x:Nat):gw (!b) x=-gw b x:=by cases b<;>simp[gw]
theorem Hn(h:Bool)(a:Option Addr)(n c:Nat)(f:Nat->Nat)(w:World)(B:n<=4398046511104)(u:Us w a n c f):
 Calls Tryz.prog 88 #[.agg #[.bool h,.slice a n c]] w fun e x=>uO w x (-gw h (val f n)) n e:=by
 go_enter Tryz.func88,Tryz.ntmps88
 go_wp2_with (go_at_call 124;refine(r_ _ _ _ _ _ _ O ((u.alloc _).alloc _)).mono ?_;rintro e s ⟨v,y,nx,z,A,rfl,l,m,b,o,d,g,p⟩;obtain⟨k,t⟩:=qH b;have q:w.heap.size<s.heap.size:=gi (by first|(simp;done)|(simp;omega)|omega) b.size;have r:w.heap.size+1<s.heap.size:=gi (by first|(simp;done)|(simp;omega)|omega) b.size;have j:=U g;have i:=U d;clear g d)
 exact bodyPost_ret (by simp[results,Tryz.results88,go_sem,k]) rfl (uO.out l m b o i j p (below_alloc2 w _ _) ar ar (Fc _ _) (aw _) _ _)
def Ak(z:Int):Int:=if z<0 then-1 else if 0<z then 1 else 0
def nj(x y:Int):Int:=if x<y then-1 else if y<x then 1 else 0
def LP(w w':World)(k:IntKind)(z:Int)(e:Ending):Prop:=e=.returned (.int k z)/\Below w.heap.size w w'
theorem nX(h:z<0):Ak z=-1:=by simp[Ak,h]
theorem nY:Ak 0=0:=rfl
theorem nZ(h:0<z):Ak z=1:=by unfold Ak;rw[if_neg O,if_pos h]
theorem uP{x y:Int}(h:x<y):nj x y=-1:=by simp[nj,h]
theorem uQ{x y:Int}(h:y<x):nj x y=1:=by unfold nj;rw[if_neg O,if_pos h]
theorem Ho{x y:Int}(h:x=y):nj x y=0:=by unfold nj;rw[if_neg O,if_neg O]
theorem Hp{b:Bool}(a:b=false):jT x y=nj (gw b x) (gw b y):=by
 subst a;unfold jT nj gw;simp
theorem Ci{b:Bool}(a:b=true):jT y x=nj (gw b x) (gw b y):=by
 subst a;unfold jT nj gw;simp
theorem Us.ui(k:Us w a n c h)(o b:Obj):Us ((w.alloc o).alloc b) a n c h:=(k.alloc _).alloc _
def Hq(l:List UInt8):Option Int:=
 if l.head?=some 126 then(if isNum l.tail=true/\iO 0 l.tail≠0 then some (-(iO 0 l.tail:Int)) else none)
 else if isNum l=true then some (iO 0 l:Int) else none
theorem xi(d:List UInt8):Lib.trimPrefix (126::d) [126]=d/\Lib.hasPrefix (126::d) [126]=true:=by
 have h:Lib.hasPrefix (126::d) [126]=true:=by simp[Lib.hasPrefix,List.isPrefixOf]
 refine⟨?_,h⟩;unfold Lib.trimPrefix;rw[if_pos h];rfl
theorem xj(l:List UInt8)(a:l.head?≠some 126):Lib.trimPrefix l [126]=l/\Lib.hasPrefix l [126]=false:=by
 have h:Lib.hasPrefix l [126]=false:=by
  rcases l with _|⟨c,l⟩
  ·rfl
  ·simp at a;simp[Lib.hasPrefix,List.isPrefixOf];exact fun e=>a e.symm
 refine⟨?_,h⟩;unfold Lib.trimPrefix;rw[if_neg (by rw[h];decide)]
def xk(w w':World)(z:Int)(L:Nat)(e:Ending):Prop:=
 ∃ sg a n c f,e=.returned (.tuple #[.agg #[.bool sg,.slice a n c],.int .i64 0])/\Us w' a n c f/\dh w' w.heap.size a c/\Below w.heap.size w w'/\Nm f n/\(n=0->sg=false)/\gw sg (val f n)=z/\n<=L
theorem xk.out{b e:World}{j:Int}{L h:Nat}{d:Bool}(m:Us e a n c f)(g:dh e b.heap.size a c)(o:Below b.heap.size b e)(p:Nm f n)(r:n=0->d=false)(s:gw d (val f n)=j)(t:n<=h)
 (k:Below w.heap.size w b) (h1:w.heap.size<=q) (i:q<b.heap.size) (l:j=z) (hl:h<=L) (x y:Value):xk w ((e.setCell ⟨q,0,none⟩ x).setCell ⟨q,1,none⟩ y) z L (.returned (.tuple #[.agg #[.bool d,.slice a n c],.int .i64 0])):=
 ⟨d,a,n,c,f,rfl,(m.apart g i _).apart (g.set _ _) i _,((g.set _ _).set _ _).mono O,((k.trans (o.mono O)).setCell h1 _).setCell h1 _,p,r,s.trans l,O⟩
theorem uR(pre:Bool)(l d:List UInt8)(w:World)(aO:l.length<=274877906944)(aC:d.length<=l.length)(L:Lib.trimPrefix l [126]=d)(M:Lib.hasPrefix l [126]=pre)(N:isNum d=true)(J:pre=true->iO 0 d≠0):
 Calls Tryz.prog 87 (jk l) w fun e y=>xk w y (gw pre (iO 0 d)) l.length e:=by
 have G:=U L;have H:=U M;have F:=U J;clear L M J;cases pre
 ·go_enter Tryz.func87,Tryz.ntmps87
  go_wp2_with (first|(go_at_call 85;refine(Tryz.strings_CutPrefix ⟨l.toArray⟩ ⟨#[126]⟩ _).mono ?_;rintro e y ⟨rfl,rfl⟩;rw[show(⟨l.toArray⟩:ByteArray).data.toList=l from rfl,show(⟨#[126]⟩:ByteArray).data.toList=[126] from rfl,G.out,H.out])|(go_at_call 122;refine(o9 _ _ O N).mono ?_;rintro e z ⟨S,aH,X,aE,rfl,k,aF,c,m,aG⟩;obtain⟨u,v,aI,aJ,f⟩:=Ek c)|(go_at_call 124;refine(r_ _ _ _ _ _ _ O k).mono ?_;rintro e A ⟨x,W,nx,Y,aA,rfl,B,C,g,D,h,i,E⟩;obtain⟨a,t⟩:=qH g;have q:=U i;have p:=U h;clear i h))
  have j:Below w.heap.size w z:=(ab w _).trans (c.mono ar);exact bodyPost_ret (by simp[results,Tryz.results87,go_sem,a,u,v,f]) rfl (xk.out B C g D p q E j (aw _) f (by rw[m.out]) O _ _)
 ·have o:=U (F.out rfl);clear F;go_enter Tryz.func87,Tryz.ntmps87
  go_wp2_with (first|(go_at_call 85;refine(Tryz.strings_CutPrefix ⟨l.toArray⟩ ⟨#[126]⟩ _).mono ?_;rintro e y ⟨rfl,rfl⟩;rw[show(⟨l.toArray⟩:ByteArray).data.toList=l from rfl,show(⟨#[126]⟩:ByteArray).data.toList=[126] from rfl,G.out,H.out])|(go_at_call 122;refine(o9 _ _ O N).mono ?_;rintro e z ⟨S,aH,X,aE,rfl,k,aF,c,m,aG⟩;obtain⟨u,v,aI,aJ,f⟩:=Ek c)|(go_at_call 123;refine(xh _ _ _ _ _ O k).mono ?_;rintro e A ⟨T,P,aL,aN,rfl,aP,aQ,n,aK,Q,aR⟩;have R:=U Q;clear Q;obtain⟨s,aB⟩:=qH n;have b:w.heap.size<A.heap.size:=gi f n.size;have aD:¬(P:Int)=0:=(by intro aM;have Z:P=0:=O;have I:=R.out;rw[aK.zero.2 Z,m.out] at I;exact o.out I.symm))|(go_at_call 124;refine(r_ _ _ _ _ _ _ O (k.below n (aw _))).mono ?_;rintro e aT ⟨x,W,nx,Y,aA,rfl,B,C,g,D,h,i,E⟩;obtain⟨a,t⟩:=qH g;have q:=U i;have p:=U h;clear i h))
  have j:Below w.heap.size w z:=(ab w _).trans (c.mono ar);have r:Below w.heap.size w A:=j.trans (n.mono j.size);exact bodyPost_ret (by simp[results,Tryz.results87,go_sem,a,s,u,v,f,b]) rfl (xk.out B C g D p q E r (aw _) b (by rw[m.out]) O _ _)
theorem o_(l:List UInt8)(w:World)(z:Int)(i:l.length<=274877906944)(h:Hq l=some z):
 Calls Tryz.prog 87 (jk l) w fun e j=>xk w j z l.length e:=by
 unfold Hq at h
 split at h
 ·rename_i a
  split at h
  ·rename_i b
   rcases l with _|⟨c,d⟩
   ·cases a
   ·simp only [List.head?_cons,Option.some.injEq] at a;subst a;simp only [List.tail_cons] at b h;obtain⟨f,g⟩:=xi d;have:=uR true (126::d) d w i ar f g b.1 (fun _=>b.2);simp only [Option.some.injEq] at h;rw[<-h];exact this
  ·cases h
 ·rename_i a
  split at h
  ·rename_i b;obtain⟨f,g⟩:=xj l a;have:=uR false l l w i (aw _) f g b (fun e=>by cases e);simp only [Option.some.injEq] at h;rw[<-h];exact this
  ·cases h
structure Bx(wx:World)(b:Nat)(x0 x1:Value):Prop where
 lt:b<wx.heap.size
 c0:wx.cell? ⟨b,0,none⟩=some x0
 c1:wx.cell? ⟨b,1,none⟩=some x1
 fr:∀ o,wx.frozen? ⟨b,o,none⟩=false
theorem Bx.a6{c d:World}{b:Nat}{e f:Value}(k:Bx c b e f)(a:Below c.heap.size c d):Bx d b e f:=
 ⟨gi k.lt a.size,(a.cell (p:=⟨b,0,none⟩) k.lt).trans k.c0,(a.cell (p:=⟨b,1,none⟩) k.lt).trans k.c1,fun o=>(a.frozen (p:=⟨b,o,none⟩) k.lt).trans (k.fr o)⟩
theorem Bx.made(w:World)(a b:Value)(T:TypeId):Bx (w.alloc (.cells #[a,b] T)) w.heap.size a b:=
 ⟨ar,by simp[go_sem],by simp[go_sem],fun o=>by simp[go_sem]⟩
theorem dh.drew{b:Nat}(k:dh w b a c):dh w.drew b a c:=k
theorem Cj{F G:Nat->Nat}{k:Nat}(a:Lm F (k+1))(b:Lm G (k+1)):
 (F k<G k->jT (val F (k+1)) (val G (k+1))=-1)/\(G k<F k->jT (val F (k+1)) (val G (k+1))=1)/\(F k=G k->jT (val F (k+1)) (val G (k+1))=jT (val F k) (val G k)):=by
 have c:=D6 (a.mono (h5 k));have d:=D6 (b.mono (h5 k));refine⟨fun h=>uC ?_,fun h=>uD ?_,fun h=>?_⟩
 ·rw[val_succ,val_succ];have:(F k+1)*pw k<=G k*pw k:=jX _ h;rw[jd] at this;omega
 ·rw[val_succ,val_succ];have:(G k+1)*pw k<=F k*pw k:=jX _ h;rw[jd] at this;omega
 ·rw[val_succ,val_succ,h];unfold jT;simp
theorem Hr{m:Nat}(h:Lm f n):Lm (ex f n) m:=fun i _=>by
 unfold ex
 split
 ·exact h i jW
 ·omega
theorem iV(a v:Option Addr)(n c b z:Nat)(f g:Nat->Nat)(w:World)(N:n<=4398046511104)(C:b<=4398046511104)(p:Us w a n c f)(h:Us w v b z g):
 Calls Tryz.prog 116 #[.slice a n c,.slice v b z] w fun e r=>e=.returned (.int .i64 (jT (val f n) (val g b)))/\r=w:=by
 have A:=U (D7 (g:=f) (show n<=max n b from O));have B:=U (D7 (g:=g) (show b<=max n b from O));have F:∀ m,Lm (ex f n) m:=fun m=>Hr (p.lm.mono p.le);have G:∀ m,Lm (ex g b) m:=fun m=>Hr (h.lm.mono h.le);generalize J:max n b=M at A B;go_enter Tryz.func116,Tryz.ntmps116
 go_wp2
 go_loop [5,6] (fun H u=>∃ k:Nat,k<=M/\u=.int .i64 k/\H=.int .i64 (jT (val (ex f n) k) (val (ex g b) k))) (fun _ u=>M-(intOf u).toNat)
 case atStart=>exact⟨0,Nat.zero_le _,rfl,rfl⟩
 case round=>
  obtain⟨k,L,rfl,rfl⟩:=hrel
  by_cases I:k<M
  ·have i:=Cj (F (k+1)) (G (k+1))
   rcases Af (ex f n k) (ex g b k) with d|d|d
   ·have o:=U (i.1 d);clear i;generalize j:ex f n k=x at d;generalize q:ex g b k=y at d;have t:¬y<x:=O
    by_cases l:k<n
    all_goals
     go_wp2_with (go_at_call 150;refine(yL _ _ _ _ _ _ O (by first|exact p|exact h)).mono ?_;rintro e r ⟨rfl,rfl⟩;try rw[j];try rw[q])
     refine⟨⟨k+1,O,by congr 1,by rw[o.out]⟩,by simp[intOf];omega⟩
   ·have o:=U (i.2.2 d);clear i;generalize j:ex f n k=x;have q:=d.symm.trans j;clear d
    by_cases l:k<n
    all_goals
     go_wp2_with (go_at_call 150;refine(yL _ _ _ _ _ _ O (by first|exact p|exact h)).mono ?_;rintro e r ⟨rfl,rfl⟩;try rw[j];try rw[q])
     refine⟨⟨k+1,O,by congr 1,by rw[o.out]⟩,by simp[intOf];omega⟩
   ·have o:=U (i.2.1 d);clear i;generalize j:ex f n k=x at d;generalize q:ex g b k=y at d;have t:¬x<y:=O
    by_cases l:k<n
    all_goals
     go_wp2_with (go_at_call 150;refine(yL _ _ _ _ _ _ O (by first|exact p|exact h)).mono ?_;rintro e r ⟨rfl,rfl⟩;try rw[j];try rw[q])
     refine⟨⟨k+1,O,by congr 1,by rw[o.out]⟩,by simp[intOf];omega⟩
  ·have s:k=M:=O
   subst s;have D:¬k<n:=O
   have E:¬k<b:=O
   go_wp2
   go_ret;exact⟨by rw[A.out,B.out];rfl,rfl⟩
def Al(p:Prop):Prop:=p
theorem Hs{p:Prop}(h:Al p):p:=h
theorem Ck(d:Bool)(a:Option Addr)(n c:Nat)(f:Nat->Nat)(w:World)(x:n<=4398046511104)(r:Us w a n c f):
 Calls Tryz.prog 149 #[.agg #[.bool d,.slice a n c]] w fun e s=>uO w s (gw d (val f n)) n e:=by
 cases d
 all_goals
  go_enter Tryz.func149,Tryz.ntmps149
  go_wp2_with (go_at_call 172;refine(Cb _ _ _ _ _ O ((r.alloc _).alloc _)).mono ?_;rintro e p ⟨t,nx,u,v,rfl,i,j,b,k,g,l⟩;obtain⟨h,q⟩:=qH b;have m:w.heap.size<p.heap.size:=gi (by first|(simp;done)|(simp;omega)|omega) b.size;have o:w.heap.size+1<p.heap.size:=gi (by first|(simp;done)|(simp;omega)|omega) b.size)
  refine bodyPost_ret (by simp[results,Tryz.results149,go_sem,h];rfl) rfl (uO.out i j b k ?_ ?_ l (below_alloc2 w _ _) ar ar rfl (aw _) _ _)
 ·intro _;rfl
 ·rw[g.out]
 ·intro e;subst e;rfl
 ·rw[<-g.out]
  by_cases e:0<nx
  ·simp[e]
  ·have:nx=0:=O
   subst this;simp[gw,val]
theorem uS(j:Bool)(a:Option Addr)(n c:Nat)(f:Nat->Nat)(w:World)(C:n<=4398046511104)(t:Us w a n c f):
 Calls Tryz.prog 115 #[.agg #[.bool j,.slice a n c]] w fun e y=>LP w y .i64 (Ak (gw j (val f n))) e:=by
 go_enter Tryz.func115,Tryz.ntmps115
 go_wp2_with fail
 refine(Ck _ _ _ _ _ _ O (t.alloc _)).mono ?_;rintro e z ⟨m,A,nx,B,p,rfl,u,v,d,l,g,i,x⟩;obtain⟨E,F,G,H,I⟩:=Ek d;have k:Below w.heap.size w z:=(ab w _).trans (d.mono ar);have o:=U i;have r:=U g;clear i g;have b:=k.size
 by_cases q:nx=0
 ·subst q;have:=r.out rfl;subst this
  go_wp2
  go_ret;refine⟨?_,k.alloc b _⟩;rw[<-o.out];simp[gw,val,Ak]
 ·have D:0<val p nx:=by rcases Ef (val p nx) with h|h
                        ·exact absurd (l.zero.1 h) q
                        ·exact h
  have s:¬(nx:Int)=0:=O
  cases m
  all_goals
   go_wp2
   go_ret;refine⟨?_,k.alloc b _⟩;rw[<-o.out];unfold Ak gw;simp only [Bool.false_eq_true,if_false,if_true]
   first
    |(rw[if_neg O,if_pos O])
    |(rw[if_pos O])
   try rfl
theorem Fe(x y:Nat):-jT x y=jT y x:=by
 unfold jT
 rcases Af x y with h|h|h
 ·rw[if_pos h,if_neg O,if_pos h];rfl
 ·rw[if_neg O,if_neg O,if_neg O,if_neg O];rfl
 ·rw[if_neg O,if_pos h,if_pos h]
theorem Ff(i b:Bool)(a D:Option Addr)(n c o E:Nat)(f g:Nat->Nat)(w:World)(Z:n<=1099511627776)(W:o<=1099511627776)(H:Us w a n c f)(B:Us w D o E g):
 Calls Tryz.prog 84 #[.agg #[.bool i,.slice a n c],.agg #[.bool b,.slice D o E]] w fun e X=>LP w X .i64 (nj (gw i (val f n)) (gw b (val g o))) e:=by
 have C:True:=trivial;go_enter Tryz.func84,Tryz.ntmps84
 go_wp2_with (first|(have Y:=C;go_at_call 115;refine(uS _ _ _ _ _ _ O (H.ui _ _)).mono ?_;rintro e N ⟨rfl,m⟩;obtain⟨R,T⟩:=qH m;have L:w.heap.size<N.heap.size:=gi (by first|(simp;done)|(simp;omega)|omega) m.size;have M:w.heap.size+1<N.heap.size:=gi (by first|(simp;done)|(simp;omega)|omega) m.size;clear C)|(go_at_call 115;refine(uS _ _ _ _ _ _ O ((B.ui _ _).below m (aw _))).mono ?_;rintro e G ⟨rfl,r⟩;obtain⟨Q,S⟩:=qH r;have I:w.heap.size<G.heap.size:=gi (by first|(simp;done)|(simp;omega)|omega) r.size;have J:w.heap.size+1<G.heap.size:=gi (by first|(simp;done)|(simp;omega)|omega) r.size;refine Hs ?_))
 unfold Al;have q:Below w.heap.size w G:=(((ab w _).trans ((ab _ _).mono ar)).trans (m.mono b1)).trans (r.mono O);have v:=((H.ui (.cells #[.bool i,.slice a n c] 72) (.cells #[.bool b,.slice D o E] 72)).below m (aw _)).below r (aw _);have x:=((B.ui (.cells #[.bool i,.slice a n c] 72) (.cells #[.bool b,.slice D o E] 72)).below m (aw _)).below r (aw _)
 rcases Eh (gw i (val f n)) 0 with d|d|d<;>rcases Eh (gw b (val g o)) 0 with h|h|h
 ·have t:i=true:=by cases i;·simp[gw] at d;omega
                    ·rfl
  have u:b=true:=by cases b;·simp[gw] at h;omega
                    ·rfl
  rw[nX d,nX h];have A:=U (b4 t u);clear d h t u
  have l:Hid (∀ z,z=jT (val f n) (val g o)->-z=nj (gw i (val f n)) (gw b (val g o))):=by
   obtain⟨rfl,rfl⟩:=A.out;exact U (fun z F=>by rw[F,Fe];exact Ci rfl)
  clear A
  rcases Af (val f n) (val g o) with k|k|k
  ·have j:=U (uC k);clear k
   go_wp2_with (go_at_call 116;refine(iV _ _ _ _ _ _ _ _ _ O O v x).mono ?_;rintro e y ⟨rfl,p⟩;obtain rfl:=p.symm;rw[j.out])
   go_ret;exact⟨by rw[<-l.out _ j.symm];rfl,q⟩
  ·have j:=U (uE k);clear k
   go_wp2_with (go_at_call 116;refine(iV _ _ _ _ _ _ _ _ _ O O v x).mono ?_;rintro e y ⟨rfl,p⟩;obtain rfl:=p.symm;rw[j.out])
   go_ret;exact⟨by rw[<-l.out _ j.symm];rfl,q⟩
  ·have j:=U (uD k);clear k
   go_wp2_with (go_at_call 116;refine(iV _ _ _ _ _ _ _ _ _ O O v x).mono ?_;rintro e y ⟨rfl,p⟩;obtain rfl:=p.symm;rw[j.out])
   go_ret;exact⟨by rw[<-l.out _ j.symm];rfl,q⟩
 ·rw[nX d,h,nY];have s:=U (b4 d h);clear d h;go_wp2;go_ret;exact⟨by obtain⟨d,h⟩:=s.out;rw[uP O];rfl,q⟩
 ·rw[nX d,nZ h];have s:=U (b4 d h);clear d h;go_wp2;go_ret;exact⟨by obtain⟨d,h⟩:=s.out;rw[uP O];rfl,q⟩
 ·rw[d,nX h,nY];have s:=U (b4 d h);clear d h;go_wp2;go_ret;exact⟨by obtain⟨d,h⟩:=s.out;rw[uQ O];rfl,q⟩
 ·have t:val f n=0:=by cases i<;>simp[gw] at d<;>omega
  have u:val g o=0:=by cases b<;>simp[gw] at h<;>omega
  rw[d,h,nY];have j:=U (uE (t.trans u.symm));have P:=U (Ho (d.trans h.symm));clear d h t u
  go_wp2_with (go_at_call 116;refine(iV _ _ _ _ _ _ _ _ _ O O v x).mono ?_;rintro e y ⟨rfl,p⟩;obtain rfl:=p.symm;rw[j.out])
  go_ret;exact⟨by rw[P.out];rfl,q⟩
 ·rw[d,nY,nZ h];have s:=U (b4 d h);clear d h;go_wp2;go_ret;exact⟨by obtain⟨d,h⟩:=s.out;rw[uP O];rfl,q⟩
 ·rw[nZ d,nX h];have s:=U (b4 d h);clear d h;go_wp2;go_ret;exact⟨by obtain⟨d,h⟩:=s.out;rw[uQ O];rfl,q⟩
 ·rw[nZ d,h,nY];have s:=U (b4 d h);clear d h;go_wp2;go_ret;exact⟨by obtain⟨d,h⟩:=s.out;rw[uQ O];rfl,q⟩
 ·have t:i=false:=by cases i;·rfl
                     ·simp[gw] at d;omega
  have u:b=false:=by cases b;·rfl
                     ·simp[gw] at h;omega
  rw[nZ d,nZ h];have A:=U (b4 t u);clear d h t u
  have l:Hid (∀ z,z=jT (val f n) (val g o)->z=nj (gw i (val f n)) (gw b (val g o))):=by
   obtain⟨rfl,rfl⟩:=A.out;exact U (fun z F=>by rw[F];exact Hp rfl)
  clear A
  rcases Af (val f n) (val g o) with k|k|k
  ·have j:=U (uC k);clear k
   go_wp2_with (go_at_call 116;refine(iV _ _ _ _ _ _ _ _ _ O O v x).mono ?_;rintro e y ⟨rfl,p⟩;obtain rfl:=p.symm;rw[j.out])
   go_ret;exact⟨by rw[<-l.out _ j.symm];rfl,q⟩
  ·have j:=U (uE k);clear k
   go_wp2_with (go_at_call 116;refine(iV _ _ _ _ _ _ _ _ _ O O v x).mono ?_;rintro e y ⟨rfl,p⟩;obtain rfl:=p.symm;rw[j.out])
   go_ret;exact⟨by rw[<-l.out _ j.symm];rfl,q⟩
  ·have j:=U (uD k);clear k
   go_wp2_with (go_at_call 116;refine(iV _ _ _ _ _ _ _ _ _ O O v x).mono ?_;rintro e y ⟨rfl,p⟩;obtain rfl:=p.symm;rw[j.out])
   go_ret;exact⟨by rw[<-l.out _ j.symm];rfl,q⟩
theorem Ht(k:Us w a n c h){p:Addr}{v:Value}(g:w.cell? p=some v)(l:∀ x,v≠.int .u32 x)(y:Value):Us (w.setCell p y) a n c h:=
 ⟨k.le,k.mx,k.lm,fun i j=>by
   obtain⟨b,d,e,f⟩:=k.cell i j
   exact⟨b,d,e,by rw[eb _ _ _ _ (by intro h;subst h;rw[f] at g;exact l _ (f_ g).symm)];exact f⟩⟩
theorem xl{c d:World}{b B:Nat}{e f:Value}(k:Bx c b e f)(a:Below B c d)(h:b<B):Bx d b e f:=
 ⟨gi k.lt a.size,(a.cell (p:=⟨b,0,none⟩) h).trans k.c0,(a.cell (p:=⟨b,1,none⟩) h).trans k.c1,fun o=>(a.frozen (p:=⟨b,o,none⟩) h).trans (k.fr o)⟩
end Go.Proofs.YtkblonfmjlopaaaGreatDoor
