/-
  How deep trees are, and their cells: plain.
-/
import Derived.Test.YtkblonfmjlopaaaGreatDoorSyGd
set_option linter.all false
set_option maxRecDepth 1000000
set_option maxHeartbeats 16000000
namespace Go.Proofs.YtkblonfmjlopaaaGreatDoor
open Go Go.RowKit
variable {kind z:Int}{l:List Nd}{r:List Tr}{M N m n:Nat}{F:Nat->Prop}{b:Option Nat}
def eW(one:Nd->Option Nat):List Nd->Nat->Option Nat
 |[],n=>some n
 |x::r,n=>match one x with
  |some k=>eW one r (max n k)
  |none=>none
theorem sQ{one:Nd->Option Nat}{x:Nd}{r:List Nd}(h:eW one (x::r) n=some m):∃ k,one x=some k/\eW one r (max n k)=some m:=by
 unfold eW at h
 split at h
 ·rename_i k e;exact⟨k,e,h⟩
 ·cases h
theorem zH{one:Nd->Option Nat}:∀ {l:List Nd} {n m:Nat},eW one l n=some m->n<=m
 |[],n,m,h=>by unfold eW at h;exact o8 (f_ h)
 |x::r,n,m,h=>by
  obtain⟨k,_,a⟩:=sQ h;have:=zH a;omega
theorem BK{one:Nd->Option Nat}:∀ {l:List Nd} {n m:Nat},eW one l n=some m->∀ x∈l,∃ k,one x=some k
 |[],n,m,h,x,a=>by cases a
 |y::r,n,m,h,x,a=>by
  obtain⟨k,e,b⟩:=sQ h
  rcases List.mem_cons.1 a with rfl|a
  ·exact⟨k,e⟩
  ·exact BK b x a
theorem Lb{one:Nd->Option Nat}{i:Nat}(b:i<l.length)(h:eW one (l.drop i) n=some m):∃ c k,l[i]?=some c/\one c=some k/\eW one (l.drop (i+1)) (max n k)=some m/\k<=m:=by
 rw[Hi b] at h;obtain⟨k,e,a⟩:=sQ h;have:=zH a;exact⟨l[i],k,fv b,e,a,O⟩
theorem ah.v{w:World}{x:Value}{cs:List Value}(h:ah w F (.v x::r) cs):∃ a,cs=x::a/\ah w F r a:=by
 unfold ah at h;obtain⟨d,c2,rfl,b,c⟩:=h;unfold b8 at b;exact⟨c2,by rw[b];rfl,c⟩
theorem ah.bg{w:World}{cs:List Value}(h:ah w F (.kN z::r) cs):∃ b a n c d,cs=.bool b::.slice a n c::d/\ah w F r d:=by
 unfold ah at h;obtain⟨j,c2,rfl,g,i⟩:=h;unfold b8 at g;obtain⟨b,a,n,c,f,e,_⟩:=g;exact⟨b,a,n,c,c2,by rw[e];rfl,i⟩
theorem ah.ls{w:World}{b:List Nd}{cs:List Value}(h:ah w F (.sl b::r) cs):∃ a c f,cs=.slice a b.length c::f/\ah w F r f/\ey w F b (.slice a b.length c):=by
 unfold ah at h;obtain⟨j,c2,rfl,d,g⟩:=h;have i:=d;unfold b8 at d;obtain⟨a,c,e,_⟩:=d;subst e;exact⟨a,c,c2,rfl,g,a,c,rfl,i⟩
theorem ah.nl{w:World}{cs:List Value}(h:ah w F [] cs):cs=[]:=by unfold ah at h;exact h
theorem K1{w:World}{c:ByteArray}{d:Int}{b:List Nd}{cs:List Value}(h:ah w F [.v (.string c),.v (.int .i64 d),.sl b] cs):∃ (a:Option Addr) (c2:Nat),cs=[.string c,.int .i64 d,.slice a b.length c2]/\ey w F b (.slice a b.length c2):=by
 have j:=h;clear h;obtain⟨o,e,k⟩:=j.v;obtain⟨p,f,l⟩:=k.v;obtain⟨a,c2,q,g,m,n⟩:=l.ls;have i:=m.nl;rw[e,f,g,i];exact⟨a,c2,rfl,n⟩
theorem KZ{w:World}{T:Int}{W:ByteArray}{x:List Nd}{X:Int}{Y:Bool}{Z:Bool}{y:List Nd}{z:List Nd}{A:List Nd}{B:List Nd}{j:List Nd}{k:List Nd}{l:List Nd}{m:List Nd}{cs:List Value}(h:ah w F [.v (.int .i64 T),.v (.string W),.sl x,.v (.int .i64 X),.v (.bool Y),.v (.bool Z),.sl y,.sl z,.sl A,.sl B,.sl j,.sl k,.sl l,.sl m] cs):∃ (n:Option Addr) (c2:Nat) (o:Option Addr) (s:Nat) (p:Option Addr) (t:Nat) (q:Option Addr) (u:Nat) (r:Option Addr) (v:Nat) (a:Option Addr) (e:Nat) (b:Option Addr) (f:Nat) (c:Option Addr) (g:Nat) (d:Option Addr) (i:Nat),cs=[.int .i64 T,.string W,.slice n x.length c2,.int .i64 X,.bool Y,.bool Z,.slice o y.length s,.slice p z.length t,.slice q A.length u,.slice r B.length v,.slice a j.length e,.slice b k.length f,.slice c l.length g,.slice d m.length i]/\ey w F x (.slice n x.length c2)/\ey w F y (.slice o y.length s)/\ey w F z (.slice p z.length t)/\ey w F A (.slice q A.length u)/\ey w F B (.slice r B.length v)/\ey w F j (.slice a j.length e)/\ey w F k (.slice b k.length f)/\ey w F l (.slice c l.length g)/\ey w F m (.slice d m.length i):=by
 have aO:=h;clear h;obtain⟨bE,aE,aP⟩:=aO.v;obtain⟨bF,aF,aQ⟩:=aP.v;obtain⟨n,c2,bG,aG,aR,aZ⟩:=aQ.ls;obtain⟨bH,aH,aT⟩:=aR.v;obtain⟨bI,aI,aU⟩:=aT.v;obtain⟨bJ,aJ,aV⟩:=aU.v;obtain⟨o,s,bK,aK,aW,b6⟩:=aV.ls;obtain⟨p,t,bL,aL,aX,bA⟩:=aW.ls;obtain⟨q,u,bM,aM,aY,bC⟩:=aX.ls;obtain⟨r,v,bN,aN,I,bD⟩:=aY.ls;obtain⟨a,e,aA,C,J,P⟩:=I.ls;obtain⟨b,f,aB,D,L,Q⟩:=J.ls;obtain⟨c,g,aC,E,M,R⟩:=L.ls;obtain⟨d,i,aD,G,N,S⟩:=M.ls;have H:=N.nl;rw[aE,aF,aG,aH,aI,aJ,aK,aL,aM,aN,C,D,E,G,H];exact⟨n,c2,o,s,p,t,q,u,r,v,a,e,b,f,c,g,d,i,rfl,aZ,b6,bA,bC,bD,P,Q,R,S⟩
section
open Go
inductive Kd where
 |ty|pat|exp|jV|dec|fn|clause|data|o3|sig|spec
def max2(a b:Option Nat):Option Nat:=match a,b with
 |some a,some b=>some (max a b)
 |_,_=>none
def q0(a:Option Nat):Option Nat:=a.map (1+·)
def dep:Nat->Kd->Nd->Option Nat
 |0,_,_=>none
 |n+1,k,nd=>match k with
  |.ty=>match nd with
   |[.v (.int .i64 _),.v (.string _),.sl a,.sl _]=>q0 (eW (dep n .ty) a 0)
   |_=>none
  |.pat=>match nd with
   |[.v (.int .i64 _),.v (.string _),.kN _,.v (.int .i64 _),.v (.string _),.sl _,.sl a,.sl b]=>q0 (max2 (eW (dep n .pat) a 0) (eW (dep n .ty) b 0))
   |_=>none
  |.exp=>match nd with
   |[.v (.int .i64 _),.v (.string _),.kN _,.v (.int .i64 _),.v (.int .u64 _),.v (.string _),.sl _,.sl a,.sl r,.sl d,.sl t]=>q0 (max2 (max2 (max2 (eW (dep n .exp) a 0) (eW (dep n .ty) t 0)) (eW (dep n .dec) d 0)) (eW (dep n .jV) r 0))
   |_=>none
  |.jV=>max2 (dep n .pat (nd.take 8)) (dep n .exp (nd.drop 8))
  |.dec=>match nd with
   |[.v (.int .i64 _),.v (.string _),.sl _,.v (.int .i64 _),.v (.bool _),.v (.bool _),.sl p,.sl e,.sl f,.sl da,.sl t,.sl d,.sl si,.sl sp]=>q0 (max2 (max2 (max2 (max2 (max2 (max2 (max2 (eW (dep n .ty) t 0) (eW (dep n .dec) d 0)) (eW (dep n .pat) p 0)) (eW (dep n .exp) e 0)) (eW (dep n .spec) sp 0)) (eW (dep n .data) da 0)) (eW (dep n .sig) si 0)) (eW (dep n .fn) f 0))
   |_=>none
  |.fn=>match nd with
   |[.v (.string _),.v (.int .i64 _),.sl a]=>eW (dep n .clause) a 0
   |_=>none
  |.clause=>match nd with
   |.sl a::e=>max2 (eW (dep n .pat) a 0) (dep n .exp e)
   |_=>none
  |.data=>match nd with
   |[.sl _,.v (.string _),.sl a]=>eW (dep n .o3) a 0
   |_=>none
  |.o3=>match nd with
   |[.v (.string _),.sl a]=>eW (dep n .ty) a 0
   |_=>none
  |.sig=>match nd with
   |[.v (.string _),.sl a]=>eW (dep n .spec) a 0
   |_=>none
  |.spec=>match nd with
   |[.v (.int .i64 _),.v (.string _),.sl v,.v (.string s),.sl c,.sl t]=>q0 (max2 (eW (dep n .ty) t 0) (dep n .data [.sl v,.v (.string s),.sl c]))
   |_=>none
theorem e_{a:Option Nat}(h:max2 a b=some m):∃ x y,a=some x/\b=some y/\m=max x y:=by
 unfold max2 at h
 split at h
 ·cases h;exact⟨_,_,rfl,rfl,rfl⟩
 ·cases h
theorem k6{a:Option Nat}(h:q0 a=some m):∃ x,a=some x/\m=1+x:=by
 unfold q0 at h;cases a with
 |none=>cases h
 |some x=>cases h;exact⟨x,rfl,rfl⟩
def Le(a b:Option Nat):Prop:=∀ m,a=some m->b=some m
theorem Le.up{a:Option Nat}(h:Le a b):Le (q0 a) (q0 b):=fun m e=>by
 obtain⟨x,c,rfl⟩:=k6 e;rw[h x c];rfl
theorem Le.max{a c d:Option Nat}(h:Le a b)(g:Le c d):Le (max2 a c) (max2 b d):=fun m e=>by
 obtain⟨x,y,f,i,rfl⟩:=e_ e;rw[h x f,g y i];rfl
theorem Le.list{one a:Nd->Option Nat}(h:∀ x,Le (one x) (a x)):∀ (l:List Nd) (n:Nat),Le (eW one l n) (eW a l n)
 |[],n=>fun m e=>e
 |x::r,n=>fun m e=>by
  unfold eW at e⊢
  split at e
  ·rename_i k b;rw[h x k b];exact Le.list h r _ m e
  ·cases e
theorem yu:∀ (n:Nat) (k:Kd) (c:Nd),Le (dep n k c) (dep (n+1) k c)
 |0,k,c=>fun m e=>by cases e
 |n+1,k,c=>by
  have b:=yu n;have a:∀ k l,Le (eW (dep n k) l 0) (eW (dep (n+1) k) l 0):=fun k l=>Le.list (b k) l 0;cases k<;>(unfold dep;(try simp only []))
  all_goals first
   |exact(b _ _).max (b _ _)
   |(split
     ·first
      |exact(a _ _).up
      |exact((a _ _).max (a _ _)).up
      |exact((((a _ _).max (a _ _)).max (a _ _)).max (a _ _)).up
      |exact((((((((a _ _).max (a _ _)).max (a _ _)).max (a _ _)).max (a _ _)).max (a _ _)).max (a _ _)).max (a _ _)).up
      |exact a _ _
      |exact(a _ _).max (b _ _)
      |exact((a _ _).max (b _ _)).up
     ·exact fun m e=>by cases e)
theorem GI(h:n<=m)(k:Kd)(a:Nd):Le (dep n k a) (dep m k a):=by
 induction h with
 |refl=>exact fun m e=>e
 |step _ b=>exact fun d e=>yu _ _ _ d (b d e)
inductive Wf:Kd->Nd->Prop
 |ty {kind:Int} {name:ak} {a:List Nd} {ls:List ak}:(∀ x,x∈a->Wf .ty x)->Wf .ty (ho kind name a ls)
 |pat {kind:Int} {name:ak} {z m:Int} {text:ak} {ls:List ak} {a b:List Nd}:(∀ x,x∈a->Wf .pat x)->(∀ x,x∈b->Wf .ty x)->Wf .pat (c_ kind name z m text ls a b)
 |exp {kind:Int} {name:ak} {z m:Int} {bits:Nat} {text:ak} {ls:List ak} {a r d t:List Nd}:(∀ x,x∈a->Wf .exp x)->(∀ x,x∈r->Wf .jV x)->(∀ x,x∈d->Wf .dec x)->(∀ x,x∈t->Wf .ty x)->Wf .exp (b9 kind name z m bits text ls a r d t)
 |jV {p e:Nd}:Wf .pat p->Wf .exp e->Wf .jV (p++e)
 |clause {a:List Nd} {e:Nd}:(∀ x,x∈a->Wf .pat x)->Wf .exp e->Wf .clause (gz a e)
 |fn {name:ak} {many:Int} {a:List Nd}:(∀ x,x∈a->Wf .clause x)->Wf .fn (mkFun name many a)
 |o3 {name:ak} {a:List Nd}:(∀ x,x∈a->Wf .ty x)->Wf .o3 (qS name a)
 |data {v:List ak} {name:ak} {a:List Nd}:(∀ x,x∈a->Wf .o3 x)->Wf .data (mkData v name a)
 |sig {name:ak} {a:List Nd}:(∀ x,x∈a->Wf .spec x)->Wf .sig (j1 name a)
 |spec {kind:Int} {name:ak} {d:Nd} {t:List Nd}:Wf .data d->(∀ x,x∈t->Wf .ty x)->Wf .spec (fl kind name d t)
 |dec {f:A7}:(∀ x,x∈f.oW->Wf .pat x)->(∀ x,x∈f.qz->Wf .exp x)->(∀ x,x∈f.l3->Wf .fn x)->(∀ x,x∈f.iG->Wf .data x)->(∀ x,x∈f.types->Wf .ty x)->(∀ x,x∈f.dr->Wf .dec x)->(∀ x,x∈f.sigs->Wf .sig x)->(∀ x,x∈f.specs->Wf .spec x)->Wf .dec (d_ f)
def De(N:Nat)(k:Kd)(nd:Nd):Prop:=(∃ d,dep N k nd=some d)/\k7 nd/\2<=gn nd/\Wf k nd
abbrev gh(N:Nat)(k:Kd)(l:List Nd):Prop:=∀ x,x∈l->De N k x
theorem De.up{k:Kd}{a:Nd}(h:De N k a)(c:N<=M:=by omega):De M k a:=by
 obtain⟨⟨d,e⟩,b⟩:=h;exact⟨⟨d,GI c _ _ d e⟩,b⟩
theorem pP{k:Kd}(h:gh N k l)(a:N<=M:=by omega):gh M k l:=fun x b=>(h x b).up a
theorem bu{k:Kd}:gh N k []:=fun _ h=>nomatch h
theorem hT.of(h:∀ x,x∈l->k7 x/\2<=gn x):hT l:=by
 induction l with
 |nil=>unfold hT;trivial
 |cons x r b=>
  unfold hT;exact⟨.inl (h x (.head _)).2,(h x (.head _)).1,b fun y a=>h y (.tail _ a)⟩
theorem hT.de{k:Kd}(h:∀ x,x∈l->De N k x):hT l:=hT.of fun x a=>⟨(h x a).2.1,(h x a).2.2.1⟩
theorem hT.strs(l:List ak):hT (strs l):=by
 induction l with
 |nil=>unfold Go.Proofs.YtkblonfmjlopaaaGreatDoor.strs;unfold hT;trivial
 |cons x r a=>
  show hT ([vS x]::Go.Proofs.YtkblonfmjlopaaaGreatDoor.strs r);unfold hT;exact⟨.inr ⟨_,rfl⟩,by simp[k7,qk,vS],a⟩
theorem k7.app:∀ (a b:List Tr),k7 a->k7 b->k7 (a++b)
 |[],b,_,h=>h
 |t::a,b,h,g=>by
  unfold k7 at h;rw[uI];unfold k7;exact⟨h.1,k7.app a b h.2 g⟩
theorem sR:∀ (a b:List Tr),gn (a++b)=gn a+gn b
 |[],b=>by simp[gn]
 |t::a,b=>by rw[uI,gn,gn,sR a b];omega
theorem yv{one:Nd->Option Nat}:∀ (l:List Nd) (n:Nat),(∀ x,x∈l->∃ d,one x=some d)->∃ d,eW one l n=some d
 |[],n,_=>⟨n,rfl⟩
 |x::r,n,h=>by
  obtain⟨d,a⟩:=h x (.head _);unfold eW;rw[a];exact yv r _ fun y b=>h y (.tail _ b)
theorem nh.of{k:Kd}(h:gh N k l):∃ d,eW (dep N k) l 0=some d:=yv l 0 fun x a=>(h x a).1
theorem De.Gj{name:ak}{a:List Nd}{e:List ak}(h:gh N .ty a)(f:N<M:=by omega):De M .ty (ho kind name a e):=by
 obtain⟨d,b⟩:=nh.of h;exact De.up (N:=N+1) ⟨⟨1+d,by show q0 (eW (dep N .ty) a 0)=_;rw[b];rfl⟩,by simp[k7,qk,vI,vS,vU,vB,ho,hT.de h,hT.strs],by simp[gn,wid,vI,vS,vU,vB,ho],.ty fun x c=>(h x c).2.2.2⟩
theorem De.oh{name:ak}{m:Int}{c:ak}{k:List ak}{a b:List Nd}(h:gh N .pat a)(g:gh N .ty b:=by exact bu)(l:N<M:=by omega):De M .pat (c_ kind name z m c k a b):=by
 obtain⟨e,i⟩:=nh.of h;obtain⟨f,j⟩:=nh.of g;exact De.up (N:=N+1) ⟨⟨1+max e f,by show q0 (max2 (eW (dep N .pat) a 0) (eW (dep N .ty) b 0))=_;rw[i,j];rfl⟩,by simp[k7,qk,vI,vS,vU,vB,c_,hT.de h,hT.de g,hT.strs],by simp[gn,wid,vI,vS,vU,vB,c_],.pat (fun x d=>(h x d).2.2.2) (fun x d=>(g x d).2.2.2)⟩
theorem De.iM{name:ak}{m:Int}{c:Nat}{e:ak}{o:List ak}{a r d t:List Nd}(h:gh N .exp a)(g:gh N .jV r:=by exact bu)(f:gh N .dec d:=by exact bu)(i:gh N .ty t:=by exact bu)(v:N<M:=by omega):De M .exp (b9 kind name z m c e o a r d t):=by
 obtain⟨p,j⟩:=nh.of h;obtain⟨q,k⟩:=nh.of g;obtain⟨s,l⟩:=nh.of f;obtain⟨u,n⟩:=nh.of i
 exact De.up (N:=N+1) ⟨⟨_,by
  show q0 (max2 (max2 (max2 (eW (dep N .exp) a 0) (eW (dep N .ty) t 0)) (eW (dep N .dec) d 0)) (eW (dep N .jV) r 0))=_;rw[j,k,l,n]
  rfl⟩,by simp[k7,qk,vI,vS,vU,vB,b9,hT.de h,hT.de g,hT.de f,hT.de i,hT.strs],by simp[gn,wid,vI,vS,vU,vB,b9],.exp (fun x b=>(h x b).2.2.2) (fun x b=>(g x b).2.2.2) (fun x b=>(f x b).2.2.2) (fun x b=>(i x b).2.2.2)⟩
theorem De.MQ{p e:Nd}(a:De N .pat p)(c:p.length=8)(b:De N .exp e)(i:N<M:=by omega):De M .jV (p++e):=by
 obtain⟨d,g⟩:=a.1;obtain⟨f,h⟩:=b.1
 exact De.up (N:=N+1) ⟨⟨max d f,by
  show max2 (dep N .pat ((p++e).take 8)) (dep N .exp ((p++e).drop 8))=_;rw[List.take_left' c,List.drop_left' c,g,h]
  rfl⟩,by exact k7.app _ _ a.2.1 b.2.1,by rw[sR];have:=a.2.2.1;omega,.jV a.2.2.2 b.2.2.2⟩
theorem De.I5{a:List Nd}{e:Nd}(h:gh N .pat a)(b:De N .exp e)(j:N<M:=by omega):De M .clause (gz a e):=by
 obtain⟨c,f⟩:=nh.of h;obtain⟨d,g⟩:=b.1;exact De.up (N:=N+1) ⟨⟨max c d,by show max2 (eW (dep N .pat) a 0) (dep N .exp e)=_;rw[f,g];rfl⟩,by show k7 (.sl a::e);unfold k7;exact⟨by unfold qk;exact hT.de h,b.2.1⟩,by show 2<=wid (.sl a)+gn e;have:=b.2.2.1;omega,.clause (fun x i=>(h x i).2.2.2) b.2.2.2⟩
theorem De.OJ{name:ak}{b:Int}{a:List Nd}(h:gh N .clause a)(f:N<M:=by omega):De M .fn (mkFun name b a):=by
 obtain⟨d,c⟩:=nh.of h;exact De.up (N:=N+1) ⟨⟨d,c⟩,by simp[k7,qk,vI,vS,vU,vB,mkFun,hT.de h],by simp[gn,wid,vI,vS,vU,vB,mkFun],.fn fun x e=>(h x e).2.2.2⟩
theorem De.N6{name:ak}{a:List Nd}(h:gh N .ty a)(e:N<M:=by omega):De M .o3 (qS name a):=by
 obtain⟨d,b⟩:=nh.of h;exact De.up (N:=N+1) ⟨⟨d,b⟩,by simp[k7,qk,vI,vS,vU,vB,qS,hT.de h],by simp[gn,wid,vI,vS,vU,vB,qS],.o3 fun x c=>(h x c).2.2.2⟩
theorem De.v_{v:List ak}{name:ak}{a:List Nd}(h:gh N .o3 a)(e:N<M:=by omega):De M .data (mkData v name a):=by
 obtain⟨d,b⟩:=nh.of h;exact De.up (N:=N+1) ⟨⟨d,b⟩,by simp[k7,qk,vI,vS,vU,vB,mkData,hT.de h,hT.strs],by simp[gn,wid,vI,vS,vU,vB,mkData],.data fun x c=>(h x c).2.2.2⟩
theorem De.L9{name:ak}{a:List Nd}(h:gh N .spec a)(e:N<M:=by omega):De M .sig (j1 name a):=by
 obtain⟨d,b⟩:=nh.of h;exact De.up (N:=N+1) ⟨⟨d,b⟩,by simp[k7,qk,vI,vS,vU,vB,j1,hT.de h],by simp[gn,wid,vI,vS,vU,vB,j1],.sig fun x c=>(h x c).2.2.2⟩
theorem De.MR{name:ak}{v:List Nd}{s:ByteArray}{c t:List Nd}(a:De N .data [.sl v,.v (.string s),.sl c])(h:gh N .ty t)(j:N<M:=by omega):De M .spec (fl kind name [.sl v,.v (.string s),.sl c] t):=by
 obtain⟨d,f⟩:=nh.of h;obtain⟨e,g⟩:=a.1;exact De.up (N:=N+1) ⟨⟨1+max d e,by show q0 (max2 (eW (dep N .ty) t 0) (dep N .data _))=_;rw[f,g];rfl⟩,by have b:=a.2.1;simp[k7,qk] at b;simp[k7,qk,vI,vS,vU,vB,fl,b,hT.de h],by simp[gn,wid,vI,vS,vU,vB,fl],.spec a.2.2.2 fun x i=>(h x i).2.2.2⟩
theorem De.qB{f:A7}(h:gh N .pat f.oW)(d:gh N .exp f.qz)(e:gh N .fn f.l3)(b:gh N .data f.iG)(j:gh N .ty f.types)(c:gh N .dec f.dr)(g:gh N .sig f.sigs)(i:gh N .spec f.specs)(B:N<M:=by omega):De M .dec (d_ f):=by
 obtain⟨s,k⟩:=nh.of h;obtain⟨t,l⟩:=nh.of d;obtain⟨u,m⟩:=nh.of e;obtain⟨v,n⟩:=nh.of b;obtain⟨w,o⟩:=nh.of j;obtain⟨y,p⟩:=nh.of c;obtain⟨z,q⟩:=nh.of g;obtain⟨A,r⟩:=nh.of i
 exact De.up (N:=N+1) ⟨⟨_,by
  show q0 (max2 (max2 (max2 (max2 (max2 (max2 (max2 (eW (dep N .ty) f.types 0) (eW (dep N .dec) f.dr 0)) (eW (dep N .pat) f.oW 0)) (eW (dep N .exp) f.qz 0)) (eW (dep N .spec) f.specs 0)) (eW (dep N .data) f.iG 0)) (eW (dep N .sig) f.sigs 0)) (eW (dep N .fn) f.l3 0))=_;rw[k,l,m,n,o,p,q,r]
  rfl⟩,by simp[k7,qk,vI,vS,vU,vB,d_,hT.de h,hT.de d,hT.de e,hT.de b,hT.de j,hT.de c,hT.de g,hT.de i,hT.strs],by simp[gn,wid,vI,vS,vU,vB,d_],.dec (fun x a=>(h x a).2.2.2) (fun x a=>(d x a).2.2.2) (fun x a=>(e x a).2.2.2) (fun x a=>(b x a).2.2.2) (fun x a=>(j x a).2.2.2) (fun x a=>(c x a).2.2.2) (fun x a=>(g x a).2.2.2) (fun x a=>(i x a).2.2.2)⟩
theorem zE{one:Nd->Option Nat}{B:Nat}(h:∀ x d,one x=some d->d<=B):∀ (l:List Nd) (n d:Nat),n<=B->eW one l n=some d->d<=B
 |[],n,d,a,e=>by cases e;exact a
 |x::r,n,d,a,e=>by
  unfold eW at e
  split at e
  ·rename_i k b;exact zE h r _ d (ba (h x k b)) e
  ·cases e
theorem ig{a:Option Nat}{B:Nat}(h:max2 a b=some m)(c:∀ d,a=some d->d<=B)(e:∀ d,b=some d->d<=B):m<=B:=by
 obtain⟨x,y,f,g,rfl⟩:=e_ h;have:=c x f;have:=e y g;omega
theorem rX{a:Option Nat}{B:Nat}(h:q0 a=some m)(b:∀ d,a=some d->d<=B):m<=B+1:=by
 obtain⟨x,c,rfl⟩:=k6 h;have:=b x c;omega
theorem EY:∀ (n:Nat) (k:Kd) (c:Nd) (d:Nat),dep n k c=some d->d<=n
 |0,k,c,d,h=>by cases h
 |n+1,k,c,d,h=>by
  have b:=EY n;have a:∀ (k:Kd) (l:List Nd) (d:Nat),eW (dep n k) l 0=some d->d<=n:=fun k l d=>zE (b k) l 0 d (hU _);cases k<;>(unfold dep at h;(try simp only [] at h);(try (split at h;rotate_left;·cases h)))
  all_goals first
   |exact rX h (a _ _)
   |exact rX h fun d h=>ig h (a _ _) (a _ _)
   |exact rX h fun d h=>ig h (a _ _) (b _ _)
   |exact Nat.le_succ_of_le (ig h (b _ _) (b _ _))
   |exact Nat.le_succ_of_le (ig h (a _ _) (b _ _))
   |exact Nat.le_succ_of_le (a _ _ _ h)
   |exact rX h fun d h=>ig h (fun d h=>ig h (fun d h=>ig h (a _ _) (a _ _)) (a _ _)) (a _ _)
   |exact rX h fun d h=>ig h (fun d h=>ig h (fun d h=>ig h (fun d h=>ig h (fun d h=>ig h (fun d h=>ig h (fun d h=>ig h (a _ _) (a _ _)) (a _ _)) (a _ _)) (a _ _)) (a _ _)) (a _ _)) (a _ _)
end
def iP(k:Nat)(one:Nd->Option Nat):Prop:=∀ (w:World) (F:Nat->Prop) (nd:Nd) (cs:List Value) (d:Nat),ah w F nd cs->(∀ b,F b->b<w.heap.size)->one nd=some d->d<=1000000000000000000->
 Calls Tryz.prog k #[.agg cs.toArray] w fun e w'=>e=.returned (.int .i64 (d:Nat))/\Below w.heap.size w w'
def ji(k fk:Nat)(one:Nd->Option Nat):Prop:=∀ (w:World) (F:Nat->Prop) (l:List Nd) (v:Value) (m:Nat),ey w F l v->(∀ b,F b->b<w.heap.size)->eW one l 0=some m->m<=1000000000000000000->
 Calls Tryz.prog k #[v,.func (.func fk) #[] #[]] w fun e w'=>e=.returned (.int .i64 (m:Nat))/\Below w.heap.size w w'
def kx(sz:Nat)(cs:List Value):Prop:=cs.length=sz/\∀ v,v∈cs->v.oneCell'=true
theorem rowAt{w:World}{sz c:Nat}{a:Option Addr}(u:b8 w F (.sl l) [.slice a l.length c])(y:∀ r,r∈l->∀ cs,ah w F r cs->kx sz cs){i:Nat}{n:Nd}(t:l[i]?=some n):∃ b d cs,a=some ⟨b,d,none⟩/\F b/\cs.length=sz/\(cs.all fun x=>x.oneCell')=true/\ah w F n cs/\∀ wr,b<w.heap.size->Below w.heap.size w wr->wr.rangeAt b (d+i*sz) cs:=by
 obtain⟨g,A,L,B⟩:=k3 (sz:=sz) u y;have k:=B i n t;obtain⟨h,q⟩:=List.getElem?_eq_some_iff.1 t;have s:=y n (by rw[<-q];exact lk _) _ k
 have f:=u;unfold b8 at f;obtain⟨_,_,m,_,_,f⟩:=f;cases m
 rcases f with C|⟨b,d,rfl,E,-⟩
 ·rw[C] at h;simp at h
 refine⟨b,d,_,rfl,E,s.1,List.all_eq_true.2 s.2,k,fun wr o D j v m=>?_⟩
 have H:j<sz:=by have:=(List.getElem?_eq_some_iff.1 m).1;simpa using this
 rw[qo,List.getElem?_range H] at m;have I:=jX sz (show i+1<=l.length from h);rw[jd] at I
 obtain⟨J,z,e,G⟩:=A (i*sz+j) O;cases e;rw[e9,D.cell (p:=⟨b,d+(i*sz+j),none⟩) o,G];exact m
section
variable {P:Program} {c:Array Oper} {rest:List Oper} {op:Oper} {a:Act} {Q:Exit->Act->World->Prop} {w:World} {ty T:TypeId} {x y:Operand} {cs:List Value}
theorem E6{b o:Nat}(l:w.rangeAt b o cs)(k:wpList P c Q rest (a.put op.dst (.agg cs.toArray)) w)(i:(P.info? ty).map (fun x=>x.size)=some cs.length)(h:op.guard=none:=by rfl)(j:op.op=.load ty x:=by rfl)(g:a.eval x=.pointer (some ⟨b,o,none⟩):=by rfl)(e:(P.underlying ty).map TypeDesc.isRow=some true:=by kernel_rfl):wpList P c Q (op::rest) a w:=by
 rcases f:P.underlying ty with _|d
 ·rw[f] at e;cases e
 ·rw[f] at e;exact wpList_load_mid h ty x j b o g cs d l f (f_ e) i k
theorem Lc{Z:Array Value}(f:(cs.all fun x=>x.oneCell')=true)(e:Z.size=cs.length)(i:(P.info? ty).map (fun x=>x.size)=some cs.length)(k:∀ W,Below w.heap.size w W->W.rangeAt w.heap.size 0 cs->wpList P c Q rest (a.put op.dst undef) W)(h:op.guard=none:=by rfl)(j:op.op=.store ty x y:=by rfl)(g:a.eval x=.pointer (some ⟨w.heap.size,0,none⟩):=by rfl)(l:a.eval y=.agg cs.toArray:=by rfl):wpList P c Q (op::rest) a (w.alloc (.cells Z T)):=by
 have b:=cc.new w Z T;have d:=b.store cs (by rw[e]);refine wpList_store_mid h ty x y j w.heap.size 0 cs.toArray g l (by have:=b.there;rw[e] at this;simpa using this) (by simpa using i) (by rw[<-Aj];simpa using f) (k _ ((ab w _).trans d.2.2.2) ?_)
 simpa using d.1.range
end
theorem mZ{sz k t:Nat}{one:Nd->Option Nat}(G:∀ w F g d cs,one g=some d->ah w F g cs->kx sz cs)(h:∀ (w:World) (F:Nat->Prop) (l:List Nd) (a:Option Addr) (c m:Nat),c<=9223372036854775807->l.length<=9223372036854775807->Hid (∀ b,F b->b<w.heap.size)->Hid (eW one l 0=some m)->m<=1000000000000000000->Hid (∀ i g,l[i]?=some g->∃ b n cs,a=some ⟨b,n,none⟩/\F b/\cs.length=sz/\(cs.all fun x=>x.oneCell')=true/\ah w F g cs/\∀ wr,b<w.heap.size->Below w.heap.size w wr->wr.rangeAt b (n+i*sz) cs)->
 Calls Tryz.prog k #[.slice a l.length c,.func (.func t) #[] #[]] w fun e I=>e=.returned (.int .i64 (m:Nat))/\Below w.heap.size w I):ji k t one:=by
 intro w F l v m D z u A;obtain⟨a,c,rfl,y⟩:=D;have j:=y;unfold b8 at j;obtain⟨_,_,H,p,o,_⟩:=j;cases H;have f:c<=9223372036854775807:=by unfold maxLen at o;omega
 exact h w F l a c m f (fy p f) z u A fun i g C=>rowAt y (fun r s cs B=>by
  obtain⟨q,E⟩:=BK u r s;exact G _ _ _ _ _ E B) C
theorem jF{p:Prop}(h:p:=by
 go_wp2_with fail
 go_loopg [5,10] l.length (fun g X W wr=>∃ i x:Nat,X=.int .i64 (x:Nat)/\W=.int .i64 (i:Nat)/\g+i=l.length/\Hid (eW one (l.drop i) x=some m)/\Hid (Below w.heap.size w wr))
 case atStart=>exact⟨0,0,rfl,rfl,O,HM,U (Below.refl _ _)⟩
 case round=>
 obtain⟨i,x,rfl,rfl,R,z,y⟩:=hrel
 by_cases S:i<l.length
 ·have H:(i:Int)<(l.length:Int):=O
  obtain⟨M,q,r,J,D,aA⟩:=Lb S z;have T:=zH D;obtain⟨b,Y,cs,rfl,G,d,c,t,s⟩:=HG.out i M r;have f:=U (s wr (HF.out b G) y);have C:=U t;have N:=U J;have P:=U D;have A:=U d;have I:=U c;have L:(l.length:Int)<=9223372036854775807:=O
  clear J D z r t s d c
  go_upto_region 4 with fail
  refine wp_region_list ?_;refine wpList_plain rfl fun K hK=>?_;go_simp;refine hK _ _ ?_;clear hK K
  refine E6 f ?_ (by rw[A.out];kernel_rfl)
  refine wpList_plain rfl fun K hK=>?_;go_simp;refine hK _ _ ?_;clear hK K
  refine Lc I (by rw[A.out];rfl) (by rw[A.out];kernel_rfl) fun Z n u=>wpList_nil ?_
  have a:=U (y.trans (n.mono y.size));have j:=U u;clear n u f I
  go_upto_region 5 with fail
  refine wp_region_list ?_
  iterate 2 (refine wpList_plain rfl fun K hK=>?_;go_simp;refine hK _ _ ?_;clear hK K)
  refine E6 j ?_ (by rw[A.out];kernel_rfl);clear j
  go_wp2_with (go_at_fn k;refine(HH.out _ F M _ q (C.on (Kb.of a HF) (fun _ h=>h)) (fun b Q=>gi (HF.out b Q) a.size) N O).mono ?_;rintro e aB ⟨rfl,o⟩;have B:=U (a.trans (o.mono a.size));clear o)
  go_roundg (gk-1)
  case measure=>omega
  case rel=>exact⟨i+1,max x q,by first|rfl|(congr 1;omega),rfl,O,P,B⟩
 ·have H:¬(i:Int)<(l.length:Int):=O
  have E:eW one (l.drop i) x=some m:=z.out;rw[Hj O] at E;obtain rfl:x=m:=f_ E;clear E z
  go_wp2_with fail
  exact bodyPost_ret (v:=.int .i64 (x:Nat)) (by simp[results,Tryz.results24,Tryz.results26,Tryz.results28,Tryz.results79,Tryz.results14,Tryz.results36,Tryz.results38,Tryz.results32,Tryz.results81,Tryz.results34,Tryz.results30,go_sem]) rfl ⟨rfl,y.out⟩):p:=h
section
set_option maxRecDepth 100000
set_option maxHeartbeats 4000000
variable (one:Nd->Option Nat) (k:Nat)
theorem K7(i:∀ args w,(callFunc k args).run Tryz.prog w=.ok (.enter k args) w)(f:∀ w F g d cs,one g=some d->ah w F g cs->kx 4 cs)(b:iP k one):ji 24 k one:=mZ (sz:=4) f fun w F l a c m e h HF HM j HG=>by
 have HH:=U b;clear f b;go_enter Tryz.func24,Tryz.ntmps24
 exact jF
theorem Jm(i:∀ args w,(callFunc k args).run Tryz.prog w=.ok (.enter k args) w)(f:∀ w F g d cs,one g=some d->ah w F g cs->kx 9 cs)(b:iP k one):ji 26 k one:=mZ (sz:=9) f fun w F l a c m e h HF HM j HG=>by
 have HH:=U b;clear f b;go_enter Tryz.func26,Tryz.ntmps26
 exact jF
theorem Jn(i:∀ args w,(callFunc k args).run Tryz.prog w=.ok (.enter k args) w)(f:∀ w F g d cs,one g=some d->ah w F g cs->kx 12 cs)(b:iP k one):ji 28 k one:=mZ (sz:=12) f fun w F l a c m e h HF HM j HG=>by
 have HH:=U b;clear f b;go_enter Tryz.func28,Tryz.ntmps28
 exact jF
theorem GF(i:∀ args w,(callFunc k args).run Tryz.prog w=.ok (.enter k args) w)(f:∀ w F g d cs,one g=some d->ah w F g cs->kx 21 cs)(b:iP k one):ji 79 k one:=mZ (sz:=21) f fun w F l a c m e h HF HM j HG=>by
 have HH:=U b;clear f b;go_enter Tryz.func79,Tryz.ntmps79
 exact jF
theorem vl(i:∀ args w,(callFunc k args).run Tryz.prog w=.ok (.enter k args) w)(f:∀ w F g d cs,one g=some d->ah w F g cs->kx 14 cs)(b:iP k one):ji 14 k one:=mZ (sz:=14) f fun w F l a c m e h HF HM j HG=>by
 have HH:=U b;clear f b;go_enter Tryz.func14,Tryz.ntmps14
 exact jF
theorem K8(i:∀ args w,(callFunc k args).run Tryz.prog w=.ok (.enter k args) w)(f:∀ w F g d cs,one g=some d->ah w F g cs->kx 3 cs)(b:iP k one):ji 36 k one:=mZ (sz:=3) f fun w F l a c m e h HF HM j HG=>by
 have HH:=U b;clear f b;go_enter Tryz.func36,Tryz.ntmps36
 exact jF
theorem BF(i:∀ args w,(callFunc k args).run Tryz.prog w=.ok (.enter k args) w)(f:∀ w F g d cs,one g=some d->ah w F g cs->kx 13 cs)(b:iP k one):ji 38 k one:=mZ (sz:=13) f fun w F l a c m e h HF HM j HG=>by
 have HH:=U b;clear f b;go_enter Tryz.func38,Tryz.ntmps38
 exact jF
theorem GC(i:∀ args w,(callFunc k args).run Tryz.prog w=.ok (.enter k args) w)(f:∀ w F g d cs,one g=some d->ah w F g cs->kx 3 cs)(b:iP k one):ji 32 k one:=mZ (sz:=3) f fun w F l a c m e h HF HM j HG=>by
 have HH:=U b;clear f b;go_enter Tryz.func32,Tryz.ntmps32
 exact jF
theorem Jo(i:∀ args w,(callFunc k args).run Tryz.prog w=.ok (.enter k args) w)(f:∀ w F g d cs,one g=some d->ah w F g cs->kx 2 cs)(b:iP k one):ji 81 k one:=mZ (sz:=2) f fun w F l a c m e h HF HM j HG=>by
 have HH:=U b;clear f b;go_enter Tryz.func81,Tryz.ntmps81
 exact jF
theorem Jq(i:∀ args w,(callFunc k args).run Tryz.prog w=.ok (.enter k args) w)(f:∀ w F g d cs,one g=some d->ah w F g cs->kx 2 cs)(b:iP k one):ji 34 k one:=mZ (sz:=2) f fun w F l a c m e h HF HM j HG=>by
 have HH:=U b;clear f b;go_enter Tryz.func34,Tryz.ntmps34
 exact jF
theorem GD(i:∀ args w,(callFunc k args).run Tryz.prog w=.ok (.enter k args) w)(f:∀ w F g d cs,one g=some d->ah w F g cs->kx 6 cs)(b:iP k one):ji 30 k one:=mZ (sz:=6) f fun w F l a c m e h HF HM j HG=>by
 have HH:=U b;clear f b;go_enter Tryz.func30,Tryz.ntmps30
 exact jF
end
end Go.Proofs.YtkblonfmjlopaaaGreatDoor
