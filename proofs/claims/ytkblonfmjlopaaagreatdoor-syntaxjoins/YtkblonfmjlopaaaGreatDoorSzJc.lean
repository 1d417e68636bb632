/-
  SyntaxJoins, the full row and its card. No condition of its own.
-/
import Derived.Test.YtkblonfmjlopaaaGreatDoorSzFct
set_option linter.all false
set_option maxRecDepth 1000000
set_option maxHeartbeats 16000000
namespace Go.Proofs.YtkblonfmjlopaaaGreatDoor.syntaxJoins
set_option linter.all false
open Go Go.ChangeShapes Go.WideShapes Go.ChangeAt Go.RowKit Go.Joins Go.WideElems Go.Deep
theorem GL(H:Type)(enc:TypeId×Value->H)(W:World)(c:Nat)(args:Array Value)(f s:List (DataW H))(b:List MemPlace)
 (a:∀ (j:Nat) t v,Tryz.f3.params[j]?=some t->args[j]?=some v->Value.okWide Tryz.prog W .any c t v)
 (w:DataW.Whole enc Tryz.prog Tryz.f3.params.toList Rows.syntaxJoinsSpec.vars false W args.toList f s b) (Q:(DataW.weightsEach Tryz.prog (Tryz.f3.params.toList++(OpenSpec.ofChange Rows.syntaxJoinsSpec).bare.plain.varTypes Tryz.prog) (f++s)).all (·<=reachBytes)=true) (I:laidMetH Tryz.prog Rows.syntaxJoinsRow.laid W) (n:W.ShapedOpen Tryz.prog):
 Calls Tryz.prog 3 args W fun e r=>∃ v,e=.returned v/\Rows.syntaxJoinsSpec.post enc Tryz.prog Tryz.f3 false true false false W args v r:=by
 have g:=w;obtain⟨p,q,d,J,rfl,N,P⟩:=w;have u:DataW.TrodAll enc Tryz.prog W 0 (fun _=>true) true Tryz.f3.params.toList args.toList f p:=d;rw[Tryz.params3] at u a;obtain⟨A,Y,aA,C,aC,aE,k,rfl,rfl,E,R⟩:=trodAll_cons u;obtain⟨B,Z,aB,D,aD,aF,rfl,rfl,rfl,G,S⟩:=trodAll_cons R;obtain⟨rfl,rfl,rfl⟩:=trodAll_nil S;obtain rfl:args=#[A,B]:=by cases args;simp_all
 obtain⟨rfl,rfl⟩:=trodVars_none J;obtain⟨T,rfl,rfl,rfl,l⟩:=Go.ChangeMaps.open_string Tryz.underlying9 (a 0 9 A rfl rfl) E;obtain⟨⟨y⟩⟩:=T;obtain⟨X,rfl,rfl,rfl,m⟩:=Go.ChangeMaps.open_string Tryz.underlying9 (a 1 9 B rfl rfl) G;obtain⟨⟨z⟩⟩:=X;clear d;have o:([y.length,z.length]:List Nat).all (fun x=>decide (x<=140737488351232))=true:=Q;simp only [List.all_cons,List.all_nil,Bool.and_true,Bool.and_eq_true,decide_eq_true_eq] at o;obtain⟨F,i⟩:=M0 I n;refine(DJ ⟨y.toArray⟩ ⟨z.toArray⟩ W i (by rw[gK,gK];omega)).mono fun e r ⟨M,L⟩=>?_;subst M;exact⟨_,rfl,_,_,_,[],_,[],g,trodAll_mk1 (shut_bool Tryz.underlying4 _),(trodAll_cons_mk (Go.ChangeMaps.shut_string Tryz.underlying9 l) (trodAll_cons_mk (Go.ChangeMaps.shut_string Tryz.underlying9 m) trodAll_mk0)),rfl,L.frame _,fun h=>by cases h⟩
theorem reads(b:Os){H:Type}(enc:TypeId×Value->H):∃ a,DataW.whole enc Tryz.prog ((ki b).forCall (fun _ _=>0) ⟨#[],#[.string ⟨#[]⟩,.string ⟨#[]⟩],[]⟩).memory Tryz.f3.params.toList Rows.syntaxJoinsSpec.vars false #[.string ⟨#[]⟩,.string ⟨#[]⟩].toList 8=some ([.lit (.string []),.lit (.string [])],[],a):=
 ⟨[],aq⟩
theorem lifted(c:Os)(a:c.Started)(H:Type)(enc:TypeId×Value->H)(F:Stop.Interp):
 ReturnsInHanded {} Tryz.checked c 3 .any ((OpenSpec.ofChange Rows.syntaxJoinsSpec).preRow enc Tryz.prog Tryz.f3 Rows.syntaxJoinsRow.domain false Rows.syntaxJoinsRow.laid) (((OpenSpec.ofChange Rows.syntaxJoinsSpec).at F).post enc Tryz.prog Tryz.f3 false true false false):=by
 obtain⟨d,f⟩:=reads c enc
 refine returnsInHanded_of_row (C:=Tryz.checked) (s:=OpenSpec.ofChange Rows.syntaxJoinsSpec) own a aq Tryz.func3
  (zJ (enc:=enc) c #[.string ⟨#[]⟩,.string ⟨#[]⟩] aq
    (OpenSpec.preRow_of_cond 8 f aq (fun k e=>by cases e) aq (GM c _))) ?_
 intro W b args ds gs before Ol hW _ _ hz hL Pa _;exact GL H enc W b args ds gs before Ol hW hz hL Pa
theorem said:Rows.SyntaxJoinsSaid:=
 OpenClaim.holds_of_cond 3 Tryz.f3 rfl rfl rfl rfl rfl rfl rfl ⟨rfl,rfl,rfl,rfl,rfl⟩ rfl rfl rfl rfl rfl aq Tryz.func3 facts
  (of_decide_eq_true aq) (by unfold Func.isWrapper;first|(rw[if_pos (by decide+kernel)];kernel_rfl)|(rw[if_neg (by decide+kernel)];exact⟨rfl,rfl⟩))
  (fun c a H b _ F=>by rw[OpenClaim.pre_eq_preRow];exact lifted c a H b F)
theorem plain(f:FuncId)(a:Func)(d:Tryz.pinned.checked.prog.funcNamed "smithy/smithylaw04.SyntaxJoins"=some f)(b:Tryz.pinned.checked.prog.funcs[f]?=some a):
 true=Tryz.pinned.checked.prog.looks []/\∀ (j:Nat) t,a.params[j]?=some t->Tryz.pinned.checked.prog.wantsStandIn t=false:=by
 obtain rfl:f=3:=f_ ((show Tryz.prog.funcNamed "smithy/smithylaw04.SyntaxJoins"=some 3 from aq).symm.trans d) |>.symm;obtain rfl:a=Tryz.f3:=(f_ (Tryz.func3.symm.trans b)).symm;refine⟨aq,fun j t c=>?_⟩;rw[Tryz.params3] at c;obtain rfl:t=9:=by simpa using Array.mem_of_getElem? c
 exact(show Tryz.prog.wantsStandIn 9=false from aq)
theorem card:Rows.SyntaxJoinsCardSaid:=
 Claim7.holds_tied_plain_at .later [] _ _ _ _ said (fun _ h=>by cases h) aq (fun _ h=>by cases h) syntaxJoins_row_tie rfl ⟨rfl,rfl⟩ aq rfl plain aq
end Go.Proofs.YtkblonfmjlopaaaGreatDoor.syntaxJoins
