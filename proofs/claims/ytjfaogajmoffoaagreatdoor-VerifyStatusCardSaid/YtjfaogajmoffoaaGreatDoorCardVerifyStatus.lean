/- VerifyStatus: for every input the law returns true and each argument reads as it did; what the listed tables hold is tied to the text of the program. -/
import Derived.Test.YtjfaogajmoffoaaGreatDoorCards
import Derived.Test.YtjfaogajmoffoaaGreatDoorTie
import Derived.Test.YtjfaogajmoffoaaGreatDoorQPA26
import Derived.ShutString
namespace Go.Proofs.YtjfaogajmoffoaaGreatDoor.verifyStatus
open Go.ChangeShapes Go.WideShapes Go.ChangeAt Go.RowKit
def zS:bF:=.string ⟨#[]⟩::(List.replicate 16 (.int .u8 0)++(.int .i64 0::.slice none 0 0::.string ⟨#[]⟩::.slice none 0 0::(List.replicate 32 (.int .u8 0)++(.string ⟨#[]⟩::.string ⟨#[]⟩::.int .i64 0::.int .i64 0::(List.replicate 16 (.int .u8 0)++(.int .i64 0::.string ⟨#[]⟩::.int .i64 0::(List.replicate 560 (.int .u8 0)++[.slice none 0 0])))))))
def zC{H:Type}(n:Nat):DataW H:=.agg (List.replicate n (.lit (.int .u8 0)))
def Ss{H:Type}:DataW H:=.agg [.agg [.lit (.string []),zC 16,.lit (.int .i64 0),.nil,.lit (.string []),.nil,zC 32,.lit (.string []),.lit (.string []),.lit (.int .i64 0),.lit (.int .i64 0),zC 16,.lit (.int .i64 0),.lit (.string [])],.agg [.lit (.int .i64 0),.agg (List.replicate 35 (zC 16)),.nil]]
set_option maxRecDepth 100000 in
theorem contract(H:Type)(enc:TypeId×Value->H)(W:aB)(base:Nat)(args:Array Value)(ds gs:List (DataW H))(before:List MemPlace)
  (hval:∀(j:Nat) t v,Tryz.f3.params[j]? =some t->args[j]? =some v->Value.okWide Tryz.prog W .any base t v)
  (hW:DataW.Whole enc Tryz.prog Tryz.f3.params.toList Rows.verifyStatusSpec.vars false W args.toList ds gs before) (hsh:W.ShapedOpen Tryz.prog) (hsz:(DataW.weightsEach Tryz.prog (Tryz.f3.params.toList++(OpenSpec.ofChange Rows.verifyStatusSpec).bare.plain.varTypes Tryz.prog) (ds++gs)).all (· <=reachBytes)=true) (hL:laidMetH Tryz.prog Rows.verifyStatusRow.laid W):
  Calls Tryz.prog 3 args W fun e W'=>∃v,e=.returned v/\Rows.verifyStatusSpec.post enc Tryz.prog Tryz.f3 false true false false W args v W':=by
 have hW':=hW;obtain⟨p,q,hA0,hV,rfl,hfz,hnd⟩:=hW;have hA:DataW.TrodAll enc Tryz.prog W 0 (fun _=>true) true Tryz.f3.params.toList args.toList ds p:=hA0;rw[Tryz.params3]at hA hval;obtain⟨v0,vs0,d0,ds0,p0,q0,hargs,rfl,rfl,h0,r0⟩:=trodAll_cons hA;obtain⟨v1,vs1,d1,ds1,p1,q1,rfl,rfl,rfl,h1,r1⟩:=trodAll_cons r0;obtain⟨rfl,rfl,rfl⟩:=trodAll_nil r1;obtain rfl:args=#[v0,v1]:=by cases args;simp_all
 obtain⟨rfl,rfl⟩:=trodVars_none hV;rw[Tryz.params3]at hsz;have k0:=h0;have lt0:∀x∈p0,x.block<W.heap.size:=by obtain⟨m,hm⟩:=k0;exact DataW.trod_lt m _ _ _ hm
 have ok0:Value.okWide Tryz.prog W .any base 34 v0:=hval 0 34 v0 rfl rfl;obtain⟨cs0,rfl,_⟩:=okWide_struct Tryz.underlying34 ok0;obtain⟨x0,e0,g0⟩:∃x,cs0=(gI x).toArray/\nw W x:=by
  obtain⟨fuel,hf⟩:=h0;obtain⟨x,hx,hg⟩:=Hb hf (fun n hn=>by have:=List.all_eq_true.1 hsz n (DataW.weights_mem_each (j:=0) (t:=34) rfl rfl n hn);rw[Mp]at this;exact of_decide_eq_true this);exact⟨x,by rw[<-hx];rfl,hg⟩
 subst e0;have k1:=h1;have lt1:∀x∈p1,x.block<W.heap.size:=by obtain⟨m,hm⟩:=k1;exact DataW.trod_lt m _ _ _ hm
 have ok1:Value.okWide Tryz.prog W .any base 35 v1:=hval 1 35 v1 rfl rfl;obtain⟨a1,len1,cap1,rfl⟩:=okWide_slice Tryz.underlying35 ok1;obtain⟨u1,l1,e1,g1,y1,b1⟩:∃(u:Value) (l:List Sx),Value.slice a1 len1 cap1=u/\bX W u 637 (l.map gI)/\(∀y∈l,nw W y)/\l.length<=9223372036854775807:=by
  obtain⟨fuel,hf⟩:=h1;obtain⟨u,l,hx,hg⟩:=QS hf (fun n hn=>by have:=List.all_eq_true.1 hsz n (DataW.weights_mem_each (j:=1) (t:=35) rfl rfl n hn);rw[Mp]at this;exact of_decide_eq_true this);exact⟨u,l,by simpa[Value.cells]using hx,hg⟩
 rw[<-e1]at g1;simp only[List.append_nil]at hW';refine(Th x0 l1 _ W g0 g1 y1 b1 (abD hL hsh)).mono fun e W' ⟨he,hg⟩=>?_;subst he;exact⟨_,rfl,_,_,_,[],_,[],hW',trodAll_cons_mk (shut_bool Tryz.underlying4 _) trodAll_mk0,trodAll_cons_mk (Below.trod yQ (by kernel_rfl) (of_decide_eq_true (by kernel_rfl)) k0 hg lt0) (trodAll_cons_mk (Below.trod yQ (by kernel_rfl) (of_decide_eq_true (by kernel_rfl)) k1 hg lt1) (trodAll_mk0)),rfl,Below.frame hg _,fun h=>by cases h⟩
theorem abR(os:Os):laidMet Tryz.prog Rows.verifyStatusRow.laid ((D_ os).forCall (fun _ _=>0) ⟨#[],#[aE zS,.slice none 0 0],[]⟩).memory:=
 laidMet_of_run' 8 (by kernel_rfl) (by kernel_rfl)
theorem reads(os:Os){H:Type}(enc:TypeId×Value->H):∃places,DataW.whole enc Tryz.prog ((D_ os).forCall (fun _ _=>0) ⟨#[],#[aE zS,.slice none 0 0],[]⟩).memory Tryz.f3.params.toList Rows.verifyStatusSpec.vars false #[(Value.agg zS.toArray),.slice none 0 0].toList 8=some ([Ss,.nil],[],places):=
 ⟨[],by kernel_rfl⟩
set_option maxRecDepth 100000 in
theorem aat(os:Os)(started:os.Started)(H:Type)(enc:TypeId×Value->H)(F:Stop.Interp):
  ReturnsInHanded {} Tryz.checked os 3 .any ((OpenSpec.ofChange Rows.verifyStatusSpec).preRow enc Tryz.prog Tryz.f3 Rows.verifyStatusRow.domain false Rows.verifyStatusRow.laid) (((OpenSpec.ofChange Rows.verifyStatusSpec).at F).post enc Tryz.prog Tryz.f3 false true false false):=by
 obtain⟨places,hx⟩:=reads os enc
 refine returnsInHanded_of_row (C:=Tryz.checked) (s:=OpenSpec.ofChange Rows.verifyStatusSpec) own started (by kernel_rfl) Tryz.func3
  (witness_row_at (enc:=enc) (C:=Tryz.checked) false (D_ os) #[aE zS,.slice none 0 0] rfl (by kernel_rfl) (by kernel_rfl) (by kernel_rfl)
   (OpenSpec.preRow_of_cond 8 hx (by kernel_rfl) (fun k hk=>by cases hk) (by kernel_rfl) (abR os))) ?_
 intro W base args ds gs before hval hW _ _ hsz hL hsh _;exact contract H enc W base args ds gs before hval hW hsh hsz hL
theorem aaf:Rows.VerifyStatusSaid:=
 OpenClaim.holds_of_cond 3 Tryz.f3 rfl rfl rfl rfl rfl rfl rfl ⟨rfl,rfl,rfl,rfl,rfl⟩ rfl rfl rfl rfl rfl (by kernel_rfl) Tryz.func3 UP
  (of_decide_eq_true (by kernel_rfl)) (by unfold Func.isWrapper;first|(rw[if_pos (by decide+kernel)];kernel_rfl)|(rw[if_neg (by decide+kernel)];exact⟨rfl,rfl⟩))
  (fun os started H enc _ F=>by rw[OpenClaim.pre_eq_preRow];exact aat os started H enc F)
theorem plain(f:FuncId)(fn:Func)(hf:Tryz.pinned.checked.prog.funcNamed "bulletin/bulletinlaw20.VerifyStatus" =some f)(hfn:Tryz.pinned.checked.prog.funcs[f]? =some fn):
  false=Tryz.pinned.checked.prog.looks []/\∀(j:Nat) t,fn.params[j]? =some t->Tryz.pinned.checked.prog.wantsStandIn t=false:=by
 obtain rfl:f=3:=Option.some.inj ((show Tryz.prog.funcNamed "bulletin/bulletinlaw20.VerifyStatus" =some 3 by kernel_rfl).symm.trans hf) |>.symm;obtain rfl:fn=Tryz.f3:=(Option.some.inj (Tryz.func3.symm.trans hfn)).symm;refine⟨by kernel_rfl,fun j t ht=>?_⟩;rw[Tryz.params3]at ht;have hm:t=34\/t=35:=by simpa using Array.mem_of_getElem? ht
 rcases hm with rfl|rfl
 .exact(show Tryz.prog.wantsStandIn 34=false by kernel_rfl)
 .exact(show Tryz.prog.wantsStandIn 35=false by kernel_rfl)
theorem card:Rows.VerifyStatusCardSaid:=
 Claim7.holds_tied_plain_at .later [] _ _ _ _ aaf (fun _ h=>by cases h) (by kernel_rfl) (fun _ h=>by cases h) verifyStatus_row_tie rfl ⟨rfl,rfl⟩ (by kernel_rfl) rfl plain (by kernel_rfl)
end Go.Proofs.YtjfaogajmoffoaaGreatDoor.verifyStatus
namespace Go.Proofs.YtjfaogajmoffoaaGreatDoor
theorem verifyStatus_card_holds:Rows.VerifyStatusCardSaid:=verifyStatus.card
#print axioms verifyStatus_card_holds
end Go.Proofs.YtjfaogajmoffoaaGreatDoor
