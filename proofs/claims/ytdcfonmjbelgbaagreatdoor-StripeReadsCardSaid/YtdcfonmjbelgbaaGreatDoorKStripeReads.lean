/- sluicegate/sluicegatelaw19.StripeReads: for every input the law returns true, and each argument reads behind the call as it read before. No condition. (The row, written by a program of this session, which drives print.py.) -/
import Derived.Test.YtdcfonmjbelgbaaGreatDoorRows
import Derived.Test.YtdcfonmjbelgbaaGreatDoorCards
import Derived.Test.YtdcfonmjbelgbaaGreatDoorTie
import Derived.Deep.DeepHandedRow
import Derived.SevenTiedAt
import Derived.LaidLaws
import Derived.Test.YtdcfonmjbelgbaaGreatDoorKStripeReads1
import Derived.Test.YtdcfonmjbelgbaaGreatDoorKStripeReads2
import Derived.Test.YtdcfonmjbelgbaaGreatDoorKStripeReads3
import Derived.Test.YtdcfonmjbelgbaaGreatDoorKStripeReads4
import Derived.Test.YtdcfonmjbelgbaaGreatDoorKStripeReads5
import Derived.Test.YtdcfonmjbelgbaaGreatDoorKStripeReads6
import Derived.Test.YtdcfonmjbelgbaaGreatDoorKStripeReads7
import Derived.Test.YtdcfonmjbelgbaaGreatDoorKStripeReads8
import Derived.WalkKit
import Derived.ProofKit
import Derived.OpenShut
import Derived.ShutString
import Derived.ChangeOld
import Derived.Below
import Derived.SizedLaws
import Derived.Carry
set_option maxRecDepth 100000
set_option maxHeartbeats 8000000
namespace Go.Proofs.YtdcfonmjbelgbaaGreatDoor.stripeReads
open Go.ChangeShapes Go.WideShapes Go.ChangeAt Go.RowKit YtdcfonmjbelgbaaGreatDoorW.PrintWords YtdcfonmjbelgbaaGreatDoor.Q
open Go.ChangeMaps (open_string shut_string)
theorem own:ownKnob Tryz.prog.godebug=none:=by kernel_rfl
theorem laidOut:laidOutB Tryz.prog=true:=by kernel_rfl
def Q59 (x:S59):Prop:=((Lit.int .i64 x.f0).wf=true)∧((Lit.int .i64 x.f1).wf=true)
instance:Inhabited S59:=⟨⟨default,default⟩⟩
theorem opens59:Opens Tryz.prog 59 k59 Q59:=by
 intro H enc w base spare held fuel cs x h
 obtain⟨hl,n,hf⟩:=field_of Tryz.underlying59 h
 have hl:cs.length=2:=hl.trans (by kernel_rfl)
 obtain⟨c0,r0,rfl,hl0⟩:=list_succ hl
 obtain⟨c1,r1,rfl,hl1⟩:=list_succ hl0
 obtain rfl:=list_zero hl1
 have n0:Tryz.prog.cellsOf 3=1:=by kernel_rfl
 obtain⟨y0,e0⟩ : ∃ y,DataW.trod enc Tryz.prog w base spare held n 3 ((([c0,c1]:List Value).drop 0).take (Tryz.prog.cellsOf 3))=some y:=hf 0 _ rfl
 rw[n0]at e0
 obtain⟨x0,K0,q0⟩:=(opens_int Tryz.underlying3) H enc w base spare held n [c0] y0 e0
 have n1:Tryz.prog.cellsOf 3=1:=by kernel_rfl
 obtain⟨y1,e1⟩ : ∃ y,DataW.trod enc Tryz.prog w base spare held n 3 ((([c0,c1]:List Value).drop 1).take (Tryz.prog.cellsOf 3))=some y:=hf 1 _ rfl
 rw[n1]at e1
 obtain⟨x1,K1,q1⟩:=(opens_int Tryz.underlying3) H enc w base spare held n [c1] y1 e1
 exact⟨⟨x0,x1⟩,⟨[c0],[c1],rfl,K0,K1⟩,⟨q0,q1⟩⟩
noncomputable def laidWorld (os:Os):World:=
 {World.holding Tryz.prog os ⟨#[],#[],[]⟩with heap:=((World.holding Tryz.prog os ⟨#[],#[],[]⟩).heap.modify 1 (fun | .cells _ t frozen=> .cells (Go.Pinned.utf8FirstZ.map fun (x:Nat)=>Value.int .u8 (x:Int)).toArray t frozen|o=>o)).modify 2 (fun | .cells _ t frozen=> .cells #[.int .u8 128,.int .u8 191,.int .u8 160,.int .u8 191,.int .u8 128,.int .u8 159,.int .u8 144,.int .u8 191,.int .u8 128,.int .u8 143,.int .u8 0,.int .u8 0,.int .u8 0,.int .u8 0,.int .u8 0,.int .u8 0,.int .u8 0,.int .u8 0,.int .u8 0,.int .u8 0,.int .u8 0,.int .u8 0,.int .u8 0,.int .u8 0,.int .u8 0,.int .u8 0,.int .u8 0,.int .u8 0,.int .u8 0,.int .u8 0,.int .u8 0,.int .u8 0] t frozen|o=>o) }
theorem laid_met (os:Os):laidMet Tryz.prog Rows.stripeReadsRow.laid ((laidWorld os).forCall (fun _ _=>0) ⟨#[],#[.agg #[.int .i64 0,.int .i64 0,.int .i64 0,.slice none 0 0],.slice none 0 0,.int .i64 0],[]⟩).memory:=
 laidMet_of_run' 8 (by kernel_rfl) (by kernel_rfl)
theorem reads (os:Os) {H:Type} (enc:TypeId×Value→H):(DataW.whole enc Tryz.prog ((laidWorld os).forCall (fun _ _=>0) ⟨#[],#[.agg #[.int .i64 0,.int .i64 0,.int .i64 0,.slice none 0 0],.slice none 0 0,.int .i64 0],[]⟩).memory Tryz.f5.params.toList Rows.stripeReadsSpec.vars false (#[.agg #[.int .i64 0,.int .i64 0,.int .i64 0,.slice none 0 0],.slice none 0 0,.int .i64 0]:Array Value).toList 8).isSome=true:=by kernel_rfl
theorem lifted (os:Os) (started:os.Started) (H:Type) (enc:TypeId×Value→H) (F:Stop.Interp) :
  ReturnsInHanded {} Tryz.checked os 5 .any ((OpenSpec.ofChange Rows.stripeReadsSpec).preRow enc Tryz.prog Tryz.f5 Rows.stripeReadsRow.domain false Rows.stripeReadsRow.laid) (((OpenSpec.ofChange Rows.stripeReadsSpec).at F).post enc Tryz.prog Tryz.f5 false true false false):=by
 obtain⟨x,hx⟩:=Option.isSome_iff_exists.1 (reads os enc)
 refine returnsInHanded_of_row (C:=Tryz.checked) (s:=OpenSpec.ofChange Rows.stripeReadsSpec) own started (by kernel_rfl) Tryz.func5
  (witness_row_at (enc:=enc) (C:=Tryz.checked) false (laidWorld os) #[.agg #[.int .i64 0,.int .i64 0,.int .i64 0,.slice none 0 0],.slice none 0 0,.int .i64 0] rfl (by kernel_rfl) (by kernel_rfl) (by kernel_rfl)
   (OpenSpec.preRow_of_cond 8 hx (by kernel_rfl) (fun k hk=>by cases hk) (by kernel_rfl) (laid_met os))) ?_
 intro W base args ds gs before hval0 hW hcnd _ hsz0 _ _ _
 have hsz:(DataW.weightsEach Tryz.prog (Tryz.f5.params.toList++Rows.stripeReadsSpec.plain.varTypes Tryz.prog) (ds++gs)).all (· ≤ reachBytes)=true:=hsz0
 have hval : ∀ (j:Nat) t v,Tryz.f5.params[j]? = some t→args[j]? = some v→Value.okWide Tryz.prog W .any base t v:=hval0
 have hW':=hW
 obtain⟨p,q,hA0,hV,rfl,hfz,hnd⟩:=hW
 have hA:DataW.TrodAll enc Tryz.prog W 0 (fun _=>true) true Tryz.f5.params.toList args.toList ds p:=hA0
 rw[Tryz.params5]at hA hval hsz
 obtain⟨v0,vs0,d0,ds0,p0,q0,hargs,rfl,rfl,h0,r0⟩:=trodAll_cons hA
 obtain⟨v1,vs1,d1,ds1,p1,q1,rfl,rfl,rfl,h1,r1⟩:=trodAll_cons r0
 obtain⟨v2,vs2,d2,ds2,p2,q2,rfl,rfl,rfl,h2,r2⟩:=trodAll_cons r1
 obtain⟨rfl,rfl,rfl⟩:=trodAll_nil r2
 obtain rfl:args = #[v0,v1,v2]:=by cases args;simp_all
 obtain⟨rfl,rfl⟩:=trodVars_none hV
 have k0:=h0
 have lt0 : ∀ x∈p0,x.block<W.heap.size:=by obtain⟨m,hm⟩:=k0;exact DataW.trod_lt m _ _ _ hm
 obtain⟨fu0,hf0⟩:=h0
 obtain⟨cs0,rfl,_⟩:=okWide_struct Tryz.underlying24 (hval 0 24 v0 rfl rfl)
 have hf0:DataW.trod enc Tryz.prog W 0 (fun _=>true) true fu0 24 cs0.toList=some _:=hf0
 obtain⟨hl0,n0,hg0⟩:=field_of Tryz.underlying24 hf0
 have hl0:cs0.toList.length=4:=hl0.trans (by kernel_rfl)
 obtain⟨L0,EL0⟩ : ∃ L,cs0.toList=L:=⟨_,rfl⟩
 rw[EL0]at hl0 hg0
 obtain⟨c0_0v,R0_0,rfl,hl0_0⟩:=list_succ hl0
 obtain⟨c0_1v,R0_1,rfl,hl0_1⟩:=list_succ hl0_0
 obtain⟨c0_2v,R0_2,rfl,hl0_2⟩:=list_succ hl0_1
 obtain⟨c0_3v,R0_3,rfl,hl0_3⟩:=list_succ hl0_2
 obtain rfl:=list_zero hl0_3
 obtain rfl:=arr_of_list EL0
 clear EL0
 have Nhg0_0:Tryz.prog.cellsOf 3=1:=by kernel_rfl
 obtain⟨yhg0_0,ehg0_0⟩ : ∃ y,DataW.trod enc Tryz.prog W 0 (fun _=>true) true n0 3 ((([c0_0v,c0_1v,c0_2v,c0_3v]:List Value).drop 0).take (Tryz.prog.cellsOf 3))=some y:=hg0 0 _ rfl
 rw[Nhg0_0]at ehg0_0
 obtain⟨a0_0,K0_0,hq0_0⟩:=(opens_int Tryz.underlying3) H enc W 0 (fun _=>true) true n0 [c0_0v] _ ehg0_0
 obtain rfl:=(List.cons.inj K0_0).1
 have Nhg0_1:Tryz.prog.cellsOf 3=1:=by kernel_rfl
 obtain⟨yhg0_1,ehg0_1⟩ : ∃ y,DataW.trod enc Tryz.prog W 0 (fun _=>true) true n0 3 ((([(.int .i64 a0_0),c0_1v,c0_2v,c0_3v]:List Value).drop 1).take (Tryz.prog.cellsOf 3))=some y:=hg0 1 _ rfl
 rw[Nhg0_1]at ehg0_1
 obtain⟨a0_1,K0_1,hq0_1⟩:=(opens_int Tryz.underlying3) H enc W 0 (fun _=>true) true n0 [c0_1v] _ ehg0_1
 obtain rfl:=(List.cons.inj K0_1).1
 have Nhg0_2:Tryz.prog.cellsOf 3=1:=by kernel_rfl
 obtain⟨yhg0_2,ehg0_2⟩ : ∃ y,DataW.trod enc Tryz.prog W 0 (fun _=>true) true n0 3 ((([(.int .i64 a0_0),(.int .i64 a0_1),c0_2v,c0_3v]:List Value).drop 2).take (Tryz.prog.cellsOf 3))=some y:=hg0 2 _ rfl
 rw[Nhg0_2]at ehg0_2
 obtain⟨a0_2,K0_2,hq0_2⟩:=(opens_int Tryz.underlying3) H enc W 0 (fun _=>true) true n0 [c0_2v] _ ehg0_2
 obtain rfl:=(List.cons.inj K0_2).1
 have Nhg0_3:Tryz.prog.cellsOf 22=1:=by kernel_rfl
 obtain⟨yhg0_3,ehg0_3⟩ : ∃ y,DataW.trod enc Tryz.prog W 0 (fun _=>true) true n0 22 ((([(.int .i64 a0_0),(.int .i64 a0_1),(.int .i64 a0_2),c0_3v]:List Value).drop 3).take (Tryz.prog.cellsOf 22))=some y:=hg0 3 _ rfl
 rw[Nhg0_3]at ehg0_3
 obtain⟨l0_3,K0_3,hq0_3⟩:=(opens_slice Tryz.underlying22 (by kernel_rfl) opens59) H enc W 0 (fun _=>true) true n0 [c0_3v] _ ehg0_3
 obtain⟨A0_3,c0_3,E0_3,hc0_3,hr0_3⟩:=K0_3
 obtain rfl:=(List.cons.inj E0_3).1
 have k1:=h1
 have lt1 : ∀ x∈p1,x.block<W.heap.size:=by obtain⟨m,hm⟩:=k1;exact DataW.trod_lt m _ _ _ hm
 obtain⟨fu1,hf1⟩:=h1
 obtain⟨z1,l1n,c1n,rfl⟩:=okWide_slice Tryz.underlying27 (hval 1 27 v1 rfl rfl)
 obtain⟨l1,K1,hq1⟩:=(opens_slice Tryz.underlying27 (by kernel_rfl) (opens_string Tryz.underlying9)) H enc W 0 (fun _=>true) true fu1 [.slice z1 l1n c1n] _ hf1
 obtain⟨A1,c1,E1,hc1,hr1⟩:=K1
 have E1:=(List.cons.inj E1).1
 simp only[Value.slice.injEq]at E1
 obtain⟨rfl,rfl,rfl⟩:=E1
 obtain⟨a2,rfl,rfl,rfl,hq2⟩:=open_int Tryz.underlying3 (hval 2 3 v2 rfl rfl) h2
 clear hA0 hval0 hsz0 hsz
 refine(stripeReads_walk a0_0 a0_1 a0_2 A0_3 c0_3 l0_3 z1 c1n l1 a2 W hq0_0 hq0_1 hq0_2 hr0_3 hc0_3 hq0_3 hr1 hc1 hq1 hq2).mono fun e W' ⟨he,bel⟩=> ?_
 subst he
 exact⟨_,rfl,_,_,_,[],_,[],hW',trodAll_mk1 (shut_bool Tryz.underlying4 _),(trodAll_cons_mk (Below.trod laidOut (by kernel_rfl) (of_decide_eq_true (by kernel_rfl)) k0 bel lt0) (trodAll_cons_mk (Below.trod laidOut (by kernel_rfl) (of_decide_eq_true (by kernel_rfl)) k1 bel lt1) (trodAll_cons_mk (shut_int Tryz.underlying3 hq2) trodAll_mk0))),rfl,bel.frame _,fun h=>by cases h⟩
theorem over:Rows.stripeReadsRow.holds Tryz.pinned (OpenSpec.ofChange Rows.stripeReadsSpec):=
 OpenClaim.holds_of_cond 5 Tryz.f5 rfl rfl rfl rfl rfl rfl rfl ⟨rfl,rfl,rfl,rfl,rfl⟩ rfl rfl rfl rfl rfl (by kernel_rfl) Tryz.func5 (by kernel_rfl)
  (of_decide_eq_true (by kernel_rfl)) (by unfold Func.isWrapper;first|(rw[if_pos (by decide +kernel)];kernel_rfl)|(rw[if_neg (by decide +kernel)];exact⟨rfl,rfl⟩))
  (fun os started H enc _ F=>by rw[OpenClaim.pre_eq_preRow];exact lifted os started H enc F)
theorem plain (f:FuncId) (fn:Func) (hf:Tryz.pinned.checked.prog.funcNamed Rows.stripeReadsRow.func=some f) (hfn:Tryz.pinned.checked.prog.funcs[f]? = some fn) :
  false=Tryz.pinned.checked.prog.looks [] ∧ ∀ (j:Nat) t,fn.params[j]? = some t→Tryz.pinned.checked.prog.wantsStandIn t=false:=by
 obtain rfl:f=5:=Option.some.inj ((show Tryz.prog.funcNamed Rows.stripeReadsRow.func=some 5 by kernel_rfl).symm.trans hf) |>.symm
 obtain rfl:fn=Tryz.f5:=(Option.some.inj (Tryz.func5.symm.trans hfn)).symm
 refine⟨by kernel_rfl,fun j t ht=> ?_⟩
 have hall:(Tryz.f5.params.all fun u=> !Tryz.prog.wantsStandIn u)=true:=by kernel_rfl
 have hm:t∈Tryz.f5.params:=Array.mem_of_getElem? ht
 have h1:=Array.all_eq_true_iff_forall_mem.1 hall t hm
 exact(show Tryz.prog.wantsStandIn t=false by simpa using h1)
theorem proved:Rows.StripeReadsCardSaid:=
 Claim7.holds_tied_plain_at .later [] _ _ _ _ over (fun _ h=>by cases h) (by kernel_rfl) (fun _ h=>by cases h) stripeReads_row_tie rfl ⟨rfl,rfl⟩ (by kernel_rfl) rfl plain (by kernel_rfl)
#print axioms proved
end Go.Proofs.YtdcfonmjbelgbaaGreatDoor.stripeReads
namespace Go.Proofs.YtdcfonmjbelgbaaGreatDoor
/-- The row, under a short name, for the claim. -/
theorem stripeReads_holds:Rows.StripeReadsCardSaid:=stripeReads.proved
end Go.Proofs.YtdcfonmjbelgbaaGreatDoor
