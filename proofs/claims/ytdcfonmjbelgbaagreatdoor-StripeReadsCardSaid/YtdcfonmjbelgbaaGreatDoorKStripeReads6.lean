/- Lemmas for the law StripeReads, merged out of several texts and cut down to what it names, by a program of this session (some of the first ones are of the words that print.sh wrote for this claim). -/
import Derived.Test.YtdcfonmjbelgbaaGreatDoorKStripeReads1
import Derived.Test.YtdcfonmjbelgbaaGreatDoorKStripeReads2
import Derived.Test.YtdcfonmjbelgbaaGreatDoorKStripeReads3
import Derived.Test.YtdcfonmjbelgbaaGreatDoorKStripeReads4
import Derived.Test.YtdcfonmjbelgbaaGreatDoorKStripeReads5
set_option maxRecDepth 100000
set_option maxHeartbeats 8000000
set_option linter.unusedVariables false
set_option linter.unusedSimpArgs false
section
namespace Go.Proofs.YtdcfonmjbelgbaaGreatDoor
open Go.RowKit Q YtdcfonmjbelgbaaGreatDoorW.PrintWords YtdcfonmjbelgbaaGreatDoorW.PrintLast YtdcfonmjbelgbaaGreatDoorW.PrintMore
def smallS (l:List ByteArray) (many long:Int):Bool:=decide (∀ s∈l,(s.size:Int)≤long)&&decide ((l.length:Int)≤many)
theorem wrap_suc {n i:Nat} (h:i<n) (hn:n≤9223372036854775807):wrap64 ((i:Int)+1)=((i+1:Nat):Int):=by
 unfold wrap64
 omega
theorem small_l0 (l:List ByteArray) (a b:Int) (hl:l.length≤9223372036854775807) : ∀ m i:Nat,i+m=l.length→sluicegateref02_Small.l0 (m+1) l a b (i:Int)=some (decide (∀ s∈l.drop i,(s.size:Int)≤b)&&decide ((l.length:Int)≤a))
 | 0,i,h=>by
  unfold sluicegateref02_Small.l0
  rw[if_neg (by omega),List.drop_eq_nil_of_le (by omega)]
  simp
 | m+1,i,h=>by
  have hi:i<l.length:=by omega
  have ih:=small_l0 l a b hl m (i+1) (by omega)
  unfold sluicegateref02_Small.l0
  rw[if_pos (by omega),if_pos (by omega),wrap_suc hi hl,ih,List.drop_eq_getElem_cons hi]
  have hr:rdOf ByteArray.empty l (i:Int)=l[i]:=by simp[rdOf,hi]
  rw[hr]
  by_cases hb:(l[i].size:Int)>b
  ·rw[if_pos hb,decide_eq_false (fun h2=>by have:=h2 _ List.mem_cons_self;omega)]
   rfl
  ·rw[if_neg hb]
   congr 2
   simp only[List.mem_cons,forall_eq_or_imp]
   exact decide_eq_decide.mpr ⟨fun h2=>⟨by omega,h2⟩,fun h2=>h2.2⟩
theorem smallS_has {l:List ByteArray} {a b:Int} (h:smallS l a b=true):(∀ s∈l,(s.size:Int)≤b)∧(l.length:Int)≤a:=by
 unfold smallS at h
 rw[Bool.and_eq_true,decide_eq_true_eq,decide_eq_true_eq]at h
 exact h
end Go.Proofs.YtdcfonmjbelgbaaGreatDoor
end
section
namespace Go.Proofs.YtdcfonmjbelgbaaGreatDoor.Q
open Go.RowKit YtdcfonmjbelgbaaGreatDoorW.PrintWords YtdcfonmjbelgbaaGreatDoorW.PrintLast YtdcfonmjbelgbaaGreatDoorW.PrintMore
attribute [local go_sem] max2_int min2_int max_two min_two max_three min_three max_four min_four
def sluicegateref19_Good.f (a0_0:Int) (a0_1:Int) (a0_2:Int) (l0_3:List (S59)) (a1:Int) (a2:ByteArray):Option (Bool):=(sluicegateref07_Mine.f a2 a0_0 a0_1 a0_2 l0_3 a1).bind fun bt255=>(if bt255.2=0 then (some ((bt255.1.size:Int)==64))else (some false))
theorem sluicegateref19_Good.calls (a0_0:Int) (a0_1:Int) (a0_2:Int) (A0_3:Option Addr) (c0_3:Nat) (l0_3:List (S59)) (a1:Int) (a2:ByteArray) (r:Bool) (w:World) (hr0_3:Kd.C k59 w A0_3 l0_3.length l0_3) (hc0_3:l0_3.length≤c0_3) (h:sluicegateref19_Good.f a0_0 a0_1 a0_2 l0_3 a1 a2=some r) :
  Calls Tryz.prog 22 #[.agg #[.int .i64 a0_0,.int .i64 a0_1,.int .i64 a0_2,.slice A0_3 l0_3.length c0_3],.int .i64 a1,.string a2] w fun e w'=>e = .returned (.bool r)∧Below w.heap.size w w':=by
 have hu24:=Tryz.underlying24
 have HR0_3:=Aside0.mk hr0_3
 have HC0_3:=Aside0.mk hc0_3
 clear hr0_3 hc0_3
 have HB:=Aside0.mk (Below.refl w.heap.size w)
 have H:((sluicegateref07_Mine.f a2 a0_0 a0_1 a0_2 l0_3 a1).bind fun bt255=>(if bt255.2=0 then (some ((bt255.1.size:Int)==64))else (some false)))=some r:=h
 clear h
 replace H:=Option.bind_eq_some_iff.mp H
 obtain⟨⟨t255,t256⟩,A40,H⟩:=H
 replace H:(if t256=0 then (some ((t255.size:Int)==64))else (some false))=some r:=H
 have A4:=Aside0.mk A40
 clear A40
 by_cases c5:t256=0
 ·rw[if_pos c5]at H
  have c5b0:(t256==0)=true:=beq_iff_eq.mpr c5
  have c5b1:(t256 != 0)=false:=bne_eq_false_iff_eq.mpr c5
  clear c5
  obtain rfl:=Option.some.inj H
  go_enter Tryz.func22,Tryz.ntmps22
  go_wp2_with (first|((with_reducible refine gate_dst (N:=3) rfl ?_);(try (refine gate_guard (by rfl) ?_;dsimp only));refine box_event ?hg (N:=3) ?hd (cs:= #[.int .i64 a0_0,.int .i64 a0_1,.int .i64 a0_2,.slice A0_3 l0_3.length c0_3]) (t:=24) ?hr ?_;(case hd=>rfl);(case hg=>rfl);(case hr=>first|(go_simp;done)|(go_simp;rfl));intro gb254 hg w6 hbox hb;have n0_:=Aside0.mk (below_step (by repeat (first|(with_reducible first|exact HB.out|apply below_alloc|apply pw_below_drewN|apply below_drew1)|exact HB.out)) hb);have n1_:=Aside0.mk (hbox);have n2_:=Aside0.mk ((by rw[hg];exact(below_size (by repeat (first|(with_reducible first|exact HB.out|apply below_alloc|apply pw_below_drewN|apply below_drew1)|exact HB.out))):w.heap.size≤gb254));have n3_:=Aside0.mk ((by rw[hg];exact(below_size (by repeat (first|(with_reducible first|exact HB.out|apply below_alloc|apply pw_below_drewN|apply below_drew1)|exact HB.out))):w.heap.size≤gb254));clear HB;have HB:=n0_;have BK254:=n1_;have GW254:=n2_;have GE254:=n3_;clear n0_ n1_ n2_ n3_;clear hb hbox hg;have hcz7_0:w6.cell? ⟨gb254,0,none⟩=some (.int .i64 a0_0):=(blk_cell BK254.out 0).trans rfl;have hcz7_1:w6.cell? ⟨gb254,1,none⟩=some (.int .i64 a0_1):=(blk_cell BK254.out 1).trans rfl;have hcz7_2:w6.cell? ⟨gb254,2,none⟩=some (.int .i64 a0_2):=(blk_cell BK254.out 2).trans rfl;have hcz7_3:w6.cell? ⟨gb254,3,none⟩=some (.slice A0_3 l0_3.length c0_3):=(blk_cell BK254.out 3).trans rfl;have hfz7_0:=blk_frozen BK254.out 0;have hfz7_1:=blk_frozen BK254.out 1;have hfz7_2:=blk_frozen BK254.out 2;have hfz7_3:=blk_frozen BK254.out 3)|((with_reducible refine gate_callee (f:=38) rfl ?_);refine goesL_ (some 13) rfl rfl Tryz.func38 (by kernel_rfl) rfl #[.string a2,.agg #[.int .i64 a0_0,.int .i64 a0_1,.int .i64 a0_2,.slice A0_3 l0_3.length c0_3],.int .i64 a1] rfl (by (try simp only[List.map_toArray,List.map_cons,List.map_nil]);first|done|rfl|(simp only[List.length_drop,List.length_take];rfl)) ?_;(with_reducible refine(sluicegateref07_Mine.calls a2 a0_0 a0_1 a0_2 _ _ l0_3 a1 t255 t256 _ ?side1 ?side2 A4.out).mono ?_);(case side1=>repeat (first|exact(Kd.C_below HR0_3.out HB.out)|(with_reducible refine Kd.C_alloc ?_ _)|(with_reducible refine Kd.C_drewN ?_ _)|(with_reducible refine Kd.C_drew ?_)));(case side2=>exact HC0_3.out);rintro e w8 ⟨rfl,hb⟩;refine⟨_,rfl,?_⟩;have n0_:=Aside0.mk (blk_below (g:=gb254) (o:=.cells #[.int .i64 a0_0,.int .i64 a0_1,.int .i64 a0_2,.slice A0_3 l0_3.length c0_3] 24 (0,0)) (by (with_reducible repeat (first|refine blk_drewN ?_ _|refine blk_drew ?_|refine blk_alloc ?_ _));exact BK254.out) hb);have n1_:=Aside0.mk (below_step (by repeat (first|(with_reducible first|exact HB.out|apply below_alloc|apply pw_below_drewN|apply below_drew1|refine below_set ?_ GE254.out)|exact HB.out)) hb);clear BK254;clear HB;have BK254:=n0_;have HB:=n1_;clear n0_ n1_;(try clear hb);(try clear hb2);(try clear hk);(try clear hi)))
  go_ret
  exact⟨by first|rfl|(simp[errW_none,errW_some]<;>rfl)|(simp[*,errW_none,errW_some]<;>rfl),by repeat (first|(with_reducible first|exact HB.out|apply below_alloc|apply pw_below_drewN|apply below_drew1|refine below_set ?_ GE254.out)|exact HB.out)⟩
 ·rw[if_neg c5]at H
  have c5b0:(t256==0)=false:=beq_eq_false_iff_ne.mpr c5
  have c5b1:(t256 != 0)=true:=bne_iff_ne.mpr c5
  obtain rfl:=Option.some.inj H
  go_enter Tryz.func22,Tryz.ntmps22
  go_wp2_with (first|((with_reducible refine gate_dst (N:=3) rfl ?_);(try (refine gate_guard (by rfl) ?_;dsimp only));refine box_event ?hg (N:=3) ?hd (cs:= #[.int .i64 a0_0,.int .i64 a0_1,.int .i64 a0_2,.slice A0_3 l0_3.length c0_3]) (t:=24) ?hr ?_;(case hd=>rfl);(case hg=>rfl);(case hr=>first|(go_simp;done)|(go_simp;rfl));intro gb254 hg w9 hbox hb;have n0_:=Aside0.mk (below_step (by repeat (first|(with_reducible first|exact HB.out|apply below_alloc|apply pw_below_drewN|apply below_drew1)|exact HB.out)) hb);have n1_:=Aside0.mk (hbox);have n2_:=Aside0.mk ((by rw[hg];exact(below_size (by repeat (first|(with_reducible first|exact HB.out|apply below_alloc|apply pw_below_drewN|apply below_drew1)|exact HB.out))):w.heap.size≤gb254));have n3_:=Aside0.mk ((by rw[hg];exact(below_size (by repeat (first|(with_reducible first|exact HB.out|apply below_alloc|apply pw_below_drewN|apply below_drew1)|exact HB.out))):w.heap.size≤gb254));clear HB;have HB:=n0_;have BK254:=n1_;have GW254:=n2_;have GE254:=n3_;clear n0_ n1_ n2_ n3_;clear hb hbox hg;have hcz10_0:w9.cell? ⟨gb254,0,none⟩=some (.int .i64 a0_0):=(blk_cell BK254.out 0).trans rfl;have hcz10_1:w9.cell? ⟨gb254,1,none⟩=some (.int .i64 a0_1):=(blk_cell BK254.out 1).trans rfl;have hcz10_2:w9.cell? ⟨gb254,2,none⟩=some (.int .i64 a0_2):=(blk_cell BK254.out 2).trans rfl;have hcz10_3:w9.cell? ⟨gb254,3,none⟩=some (.slice A0_3 l0_3.length c0_3):=(blk_cell BK254.out 3).trans rfl;have hfz10_0:=blk_frozen BK254.out 0;have hfz10_1:=blk_frozen BK254.out 1;have hfz10_2:=blk_frozen BK254.out 2;have hfz10_3:=blk_frozen BK254.out 3)|((with_reducible refine gate_callee (f:=38) rfl ?_);refine goesL_ (some 13) rfl rfl Tryz.func38 (by kernel_rfl) rfl #[.string a2,.agg #[.int .i64 a0_0,.int .i64 a0_1,.int .i64 a0_2,.slice A0_3 l0_3.length c0_3],.int .i64 a1] rfl (by (try simp only[List.map_toArray,List.map_cons,List.map_nil]);first|done|rfl|(simp only[List.length_drop,List.length_take];rfl)) ?_;(with_reducible refine(sluicegateref07_Mine.calls a2 a0_0 a0_1 a0_2 _ _ l0_3 a1 t255 t256 _ ?side1 ?side2 A4.out).mono ?_);(case side1=>repeat (first|exact(Kd.C_below HR0_3.out HB.out)|(with_reducible refine Kd.C_alloc ?_ _)|(with_reducible refine Kd.C_drewN ?_ _)|(with_reducible refine Kd.C_drew ?_)));(case side2=>exact HC0_3.out);rintro e w11 ⟨rfl,hb⟩;refine⟨_,rfl,?_⟩;have n0_:=Aside0.mk (blk_below (g:=gb254) (o:=.cells #[.int .i64 a0_0,.int .i64 a0_1,.int .i64 a0_2,.slice A0_3 l0_3.length c0_3] 24 (0,0)) (by (with_reducible repeat (first|refine blk_drewN ?_ _|refine blk_drew ?_|refine blk_alloc ?_ _));exact BK254.out) hb);have n1_:=Aside0.mk (below_step (by repeat (first|(with_reducible first|exact HB.out|apply below_alloc|apply pw_below_drewN|apply below_drew1|refine below_set ?_ GE254.out)|exact HB.out)) hb);clear BK254;clear HB;have BK254:=n0_;have HB:=n1_;clear n0_ n1_;(try clear hb);(try clear hb2);(try clear hk);(try clear hi)))
  go_ret
  exact⟨by first|rfl|(simp[errW_none,errW_some]<;>rfl)|(simp[*,errW_none,errW_some]<;>rfl),by repeat (first|(with_reducible first|exact HB.out|apply below_alloc|apply pw_below_drewN|apply below_drew1|refine below_set ?_ GE254.out)|exact HB.out)⟩
def sluicegateref19_Bad.l0:Nat→List ByteArray→List Int→Int→Int→Int→Int→List (S59)→Option (List Int)
 | 0,_,_,_,_,_,_,_=>none
 | k+1,x1,x5,x6,x258000,x258001,x258002,x258003=>if x6<(x1.length:Int)then (if 0≤x6 then ((sluicegateref19_Good.f x258000 x258001 x258002 x258003 x6 (rdOf ByteArray.empty x1 x6)).bind fun t259=>(if t259=true then (sluicegateref19_Bad.l0 k x1 x5 (wrap64 (x6+1)) x258000 x258001 x258002 x258003)else (if x5.length<17592186044416 then (sluicegateref19_Bad.l0 k x1 (x5++[x6]) (wrap64 (x6+1)) x258000 x258001 x258002 x258003)else (none))))else (none))else (some x5)
def sluicegateref19_Bad.f (k:Nat) (a0_0:Int) (a0_1:Int) (a0_2:Int) (l0_3:List (S59)) (l1:List ByteArray):Option (List Int):=sluicegateref19_Bad.l0 k l1 ([]:List Int) 0 a0_0 a0_1 a0_2 l0_3
def sluicegateref19_Bad.T5:Bool×List (List Nat×List Nat):=(true,[([],[]),([],[]),([],[]),([],[]),([2,3],[2,3]),([4],[4]),([0,1,5],[0,1,5]),([6],[6])])
def sluicegateref19_Bad.B5:List Nat:=[0,0,0,0,12,28,63,127]
theorem sluicegateref19_Bad.tab5:rtab .any (opsOf Tryz.f15 5)=sluicegateref19_Bad.T5:=by kernel_rfl
theorem sluicegateref19_Bad.bits5:waitsOk sluicegateref19_Bad.T5.2 sluicegateref19_Bad.B5=true:=by kernel_rfl
theorem sluicegateref19_Bad.calls (k:Nat) (a0_0:Int) (a0_1:Int) (a0_2:Int) (A0_3:Option Addr) (c0_3:Nat) (l0_3:List (S59)) (A1:Option Addr) (c1:Nat) (l1:List ByteArray) (r:List Int) (w:World) (hr0_3:Kd.C k59 w A0_3 l0_3.length l0_3) (hc0_3:l0_3.length≤c0_3) (hr1:Kd.C Kd.string w A1 l1.length l1) (hc1:l1.length≤c1) (h:sluicegateref19_Bad.f k a0_0 a0_1 a0_2 l0_3 l1=some r) :
  Calls Tryz.prog 15 #[.agg #[.int .i64 a0_0,.int .i64 a0_1,.int .i64 a0_2,.slice A0_3 l0_3.length c0_3],.slice A1 l1.length c1] w fun e w'=> ∃ v0_:Value,e = .returned (v0_)∧Kd.R (Kd.int .i64) 3 w' w.heap.size (fun _=>True) v0_ r∧Below w.heap.size w w':=by
 have hu24:=Tryz.underlying24
 have HR0_3:=Aside0.mk hr0_3
 have HC0_3:=Aside0.mk hc0_3
 clear hr0_3 hc0_3
 have HR1:=Aside0.mk hr1
 have HC1:=Aside0.mk hc1
 clear hr1 hc1
 have HB:=Aside0.mk (Below.refl w.heap.size w)
 have H:(sluicegateref19_Bad.l0 k l1 ([]:List Int) 0 a0_0 a0_1 a0_2 l0_3)=some r:=h
 clear h
 have H':=Aside0.mk H
 clear H
 go_enter Tryz.func15,Tryz.ntmps15
 go_wp2_with (first|((with_reducible refine gate_dst (N:=2) rfl ?_);refine box_event ?hg (N:=2) ?hd (cs:= #[.int .i64 a0_0,.int .i64 a0_1,.int .i64 a0_2,.slice A0_3 l0_3.length c0_3]) (t:=24) ?hr ?_;(case hd=>rfl);(case hg=>rfl);(case hr=>first|(go_simp;done)|(go_simp;rfl));intro gb257 hg w3 hbox hb;have n0_:=Aside0.mk (below_step (by repeat (first|(with_reducible first|exact HB.out|apply below_alloc|apply pw_below_drewN|apply below_drew1)|exact HB.out)) hb);have n1_:=Aside0.mk (hbox);have n2_:=Aside0.mk ((by rw[hg];exact(below_size (by repeat (first|(with_reducible first|exact HB.out|apply below_alloc|apply pw_below_drewN|apply below_drew1)|exact HB.out))):w.heap.size≤gb257));have n3_:=Aside0.mk ((by rw[hg];exact(below_size (by repeat (first|(with_reducible first|exact HB.out|apply below_alloc|apply pw_below_drewN|apply below_drew1)|exact HB.out))):w.heap.size≤gb257));clear HB;have HB:=n0_;have BK257:=n1_;have GW257:=n2_;have GE257:=n3_;clear n0_ n1_ n2_ n3_;clear hb hbox hg))
 go_loopg [5,6] k (fun kq v5 v6 w'=> ∃ (x5_1:List Int) (x6_1:Int),v6 = .int .i64 x6_1∧Aside0 (sluicegateref19_Bad.l0 kq l1 x5_1 x6_1 a0_0 a0_1 a0_2 l0_3=some r)∧Aside0 (kq≤k)∧Aside0 (Kd.R (Kd.int .i64) 3 w' w.heap.size (fun _=>True) v5 x5_1)∧Aside0 (w'.heap[gb257]? = some (.cells #[.int .i64 a0_0,.int .i64 a0_1,.int .i64 a0_2,(.slice A0_3 l0_3.length c0_3)] 24 (0,0)))∧Aside0 (Below w.heap.size w w'))
 case atStart=>exact⟨(([]:List Int)),(0),(by first|rfl|(simp;done)|(simp[*];done)),H',⟨Nat.le_refl _⟩,⟨by first|exact Kd.R_nil _ _ _ _ _|exact Kd.N_nil _ _ _ _ _|exact Kd.V_nil _ _ _ _ _|exact Kd.Q_nil _ _ _ _ _|exact Kd.S_nil _ _ _ _ _⟩,⟨by (with_reducible repeat (first|refine blk_drewN ?_ _|refine blk_drew ?_|refine blk_alloc ?_ _));exact BK257.out⟩,⟨by repeat (first|(with_reducible first|exact HB.out|apply below_alloc|apply pw_below_drewN|apply below_drew1|refine below_set ?_ GE257.out)|exact HB.out)⟩⟩
 case round=>
  clear H'
  try clear c1
  try clear p2
  obtain⟨x5_1,x6_1,rfl,HA,HK1,HO_5,BK257,HB⟩:=hrel
  cases gk with
  | zero=>exact absurd HA.out (by simp[sluicegateref19_Bad.l0])
  | succ k1=>
   have H:=HA.out
   clear HA
   simp only[sluicegateref19_Bad.l0]at H
   by_cases c4:x6_1<(l1.length:Int)
   ·rw[if_pos c4]at H
    have c4b0:decide (x6_1<(l1.length:Int))=true:=decide_eq_true c4
    clear c4
    by_cases c5:0≤x6_1
    ·rw[if_pos c5]at H
     have c5b0:decide (0≤x6_1)=true:=decide_eq_true c5
     clear c5
     replace H:=Option.bind_eq_some_iff.mp H
     obtain⟨t259,A60,H⟩:=H
     replace H:(if t259=true then (sluicegateref19_Bad.l0 k1 l1 x5_1 (wrap64 (x6_1+1)) a0_0 a0_1 a0_2 l0_3)else (if x5_1.length<17592186044416 then (sluicegateref19_Bad.l0 k1 l1 (x5_1++[x6_1]) (wrap64 (x6_1+1)) a0_0 a0_1 a0_2 l0_3)else (none)))=some r:=H
     have A6:=Aside0.mk A60
     clear A60
     by_cases c7:t259=true
     ·subst c7
      have H1:(sluicegateref19_Bad.l0 k1 l1 x5_1 (wrap64 (x6_1+1)) a0_0 a0_1 a0_2 l0_3)=some r:=by rw[if_pos rfl]at H;exact H
      clear H
      have H:=H1
      clear H1
      have H':=Aside0.mk H
      clear H
      try go_wp2
      have n0_:=Aside0.mk (Kd.R_drew HO_5.out)
      have n1_:=Aside0.mk (blk_drew BK257.out)
      have n2_:=Aside0.mk (below_drew1 HB.out)
      clear HO_5
      clear BK257
      clear HB
      have HO_5:=n0_
      have BK257:=n1_
      have HB:=n2_
      clear n0_ n1_ n2_
      have p258:0≤(x6_1:Int):=of_decide_eq_true (by first|(with_reducible assumption)|assumption)
      have q258:x6_1<(l1.length:Int):=of_decide_eq_true (by first|(with_reducible assumption)|assumption)
      obtain⟨ad258,e258,hx258_0⟩:=Kd.at_string HR1.out x6_1 p258 q258
      have hw258_0:=hx258_0
      cases e258
      replace hx258_0:=(HB.out.cell (World.block_lt_of_cell? w _ hx258_0)).trans hx258_0
      replace p258:=eq_true p258
      replace q258:=eq_true q258
      refine start_ (n:=8) (S:=fun w'=>w'.cell? ⟨gb257,0,none⟩=some (.int .i64 a0_0)∧w'.cell? ⟨gb257,1,none⟩=some (.int .i64 a0_1)∧w'.cell? ⟨gb257,2,none⟩=some (.int .i64 a0_2)∧w'.cell? ⟨gb257,3,none⟩=some (.slice A0_3 l0_3.length c0_3)∧w'.cell? (ad258.add (x6_1).toNat)=some (.string (rdOf ByteArray.empty l1 x6_1))) (ds:=[]) #[false,false,false,false,false,false,false,false] (by kernel_rfl) rfl rfl ⟨(blk_cell BK257.out 0).trans rfl,(blk_cell BK257.out 1).trans rfl,(blk_cell BK257.out 2).trans rfl,(blk_cell BK257.out 3).trans rfl,((HB.out.cell (World.block_lt_of_cell? w _ hw258_0)).trans hw258_0)⟩ (fun hHeld=> ?_);refine with_tabW sluicegateref19_Bad.tab5 sluicegateref19_Bad.bits5 (fun HT_ HW_=> ?_)
      generalize wr.drew=w8 at HO_5 BK257 HB hx258_0 hHeld ⊢
      refine pure_ (i:=1) (N:=some 14) (v:= ?_) (a':= ?_) #[false,true,false,false,false,false,false,false] rfl rfl (any_of HT_.out (by kernel_rfl)) (fun _ _ _ h=>h) (Or.inl ⟨by rfl,?_⟩) ?_ ?_
      rotate_left
      ·intro w'
       go_simp
       with_reducible rfl
      rotate_left
      ·simp only[Act.put,zA,zB,zC,i64_w,i32_w]
       rfl
      refine pure_ (i:=2) (N:=some 15) (v:= ?_) (a':= ?_) #[false,true,true,false,false,false,false,false] rfl rfl (any_of HT_.out (by kernel_rfl)) (fun _ _ _ h=>h) (Or.inl ⟨by rfl,?_⟩) ?_ ?_
      rotate_left
      ·intro w'
       go_simp
       with_reducible rfl
      rotate_left
      ·simp only[Act.put,zA,zB,zC,i64_w,i32_w]
       rfl
      refine pure_ (i:=3) (N:=some 16) (v:= ?_) (a':= ?_) #[false,true,true,true,false,false,false,false] rfl rfl (any_of HT_.out (by kernel_rfl)) (fun _ _ _ h=>h) (Or.inl ⟨by rfl,?_⟩) ?_ ?_
      rotate_left
      ·intro w'
       go_simp
       with_reducible rfl
      rotate_left
      ·simp only[Act.put,zA,zB,zC,i64_w,i32_w]
       rfl
      refine pure_ (i:=4) (N:=some 17) (v:= ?_) (a':= ?_) #[false,true,true,true,true,false,false,false] rfl rfl (any_of HT_.out (by kernel_rfl)) (fun _ _ _ h=>h) (Or.inl ⟨by rfl,?_⟩) ?_ ?_
      rotate_left
      ·intro w'
       go_simp
       with_reducible rfl
      rotate_left
      ·simp only[Act.put,zA,zB,zC,i64_w,i32_w]
       rfl
      refine take_ (i:=0) (N:=some 13) (v:= ?_) (a':= ?_) #[true,true,true,true,true,false,false,false] rfl rfl (take_ofW HT_.out HW_.out (by kernel_rfl)) (fun _ _ _ h=>h) (Or.inl ⟨by rfl,?_⟩) hHeld ?_ ?_
      rotate_left
      ·rintro w' ⟨s0,s1,s2,s3,s4⟩
       go_simp
       with_reducible rfl
      rotate_left
      ·simp only[Act.put,zA,zB,zC,i64_w,i32_w]
       rfl
      refine take_ (i:=5) (N:=some 18) (v:= ?_) (a':= ?_) #[true,true,true,true,true,true,false,false] rfl rfl (take_ofW HT_.out HW_.out (by kernel_rfl)) (fun _ _ _ h=>h) (Or.inl ⟨by rfl,?_⟩) hHeld ?_ ?_
      rotate_left
      ·rintro w' ⟨s0,s1,s2,s3,s4⟩
       go_simp
       with_reducible rfl
      rotate_left
      ·simp only[Act.put,zA,zB,zC,i64_w,i32_w]
       rfl
      refine one_ (i:=6) (N:=some 19) #[true,true,true,true,true,true,true,false] rfl rfl (one_of HT_.out (by kernel_rfl)) (by decide) (fun K hK=> ?_)
      refine goes_ Tryz.func22 (by kernel_rfl) rfl #[.agg #[.int .i64 a0_0,.int .i64 a0_1,.int .i64 a0_2,.slice A0_3 l0_3.length c0_3],.int .i64 x6_1,.string (rdOf ByteArray.empty l1 x6_1)] (by rfl) rfl rfl (by (try simp only[List.map_toArray,List.map_cons,List.map_nil]);first|done|rfl|(simp only[List.length_drop,List.length_take];rfl)) ?_
      with_reducible refine(sluicegateref19_Good.calls a0_0 a0_1 a0_2 _ _ l0_3 x6_1 (rdOf ByteArray.empty l1 x6_1) true _ ?side1 ?side2 A6.out).mono ?_
      (case side1=>repeat (first|exact(Kd.C_below HR0_3.out HB.out)|(with_reducible refine Kd.C_alloc ?_ _)|(with_reducible refine Kd.C_drewN ?_ _)|(with_reducible refine Kd.C_drew ?_)))
      (case side2=>exact HC0_3.out)
      rintro e w9 ⟨rfl,hb⟩
      refine⟨_,rfl,?_⟩
      have n0_:=Aside0.mk (Kd.R_below (by (with_reducible repeat (first|apply Kd.R_alloc|apply Kd.R_drewN|apply Kd.R_drew));exact HO_5.out) hb)
      have n1_:=Aside0.mk (blk_below (g:=gb257) (o:=.cells #[.int .i64 a0_0,.int .i64 a0_1,.int .i64 a0_2,.slice A0_3 l0_3.length c0_3] 24 (0,0)) (by (with_reducible repeat (first|refine blk_drewN ?_ _|refine blk_drew ?_|refine blk_alloc ?_ _));exact BK257.out) hb)
      have n2_:=Aside0.mk (below_step (by repeat (first|(with_reducible first|exact HB.out|apply below_alloc|apply pw_below_drewN|apply below_drew1|refine below_set ?_ GE257.out)|exact HB.out)) hb)
      clear HO_5
      clear BK257
      clear HB
      have HO_5:=n0_
      have BK257:=n1_
      have HB:=n2_
      clear n0_ n1_ n2_
      (try clear hb)
      (try clear hb2)
      (try clear hk)
      (try clear hi)
      refine hK.out _ _ ⟨(blk_cell BK257.out 0).trans rfl,(blk_cell BK257.out 1).trans rfl,(blk_cell BK257.out 2).trans rfl,(blk_cell BK257.out 3).trans rfl,((HB.out.cell (World.block_lt_of_cell? w _ hw258_0)).trans hw258_0)⟩ (fun hHeld=> ?_)
      clear hK K
      refine norm_ (a':= ?_) ?_ ?_
      rotate_left
      ·show Act.put _ (some 19) _=_
       simp only[Act.put,zA,zB,zC,i64_w,i32_w]
       rfl
      refine pure_ (i:=7) (N:=some 20) (v:= ?_) (a':= ?_) #[true,true,true,true,true,true,true,true] rfl rfl (any_of HT_.out (by kernel_rfl)) (fun _ _ _ h=>h) (Or.inl ⟨by rfl,?_⟩) ?_ ?_
      rotate_left
      ·intro w'
       go_simp
       with_reducible rfl
      rotate_left
      ·simp only[Act.put,zA,zB,zC,i64_w,i32_w]
       rfl
      refine done_ (done_of HT_.out (by kernel_rfl)) ?_
      try go_wp2
      go_roundg k1
      case measure=>have:=HK1.out;omega
      case rel=>exact⟨(x5_1),(wrap64 (x6_1+1)),(by first|rfl|(simp;done)|(simp[*];done)),H',⟨by have:=HK1.out;omega⟩,⟨by (with_reducible repeat (first|apply Kd.R_alloc|apply Kd.R_drewN|apply Kd.R_drew));exact HO_5.out⟩,⟨by (with_reducible repeat (first|refine blk_drewN ?_ _|refine blk_drew ?_|refine blk_alloc ?_ _));exact BK257.out⟩,⟨by repeat (first|(with_reducible first|exact HB.out|apply below_alloc|apply pw_below_drewN|apply below_drew1|refine below_set ?_ GE257.out)|exact HB.out)⟩⟩
     ·replace c7:=Bool.eq_false_iff.mpr c7
      subst c7
      have H1:(if x5_1.length<17592186044416 then (sluicegateref19_Bad.l0 k1 l1 (x5_1++[x6_1]) (wrap64 (x6_1+1)) a0_0 a0_1 a0_2 l0_3)else (none))=some r:=by rw[if_neg (show ¬ (false=true)by decide)]at H;exact H
      clear H
      have H:=H1
      clear H1
      by_cases c10:x5_1.length<17592186044416
      ·rw[if_pos c10]at H
       have LMc10:=Aside0.mk c10
       clear c10
       obtain⟨y260,hy260⟩ : ∃ y_:List Int,y_=(x5_1++[x6_1]):=⟨_,rfl⟩
       replace H:(sluicegateref19_Bad.l0 k1 l1 y260 (wrap64 (x6_1+1)) a0_0 a0_1 a0_2 l0_3)=some r:=by first|(rw[hy260];with_reducible exact H)|(have H2_:=(Option.bind_some _ _).symm.trans H;rw[hy260];with_reducible exact H2_)|(have H2_:=(Option.bind_some _ _).symm.trans H;with_reducible exact H2_)|with_reducible exact H|(rw[hy260];exact H)|exact H
       have Ny260:=Aside0.mk hy260
       clear hy260
       have H':=Aside0.mk H
       clear H
       try go_wp2
       have n0_:=Aside0.mk (Kd.R_drew HO_5.out)
       have n1_:=Aside0.mk (blk_drew BK257.out)
       have n2_:=Aside0.mk (below_drew1 HB.out)
       clear HO_5
       clear BK257
       clear HB
       have HO_5:=n0_
       have BK257:=n1_
       have HB:=n2_
       clear n0_ n1_ n2_
       have p258:0≤(x6_1:Int):=of_decide_eq_true (by first|(with_reducible assumption)|assumption)
       have q258:x6_1<(l1.length:Int):=of_decide_eq_true (by first|(with_reducible assumption)|assumption)
       obtain⟨ad258,e258,hx258_0⟩:=Kd.at_string HR1.out x6_1 p258 q258
       have hw258_0:=hx258_0
       cases e258
       replace hx258_0:=(HB.out.cell (World.block_lt_of_cell? w _ hx258_0)).trans hx258_0
       replace p258:=eq_true p258
       replace q258:=eq_true q258
       refine start_ (n:=8) (S:=fun w'=>w'.cell? ⟨gb257,0,none⟩=some (.int .i64 a0_0)∧w'.cell? ⟨gb257,1,none⟩=some (.int .i64 a0_1)∧w'.cell? ⟨gb257,2,none⟩=some (.int .i64 a0_2)∧w'.cell? ⟨gb257,3,none⟩=some (.slice A0_3 l0_3.length c0_3)∧w'.cell? (ad258.add (x6_1).toNat)=some (.string (rdOf ByteArray.empty l1 x6_1))) (ds:=[]) #[false,false,false,false,false,false,false,false] (by kernel_rfl) rfl rfl ⟨(blk_cell BK257.out 0).trans rfl,(blk_cell BK257.out 1).trans rfl,(blk_cell BK257.out 2).trans rfl,(blk_cell BK257.out 3).trans rfl,((HB.out.cell (World.block_lt_of_cell? w _ hw258_0)).trans hw258_0)⟩ (fun hHeld=> ?_);refine with_tabW sluicegateref19_Bad.tab5 sluicegateref19_Bad.bits5 (fun HT_ HW_=> ?_)
       generalize wr.drew=w11 at HO_5 BK257 HB hx258_0 hHeld ⊢
       refine pure_ (i:=1) (N:=some 14) (v:= ?_) (a':= ?_) #[false,true,false,false,false,false,false,false] rfl rfl (any_of HT_.out (by kernel_rfl)) (fun _ _ _ h=>h) (Or.inl ⟨by rfl,?_⟩) ?_ ?_
       rotate_left
       ·intro w'
        go_simp
        with_reducible rfl
       rotate_left
       ·simp only[Act.put,zA,zB,zC,i64_w,i32_w]
        rfl
       refine pure_ (i:=2) (N:=some 15) (v:= ?_) (a':= ?_) #[false,true,true,false,false,false,false,false] rfl rfl (any_of HT_.out (by kernel_rfl)) (fun _ _ _ h=>h) (Or.inl ⟨by rfl,?_⟩) ?_ ?_
       rotate_left
       ·intro w'
        go_simp
        with_reducible rfl
       rotate_left
       ·simp only[Act.put,zA,zB,zC,i64_w,i32_w]
        rfl
       refine pure_ (i:=3) (N:=some 16) (v:= ?_) (a':= ?_) #[false,true,true,true,false,false,false,false] rfl rfl (any_of HT_.out (by kernel_rfl)) (fun _ _ _ h=>h) (Or.inl ⟨by rfl,?_⟩) ?_ ?_
       rotate_left
       ·intro w'
        go_simp
        with_reducible rfl
       rotate_left
       ·simp only[Act.put,zA,zB,zC,i64_w,i32_w]
        rfl
       refine pure_ (i:=4) (N:=some 17) (v:= ?_) (a':= ?_) #[false,true,true,true,true,false,false,false] rfl rfl (any_of HT_.out (by kernel_rfl)) (fun _ _ _ h=>h) (Or.inl ⟨by rfl,?_⟩) ?_ ?_
       rotate_left
       ·intro w'
        go_simp
        with_reducible rfl
       rotate_left
       ·simp only[Act.put,zA,zB,zC,i64_w,i32_w]
        rfl
       refine take_ (i:=0) (N:=some 13) (v:= ?_) (a':= ?_) #[true,true,true,true,true,false,false,false] rfl rfl (take_ofW HT_.out HW_.out (by kernel_rfl)) (fun _ _ _ h=>h) (Or.inl ⟨by rfl,?_⟩) hHeld ?_ ?_
       rotate_left
       ·rintro w' ⟨s0,s1,s2,s3,s4⟩
        go_simp
        with_reducible rfl
       rotate_left
       ·simp only[Act.put,zA,zB,zC,i64_w,i32_w]
        rfl
       refine take_ (i:=5) (N:=some 18) (v:= ?_) (a':= ?_) #[true,true,true,true,true,true,false,false] rfl rfl (take_ofW HT_.out HW_.out (by kernel_rfl)) (fun _ _ _ h=>h) (Or.inl ⟨by rfl,?_⟩) hHeld ?_ ?_
       rotate_left
       ·rintro w' ⟨s0,s1,s2,s3,s4⟩
        go_simp
        with_reducible rfl
       rotate_left
       ·simp only[Act.put,zA,zB,zC,i64_w,i32_w]
        rfl
       refine one_ (i:=6) (N:=some 19) #[true,true,true,true,true,true,true,false] rfl rfl (one_of HT_.out (by kernel_rfl)) (by decide) (fun K hK=> ?_)
       refine goes_ Tryz.func22 (by kernel_rfl) rfl #[.agg #[.int .i64 a0_0,.int .i64 a0_1,.int .i64 a0_2,.slice A0_3 l0_3.length c0_3],.int .i64 x6_1,.string (rdOf ByteArray.empty l1 x6_1)] (by rfl) rfl rfl (by (try simp only[List.map_toArray,List.map_cons,List.map_nil]);first|done|rfl|(simp only[List.length_drop,List.length_take];rfl)) ?_
       with_reducible refine(sluicegateref19_Good.calls a0_0 a0_1 a0_2 _ _ l0_3 x6_1 (rdOf ByteArray.empty l1 x6_1) false _ ?side1 ?side2 A6.out).mono ?_
       (case side1=>repeat (first|exact(Kd.C_below HR0_3.out HB.out)|(with_reducible refine Kd.C_alloc ?_ _)|(with_reducible refine Kd.C_drewN ?_ _)|(with_reducible refine Kd.C_drew ?_)))
       (case side2=>exact HC0_3.out)
       rintro e w12 ⟨rfl,hb⟩
       refine⟨_,rfl,?_⟩
       have n0_:=Aside0.mk (Kd.R_below (by (with_reducible repeat (first|apply Kd.R_alloc|apply Kd.R_drewN|apply Kd.R_drew));exact HO_5.out) hb)
       have n1_:=Aside0.mk (blk_below (g:=gb257) (o:=.cells #[.int .i64 a0_0,.int .i64 a0_1,.int .i64 a0_2,.slice A0_3 l0_3.length c0_3] 24 (0,0)) (by (with_reducible repeat (first|refine blk_drewN ?_ _|refine blk_drew ?_|refine blk_alloc ?_ _));exact BK257.out) hb)
       have n2_:=Aside0.mk (below_step (by repeat (first|(with_reducible first|exact HB.out|apply below_alloc|apply pw_below_drewN|apply below_drew1|refine below_set ?_ GE257.out)|exact HB.out)) hb)
       clear HO_5
       clear BK257
       clear HB
       have HO_5:=n0_
       have BK257:=n1_
       have HB:=n2_
       clear n0_ n1_ n2_
       (try clear hb)
       (try clear hb2)
       (try clear hk)
       (try clear hi)
       refine hK.out _ _ ⟨(blk_cell BK257.out 0).trans rfl,(blk_cell BK257.out 1).trans rfl,(blk_cell BK257.out 2).trans rfl,(blk_cell BK257.out 3).trans rfl,((HB.out.cell (World.block_lt_of_cell? w _ hw258_0)).trans hw258_0)⟩ (fun hHeld=> ?_)
       clear hK K
       refine norm_ (a':= ?_) ?_ ?_
       rotate_left
       ·show Act.put _ (some 19) _=_
        simp only[Act.put,zA,zB,zC,i64_w,i32_w]
        rfl
       refine pure_ (i:=7) (N:=some 20) (v:= ?_) (a':= ?_) #[true,true,true,true,true,true,true,true] rfl rfl (any_of HT_.out (by kernel_rfl)) (fun _ _ _ h=>h) (Or.inl ⟨by rfl,?_⟩) ?_ ?_
       rotate_left
       ·intro w'
        go_simp
        with_reducible rfl
       rotate_left
       ·simp only[Act.put,zA,zB,zC,i64_w,i32_w]
        rfl
       refine done_ (done_of HT_.out (by kernel_rfl)) ?_
       try go_wp2_with (first|((with_reducible refine gate_builtin (b:=.append) (xs:= #[.tmp 21,.tmp 23]) rfl ?_);at_builtin;refine Kd.R_append (Kd.int .i64) (w0:=w) w.heap.size rfl (.tmp 21) (.tmp 23) 34 3 (.int .i64 0) 8 rfl Tryz.underlying34 info3 rfl (by decide) (by omega) u5 x5_1 x6_1 [.int .i64 x6_1] (fun _=>True) (fun _=>False) rfl rfl ?aP (fun _ hk=>hk.elim) ?aF ?aO ?aB ?aS ?aL ?_;(case aP=>exact rfl);(case aB=>exact(by repeat (first|(with_reducible first|exact HB.out|apply below_alloc|apply pw_below_drewN|apply below_drew1|refine below_set ?_ GE257.out)|exact HB.out)));(case aF=>exact(fun _ _=>trivial));(case aO=>exact(by (with_reducible repeat (first|apply Kd.R_alloc|apply Kd.R_drewN|apply Kd.R_drew));exact HO_5.out));(case aS=>exact(below_size (by repeat (first|(with_reducible first|exact HB.out|apply below_alloc|apply pw_below_drewN|apply below_drew1|refine below_set ?_ GE257.out)|exact HB.out))));(case aL=>have:=LMc10.out;omega);intro v261 w13 ho hb hg hat;rw[←Ny260.out]at ho;have n0_:=Aside0.mk (blk_grown (g:=gb257) (o:=.cells #[.int .i64 a0_0,.int .i64 a0_1,.int .i64 a0_2,.slice A0_3 l0_3.length c0_3] 24 (0,0)) (by (with_reducible repeat (first|refine blk_drewN ?_ _|refine blk_drew ?_|refine blk_alloc ?_ _));exact BK257.out) hg (Kd.R_ne HO_5.out BK257.out (by decide)));have n1_:=Aside0.mk (hb);have n2_:=Aside0.mk (ho);clear BK257;clear HB;clear HO_5;have BK257:=n0_;have HB:=n1_;have HO262:=n2_;clear n0_ n1_ n2_;clear ho hb hg hat))
       go_roundg k1
       case measure=>have:=HK1.out;omega
       case rel=>exact⟨(y260),(wrap64 (x6_1+1)),(by first|rfl|(simp;done)|(simp[*];done)),H',⟨by have:=HK1.out;omega⟩,⟨by (with_reducible repeat (first|apply Kd.R_alloc|apply Kd.R_drewN|apply Kd.R_drew));exact HO262.out⟩,⟨by (with_reducible repeat (first|refine blk_drewN ?_ _|refine blk_drew ?_|refine blk_alloc ?_ _));exact BK257.out⟩,⟨by repeat (first|(with_reducible first|exact HB.out|apply below_alloc|apply pw_below_drewN|apply below_drew1|refine below_set ?_ GE257.out)|exact HB.out)⟩⟩
      ·rw[if_neg c10]at H
       exact absurd H (by simp)
    ·rw[if_neg c5]at H
     exact absurd H (by simp)
   ·rw[if_neg c4]at H
    have c4b0:decide (x6_1<(l1.length:Int))=false:=decide_eq_false c4
    clear c4
    obtain rfl:=Option.some.inj H
    go_wp2
    go_ret
    exact⟨_,by first|rfl|(simp[errW_none,errW_some]<;>rfl)|(simp[*,errW_none,errW_some]<;>rfl),by (with_reducible repeat (first|apply Kd.R_alloc|apply Kd.R_drewN|apply Kd.R_drew));exact HO_5.out,by repeat (first|(with_reducible first|exact HB.out|apply below_alloc|apply pw_below_drewN|apply below_drew1|refine below_set ?_ GE257.out)|exact HB.out)⟩
end Go.Proofs.YtdcfonmjbelgbaaGreatDoor.Q
end
