/- Lemmas for the law StripeReads, merged out of several texts and cut down to what it names, by a program of this session (some of the first ones are of the words that print.sh wrote for this claim). -/
import Derived.Test.YtdcfonmjbelgbaaGreatDoorKStripeReads1
import Derived.Test.YtdcfonmjbelgbaaGreatDoorKStripeReads2
import Derived.Test.YtdcfonmjbelgbaaGreatDoorKStripeReads3
import Derived.Test.YtdcfonmjbelgbaaGreatDoorKStripeReads4
import Derived.Test.YtdcfonmjbelgbaaGreatDoorKStripeReads5
import Derived.Test.YtdcfonmjbelgbaaGreatDoorKStripeReads6
import Derived.Test.YtdcfonmjbelgbaaGreatDoorKStripeReads7
set_option maxRecDepth 100000
set_option maxHeartbeats 8000000
set_option linter.unusedVariables false
set_option linter.unusedSimpArgs false
section
namespace Go.Proofs.YtdcfonmjbelgbaaGreatDoor.Q
open Go.RowKit YtdcfonmjbelgbaaGreatDoorW.PrintWords YtdcfonmjbelgbaaGreatDoorW.PrintLast YtdcfonmjbelgbaaGreatDoorW.PrintMore
attribute [local go_sem] max2_int min2_int max_two min_two max_three min_three max_four min_four
mutual
def sluicegateref19_Agrees.l0:Nat→List ByteArray→List ByteArray→Int→Int→Int→Int→Int→Int→List (S59)→Option (Bool)
 | 0,_,_,_,_,_,_,_,_,_=>none
 | k+1,x1,x7,x8,x9,x10,x264000,x264001,x264002,x264003=>if x10<(x1.length:Int)then (if x10<9 then (if x8=0 then (sluicegateref19_Agrees.j1 k x1 x7 x8 x9 x10 (decide (x9<6)) x264000 x264001 x264002 x264003)else (sluicegateref19_Agrees.j1 k x1 x7 x8 x9 x10 false x264000 x264001 x264002 x264003))else (sluicegateref19_Agrees.j1 k x1 x7 x8 x9 x10 false x264000 x264001 x264002 x264003))else (sluicegateref19_Agrees.j1 k x1 x7 x8 x9 x10 false x264000 x264001 x264002 x264003)
def sluicegateref19_Agrees.j1:Nat→List ByteArray→List ByteArray→Int→Int→Int→Bool→Int→Int→Int→List (S59)→Option (Bool)
 | 0,_,_,_,_,_,_,_,_,_,_=>none
 | k+1,x1,x7,x8,x9,x10,x32,x264000,x264001,x264002,x264003=>if x32=true then (if 0≤x10 then (if x10<(x1.length:Int)then ((sluicegateref19_Good.f x264000 x264001 x264002 x264003 x10 (rdOf ByteArray.empty x1 x10)).bind fun t269=>(if t269=true then (if x10<(x7.length:Int)then (if (rdOf ByteArray.empty x7 x10).toList=(rdOf ByteArray.empty x1 x10).toList then (sluicegateref19_Agrees.l0 k x1 x7 x8 (wrap64 (x9+1)) (wrap64 (x10+1)) x264000 x264001 x264002 x264003)else (some false))else (none))else (sluicegateref19_Agrees.l0 k x1 x7 x8 x9 (wrap64 (x10+1)) x264000 x264001 x264002 x264003)))else (none))else (none))else (if x8=0 then (some (x9==6))else (some false))
end
def sluicegateref19_Agrees.f (k:Nat) (a0_0:Int) (a0_1:Int) (a0_2:Int) (l0_3:List (S59)) (l1:List ByteArray) (a2:ByteArray):Option (Bool):=(sluicegateref19_Sectors.f k a0_0 a0_1 a0_2 l0_3 a2).bind fun bt264=>(sluicegateref19_Agrees.l0 k l1 bt264.1 bt264.2 0 0 a0_0 a0_1 a0_2 l0_3)
def sluicegateref19_Agrees.T8:Bool×List (List Nat×List Nat):=(true,[([],[]),([],[]),([0,1],[0,1]),([2],[2]),([],[]),([],[]),([4,5],[4,5]),([6],[6]),([3,7],[3,7])])
def sluicegateref19_Agrees.B8:List Nat:=[0,0,3,7,0,0,48,112,255]
theorem sluicegateref19_Agrees.tab8:rtab .any (opsOf Tryz.f16 8)=sluicegateref19_Agrees.T8:=by kernel_rfl
theorem sluicegateref19_Agrees.bits8:waitsOk sluicegateref19_Agrees.T8.2 sluicegateref19_Agrees.B8=true:=by kernel_rfl
theorem sluicegateref19_Agrees.calls (k:Nat) (a0_0:Int) (a0_1:Int) (a0_2:Int) (A0_3:Option Addr) (c0_3:Nat) (l0_3:List (S59)) (A1:Option Addr) (c1:Nat) (l1:List ByteArray) (a2:ByteArray) (r:Bool) (w:World) (hr0_3:Kd.C k59 w A0_3 l0_3.length l0_3) (hc0_3:l0_3.length≤c0_3) (hr1:Kd.C Kd.string w A1 l1.length l1) (hc1:l1.length≤c1) (h:sluicegateref19_Agrees.f k a0_0 a0_1 a0_2 l0_3 l1 a2=some r) :
  Calls Tryz.prog 16 #[.agg #[.int .i64 a0_0,.int .i64 a0_1,.int .i64 a0_2,.slice A0_3 l0_3.length c0_3],.slice A1 l1.length c1,.string a2] w fun e w'=>e = .returned (.bool r)∧Below w.heap.size w w':=by
 have hu24:=Tryz.underlying24
 have HR0_3:=Aside0.mk hr0_3
 have HC0_3:=Aside0.mk hc0_3
 clear hr0_3 hc0_3
 have HR1:=Aside0.mk hr1
 have HC1:=Aside0.mk hc1
 clear hr1 hc1
 have HB:=Aside0.mk (Below.refl w.heap.size w)
 have H:((sluicegateref19_Sectors.f k a0_0 a0_1 a0_2 l0_3 a2).bind fun bt264=>(sluicegateref19_Agrees.l0 k l1 bt264.1 bt264.2 0 0 a0_0 a0_1 a0_2 l0_3))=some r:=h
 clear h
 replace H:=Option.bind_eq_some_iff.mp H
 obtain⟨⟨t264,t267⟩,A40,H⟩:=H
 replace H:(sluicegateref19_Agrees.l0 k l1 t264 t267 0 0 a0_0 a0_1 a0_2 l0_3)=some r:=H
 have A4:=Aside0.mk A40
 clear A40
 have H':=Aside0.mk H
 clear H
 go_enter Tryz.func16,Tryz.ntmps16
 go_wp2_with (first|((with_reducible refine gate_dst (N:=3) rfl ?_);refine box_event ?hg (N:=3) ?hd (cs:= #[.int .i64 a0_0,.int .i64 a0_1,.int .i64 a0_2,.slice A0_3 l0_3.length c0_3]) (t:=24) ?hr ?_;(case hd=>rfl);(case hg=>rfl);(case hr=>first|(go_simp;done)|(go_simp;rfl));intro gb263 hg w5 hbox hb;have n0_:=Aside0.mk (below_step (by repeat (first|(with_reducible first|exact HB.out|apply below_alloc|apply pw_below_drewN|apply below_drew1)|exact HB.out)) hb);have n1_:=Aside0.mk (hbox);have n2_:=Aside0.mk ((by rw[hg];exact(below_size (by repeat (first|(with_reducible first|exact HB.out|apply below_alloc|apply pw_below_drewN|apply below_drew1)|exact HB.out))):w.heap.size≤gb263));have n3_:=Aside0.mk ((by rw[hg];exact(below_size (by repeat (first|(with_reducible first|exact HB.out|apply below_alloc|apply pw_below_drewN|apply below_drew1)|exact HB.out))):w.heap.size≤gb263));clear HB;have HB:=n0_;have BK263:=n1_;have GW263:=n2_;have GE263:=n3_;clear n0_ n1_ n2_ n3_;clear hb hbox hg;have hcz6_0:w5.cell? ⟨gb263,0,none⟩=some (.int .i64 a0_0):=(blk_cell BK263.out 0).trans rfl;have hcz6_1:w5.cell? ⟨gb263,1,none⟩=some (.int .i64 a0_1):=(blk_cell BK263.out 1).trans rfl;have hcz6_2:w5.cell? ⟨gb263,2,none⟩=some (.int .i64 a0_2):=(blk_cell BK263.out 2).trans rfl;have hcz6_3:w5.cell? ⟨gb263,3,none⟩=some (.slice A0_3 l0_3.length c0_3):=(blk_cell BK263.out 3).trans rfl;have hfz6_0:=blk_frozen BK263.out 0;have hfz6_1:=blk_frozen BK263.out 1;have hfz6_2:=blk_frozen BK263.out 2;have hfz6_3:=blk_frozen BK263.out 3)|((with_reducible refine gate_callee (f:=9) rfl ?_);refine goesL_ (some 14) rfl rfl Tryz.func9 (by kernel_rfl) rfl #[.agg #[.int .i64 a0_0,.int .i64 a0_1,.int .i64 a0_2,.slice A0_3 l0_3.length c0_3],.string a2] rfl (by (try simp only[List.map_toArray,List.map_cons,List.map_nil]);first|done|rfl|(simp only[List.length_drop,List.length_take];rfl)) ?_;(with_reducible refine(sluicegateref19_Sectors.calls k a0_0 a0_1 a0_2 _ _ l0_3 a2 t264 t267 _ ?side1 ?side2 A4.out).mono ?_);(case side1=>repeat (first|exact(Kd.C_below HR0_3.out HB.out)|(with_reducible refine Kd.C_alloc ?_ _)|(with_reducible refine Kd.C_drewN ?_ _)|(with_reducible refine Kd.C_drew ?_)));(case side2=>exact HC0_3.out);rintro e w7 ⟨v265,rfl,ho0,hb⟩;refine⟨_,rfl,?_⟩;have n0_:=Aside0.mk (Kd.R_lower ho0 (below_size (by repeat (first|(with_reducible first|exact HB.out|apply below_alloc|apply pw_below_drewN|apply below_drew1|refine below_set ?_ GE263.out)|exact HB.out))));have n1_:=Aside0.mk (blk_below (g:=gb263) (o:=.cells #[.int .i64 a0_0,.int .i64 a0_1,.int .i64 a0_2,.slice A0_3 l0_3.length c0_3] 24 (0,0)) (by (with_reducible repeat (first|refine blk_drewN ?_ _|refine blk_drew ?_|refine blk_alloc ?_ _));exact BK263.out) hb);have n2_:=Aside0.mk (below_step (by repeat (first|(with_reducible first|exact HB.out|apply below_alloc|apply pw_below_drewN|apply below_drew1|refine below_set ?_ GE263.out)|exact HB.out)) hb);clear BK263;clear HB;have HO266:=n0_;have BK263:=n1_;have HB:=n2_;clear n0_ n1_ n2_;(try clear hb);(try clear hb2);(try clear hk);(try clear hi);(try clear ho0)))
 go_loopg [9,10] k (fun kq v9 v10 w'=> ∃ (x9_1:Int) (x10_1:Int),v9 = .int .i64 x9_1∧v10 = .int .i64 x10_1∧Aside0 (sluicegateref19_Agrees.l0 kq l1 t264 t267 x9_1 x10_1 a0_0 a0_1 a0_2 l0_3=some r)∧Aside0 (kq≤k)∧Aside0 (Kd.R Kd.string 9 w' w.heap.size (fun _=>True) v265 t264)∧Aside0 (w'.heap[gb263]? = some (.cells #[.int .i64 a0_0,.int .i64 a0_1,.int .i64 a0_2,(.slice A0_3 l0_3.length c0_3)] 24 (0,0)))∧Aside0 (Below w.heap.size w w'))
 case atStart=>exact⟨(0),(0),(by first|rfl|(simp;done)|(simp[*];done)),(by first|rfl|(simp;done)|(simp[*];done)),H',⟨Nat.le_refl _⟩,⟨by (with_reducible repeat (first|apply Kd.R_alloc|apply Kd.R_drewN|apply Kd.R_drew));exact HO266.out⟩,⟨by (with_reducible repeat (first|refine blk_drewN ?_ _|refine blk_drew ?_|refine blk_alloc ?_ _));exact BK263.out⟩,⟨by repeat (first|(with_reducible first|exact HB.out|apply below_alloc|apply pw_below_drewN|apply below_drew1|refine below_set ?_ GE263.out)|exact HB.out)⟩⟩
 case round=>
  clear H'
  try clear c1
  try clear p2
  try clear hcz6_0
  try clear hcz6_1
  try clear hcz6_2
  try clear hcz6_3
  try clear hfz6_0
  try clear hfz6_1
  try clear hfz6_2
  try clear hfz6_3
  obtain⟨x9_1,x10_1,rfl,rfl,HA,HK1,HO_7,BK263,HB⟩:=hrel
  cases gk with
  | zero=>exact absurd HA.out (by simp[sluicegateref19_Agrees.l0])
  | succ k1=>
   have H:=HA.out
   clear HA
   simp only[sluicegateref19_Agrees.l0]at H
   have HC8:=Aside0.mk H
   clear H
   go_upto_region 4 with (fail)
   go_cut [32] (fun v32 wc=> ∃ (kq:Nat) (x32_7:Bool),v32 = .bool x32_7∧Aside0 (sluicegateref19_Agrees.j1 kq l1 t264 t267 x9_1 x10_1 x32_7 a0_0 a0_1 a0_2 l0_3=some r)∧Aside0 (kq≤k1)∧Aside0 (Kd.R Kd.string 9 wc w.heap.size (fun _=>True) v265 t264)∧Aside0 (wc.heap[gb263]? = some (.cells #[.int .i64 a0_0,.int .i64 a0_1,.int .i64 a0_2,(.slice A0_3 l0_3.length c0_3)] 24 (0,0)))∧Aside0 (Below w.heap.size w wc))
   case first=>
    have H:=HC8.out
    clear HC8
    by_cases c9:x10_1<(l1.length:Int)
    ·rw[if_pos c9]at H
     have c9b0:decide (x10_1<(l1.length:Int))=true:=decide_eq_true c9
     clear c9
     (first|rw[c9b0]|(simp only[i64_w,i32_w];rw[c9b0])|skip)
     by_cases c10:x10_1<9
     ·rw[if_pos c10]at H
      have c10b0:decide (x10_1<9)=true:=decide_eq_true c10
      clear c10
      by_cases c11:t267=0
      ·rw[if_pos c11]at H
       have c11b0:(t267==0)=true:=beq_iff_eq.mpr c11
       have c11b1:(t267 != 0)=false:=bne_eq_false_iff_eq.mpr c11
       clear c11
       have H':=Aside0.mk H
       clear H
       go_wp2
       go_meet
       case rel=>exact⟨_,(decide (x9_1<6)),(by first|rfl|(simp;done)|(simp[*];done)),H',⟨by have:=HK1.out;first|omega|exact Nat.le_refl _⟩,⟨by (with_reducible repeat (first|apply Kd.R_alloc|apply Kd.R_drewN|apply Kd.R_drew));exact HO_7.out⟩,⟨by (with_reducible repeat (first|refine blk_drewN ?_ _|refine blk_drew ?_|refine blk_alloc ?_ _));exact BK263.out⟩,⟨by repeat (first|(with_reducible first|exact HB.out|apply below_alloc|apply pw_below_drewN|apply below_drew1|refine below_set ?_ GE263.out)|exact HB.out)⟩⟩
      ·rw[if_neg c11]at H
       have c11b0:(t267==0)=false:=beq_eq_false_iff_ne.mpr c11
       have c11b1:(t267 != 0)=true:=bne_iff_ne.mpr c11
       have H':=Aside0.mk H
       clear H
       go_wp2
       go_meet
       case rel=>exact⟨_,(false),(by first|rfl|(simp;done)|(simp[*];done)),H',⟨by have:=HK1.out;first|omega|exact Nat.le_refl _⟩,⟨by (with_reducible repeat (first|apply Kd.R_alloc|apply Kd.R_drewN|apply Kd.R_drew));exact HO_7.out⟩,⟨by (with_reducible repeat (first|refine blk_drewN ?_ _|refine blk_drew ?_|refine blk_alloc ?_ _));exact BK263.out⟩,⟨by repeat (first|(with_reducible first|exact HB.out|apply below_alloc|apply pw_below_drewN|apply below_drew1|refine below_set ?_ GE263.out)|exact HB.out)⟩⟩
     ·rw[if_neg c10]at H
      have c10b0:decide (x10_1<9)=false:=decide_eq_false c10
      clear c10
      have H':=Aside0.mk H
      clear H
      go_wp2
      go_meet
      case rel=>exact⟨_,(false),(by first|rfl|(simp;done)|(simp[*];done)),H',⟨by have:=HK1.out;first|omega|exact Nat.le_refl _⟩,⟨by (with_reducible repeat (first|apply Kd.R_alloc|apply Kd.R_drewN|apply Kd.R_drew));exact HO_7.out⟩,⟨by (with_reducible repeat (first|refine blk_drewN ?_ _|refine blk_drew ?_|refine blk_alloc ?_ _));exact BK263.out⟩,⟨by repeat (first|(with_reducible first|exact HB.out|apply below_alloc|apply pw_below_drewN|apply below_drew1|refine below_set ?_ GE263.out)|exact HB.out)⟩⟩
    ·rw[if_neg c9]at H
     have c9b0:decide (x10_1<(l1.length:Int))=false:=decide_eq_false c9
     clear c9
     (first|rw[c9b0]|(simp only[i64_w,i32_w];rw[c9b0])|skip)
     have H':=Aside0.mk H
     clear H
     go_wp2
     go_meet
     case rel=>exact⟨_,(false),(by first|rfl|(simp;done)|(simp[*];done)),H',⟨by have:=HK1.out;first|omega|exact Nat.le_refl _⟩,⟨by (with_reducible repeat (first|apply Kd.R_alloc|apply Kd.R_drewN|apply Kd.R_drew));exact HO_7.out⟩,⟨by (with_reducible repeat (first|refine blk_drewN ?_ _|refine blk_drew ?_|refine blk_alloc ?_ _));exact BK263.out⟩,⟨by repeat (first|(with_reducible first|exact HB.out|apply below_alloc|apply pw_below_drewN|apply below_drew1|refine below_set ?_ GE263.out)|exact HB.out)⟩⟩
   case rest=>
    clear HC8
    try clear c1
    try clear p2
    try clear c9
    try clear c9b0
    try clear c10
    try clear c10b0
    try clear c11
    try clear c11b0
    try clear c11b1
    try clear hcz6_0
    try clear hcz6_1
    try clear hcz6_2
    try clear hcz6_3
    try clear hfz6_0
    try clear hfz6_1
    try clear hfz6_2
    try clear hfz6_3
    try clear p2
    obtain⟨kq,x32_7,rfl,HA,HJ7,HO_7,BK263,HB⟩:=hcut
    cases kq with
    | zero=>exact absurd HA.out (by simp[sluicegateref19_Agrees.j1])
    | succ kj7=>
     have H:=HA.out
     clear HA
     simp only[sluicegateref19_Agrees.j1]at H
     by_cases c12:x32_7=true
     ·subst c12
      have H1:(if 0≤x10_1 then (if x10_1<(l1.length:Int)then ((sluicegateref19_Good.f a0_0 a0_1 a0_2 l0_3 x10_1 (rdOf ByteArray.empty l1 x10_1)).bind fun t269=>(if t269=true then (if x10_1<(t264.length:Int)then (if (rdOf ByteArray.empty t264 x10_1).toList=(rdOf ByteArray.empty l1 x10_1).toList then (sluicegateref19_Agrees.l0 kj7 l1 t264 t267 (wrap64 (x9_1+1)) (wrap64 (x10_1+1)) a0_0 a0_1 a0_2 l0_3)else (some false))else (none))else (sluicegateref19_Agrees.l0 kj7 l1 t264 t267 x9_1 (wrap64 (x10_1+1)) a0_0 a0_1 a0_2 l0_3)))else (none))else (none))=some r:=by rw[if_pos rfl]at H;exact H
      clear H
      have H:=H1
      clear H1
      by_cases c13:0≤x10_1
      ·rw[if_pos c13]at H
       have c13b0:decide (0≤x10_1)=true:=decide_eq_true c13
       clear c13
       by_cases c14:x10_1<(l1.length:Int)
       ·rw[if_pos c14]at H
        have c14b0:decide (x10_1<(l1.length:Int))=true:=decide_eq_true c14
        clear c14
        replace H:=Option.bind_eq_some_iff.mp H
        obtain⟨t269,A150,H⟩:=H
        replace H:(if t269=true then (if x10_1<(t264.length:Int)then (if (rdOf ByteArray.empty t264 x10_1).toList=(rdOf ByteArray.empty l1 x10_1).toList then (sluicegateref19_Agrees.l0 kj7 l1 t264 t267 (wrap64 (x9_1+1)) (wrap64 (x10_1+1)) a0_0 a0_1 a0_2 l0_3)else (some false))else (none))else (sluicegateref19_Agrees.l0 kj7 l1 t264 t267 x9_1 (wrap64 (x10_1+1)) a0_0 a0_1 a0_2 l0_3))=some r:=H
        have A15:=Aside0.mk A150
        clear A150
        by_cases c16:t269=true
        ·subst c16
         have H1:(if x10_1<(t264.length:Int)then (if (rdOf ByteArray.empty t264 x10_1).toList=(rdOf ByteArray.empty l1 x10_1).toList then (sluicegateref19_Agrees.l0 kj7 l1 t264 t267 (wrap64 (x9_1+1)) (wrap64 (x10_1+1)) a0_0 a0_1 a0_2 l0_3)else (some false))else (none))=some r:=by rw[if_pos rfl]at H;exact H
         clear H
         have H:=H1
         clear H1
         by_cases c17:x10_1<(t264.length:Int)
         ·rw[if_pos c17]at H
          have c17b0:decide (x10_1<(t264.length:Int))=true:=decide_eq_true c17
          clear c17
          by_cases c18:(rdOf ByteArray.empty t264 x10_1).toList=(rdOf ByteArray.empty l1 x10_1).toList
          ·rw[if_pos c18]at H
           have c18b0:((rdOf ByteArray.empty t264 x10_1).toList==(rdOf ByteArray.empty l1 x10_1).toList)=true:=beq_iff_eq.mpr c18
           have c18b1:((rdOf ByteArray.empty t264 x10_1).toList != (rdOf ByteArray.empty l1 x10_1).toList)=false:=bne_eq_false_iff_eq.mpr c18
           clear c18
           have H':=Aside0.mk H
           clear H
           try go_wp2
           have n0_:=Aside0.mk (Kd.R_drew HO_7.out)
           have n1_:=Aside0.mk (blk_drew BK263.out)
           have n2_:=Aside0.mk (below_drew1 HB.out)
           clear HO_7
           clear BK263
           clear HB
           have HO_7:=n0_
           have BK263:=n1_
           have HB:=n2_
           clear n0_ n1_ n2_
           have p268:0≤(x10_1:Int):=of_decide_eq_true (by first|(with_reducible assumption)|assumption)
           have q268:x10_1<(l1.length:Int):=of_decide_eq_true (by first|(with_reducible assumption)|assumption)
           obtain⟨ad268,e268,hx268_0⟩:=Kd.at_string HR1.out x10_1 p268 q268
           have hw268_0:=hx268_0
           cases e268
           replace hx268_0:=(HB.out.cell (World.block_lt_of_cell? w _ hx268_0)).trans hx268_0
           replace p268:=eq_true p268
           replace q268:=eq_true q268
           refine start_ (n:=7) (S:=fun w'=>w'.cell? ⟨gb263,0,none⟩=some (.int .i64 a0_0)∧w'.cell? ⟨gb263,1,none⟩=some (.int .i64 a0_1)∧w'.cell? ⟨gb263,2,none⟩=some (.int .i64 a0_2)∧w'.cell? ⟨gb263,3,none⟩=some (.slice A0_3 l0_3.length c0_3)∧w'.cell? (ad268.add (x10_1).toNat)=some (.string (rdOf ByteArray.empty l1 x10_1))) (ds:=[]) #[false,false,false,false,false,false,false] (by kernel_rfl) rfl rfl ⟨(blk_cell BK263.out 0).trans rfl,(blk_cell BK263.out 1).trans rfl,(blk_cell BK263.out 2).trans rfl,(blk_cell BK263.out 3).trans rfl,((HB.out.cell (World.block_lt_of_cell? w _ hw268_0)).trans hw268_0)⟩ (fun hHeld=> ?_)
           generalize wc.drew=w19 at HO_7 BK263 HB hx268_0 hHeld ⊢
           refine pure_ (i:=1) (N:=some 36) (v:= ?_) (a':= ?_) #[false,true,false,false,false,false,false] rfl rfl (by kernel_rfl) (fun _ _ _ h=>h) (Or.inl ⟨by rfl,?_⟩) ?_ ?_
           rotate_left
           ·intro w'
            go_simp
            with_reducible rfl
           rotate_left
           ·simp only[Act.put,zA,zB,zC,i64_w,i32_w]
            rfl
           refine pure_ (i:=2) (N:=some 37) (v:= ?_) (a':= ?_) #[false,true,true,false,false,false,false] rfl rfl (by kernel_rfl) (fun _ _ _ h=>h) (Or.inl ⟨by rfl,?_⟩) ?_ ?_
           rotate_left
           ·intro w'
            go_simp
            with_reducible rfl
           rotate_left
           ·simp only[Act.put,zA,zB,zC,i64_w,i32_w]
            rfl
           refine pure_ (i:=3) (N:=some 38) (v:= ?_) (a':= ?_) #[false,true,true,true,false,false,false] rfl rfl (by kernel_rfl) (fun _ _ _ h=>h) (Or.inl ⟨by rfl,?_⟩) ?_ ?_
           rotate_left
           ·intro w'
            go_simp
            with_reducible rfl
           rotate_left
           ·simp only[Act.put,zA,zB,zC,i64_w,i32_w]
            rfl
           refine pure_ (i:=4) (N:=some 39) (v:= ?_) (a':= ?_) #[false,true,true,true,true,false,false] rfl rfl (by kernel_rfl) (fun _ _ _ h=>h) (Or.inl ⟨by rfl,?_⟩) ?_ ?_
           rotate_left
           ·intro w'
            go_simp
            with_reducible rfl
           rotate_left
           ·simp only[Act.put,zA,zB,zC,i64_w,i32_w]
            rfl
           refine take_ (i:=0) (N:=some 35) (v:= ?_) (a':= ?_) #[true,true,true,true,true,false,false] rfl rfl (by kernel_rfl) (fun _ _ _ h=>h) (Or.inl ⟨by rfl,?_⟩) hHeld ?_ ?_
           rotate_left
           ·rintro w' ⟨s0,s1,s2,s3,s4⟩
            go_simp
            with_reducible rfl
           rotate_left
           ·simp only[Act.put,zA,zB,zC,i64_w,i32_w]
            rfl
           refine take_ (i:=5) (N:=some 40) (v:= ?_) (a':= ?_) #[true,true,true,true,true,true,false] rfl rfl (by kernel_rfl) (fun _ _ _ h=>h) (Or.inl ⟨by rfl,?_⟩) hHeld ?_ ?_
           rotate_left
           ·rintro w' ⟨s0,s1,s2,s3,s4⟩
            go_simp
            with_reducible rfl
           rotate_left
           ·simp only[Act.put,zA,zB,zC,i64_w,i32_w]
            rfl
           refine one_ (i:=6) (N:=some 41) #[true,true,true,true,true,true,true] rfl rfl (by kernel_rfl) (by decide) (fun K hK=> ?_)
           refine goes_ Tryz.func22 (by kernel_rfl) rfl #[.agg #[.int .i64 a0_0,.int .i64 a0_1,.int .i64 a0_2,.slice A0_3 l0_3.length c0_3],.int .i64 x10_1,.string (rdOf ByteArray.empty l1 x10_1)] (by rfl) rfl rfl (by (try simp only[List.map_toArray,List.map_cons,List.map_nil]);first|done|rfl|(simp only[List.length_drop,List.length_take];rfl)) ?_
           with_reducible refine(sluicegateref19_Good.calls a0_0 a0_1 a0_2 _ _ l0_3 x10_1 (rdOf ByteArray.empty l1 x10_1) true _ ?side1 ?side2 A15.out).mono ?_
           (case side1=>repeat (first|exact(Kd.C_below HR0_3.out HB.out)|(with_reducible refine Kd.C_alloc ?_ _)|(with_reducible refine Kd.C_drewN ?_ _)|(with_reducible refine Kd.C_drew ?_)))
           (case side2=>exact HC0_3.out)
           rintro e w20 ⟨rfl,hb⟩
           refine⟨_,rfl,?_⟩
           have n0_:=Aside0.mk (Kd.R_below (by (with_reducible repeat (first|apply Kd.R_alloc|apply Kd.R_drewN|apply Kd.R_drew));exact HO_7.out) hb)
           have n1_:=Aside0.mk (blk_below (g:=gb263) (o:=.cells #[.int .i64 a0_0,.int .i64 a0_1,.int .i64 a0_2,.slice A0_3 l0_3.length c0_3] 24 (0,0)) (by (with_reducible repeat (first|refine blk_drewN ?_ _|refine blk_drew ?_|refine blk_alloc ?_ _));exact BK263.out) hb)
           have n2_:=Aside0.mk (below_step (by repeat (first|(with_reducible first|exact HB.out|apply below_alloc|apply pw_below_drewN|apply below_drew1|refine below_set ?_ GE263.out)|exact HB.out)) hb)
           clear HO_7
           clear BK263
           clear HB
           have HO_7:=n0_
           have BK263:=n1_
           have HB:=n2_
           clear n0_ n1_ n2_
           (try clear hb)
           (try clear hb2)
           (try clear hk)
           (try clear hi)
           refine hK.out _ _ ⟨(blk_cell BK263.out 0).trans rfl,(blk_cell BK263.out 1).trans rfl,(blk_cell BK263.out 2).trans rfl,(blk_cell BK263.out 3).trans rfl,((HB.out.cell (World.block_lt_of_cell? w _ hw268_0)).trans hw268_0)⟩ (fun hHeld=> ?_)
           clear hK K
           refine norm_ (a':= ?_) ?_ ?_
           rotate_left
           ·show Act.put _ (some 41) _=_
            simp only[Act.put,zA,zB,zC,i64_w,i32_w]
            rfl
           refine done_ (by kernel_rfl) ?_
           try go_wp2
           have n0_:=Aside0.mk (Kd.R_drew HO_7.out)
           have n1_:=Aside0.mk (blk_drew BK263.out)
           have n2_:=Aside0.mk (below_drew1 HB.out)
           clear HO_7
           clear BK263
           clear HB
           have HO_7:=n0_
           have BK263:=n1_
           have HB:=n2_
           clear n0_ n1_ n2_
           obtain⟨Ao22,co22,eo22⟩:=Kd.R_slice HO_7.out
           (first|subst eo22|(injection eo22 with f1_ f2_ f3_;have f4_:=f1_.symm;have f5_:=f3_.symm;clear f1_ f2_ f3_;subst f4_;subst f5_))
           have p270:0≤(x10_1:Int):=of_decide_eq_true (by first|(with_reducible assumption)|assumption)
           have q270:x10_1<(t264.length:Int):=of_decide_eq_true (by first|(with_reducible assumption)|assumption)
           obtain⟨ad270,e270,hx270_0⟩:=Kd.at_string (Kd.R_reads' HO_7.out).2.2 x10_1 p270 q270
           cases e270
           replace p270:=eq_true p270
           replace q270:=eq_true q270
           have p271:0≤(x10_1:Int):=of_decide_eq_true (by first|(with_reducible assumption)|assumption)
           have q271:x10_1<(l1.length:Int):=of_decide_eq_true (by first|(with_reducible assumption)|assumption)
           obtain⟨ad271,e271,hx271_0⟩:=Kd.at_string HR1.out x10_1 p271 q271
           have hw271_0:=hx271_0
           obtain rfl:ad268=ad271:=(by injection e271)
           replace hx271_0:=(HB.out.cell (World.block_lt_of_cell? w _ hx271_0)).trans hx271_0
           replace p271:=eq_true p271
           replace q271:=eq_true q271
           refine start_ (n:=9) (S:=fun w'=>w'.cell? (ad270.add (x10_1).toNat)=some (.string (rdOf ByteArray.empty t264 x10_1))∧w'.cell? (ad268.add (x10_1).toNat)=some (.string (rdOf ByteArray.empty l1 x10_1))) (ds:=[]) #[false,false,false,false,false,false,false,false,false] (by kernel_rfl) rfl rfl ⟨hx270_0,((HB.out.cell (World.block_lt_of_cell? w _ hw271_0)).trans hw271_0)⟩ (fun hHeld=> ?_);refine with_tabW sluicegateref19_Agrees.tab8 sluicegateref19_Agrees.bits8 (fun HT_ HW_=> ?_)
           generalize w20.drew=w21 at HO_7 BK263 HB hx270_0 hx271_0 hHeld ⊢
           refine pure_ (i:=0) (N:=some 44) (v:= ?_) (a':= ?_) #[true,false,false,false,false,false,false,false,false] rfl rfl (any_of HT_.out (by kernel_rfl)) (fun _ _ _ h=>h) (Or.inl ⟨by rfl,?_⟩) ?_ ?_
           rotate_left
           ·intro w'
            go_simp
            with_reducible rfl
           rotate_left
           ·simp only[Act.put,zA,zB,zC,i64_w,i32_w]
            rfl
           refine pure_ (i:=1) (N:=some 45) (v:= ?_) (a':= ?_) #[true,true,false,false,false,false,false,false,false] rfl rfl (any_of HT_.out (by kernel_rfl)) (fun _ _ _ h=>h) (Or.inl ⟨by rfl,?_⟩) ?_ ?_
           rotate_left
           ·intro w'
            go_simp
            with_reducible rfl
           rotate_left
           ·simp only[Act.put,zA,zB,zC,i64_w,i32_w]
            rfl
           refine pure_ (i:=2) (N:=some 46) (v:= ?_) (a':= ?_) #[true,true,true,false,false,false,false,false,false] rfl rfl (any_of HT_.out (by kernel_rfl)) (fun _ _ _ h=>h) (Or.inl ⟨by rfl,?_⟩) ?_ ?_
           rotate_left
           ·intro w'
            go_simp
            with_reducible rfl
           rotate_left
           ·simp only[Act.put,zA,zB,zC,i64_w,i32_w]
            rfl
           refine pure_ (i:=4) (N:=some 48) (v:= ?_) (a':= ?_) #[true,true,true,false,true,false,false,false,false] rfl rfl (any_of HT_.out (by kernel_rfl)) (fun _ _ _ h=>h) (Or.inl ⟨by rfl,?_⟩) ?_ ?_
           rotate_left
           ·intro w'
            go_simp
            with_reducible rfl
           rotate_left
           ·simp only[Act.put,zA,zB,zC,i64_w,i32_w]
            rfl
           refine pure_ (i:=5) (N:=some 49) (v:= ?_) (a':= ?_) #[true,true,true,false,true,true,false,false,false] rfl rfl (any_of HT_.out (by kernel_rfl)) (fun _ _ _ h=>h) (Or.inl ⟨by rfl,?_⟩) ?_ ?_
           rotate_left
           ·intro w'
            go_simp
            with_reducible rfl
           rotate_left
           ·simp only[Act.put,zA,zB,zC,i64_w,i32_w]
            rfl
           refine pure_ (i:=6) (N:=some 50) (v:= ?_) (a':= ?_) #[true,true,true,false,true,true,true,false,false] rfl rfl (any_of HT_.out (by kernel_rfl)) (fun _ _ _ h=>h) (Or.inl ⟨by rfl,?_⟩) ?_ ?_
           rotate_left
           ·intro w'
            go_simp
            with_reducible rfl
           rotate_left
           ·simp only[Act.put,zA,zB,zC,i64_w,i32_w]
            rfl
           refine take_ (i:=3) (N:=some 47) (v:= ?_) (a':= ?_) #[true,true,true,true,true,true,true,false,false] rfl rfl (take_ofW HT_.out HW_.out (by kernel_rfl)) (fun _ _ _ h=>h) (Or.inl ⟨by rfl,?_⟩) hHeld ?_ ?_
           rotate_left
           ·rintro w' ⟨s0,s1⟩
            go_simp
            with_reducible rfl
           rotate_left
           ·simp only[Act.put,zA,zB,zC,i64_w,i32_w]
            rfl
           refine take_ (i:=7) (N:=some 51) (v:= ?_) (a':= ?_) #[true,true,true,true,true,true,true,true,false] rfl rfl (take_ofW HT_.out HW_.out (by kernel_rfl)) (fun _ _ _ h=>h) (Or.inl ⟨by rfl,?_⟩) hHeld ?_ ?_
           rotate_left
           ·rintro w' ⟨s0,s1⟩
            go_simp
            with_reducible rfl
           rotate_left
           ·simp only[Act.put,zA,zB,zC,i64_w,i32_w]
            rfl
           refine pure_ (i:=8) (N:=some 52) (v:= ?_) (a':= ?_) #[true,true,true,true,true,true,true,true,true] rfl rfl (any_of HT_.out (by kernel_rfl)) (fun _ _ _ h=>h) (Or.inl ⟨by rfl,?_⟩) ?_ ?_
           rotate_left
           ·intro w'
            go_simp
            with_reducible rfl
           rotate_left
           ·simp only[Act.put,zA,zB,zC,i64_w,i32_w]
            rfl
           refine done_ (done_of HT_.out (by kernel_rfl)) ?_
           try go_wp2
           go_roundg kj7
           case measure=>have:=HK1.out;have:=HJ7.out;omega
           case rel=>exact⟨(wrap64 (x9_1+1)),(wrap64 (x10_1+1)),(by first|rfl|(simp;done)|(simp[*];done)),(by first|rfl|(simp;done)|(simp[*];done)),H',⟨by have:=HK1.out;have:=HJ7.out;omega⟩,⟨by (with_reducible repeat (first|apply Kd.R_alloc|apply Kd.R_drewN|apply Kd.R_drew));exact HO_7.out⟩,⟨by (with_reducible repeat (first|refine blk_drewN ?_ _|refine blk_drew ?_|refine blk_alloc ?_ _));exact BK263.out⟩,⟨by repeat (first|(with_reducible first|exact HB.out|apply below_alloc|apply pw_below_drewN|apply below_drew1|refine below_set ?_ GE263.out)|exact HB.out)⟩⟩
          ·rw[if_neg c18]at H
           have c18b0:((rdOf ByteArray.empty t264 x10_1).toList==(rdOf ByteArray.empty l1 x10_1).toList)=false:=beq_eq_false_iff_ne.mpr c18
           have c18b1:((rdOf ByteArray.empty t264 x10_1).toList != (rdOf ByteArray.empty l1 x10_1).toList)=true:=bne_iff_ne.mpr c18
           obtain rfl:=Option.some.inj H
           try go_wp2
           have n0_:=Aside0.mk (Kd.R_drew HO_7.out)
           have n1_:=Aside0.mk (blk_drew BK263.out)
           have n2_:=Aside0.mk (below_drew1 HB.out)
           clear HO_7
           clear BK263
           clear HB
           have HO_7:=n0_
           have BK263:=n1_
           have HB:=n2_
           clear n0_ n1_ n2_
           have p268:0≤(x10_1:Int):=of_decide_eq_true (by first|(with_reducible assumption)|assumption)
           have q268:x10_1<(l1.length:Int):=of_decide_eq_true (by first|(with_reducible assumption)|assumption)
           obtain⟨ad268,e268,hx268_0⟩:=Kd.at_string HR1.out x10_1 p268 q268
           have hw268_0:=hx268_0
           cases e268
           replace hx268_0:=(HB.out.cell (World.block_lt_of_cell? w _ hx268_0)).trans hx268_0
           replace p268:=eq_true p268
           replace q268:=eq_true q268
           refine start_ (n:=7) (S:=fun w'=>w'.cell? ⟨gb263,0,none⟩=some (.int .i64 a0_0)∧w'.cell? ⟨gb263,1,none⟩=some (.int .i64 a0_1)∧w'.cell? ⟨gb263,2,none⟩=some (.int .i64 a0_2)∧w'.cell? ⟨gb263,3,none⟩=some (.slice A0_3 l0_3.length c0_3)∧w'.cell? (ad268.add (x10_1).toNat)=some (.string (rdOf ByteArray.empty l1 x10_1))) (ds:=[]) #[false,false,false,false,false,false,false] (by kernel_rfl) rfl rfl ⟨(blk_cell BK263.out 0).trans rfl,(blk_cell BK263.out 1).trans rfl,(blk_cell BK263.out 2).trans rfl,(blk_cell BK263.out 3).trans rfl,((HB.out.cell (World.block_lt_of_cell? w _ hw268_0)).trans hw268_0)⟩ (fun hHeld=> ?_)
           generalize wc.drew=w23 at HO_7 BK263 HB hx268_0 hHeld ⊢
           refine pure_ (i:=1) (N:=some 36) (v:= ?_) (a':= ?_) #[false,true,false,false,false,false,false] rfl rfl (by kernel_rfl) (fun _ _ _ h=>h) (Or.inl ⟨by rfl,?_⟩) ?_ ?_
           rotate_left
           ·intro w'
            go_simp
            with_reducible rfl
           rotate_left
           ·simp only[Act.put,zA,zB,zC,i64_w,i32_w]
            rfl
           refine pure_ (i:=2) (N:=some 37) (v:= ?_) (a':= ?_) #[false,true,true,false,false,false,false] rfl rfl (by kernel_rfl) (fun _ _ _ h=>h) (Or.inl ⟨by rfl,?_⟩) ?_ ?_
           rotate_left
           ·intro w'
            go_simp
            with_reducible rfl
           rotate_left
           ·simp only[Act.put,zA,zB,zC,i64_w,i32_w]
            rfl
           refine pure_ (i:=3) (N:=some 38) (v:= ?_) (a':= ?_) #[false,true,true,true,false,false,false] rfl rfl (by kernel_rfl) (fun _ _ _ h=>h) (Or.inl ⟨by rfl,?_⟩) ?_ ?_
           rotate_left
           ·intro w'
            go_simp
            with_reducible rfl
           rotate_left
           ·simp only[Act.put,zA,zB,zC,i64_w,i32_w]
            rfl
           refine pure_ (i:=4) (N:=some 39) (v:= ?_) (a':= ?_) #[false,true,true,true,true,false,false] rfl rfl (by kernel_rfl) (fun _ _ _ h=>h) (Or.inl ⟨by rfl,?_⟩) ?_ ?_
           rotate_left
           ·intro w'
            go_simp
            with_reducible rfl
           rotate_left
           ·simp only[Act.put,zA,zB,zC,i64_w,i32_w]
            rfl
           refine take_ (i:=0) (N:=some 35) (v:= ?_) (a':= ?_) #[true,true,true,true,true,false,false] rfl rfl (by kernel_rfl) (fun _ _ _ h=>h) (Or.inl ⟨by rfl,?_⟩) hHeld ?_ ?_
           rotate_left
           ·rintro w' ⟨s0,s1,s2,s3,s4⟩
            go_simp
            with_reducible rfl
           rotate_left
           ·simp only[Act.put,zA,zB,zC,i64_w,i32_w]
            rfl
           refine take_ (i:=5) (N:=some 40) (v:= ?_) (a':= ?_) #[true,true,true,true,true,true,false] rfl rfl (by kernel_rfl) (fun _ _ _ h=>h) (Or.inl ⟨by rfl,?_⟩) hHeld ?_ ?_
           rotate_left
           ·rintro w' ⟨s0,s1,s2,s3,s4⟩
            go_simp
            with_reducible rfl
           rotate_left
           ·simp only[Act.put,zA,zB,zC,i64_w,i32_w]
            rfl
           refine one_ (i:=6) (N:=some 41) #[true,true,true,true,true,true,true] rfl rfl (by kernel_rfl) (by decide) (fun K hK=> ?_)
           refine goes_ Tryz.func22 (by kernel_rfl) rfl #[.agg #[.int .i64 a0_0,.int .i64 a0_1,.int .i64 a0_2,.slice A0_3 l0_3.length c0_3],.int .i64 x10_1,.string (rdOf ByteArray.empty l1 x10_1)] (by rfl) rfl rfl (by (try simp only[List.map_toArray,List.map_cons,List.map_nil]);first|done|rfl|(simp only[List.length_drop,List.length_take];rfl)) ?_
           with_reducible refine(sluicegateref19_Good.calls a0_0 a0_1 a0_2 _ _ l0_3 x10_1 (rdOf ByteArray.empty l1 x10_1) true _ ?side1 ?side2 A15.out).mono ?_
           (case side1=>repeat (first|exact(Kd.C_below HR0_3.out HB.out)|(with_reducible refine Kd.C_alloc ?_ _)|(with_reducible refine Kd.C_drewN ?_ _)|(with_reducible refine Kd.C_drew ?_)))
           (case side2=>exact HC0_3.out)
           rintro e w24 ⟨rfl,hb⟩
           refine⟨_,rfl,?_⟩
           have n0_:=Aside0.mk (Kd.R_below (by (with_reducible repeat (first|apply Kd.R_alloc|apply Kd.R_drewN|apply Kd.R_drew));exact HO_7.out) hb)
           have n1_:=Aside0.mk (blk_below (g:=gb263) (o:=.cells #[.int .i64 a0_0,.int .i64 a0_1,.int .i64 a0_2,.slice A0_3 l0_3.length c0_3] 24 (0,0)) (by (with_reducible repeat (first|refine blk_drewN ?_ _|refine blk_drew ?_|refine blk_alloc ?_ _));exact BK263.out) hb)
           have n2_:=Aside0.mk (below_step (by repeat (first|(with_reducible first|exact HB.out|apply below_alloc|apply pw_below_drewN|apply below_drew1|refine below_set ?_ GE263.out)|exact HB.out)) hb)
           clear HO_7
           clear BK263
           clear HB
           have HO_7:=n0_
           have BK263:=n1_
           have HB:=n2_
           clear n0_ n1_ n2_
           (try clear hb)
           (try clear hb2)
           (try clear hk)
           (try clear hi)
           refine hK.out _ _ ⟨(blk_cell BK263.out 0).trans rfl,(blk_cell BK263.out 1).trans rfl,(blk_cell BK263.out 2).trans rfl,(blk_cell BK263.out 3).trans rfl,((HB.out.cell (World.block_lt_of_cell? w _ hw268_0)).trans hw268_0)⟩ (fun hHeld=> ?_)
           clear hK K
           refine norm_ (a':= ?_) ?_ ?_
           rotate_left
           ·show Act.put _ (some 41) _=_
            simp only[Act.put,zA,zB,zC,i64_w,i32_w]
            rfl
           refine done_ (by kernel_rfl) ?_
           try go_wp2
           have n0_:=Aside0.mk (Kd.R_drew HO_7.out)
           have n1_:=Aside0.mk (blk_drew BK263.out)
           have n2_:=Aside0.mk (below_drew1 HB.out)
           clear HO_7
           clear BK263
           clear HB
           have HO_7:=n0_
           have BK263:=n1_
           have HB:=n2_
           clear n0_ n1_ n2_
           obtain⟨Ao26,co26,eo26⟩:=Kd.R_slice HO_7.out
           (first|subst eo26|(injection eo26 with f1_ f2_ f3_;have f4_:=f1_.symm;have f5_:=f3_.symm;clear f1_ f2_ f3_;subst f4_;subst f5_))
           have p270:0≤(x10_1:Int):=of_decide_eq_true (by first|(with_reducible assumption)|assumption)
           have q270:x10_1<(t264.length:Int):=of_decide_eq_true (by first|(with_reducible assumption)|assumption)
           obtain⟨ad270,e270,hx270_0⟩:=Kd.at_string (Kd.R_reads' HO_7.out).2.2 x10_1 p270 q270
           cases e270
           replace p270:=eq_true p270
           replace q270:=eq_true q270
           have p271:0≤(x10_1:Int):=of_decide_eq_true (by first|(with_reducible assumption)|assumption)
           have q271:x10_1<(l1.length:Int):=of_decide_eq_true (by first|(with_reducible assumption)|assumption)
           obtain⟨ad271,e271,hx271_0⟩:=Kd.at_string HR1.out x10_1 p271 q271
           have hw271_0:=hx271_0
           obtain rfl:ad268=ad271:=(by injection e271)
           replace hx271_0:=(HB.out.cell (World.block_lt_of_cell? w _ hx271_0)).trans hx271_0
           replace p271:=eq_true p271
           replace q271:=eq_true q271
           refine start_ (n:=9) (S:=fun w'=>w'.cell? (ad270.add (x10_1).toNat)=some (.string (rdOf ByteArray.empty t264 x10_1))∧w'.cell? (ad268.add (x10_1).toNat)=some (.string (rdOf ByteArray.empty l1 x10_1))) (ds:=[]) #[false,false,false,false,false,false,false,false,false] (by kernel_rfl) rfl rfl ⟨hx270_0,((HB.out.cell (World.block_lt_of_cell? w _ hw271_0)).trans hw271_0)⟩ (fun hHeld=> ?_);refine with_tabW sluicegateref19_Agrees.tab8 sluicegateref19_Agrees.bits8 (fun HT_ HW_=> ?_)
           generalize w24.drew=w25 at HO_7 BK263 HB hx270_0 hx271_0 hHeld ⊢
           refine pure_ (i:=0) (N:=some 44) (v:= ?_) (a':= ?_) #[true,false,false,false,false,false,false,false,false] rfl rfl (any_of HT_.out (by kernel_rfl)) (fun _ _ _ h=>h) (Or.inl ⟨by rfl,?_⟩) ?_ ?_
           rotate_left
           ·intro w'
            go_simp
            with_reducible rfl
           rotate_left
           ·simp only[Act.put,zA,zB,zC,i64_w,i32_w]
            rfl
           refine pure_ (i:=1) (N:=some 45) (v:= ?_) (a':= ?_) #[true,true,false,false,false,false,false,false,false] rfl rfl (any_of HT_.out (by kernel_rfl)) (fun _ _ _ h=>h) (Or.inl ⟨by rfl,?_⟩) ?_ ?_
           rotate_left
           ·intro w'
            go_simp
            with_reducible rfl
           rotate_left
           ·simp only[Act.put,zA,zB,zC,i64_w,i32_w]
            rfl
           refine pure_ (i:=2) (N:=some 46) (v:= ?_) (a':= ?_) #[true,true,true,false,false,false,false,false,false] rfl rfl (any_of HT_.out (by kernel_rfl)) (fun _ _ _ h=>h) (Or.inl ⟨by rfl,?_⟩) ?_ ?_
           rotate_left
           ·intro w'
            go_simp
            with_reducible rfl
           rotate_left
           ·simp only[Act.put,zA,zB,zC,i64_w,i32_w]
            rfl
           refine pure_ (i:=4) (N:=some 48) (v:= ?_) (a':= ?_) #[true,true,true,false,true,false,false,false,false] rfl rfl (any_of HT_.out (by kernel_rfl)) (fun _ _ _ h=>h) (Or.inl ⟨by rfl,?_⟩) ?_ ?_
           rotate_left
           ·intro w'
            go_simp
            with_reducible rfl
           rotate_left
           ·simp only[Act.put,zA,zB,zC,i64_w,i32_w]
            rfl
           refine pure_ (i:=5) (N:=some 49) (v:= ?_) (a':= ?_) #[true,true,true,false,true,true,false,false,false] rfl rfl (any_of HT_.out (by kernel_rfl)) (fun _ _ _ h=>h) (Or.inl ⟨by rfl,?_⟩) ?_ ?_
           rotate_left
           ·intro w'
            go_simp
            with_reducible rfl
           rotate_left
           ·simp only[Act.put,zA,zB,zC,i64_w,i32_w]
            rfl
           refine pure_ (i:=6) (N:=some 50) (v:= ?_) (a':= ?_) #[true,true,true,false,true,true,true,false,false] rfl rfl (any_of HT_.out (by kernel_rfl)) (fun _ _ _ h=>h) (Or.inl ⟨by rfl,?_⟩) ?_ ?_
           rotate_left
           ·intro w'
            go_simp
            with_reducible rfl
           rotate_left
           ·simp only[Act.put,zA,zB,zC,i64_w,i32_w]
            rfl
           refine take_ (i:=3) (N:=some 47) (v:= ?_) (a':= ?_) #[true,true,true,true,true,true,true,false,false] rfl rfl (take_ofW HT_.out HW_.out (by kernel_rfl)) (fun _ _ _ h=>h) (Or.inl ⟨by rfl,?_⟩) hHeld ?_ ?_
           rotate_left
           ·rintro w' ⟨s0,s1⟩
            go_simp
            with_reducible rfl
           rotate_left
           ·simp only[Act.put,zA,zB,zC,i64_w,i32_w]
            rfl
           refine take_ (i:=7) (N:=some 51) (v:= ?_) (a':= ?_) #[true,true,true,true,true,true,true,true,false] rfl rfl (take_ofW HT_.out HW_.out (by kernel_rfl)) (fun _ _ _ h=>h) (Or.inl ⟨by rfl,?_⟩) hHeld ?_ ?_
           rotate_left
           ·rintro w' ⟨s0,s1⟩
            go_simp
            with_reducible rfl
           rotate_left
           ·simp only[Act.put,zA,zB,zC,i64_w,i32_w]
            rfl
           refine pure_ (i:=8) (N:=some 52) (v:= ?_) (a':= ?_) #[true,true,true,true,true,true,true,true,true] rfl rfl (any_of HT_.out (by kernel_rfl)) (fun _ _ _ h=>h) (Or.inl ⟨by rfl,?_⟩) ?_ ?_
           rotate_left
           ·intro w'
            go_simp
            with_reducible rfl
           rotate_left
           ·simp only[Act.put,zA,zB,zC,i64_w,i32_w]
            rfl
           refine done_ (done_of HT_.out (by kernel_rfl)) ?_
           try go_wp2
           go_ret
           exact⟨by first|rfl|(simp[errW_none,errW_some]<;>rfl)|(simp[*,errW_none,errW_some]<;>rfl),by repeat (first|(with_reducible first|exact HB.out|apply below_alloc|apply pw_below_drewN|apply below_drew1|refine below_set ?_ GE263.out)|exact HB.out)⟩
         ·rw[if_neg c17]at H
          exact absurd H (by simp)
        ·replace c16:=Bool.eq_false_iff.mpr c16
         subst c16
         have H1:(sluicegateref19_Agrees.l0 kj7 l1 t264 t267 x9_1 (wrap64 (x10_1+1)) a0_0 a0_1 a0_2 l0_3)=some r:=by rw[if_neg (show ¬ (false=true)by decide)]at H;exact H
         clear H
         have H:=H1
         clear H1
         have H':=Aside0.mk H
         clear H
         try go_wp2
         have n0_:=Aside0.mk (Kd.R_drew HO_7.out)
         have n1_:=Aside0.mk (blk_drew BK263.out)
         have n2_:=Aside0.mk (below_drew1 HB.out)
         clear HO_7
         clear BK263
         clear HB
         have HO_7:=n0_
         have BK263:=n1_
         have HB:=n2_
         clear n0_ n1_ n2_
         have p268:0≤(x10_1:Int):=of_decide_eq_true (by first|(with_reducible assumption)|assumption)
         have q268:x10_1<(l1.length:Int):=of_decide_eq_true (by first|(with_reducible assumption)|assumption)
         obtain⟨ad268,e268,hx268_0⟩:=Kd.at_string HR1.out x10_1 p268 q268
         have hw268_0:=hx268_0
         cases e268
         replace hx268_0:=(HB.out.cell (World.block_lt_of_cell? w _ hx268_0)).trans hx268_0
         replace p268:=eq_true p268
         replace q268:=eq_true q268
         refine start_ (n:=7) (S:=fun w'=>w'.cell? ⟨gb263,0,none⟩=some (.int .i64 a0_0)∧w'.cell? ⟨gb263,1,none⟩=some (.int .i64 a0_1)∧w'.cell? ⟨gb263,2,none⟩=some (.int .i64 a0_2)∧w'.cell? ⟨gb263,3,none⟩=some (.slice A0_3 l0_3.length c0_3)∧w'.cell? (ad268.add (x10_1).toNat)=some (.string (rdOf ByteArray.empty l1 x10_1))) (ds:=[]) #[false,false,false,false,false,false,false] (by kernel_rfl) rfl rfl ⟨(blk_cell BK263.out 0).trans rfl,(blk_cell BK263.out 1).trans rfl,(blk_cell BK263.out 2).trans rfl,(blk_cell BK263.out 3).trans rfl,((HB.out.cell (World.block_lt_of_cell? w _ hw268_0)).trans hw268_0)⟩ (fun hHeld=> ?_)
         generalize wc.drew=w27 at HO_7 BK263 HB hx268_0 hHeld ⊢
         refine pure_ (i:=1) (N:=some 36) (v:= ?_) (a':= ?_) #[false,true,false,false,false,false,false] rfl rfl (by kernel_rfl) (fun _ _ _ h=>h) (Or.inl ⟨by rfl,?_⟩) ?_ ?_
         rotate_left
         ·intro w'
          go_simp
          with_reducible rfl
         rotate_left
         ·simp only[Act.put,zA,zB,zC,i64_w,i32_w]
          rfl
         refine pure_ (i:=2) (N:=some 37) (v:= ?_) (a':= ?_) #[false,true,true,false,false,false,false] rfl rfl (by kernel_rfl) (fun _ _ _ h=>h) (Or.inl ⟨by rfl,?_⟩) ?_ ?_
         rotate_left
         ·intro w'
          go_simp
          with_reducible rfl
         rotate_left
         ·simp only[Act.put,zA,zB,zC,i64_w,i32_w]
          rfl
         refine pure_ (i:=3) (N:=some 38) (v:= ?_) (a':= ?_) #[false,true,true,true,false,false,false] rfl rfl (by kernel_rfl) (fun _ _ _ h=>h) (Or.inl ⟨by rfl,?_⟩) ?_ ?_
         rotate_left
         ·intro w'
          go_simp
          with_reducible rfl
         rotate_left
         ·simp only[Act.put,zA,zB,zC,i64_w,i32_w]
          rfl
         refine pure_ (i:=4) (N:=some 39) (v:= ?_) (a':= ?_) #[false,true,true,true,true,false,false] rfl rfl (by kernel_rfl) (fun _ _ _ h=>h) (Or.inl ⟨by rfl,?_⟩) ?_ ?_
         rotate_left
         ·intro w'
          go_simp
          with_reducible rfl
         rotate_left
         ·simp only[Act.put,zA,zB,zC,i64_w,i32_w]
          rfl
         refine take_ (i:=0) (N:=some 35) (v:= ?_) (a':= ?_) #[true,true,true,true,true,false,false] rfl rfl (by kernel_rfl) (fun _ _ _ h=>h) (Or.inl ⟨by rfl,?_⟩) hHeld ?_ ?_
         rotate_left
         ·rintro w' ⟨s0,s1,s2,s3,s4⟩
          go_simp
          with_reducible rfl
         rotate_left
         ·simp only[Act.put,zA,zB,zC,i64_w,i32_w]
          rfl
         refine take_ (i:=5) (N:=some 40) (v:= ?_) (a':= ?_) #[true,true,true,true,true,true,false] rfl rfl (by kernel_rfl) (fun _ _ _ h=>h) (Or.inl ⟨by rfl,?_⟩) hHeld ?_ ?_
         rotate_left
         ·rintro w' ⟨s0,s1,s2,s3,s4⟩
          go_simp
          with_reducible rfl
         rotate_left
         ·simp only[Act.put,zA,zB,zC,i64_w,i32_w]
          rfl
         refine one_ (i:=6) (N:=some 41) #[true,true,true,true,true,true,true] rfl rfl (by kernel_rfl) (by decide) (fun K hK=> ?_)
         refine goes_ Tryz.func22 (by kernel_rfl) rfl #[.agg #[.int .i64 a0_0,.int .i64 a0_1,.int .i64 a0_2,.slice A0_3 l0_3.length c0_3],.int .i64 x10_1,.string (rdOf ByteArray.empty l1 x10_1)] (by rfl) rfl rfl (by (try simp only[List.map_toArray,List.map_cons,List.map_nil]);first|done|rfl|(simp only[List.length_drop,List.length_take];rfl)) ?_
         with_reducible refine(sluicegateref19_Good.calls a0_0 a0_1 a0_2 _ _ l0_3 x10_1 (rdOf ByteArray.empty l1 x10_1) false _ ?side1 ?side2 A15.out).mono ?_
         (case side1=>repeat (first|exact(Kd.C_below HR0_3.out HB.out)|(with_reducible refine Kd.C_alloc ?_ _)|(with_reducible refine Kd.C_drewN ?_ _)|(with_reducible refine Kd.C_drew ?_)))
         (case side2=>exact HC0_3.out)
         rintro e w28 ⟨rfl,hb⟩
         refine⟨_,rfl,?_⟩
         have n0_:=Aside0.mk (Kd.R_below (by (with_reducible repeat (first|apply Kd.R_alloc|apply Kd.R_drewN|apply Kd.R_drew));exact HO_7.out) hb)
         have n1_:=Aside0.mk (blk_below (g:=gb263) (o:=.cells #[.int .i64 a0_0,.int .i64 a0_1,.int .i64 a0_2,.slice A0_3 l0_3.length c0_3] 24 (0,0)) (by (with_reducible repeat (first|refine blk_drewN ?_ _|refine blk_drew ?_|refine blk_alloc ?_ _));exact BK263.out) hb)
         have n2_:=Aside0.mk (below_step (by repeat (first|(with_reducible first|exact HB.out|apply below_alloc|apply pw_below_drewN|apply below_drew1|refine below_set ?_ GE263.out)|exact HB.out)) hb)
         clear HO_7
         clear BK263
         clear HB
         have HO_7:=n0_
         have BK263:=n1_
         have HB:=n2_
         clear n0_ n1_ n2_
         (try clear hb)
         (try clear hb2)
         (try clear hk)
         (try clear hi)
         refine hK.out _ _ ⟨(blk_cell BK263.out 0).trans rfl,(blk_cell BK263.out 1).trans rfl,(blk_cell BK263.out 2).trans rfl,(blk_cell BK263.out 3).trans rfl,((HB.out.cell (World.block_lt_of_cell? w _ hw268_0)).trans hw268_0)⟩ (fun hHeld=> ?_)
         clear hK K
         refine norm_ (a':= ?_) ?_ ?_
         rotate_left
         ·show Act.put _ (some 41) _=_
          simp only[Act.put,zA,zB,zC,i64_w,i32_w]
          rfl
         refine done_ (by kernel_rfl) ?_
         try go_wp2
         go_roundg kj7
         case measure=>have:=HK1.out;have:=HJ7.out;omega
         case rel=>exact⟨(x9_1),(wrap64 (x10_1+1)),(by first|rfl|(simp;done)|(simp[*];done)),(by first|rfl|(simp;done)|(simp[*];done)),H',⟨by have:=HK1.out;have:=HJ7.out;omega⟩,⟨by (with_reducible repeat (first|apply Kd.R_alloc|apply Kd.R_drewN|apply Kd.R_drew));exact HO_7.out⟩,⟨by (with_reducible repeat (first|refine blk_drewN ?_ _|refine blk_drew ?_|refine blk_alloc ?_ _));exact BK263.out⟩,⟨by repeat (first|(with_reducible first|exact HB.out|apply below_alloc|apply pw_below_drewN|apply below_drew1|refine below_set ?_ GE263.out)|exact HB.out)⟩⟩
       ·rw[if_neg c14]at H
        exact absurd H (by simp)
      ·rw[if_neg c13]at H
       exact absurd H (by simp)
     ·replace c12:=Bool.eq_false_iff.mpr c12
      subst c12
      have H1:(if t267=0 then (some (x9_1==6))else (some false))=some r:=by rw[if_neg (show ¬ (false=true)by decide)]at H;exact H
      clear H
      have H:=H1
      clear H1
      by_cases c29:t267=0
      ·rw[if_pos c29]at H
       have c29b0:(t267==0)=true:=beq_iff_eq.mpr c29
       have c29b1:(t267 != 0)=false:=bne_eq_false_iff_eq.mpr c29
       clear c29
       obtain rfl:=Option.some.inj H
       go_wp2
       go_ret
       exact⟨by first|rfl|(simp[errW_none,errW_some]<;>rfl)|(simp[*,errW_none,errW_some]<;>rfl),by repeat (first|(with_reducible first|exact HB.out|apply below_alloc|apply pw_below_drewN|apply below_drew1|refine below_set ?_ GE263.out)|exact HB.out)⟩
      ·rw[if_neg c29]at H
       have c29b0:(t267==0)=false:=beq_eq_false_iff_ne.mpr c29
       have c29b1:(t267 != 0)=true:=bne_iff_ne.mpr c29
       obtain rfl:=Option.some.inj H
       go_wp2
       go_ret
       exact⟨by first|rfl|(simp[errW_none,errW_some]<;>rfl)|(simp[*,errW_none,errW_some]<;>rfl),by repeat (first|(with_reducible first|exact HB.out|apply below_alloc|apply pw_below_drewN|apply below_drew1|refine below_set ?_ GE263.out)|exact HB.out)⟩
end Go.Proofs.YtdcfonmjbelgbaaGreatDoor.Q
end
section
namespace Go.Proofs.YtdcfonmjbelgbaaGreatDoor.Q
open Go.RowKit YtdcfonmjbelgbaaGreatDoorW.PrintWords YtdcfonmjbelgbaaGreatDoorW.PrintLast YtdcfonmjbelgbaaGreatDoorW.PrintMore
attribute [local go_sem] max2_int min2_int max_two min_two max_three min_three max_four min_four
def sluicegateref19_Next.f (k:Nat) (a0_0:Int) (a0_1:Int) (a0_2:Int) (l0_3:List (S59)) (l1:List ByteArray):Option (Int):=if (l1.length:Int)≥9 then (some (-1))else ((sluicegateref19_Bad.f k a0_0 a0_1 a0_2 l0_3 l1).bind fun t292=>(if (wrap64 ((l1.length:Int)-(t292.length:Int)))≥6 then (some (-1))else (some (l1.length:Int))))
theorem sluicegateref19_Next.calls (k:Nat) (a0_0:Int) (a0_1:Int) (a0_2:Int) (A0_3:Option Addr) (c0_3:Nat) (l0_3:List (S59)) (A1:Option Addr) (c1:Nat) (l1:List ByteArray) (r:Int) (w:World) (hr0_3:Kd.C k59 w A0_3 l0_3.length l0_3) (hc0_3:l0_3.length≤c0_3) (hr1:Kd.C Kd.string w A1 l1.length l1) (hc1:l1.length≤c1) (h:sluicegateref19_Next.f k a0_0 a0_1 a0_2 l0_3 l1=some r) :
  Calls Tryz.prog 18 #[.agg #[.int .i64 a0_0,.int .i64 a0_1,.int .i64 a0_2,.slice A0_3 l0_3.length c0_3],.slice A1 l1.length c1] w fun e w'=>e = .returned (.int .i64 r)∧Below w.heap.size w w':=by
 have hu24:=Tryz.underlying24
 have HR0_3:=Aside0.mk hr0_3
 have HC0_3:=Aside0.mk hc0_3
 clear hr0_3 hc0_3
 have HR1:=Aside0.mk hr1
 have HC1:=Aside0.mk hc1
 clear hr1 hc1
 have HB:=Aside0.mk (Below.refl w.heap.size w)
 have H:(if (l1.length:Int)≥9 then (some (-1))else ((sluicegateref19_Bad.f k a0_0 a0_1 a0_2 l0_3 l1).bind fun t292=>(if (wrap64 ((l1.length:Int)-(t292.length:Int)))≥6 then (some (-1))else (some (l1.length:Int)))))=some r:=h
 clear h
 by_cases c3:(l1.length:Int)≥9
 ·rw[if_pos c3]at H
  have c3b0:decide (9≤(l1.length:Int))=true:=decide_eq_true c3
  have c3b1:decide (9≤l1.length)=true:=decide_eq_true (by omega)
  clear c3
  obtain rfl:=Option.some.inj H
  go_enter Tryz.func18,Tryz.ntmps18
  go_wp2_with (first|((with_reducible refine gate_dst (N:=2) rfl ?_);(try (refine gate_guard (by rfl) ?_;dsimp only));refine box_event ?hg (N:=2) ?hd (cs:= #[.int .i64 a0_0,.int .i64 a0_1,.int .i64 a0_2,.slice A0_3 l0_3.length c0_3]) (t:=24) ?hr ?_;(case hd=>rfl);(case hg=>rfl);(case hr=>first|(go_simp;done)|(go_simp;rfl));intro gb291 hg w4 hbox hb;have n0_:=Aside0.mk (below_step (by repeat (first|(with_reducible first|exact HB.out|apply below_alloc|apply pw_below_drewN|apply below_drew1)|exact HB.out)) hb);have n1_:=Aside0.mk (hbox);have n2_:=Aside0.mk ((by rw[hg];exact(below_size (by repeat (first|(with_reducible first|exact HB.out|apply below_alloc|apply pw_below_drewN|apply below_drew1)|exact HB.out))):w.heap.size≤gb291));have n3_:=Aside0.mk ((by rw[hg];exact(below_size (by repeat (first|(with_reducible first|exact HB.out|apply below_alloc|apply pw_below_drewN|apply below_drew1)|exact HB.out))):w.heap.size≤gb291));clear HB;have HB:=n0_;have BK291:=n1_;have GW291:=n2_;have GE291:=n3_;clear n0_ n1_ n2_ n3_;clear hb hbox hg))
  go_ret
  exact⟨by first|rfl|(simp[errW_none,errW_some]<;>rfl)|(simp[*,errW_none,errW_some]<;>rfl),by repeat (first|(with_reducible first|exact HB.out|apply below_alloc|apply pw_below_drewN|apply below_drew1|refine below_set ?_ GE291.out)|exact HB.out)⟩
 ·rw[if_neg c3]at H
  have c3b0:decide (9≤(l1.length:Int))=false:=decide_eq_false c3
  have c3b1:decide (9≤l1.length)=false:=decide_eq_false (by omega)
  clear c3
  replace H:=Option.bind_eq_some_iff.mp H
  obtain⟨t292,A50,H⟩:=H
  replace H:(if (wrap64 ((l1.length:Int)-(t292.length:Int)))≥6 then (some (-1))else (some (l1.length:Int)))=some r:=H
  have A5:=Aside0.mk A50
  clear A50
  by_cases c6:(wrap64 ((l1.length:Int)-(t292.length:Int)))≥6
  ·rw[if_pos c6]at H
   have c6b0:decide (6≤(wrap64 ((l1.length:Int)-(t292.length:Int))))=true:=decide_eq_true c6
   clear c6
   obtain rfl:=Option.some.inj H
   go_enter Tryz.func18,Tryz.ntmps18
   go_wp2_with (first|((with_reducible refine gate_dst (N:=2) rfl ?_);(try (refine gate_guard (by rfl) ?_;dsimp only));refine box_event ?hg (N:=2) ?hd (cs:= #[.int .i64 a0_0,.int .i64 a0_1,.int .i64 a0_2,.slice A0_3 l0_3.length c0_3]) (t:=24) ?hr ?_;(case hd=>rfl);(case hg=>rfl);(case hr=>first|(go_simp;done)|(go_simp;rfl));intro gb291 hg w7 hbox hb;have n0_:=Aside0.mk (below_step (by repeat (first|(with_reducible first|exact HB.out|apply below_alloc|apply pw_below_drewN|apply below_drew1)|exact HB.out)) hb);have n1_:=Aside0.mk (hbox);have n2_:=Aside0.mk ((by rw[hg];exact(below_size (by repeat (first|(with_reducible first|exact HB.out|apply below_alloc|apply pw_below_drewN|apply below_drew1)|exact HB.out))):w.heap.size≤gb291));have n3_:=Aside0.mk ((by rw[hg];exact(below_size (by repeat (first|(with_reducible first|exact HB.out|apply below_alloc|apply pw_below_drewN|apply below_drew1)|exact HB.out))):w.heap.size≤gb291));clear HB;have HB:=n0_;have BK291:=n1_;have GW291:=n2_;have GE291:=n3_;clear n0_ n1_ n2_ n3_;clear hb hbox hg;have hcz8_0:w7.cell? ⟨gb291,0,none⟩=some (.int .i64 a0_0):=(blk_cell BK291.out 0).trans rfl;have hcz8_1:w7.cell? ⟨gb291,1,none⟩=some (.int .i64 a0_1):=(blk_cell BK291.out 1).trans rfl;have hcz8_2:w7.cell? ⟨gb291,2,none⟩=some (.int .i64 a0_2):=(blk_cell BK291.out 2).trans rfl;have hcz8_3:w7.cell? ⟨gb291,3,none⟩=some (.slice A0_3 l0_3.length c0_3):=(blk_cell BK291.out 3).trans rfl;have hfz8_0:=blk_frozen BK291.out 0;have hfz8_1:=blk_frozen BK291.out 1;have hfz8_2:=blk_frozen BK291.out 2;have hfz8_3:=blk_frozen BK291.out 3)|(go_at_call 15;(with_reducible refine(sluicegateref19_Bad.calls k a0_0 a0_1 a0_2 _ _ l0_3 _ _ l1 t292 _ ?side1 ?side2 ?side3 ?side4 A5.out).mono ?_);(case side1=>repeat (first|exact(Kd.C_below HR0_3.out HB.out)|(with_reducible refine Kd.C_alloc ?_ _)|(with_reducible refine Kd.C_drewN ?_ _)|(with_reducible refine Kd.C_drew ?_)));(case side2=>exact HC0_3.out);(case side3=>repeat (first|exact(Kd.C_below HR1.out HB.out)|(with_reducible refine Kd.C_alloc ?_ _)|(with_reducible refine Kd.C_drewN ?_ _)|(with_reducible refine Kd.C_drew ?_)));(case side4=>exact HC1.out);rintro e w9 ⟨v293,rfl,ho0,hb⟩;have n0_:=Aside0.mk (Kd.R_lower ho0 (below_size (by repeat (first|(with_reducible first|exact HB.out|apply below_alloc|apply pw_below_drewN|apply below_drew1|refine below_set ?_ GE291.out)|exact HB.out))));have n1_:=Aside0.mk (blk_below (g:=gb291) (o:=.cells #[.int .i64 a0_0,.int .i64 a0_1,.int .i64 a0_2,.slice A0_3 l0_3.length c0_3] 24 (0,0)) (by (with_reducible repeat (first|refine blk_drewN ?_ _|refine blk_drew ?_|refine blk_alloc ?_ _));exact BK291.out) hb);have n2_:=Aside0.mk (below_step (by repeat (first|(with_reducible first|exact HB.out|apply below_alloc|apply pw_below_drewN|apply below_drew1|refine below_set ?_ GE291.out)|exact HB.out)) hb);clear BK291;clear HB;have HO294:=n0_;have BK291:=n1_;have HB:=n2_;clear n0_ n1_ n2_;(try clear hb);(try clear hb2);(try clear hk);(try clear hi);(try clear ho0);obtain⟨Ao10,co10,eo10⟩:=Kd.R_slice HO294.out;subst eo10))
   go_ret
   exact⟨by first|rfl|(simp[errW_none,errW_some]<;>rfl)|(simp[*,errW_none,errW_some]<;>rfl),by repeat (first|(with_reducible first|exact HB.out|apply below_alloc|apply pw_below_drewN|apply below_drew1|refine below_set ?_ GE291.out)|exact HB.out)⟩
  ·rw[if_neg c6]at H
   have c6b0:decide (6≤(wrap64 ((l1.length:Int)-(t292.length:Int))))=false:=decide_eq_false c6
   clear c6
   obtain rfl:=Option.some.inj H
   go_enter Tryz.func18,Tryz.ntmps18
   go_wp2_with (first|((with_reducible refine gate_dst (N:=2) rfl ?_);(try (refine gate_guard (by rfl) ?_;dsimp only));refine box_event ?hg (N:=2) ?hd (cs:= #[.int .i64 a0_0,.int .i64 a0_1,.int .i64 a0_2,.slice A0_3 l0_3.length c0_3]) (t:=24) ?hr ?_;(case hd=>rfl);(case hg=>rfl);(case hr=>first|(go_simp;done)|(go_simp;rfl));intro gb291 hg w11 hbox hb;have n0_:=Aside0.mk (below_step (by repeat (first|(with_reducible first|exact HB.out|apply below_alloc|apply pw_below_drewN|apply below_drew1)|exact HB.out)) hb);have n1_:=Aside0.mk (hbox);have n2_:=Aside0.mk ((by rw[hg];exact(below_size (by repeat (first|(with_reducible first|exact HB.out|apply below_alloc|apply pw_below_drewN|apply below_drew1)|exact HB.out))):w.heap.size≤gb291));have n3_:=Aside0.mk ((by rw[hg];exact(below_size (by repeat (first|(with_reducible first|exact HB.out|apply below_alloc|apply pw_below_drewN|apply below_drew1)|exact HB.out))):w.heap.size≤gb291));clear HB;have HB:=n0_;have BK291:=n1_;have GW291:=n2_;have GE291:=n3_;clear n0_ n1_ n2_ n3_;clear hb hbox hg;have hcz12_0:w11.cell? ⟨gb291,0,none⟩=some (.int .i64 a0_0):=(blk_cell BK291.out 0).trans rfl;have hcz12_1:w11.cell? ⟨gb291,1,none⟩=some (.int .i64 a0_1):=(blk_cell BK291.out 1).trans rfl;have hcz12_2:w11.cell? ⟨gb291,2,none⟩=some (.int .i64 a0_2):=(blk_cell BK291.out 2).trans rfl;have hcz12_3:w11.cell? ⟨gb291,3,none⟩=some (.slice A0_3 l0_3.length c0_3):=(blk_cell BK291.out 3).trans rfl;have hfz12_0:=blk_frozen BK291.out 0;have hfz12_1:=blk_frozen BK291.out 1;have hfz12_2:=blk_frozen BK291.out 2;have hfz12_3:=blk_frozen BK291.out 3)|(go_at_call 15;(with_reducible refine(sluicegateref19_Bad.calls k a0_0 a0_1 a0_2 _ _ l0_3 _ _ l1 t292 _ ?side1 ?side2 ?side3 ?side4 A5.out).mono ?_);(case side1=>repeat (first|exact(Kd.C_below HR0_3.out HB.out)|(with_reducible refine Kd.C_alloc ?_ _)|(with_reducible refine Kd.C_drewN ?_ _)|(with_reducible refine Kd.C_drew ?_)));(case side2=>exact HC0_3.out);(case side3=>repeat (first|exact(Kd.C_below HR1.out HB.out)|(with_reducible refine Kd.C_alloc ?_ _)|(with_reducible refine Kd.C_drewN ?_ _)|(with_reducible refine Kd.C_drew ?_)));(case side4=>exact HC1.out);rintro e w13 ⟨v293,rfl,ho0,hb⟩;have n0_:=Aside0.mk (Kd.R_lower ho0 (below_size (by repeat (first|(with_reducible first|exact HB.out|apply below_alloc|apply pw_below_drewN|apply below_drew1|refine below_set ?_ GE291.out)|exact HB.out))));have n1_:=Aside0.mk (blk_below (g:=gb291) (o:=.cells #[.int .i64 a0_0,.int .i64 a0_1,.int .i64 a0_2,.slice A0_3 l0_3.length c0_3] 24 (0,0)) (by (with_reducible repeat (first|refine blk_drewN ?_ _|refine blk_drew ?_|refine blk_alloc ?_ _));exact BK291.out) hb);have n2_:=Aside0.mk (below_step (by repeat (first|(with_reducible first|exact HB.out|apply below_alloc|apply pw_below_drewN|apply below_drew1|refine below_set ?_ GE291.out)|exact HB.out)) hb);clear BK291;clear HB;have HO294:=n0_;have BK291:=n1_;have HB:=n2_;clear n0_ n1_ n2_;(try clear hb);(try clear hb2);(try clear hk);(try clear hi);(try clear ho0);obtain⟨Ao14,co14,eo14⟩:=Kd.R_slice HO294.out;subst eo14))
   go_ret
   exact⟨by first|rfl|(simp[errW_none,errW_some]<;>rfl)|(simp[*,errW_none,errW_some]<;>rfl),by repeat (first|(with_reducible first|exact HB.out|apply below_alloc|apply pw_below_drewN|apply below_drew1|refine below_set ?_ GE291.out)|exact HB.out)⟩
end Go.Proofs.YtdcfonmjbelgbaaGreatDoor.Q
end
section
namespace Go.Proofs.YtdcfonmjbelgbaaGreatDoor
open Go.RowKit Q YtdcfonmjbelgbaaGreatDoorW.PrintWords YtdcfonmjbelgbaaGreatDoorW.PrintLast YtdcfonmjbelgbaaGreatDoorW.PrintMore
theorem snb_zeros (n:Nat):nb (List.replicate n 0)=List.replicate n 0:=by
 unfold nb
 rw[List.map_replicate]
 rfl
theorem sw64 (i:Nat) (hi:i<6):wrap64 (64*(i:Int))=((64*i:Nat):Int)∧wrap64 (((64*i:Nat):Int)+64)=((64*i+64:Nat):Int):=by
 unfold wrap64
 omega
theorem srsh_loop (s:List UInt8) (hs:s.length≤384) : ∀ (d i k:Nat),6-i=d→i≤6→d<k→sluicegateref08_Shards.l0 k (B (padN s)) ((List.range i).map (partN s)) (i:Int)=some ((List.range 6).map (partN s),0):=by
 intro d
 have hl:=padN_len s hs
 induction d with
 | zero=>
  intro i k hd hi hk
  obtain⟨k,rfl⟩ : ∃ j,k=j+1:=⟨k-1,by omega⟩
  obtain rfl:i=6:=by omega
  simp only[sluicegateref08_Shards.l0]
  rfl
 | succ d ih=>
  intro i k hd hi hk
  obtain⟨k,rfl⟩ : ∃ j,k=j+1:=⟨k-1,by omega⟩
  obtain⟨w1,w2⟩:=sw64 i (by omega)
  simp only[sluicegateref08_Shards.l0]
  rw[w1,w2,if_pos (by omega),if_pos (by omega),if_pos (by omega),if_pos (by rw[B_size,hl];omega),if_pos (by rw[List.length_map,List.length_range];omega),nwrap_k i (by omega),Int.toNat_natCast,Int.toNat_natCast,B_extract]
  have e:(List.range i).map (partN s)++[B (((padN s).drop (64*i)).take (64*i+64-64*i))]=(List.range (i+1)).map (partN s):=by
   rw[show 64*i+64-64*i=64 by omega,List.range_succ,List.map_append]
   rfl
  rw[e]
  exact ih (i+1) k (by omega) (by omega) (by omega)
theorem srsh_f (s:List UInt8) (hs:s.length≤384) (k:Nat) (hk:6<k):sluicegateref08_Shards.f k (B s)=some (partsN s,0):=by
 unfold sluicegateref08_Shards.f
 have hw:wrap64 (384-(s.length:Int))=((384-s.length:Nat):Int):=by unfold wrap64;omega
 have hz:strOfNums (List.replicate (384-s.length) 0)=B (List.replicate (384-s.length) 0):=by rw[←snb_zeros,strOfNums_nb]
 rw[B_size,if_neg (by omega),hw,if_pos (by omega),Int.toNat_natCast,if_pos (by omega),Option.bind_some,hz,if_pos (by rw[B_size,List.length_replicate];omega),B_append]
 exact srsh_loop s hs 6 0 k rfl (by omega) hk
theorem rsect_l0 (id gen len:Int) (l:List LocS) (h9:l.length=9) (d:List ByteArray) : ∀ (m k K:Nat),9-k=m→k≤9→m<K→sluicegateref19_Sectors.l0 K (encL d) (secK id gen l d k) (k:Int) id gen len l=some (secK id gen l d 9,0):=by
 intro m
 induction m with
 | zero=>
  intro k K hd hk hK
  obtain⟨K,rfl⟩ : ∃ j,K=j+1:=⟨K-1,by omega⟩
  obtain rfl:k=9:=by omega
  rw[sluicegateref19_Sectors.l0]
  rw[if_neg (by omega)]
 | succ m ih=>
  intro k K hd hk hK
  obtain⟨K,rfl⟩ : ∃ j,K=j+1:=⟨K-1,by omega⟩
  have hl:=encL_len d
  have hw : ∀ x,sluicegateref07_Write.f id gen (k:Int) (rd_T59 l (k:Int)).f0 (rd_T59 l (k:Int)).f1 x=some (secW id gen (k:Int) (rd_T59 l (k:Int)).f0 (rd_T59 l (k:Int)).f1 x):=fun x=>rfl
  rw[sluicegateref19_Sectors.l0]
  rw[if_pos (by omega),if_pos (by omega),if_pos (by omega),if_pos (by omega),rdOf_str (encL d) k (by omega),hw,Option.bind_some,if_pos (by rw[secK_len];omega),wrap_k k (by omega)]
  have e:secK id gen l d k++[(secW id gen (k:Int) (rd_T59 l (k:Int)).f0 (rd_T59 l (k:Int)).f1 (strAt (encL d) k)).1]=secK id gen l d (k+1):=secK_succ id gen l d k
  rw[e]
  exact ih (k+1) K (by omega) (by omega) (by omega)
theorem rsect_f (id gen len:Int) (l:List LocS) (t:List UInt8) (K:Nat) (hK:2000≤K):sluicegateref19_Sectors.f K id gen len l (B t)=some (sectR id gen len l (B t)):=by
 obtain⟨K,rfl⟩ : ∃ j,K=j+1:=⟨K-1,by omega⟩
 have hJ:sluicegateref19_Sectors.j0 (K+1) (B t) true id gen len l=some ([],1):=by
  rw[sluicegateref19_Sectors.j0]
  rw[if_pos rfl]
 unfold sluicegateref19_Sectors.f sectR
 rw[vrvol_f id gen len l (K+1) (by omega),Option.bind_some]
 cases hv:volP id gen len l with
 | false=>rw[if_neg (by simp),hJ,if_neg (by simp)]
 | true=>
  rw[if_pos rfl]
  by_cases hs:((B t).size:Int)=len
  ·have hne:(((B t).size:Int) != len)=false:=by rw[hs];simp
   have h4:t.length≤384:=by have:=(volP_len hv).1;rw[B_size]at hs;omega
   have h9:=(volP_len hv).2.2
   rw[hne,if_pos ⟨rfl,hs⟩,sluicegateref19_Sectors.j0]
   rw[if_neg (by simp),srsh_f t h4 K (by omega),Option.bind_some]
   have he:=enc_f (partsN t) (by rw[parts_len];decide) (by rw[parts_wid t h4];decide) K (by rw[parts_wid t h4,parts_len];omega)
   have hr:encR (partsN t)=(encL (partsN t),0):=by
    unfold encR
    rw[if_pos ⟨parts_len t,parts_even t h4⟩]
   rw[hr]at he
   simp only
   rw[he,Option.bind_some,B_data]
   exact rsect_l0 id gen len l h9 (partsN t) 9 0 K rfl (by omega) (by omega)
  ·have hne:(((B t).size:Int) != len)=true:=by rw[bne_iff_ne];exact hs
   rw[hne,hJ,if_neg (fun h=>hs h.2)]
theorem rgood_f (id gen len:Int) (l:List LocS) (h9:l.length=9) (i:Nat) (hi:i<9) (s:ByteArray) (hs:s.size≤140737488355328):sluicegateref19_Good.f id gen len l (i:Int) s=some (goodR id gen l (i:Int) s).2:=by
 unfold sluicegateref19_Good.f sluicegateref07_Mine.f
 rw[if_pos (by omega),if_pos hs,Option.bind_some]
 unfold goodR
 split<;>rfl
def badX (id gen:Int) (l:List LocS) (xs:List ByteArray) (k:Nat):List Int:=((List.range k).filter fun i=> !hvF id gen l xs i).map fun i:Nat=>(i:Int)
theorem badX_succ (id gen:Int) (l:List LocS) (xs:List ByteArray) (k:Nat):badX id gen l xs (k+1)=if hvF id gen l xs k=true then badX id gen l xs k else badX id gen l xs k++[(k:Int)]:=by
 unfold badX
 rw[List.range_succ,List.filter_append,List.map_append]
 simp only[List.filter_cons,List.filter_nil]
 cases hvF id gen l xs k
 ·rfl
 ·exact List.append_nil _
theorem badX_len (id gen:Int) (l:List LocS) (xs:List ByteArray) (k:Nat):(badX id gen l xs k).length≤k:=by
 unfold badX
 rw[List.length_map]
 have h:=List.length_filter_le (fun i=> !hvF id gen l xs i) (List.range k)
 rwa [List.length_range]at h
theorem rbad_l0 (id gen len:Int) (l:List LocS) (h9:l.length=9) (xs:List ByteArray) (hx:xs.length≤9) (hz : ∀ s∈xs,s.size≤140737488355328) : ∀ (d k K:Nat),xs.length-k=d→k≤xs.length→d<K→sluicegateref19_Bad.l0 K xs (badX id gen l xs k) (k:Int) id gen len l=some (badX id gen l xs xs.length):=by
 intro d
 induction d with
 | zero=>
  intro k K hd hk hK
  obtain⟨K,rfl⟩ : ∃ j,K=j+1:=⟨K-1,by omega⟩
  obtain rfl:k=xs.length:=by omega
  rw[sluicegateref19_Bad.l0]
  rw[if_neg (by omega)]
 | succ d ih=>
  intro k K hd hk hK
  obtain⟨K,rfl⟩ : ∃ j,K=j+1:=⟨K-1,by omega⟩
  have hk9:k<xs.length:=by omega
  have hg:=rgood_f id gen len l h9 k (by omega) (strAt xs k) (by rw[strAt_eq hk9];exact hz _ (List.getElem_mem _))
  have hb:=badX_succ id gen l xs k
  have hbl:=badX_len id gen l xs k
  rw[sluicegateref19_Bad.l0]
  rw[if_pos (by omega),if_pos (by omega),rdOf_str xs k hk9,hg,Option.bind_some,wrap_k k (by omega)]
  show (if hvF id gen l xs k=true then _ else _)=_
  cases hq:hvF id gen l xs k with
  | true=>
   rw[hq,if_pos rfl]at hb
   rw[if_pos rfl,←hb]
   exact ih (k+1) K (by omega) (by omega) (by omega)
  | false=>
   rw[hq,if_neg (by simp)]at hb
   rw[if_neg (by simp),if_pos (by omega),←hb]
   exact ih (k+1) K (by omega) (by omega) (by omega)
theorem rbad_f (id gen len:Int) (l:List LocS) (h9:l.length=9) (xs:List ByteArray) (hx:xs.length≤9) (hz : ∀ s∈xs,s.size≤140737488355328) (K:Nat) (hK:20≤K):sluicegateref19_Bad.f K id gen len l xs=some (badX id gen l xs xs.length):=by
 unfold sluicegateref19_Bad.f
 exact rbad_l0 id gen len l h9 xs hx hz xs.length 0 K rfl (Nat.zero_le _) (by omega)
def idxG (g:Nat→Bool) (k:Nat):List Nat:=(List.range k).filter g
theorem idxG_succ (g:Nat→Bool) (k:Nat):idxG g (k+1)=idxG g k++if g k=true then [k]else []:=by
 unfold idxG
 rw[List.range_succ,List.filter_append,List.filter_cons,List.filter_nil]
theorem idxG_pre (g:Nat→Bool) (k:Nat) : ∀ n,k≤n → ∃ r,idxG g n=idxG g k++r:=by
 intro n
 induction n with
 | zero=>
  intro h
  obtain rfl:k=0:=by omega
  exact⟨[],(List.append_nil _).symm⟩
 | succ n ih=>
  intro h
  rcases Nat.lt_or_ge k (n+1)with h1|h1
  ·obtain⟨r,hr⟩:=ih (by omega)
   exact⟨r++if g n=true then [n]else [],by rw[idxG_succ,hr,List.append_assoc]⟩
  ·obtain rfl:k=n+1:=by omega
   exact⟨[],(List.append_nil _).symm⟩
theorem ragr_l0 (id gen len:Int) (l:List LocS) (h9:l.length=9) (xs L:List ByteArray) (hx:xs.length≤9) (hL:L.length=9) (hz : ∀ s∈xs,s.size≤140737488355328) (hag : ∀ i∈(idxG (hvF id gen l xs) xs.length).take 6,strAt L i=strAt xs i) (h6:6≤(idxG (hvF id gen l xs) xs.length).length) :
  ∀ (d k K:Nat),xs.length-k=d→k≤xs.length→2*d+10<K→(idxG (hvF id gen l xs) k).length≤6→sluicegateref19_Agrees.l0 K xs L 0 ((idxG (hvF id gen l xs) k).length:Int) (k:Int) id gen len l=some true:=by
 intro d
 induction d with
 | zero=>
  intro k K hd hk hK hc
  obtain⟨K,rfl⟩ : ∃ j,K=j+2:=⟨K-2,by omega⟩
  obtain rfl:k=xs.length:=by omega
  have e6:(idxG (hvF id gen l xs) xs.length).length=6:=by omega
  rw[sluicegateref19_Agrees.l0]
  rw[if_neg (by omega),sluicegateref19_Agrees.j1]
  rw[if_neg (by simp),if_pos rfl,e6]
  rfl
 | succ d ih=>
  intro k K hd hk hK hc
  obtain⟨K,rfl⟩ : ∃ j,K=j+2:=⟨K-2,by omega⟩
  have hkx:k<xs.length:=by omega
  rw[sluicegateref19_Agrees.l0]
  rw[if_pos (by omega),if_pos (by omega),if_pos rfl]
  by_cases hc6:(idxG (hvF id gen l xs) k).length<6
  ·have hg:=rgood_f id gen len l h9 k (by omega) (strAt xs k) (by rw[strAt_eq hkx];exact hz _ (List.getElem_mem _))
   have hs:=idxG_succ (hvF id gen l xs) k
   rw[decide_eq_true (by omega),sluicegateref19_Agrees.j1]
   rw[if_pos rfl,if_pos (by omega),if_pos (by omega),rdOf_str xs k hkx,hg,Option.bind_some,wrap_k k (by omega)]
   show (if hvF id gen l xs k=true then _ else _)=_
   cases hq:hvF id gen l xs k with
   | false=>
    rw[hq,if_neg (by simp),List.append_nil]at hs
    rw[if_neg (by simp),←hs]
    exact ih (k+1) K (by omega) (by omega) (by omega) (by rw[hs];omega)
   | true=>
    rw[hq,if_pos rfl]at hs
    have hm:k∈(idxG (hvF id gen l xs) xs.length).take 6:=by
     obtain⟨r,hr⟩:=idxG_pre (hvF id gen l xs) (k+1) xs.length (by omega)
     rw[hr,hs,List.take_append]
     refine List.mem_append_left _ ?_
     rw[List.take_of_length_le (by rw[List.length_append,List.length_singleton];omega)]
     simp
    have hlen:(idxG (hvF id gen l xs) (k+1)).length=(idxG (hvF id gen l xs) k).length+1:=by rw[hs,List.length_append,List.length_singleton]
    rw[if_pos rfl,if_pos (by omega),rdOf_str L k (by omega),if_pos (by rw[hag k hm]),nwrap_k _ (by omega),←hlen]
    exact ih (k+1) K (by omega) (by omega) (by omega) (by omega)
  ·have e6:(idxG (hvF id gen l xs) k).length=6:=by omega
   rw[decide_eq_false (by omega),sluicegateref19_Agrees.j1]
   rw[if_neg (by simp),if_pos rfl,e6]
   rfl
theorem ragr_f (id gen len:Int) (l:List LocS) (hv:volP id gen len l=true) (xs:List ByteArray) (hx:xs.length≤9) (hz : ∀ s∈xs,s.size≤140737488355328) (t:List UInt8) (ht:(t.length:Int)=len) (hag : ∀ i∈(idxG (hvF id gen l xs) xs.length).take 6,strAt xs i=ownX id gen l t i) (h6:6≤(idxG (hvF id gen l xs) xs.length).length) (K:Nat) (hK:2000≤K) :
  sluicegateref19_Agrees.f K id gen len l xs (B t)=some true:=by
 have hR:sectR id gen len l (B t)=(secK id gen l (partsN t) 9,0):=by
  unfold sectR
  rw[if_pos ⟨hv,by rw[B_size];exact ht⟩,B_data]
 unfold sluicegateref19_Agrees.f
 rw[rsect_f id gen len l t K hK,hR,Option.bind_some]
 refine ragr_l0 id gen len l (volP_len hv).2.2 xs (secK id gen l (partsN t) 9) hx (secK_len _ _ _ _ _) hz (fun i hi=> ?_) h6 xs.length 0 K rfl (Nat.zero_le _) (by omega) (Nat.zero_le _)
 have hi2:=List.mem_of_mem_take hi
 have hi9:i<9:=by
  unfold idxG at hi2
  have:=List.mem_range.1 (List.mem_filter.1 hi2).1
  omega
 rw[secK_nine _ _ _ _ i hi9,hag i hi]
end Go.Proofs.YtdcfonmjbelgbaaGreatDoor
end
section
namespace Go.Proofs.YtdcfonmjbelgbaaGreatDoor
open Go.RowKit Q YtdcfonmjbelgbaaGreatDoorW.PrintWords YtdcfonmjbelgbaaGreatDoorW.PrintLast YtdcfonmjbelgbaaGreatDoorW.PrintMore
theorem sfill_agrees (l:List ByteArray) (h:List Bool) (hl:l.length=9) (hh:h.length=9) (he:evenB (leftL l h)=true) (h6:6≤(idx h).length) : ∀ i∈(idx h).take 6,strAt (encL (dataL l h)) i=strAt l i:=by
 intro i hi
 obtain⟨k,hk,hik⟩:=List.getElem_of_mem hi
 have hk6:k<6:=by rw[List.length_take]at hk;omega
 have hm:=idx_mem (List.mem_of_mem_take hi)
 have hg:((idx h).take 6).getD k 0=i:=by rw[List.getD_eq_getElem?_getD,List.getElem?_eq_getElem hk,hik];rfl
 rw[strAt_enc _ i (by omega)]
 have hL:(leftL l h).length=(idx h).length:=by unfold leftL;rw[List.length_map]
 have:=code_has h hh h6 ((leftL l h).take 6) (by rw[List.length_take];omega) (evenB_take he 6 (by omega)) k hk6
 rw[hg]at this
 unfold dataL
 rw[this]
 have e1:strAt ((leftL l h).take 6) k=strAt (leftL l h) k:=by
  unfold strAt
  rw[List.getD_eq_getElem?_getD,List.getD_eq_getElem?_getD,List.getElem?_take,if_pos hk6]
 rw[e1]
 unfold leftL
 rw[strAt_map _ _ _ (by omega)]
 rw[getD_take _ _ _ hk6]at hg
 rw[hg]
theorem flat_part : ∀ (d:List ByteArray),all64 d=true → ∀ i,i<d.length→B (((flatN d).drop (64*i)).take 64)=strAt d i
 | [],_,i,hi=>by simp at hi
 | x::d,h,i,hi=>by
  unfold all64 at h
  rw[List.all_cons,Bool.and_eq_true]at h
  have hx:x.data.toList.length=64:=by rw[size_data];exact eq_of_beq h.1
  have hf:flatN (x::d)=x.data.toList++flatN d:=by simp[flatN]
  rw[hf]
  cases i with
  | zero=>
   rw[Nat.mul_zero,List.drop_zero,List.take_append_of_le_length (by omega),List.take_of_length_le (by omega),B_eta]
   rfl
  | succ i=>
   have ih:=flat_part d (by unfold all64;exact h.2) i (by simpa using hi)
   rw[show 64*(i+1)=x.data.toList.length+64*i by omega,List.drop_append,List.drop_of_length_le (by omega),List.nil_append,Nat.add_sub_cancel_left,ih]
   rfl
theorem flat_parts_of (d:List ByteArray) (h6:d.length=6) (ha:all64 d=true) (s:List UInt8) (hs:padN s=flatN d):partsN s=d:=by
 apply List.ext_getElem
 ·rw[parts_len,h6]
 ·intro i h1 h2
  have hi:i<6:=by rw[parts_len]at h1;exact h1
  have e:=flat_part d ha i h2
  rw[strAt_eq h2]at e
  rw[←e,←hs]
  match i,hi with
  | 0,_|1,_|2,_|3,_|4,_|5,_=>rfl
theorem pad_back (F:List UInt8) (h:F.length=384) (n:Nat) (hn:n≤384) (hz:zeroB (F.drop n)=true):padN (F.take n)=F:=by
 have hd:F.drop n=List.replicate (384-n) 0:=by
  apply List.eq_replicate_iff.2
  refine⟨by rw[List.length_drop,h],fun b hb=> ?_⟩
  unfold zeroB at hz
  have:=List.all_eq_true.1 hz b hb
  simpa using this
 unfold padN
 rw[List.length_take,h,Nat.min_eq_left hn,←hd,List.take_append_drop]
theorem left_even {id gen len:Int} {l:List LocS} (hv:volP id gen len l=true) (xs:List ByteArray) {sh:List ByteArray} {hb:List Bool} (h9:hb.length=9) (hx : ∀ i,i<9→hb.getD i false=true→(strAt sh i).size=64):evenB (leftL sh hb)=true∧(∀ s∈leftL sh hb,s.size=64):=by
 have hall : ∀ s∈leftL sh hb,s.size=64:=fun s hs=>by
  unfold leftL at hs
  obtain⟨i,hi,rfl⟩:=List.mem_map.1 hs
  have hm:=idx_mem hi
  exact hx i (by omega) hm.2
 refine⟨?_,hall⟩
 unfold evenB
 rw[List.all_eq_true]
 intro s hs
 have hw:wid (leftL sh hb)=64:=by
  unfold wid
  have hpos:0<(leftL sh hb).length:=List.length_pos_of_mem hs
  rw[strAt_eq hpos]
  exact hall _ (List.getElem_mem _)
 rw[hw,hall s hs]
 rfl
theorem join_cases {id gen len:Int} {l:List LocS} (hv:volP id gen len l=true) {sh:List ByteArray} {hb:List Bool} (h1:sh.length=9) (h9:hb.length=9) (hx : ∀ i,i<9→hb.getD i false=true→(strAt sh i).size=64) :
  ((idx hb).length<6∧joinF len sh hb=(⟨#[]⟩,2))∨(6≤(idx hb).length∧joinF len sh hb=(⟨#[]⟩,4))∨(6≤(idx hb).length ∧ ∃ t:List UInt8,(t.length:Int)=len∧joinF len sh hb=(B t,0) ∧ ∀ i∈(idx hb).take 6,strAt (encL (partsN t)) i=strAt sh i):=by
 obtain⟨hev,hall⟩:=left_even hv [] h9 hx
 have hlen:=volP_len hv
 by_cases h6:(idx hb).length<6
 ·refine .inl ⟨h6,?_⟩
  have hF:fillR sh hb=([],2):=by
   unfold fillR
   rw[if_pos ⟨h1,h9⟩,if_pos hev,if_pos h6]
  unfold joinF
  rw[hF]
  rfl
 ·refine .inr ?_
  have hF:=fillR_ok h1 h9 hev (by omega:6≤(idx hb).length)
  have hd6:(dataL sh hb).length=6:=dataK_len _ _ _
  have hde:evenB (dataL sh hb)=true:=evenB_dataK _ _ _
  have ha:all64 (dataL sh hb)=true:=by
   unfold all64
   rw[List.all_eq_true]
   intro s hs
   unfold dataL dataK at hs
   obtain⟨i,_,rfl⟩:=List.mem_map.1 hs
   rw[mixS_size]
   have hL:(leftL sh hb).length=(idx hb).length:=by unfold leftL;rw[List.length_map]
   have hw:wid ((leftL sh hb).take 6)=64:=by
    unfold wid
    have hpos:0<((leftL sh hb).take 6).length:=by rw[List.length_take];omega
    rw[strAt_eq hpos]
    exact hall _ (List.mem_of_mem_take (List.getElem_mem _))
   rw[hw]
   rfl
  have hfa:=sfill_agrees sh hb h1 h9 hev (by omega)
  have hjn:joinF len sh hb=joinR (dataL sh hb) len:=by
   unfold joinF
   rw[hF,if_pos rfl,enc_take _ hd6 hde]
  rw[hjn]
  generalize dataL sh hb=d at hd6 ha hfa
  obtain⟨n,hn⟩ : ∃ n:Nat,len=(n:Int):=⟨len.toNat,by omega⟩
  have hfl:=flat_len d ha
  unfold joinR
  rw[if_pos ⟨hd6,hlen.2.1,hlen.1,ha⟩]
  subst hn
  rw[Int.toNat_natCast]
  cases hz:zeroB ((flatN d).drop n)with
  | false=>exact .inl ⟨by omega,by rw[if_neg (by simp)]⟩
  | true=>
   refine .inr ⟨by omega,(flatN d).take n,?_,by rw[if_pos rfl],?_⟩
   ·rw[List.length_take];omega
   ·have hp:=flat_parts_of d hd6 ha ((flatN d).take n) (pad_back (flatN d) (by omega) n (by omega) hz)
    rw[hp]
    exact hfa
theorem idxG_bad (id gen:Int) (l:List LocS) (xs:List ByteArray) (k:Nat):(badX id gen l xs k).length+(idxG (hvF id gen l xs) k).length=k:=by
 unfold badX idxG
 rw[List.length_map]
 have:=filt_two (hvF id gen l xs) (List.range k)
 rw[List.length_range]at this
 exact this
end Go.Proofs.YtdcfonmjbelgbaaGreatDoor
end
section
namespace Go.Proofs.YtdcfonmjbelgbaaGreatDoor
open Go.RowKit Q YtdcfonmjbelgbaaGreatDoorW.PrintWords YtdcfonmjbelgbaaGreatDoorW.PrintLast YtdcfonmjbelgbaaGreatDoorW.PrintMore
theorem small_f (l:List ByteArray) (a b:Int) (hl:l.length≤9223372036854775807) (j:Nat):sluicegateref02_Small.f (l.length+1+j) l a b=some (smallS l a b):=by
 induction j with
 | zero=>exact small_l0 l a b hl l.length 0 (by omega)
 | succ j ih=>exact sluicegateref02_Small.mono _ _ _ _ _ ih
theorem own_of {id gen len:Int} {l:List LocS} (hv:volP id gen len l=true) (xs:List ByteArray) (t:List UInt8) (i:Nat) (hi:i<9) (hg:hvF id gen l xs i=true) (he:strAt (encL (partsN t)) i=shF id gen l xs i):strAt xs i=ownX id gen l t i:=by
 have h:=(good_inv hv i hi (strAt xs i) hg).1
 unfold ownX
 rw[he]
 exact h
end Go.Proofs.YtdcfonmjbelgbaaGreatDoor
end
section
namespace Go.Proofs.YtdcfonmjbelgbaaGreatDoor
open Go.RowKit Q YtdcfonmjbelgbaaGreatDoorW.PrintWords YtdcfonmjbelgbaaGreatDoorW.PrintLast YtdcfonmjbelgbaaGreatDoorW.PrintMore
theorem idx_count : ∀ h:List Bool,(idx h).length=h.countP id
 | []=>rfl
 | a::h=>by
  have ih:=idx_count h
  unfold idx at ih ⊢
  rw[List.length_cons,List.range_succ_eq_map,List.filter_cons,List.filter_map,List.countP_cons,←ih]
  have e:(fun i=>(a::h).getD i false) ∘ Nat.succ=fun i=>h.getD i false:=rfl
  rw[e]
  cases a
  ·simp
  ·simp
theorem idx_set (h:List Bool) (h9:h.length=9) (n:Nat) (hn:n<9) (h0:h.getD n false=false) (q:Bool):(idx (h.set n q)).length=(idx h).length+(if q=true then 1 else 0):=by
 rw[idx_count,idx_count,List.countP_set (by omega)]
 have e:h[n]'(by omega)=false:=by
  rw[List.getD_eq_getElem?_getD,List.getElem?_eq_getElem (by omega)]at h0
  exact h0
 rw[e]
 cases q<;>rfl
theorem rep_false (i:Nat):(List.replicate 9 false).getD i false=false:=by
 rcases Nat.lt_or_ge i 9 with h|h
 ·match i,h with
  | 0,_|1,_|2,_|3,_|4,_|5,_|6,_|7,_|8,_=>rfl
 ·rw[List.getD_eq_getElem?_getD,List.getElem?_eq_none (by rw[List.length_replicate];exact h)]
  rfl
structure HoldR (id gen:Int) (l:List LocS) (xs:List ByteArray) (sh:List ByteArray) (hv:List Bool) (n gd:Nat):Prop where
 own : ∀ i,i<n→hv.getD i false=hvF id gen l xs i∧strAt sh i=shF id gen l xs i
 free : ∀ i,n≤i→hv.getD i false=false
 cnt:(idx hv).length=gd
 sz : ∀ s∈sh,s.size≤64
theorem HoldR.put {id gen:Int} {l:List LocS} {xs sh:List ByteArray} {hv:List Bool} {n gd:Nat} (h:HoldR id gen l xs sh hv n gd) (h1:sh.length=9) (h2:hv.length=9) (hn:n<9):HoldR id gen l xs (sh.set n (goodR id gen l (n:Int) (strAt xs n)).1) (hv.set n (goodR id gen l (n:Int) (strAt xs n)).2) (n+1) (gd+if (goodR id gen l (n:Int) (strAt xs n)).2=true then 1 else 0):=by
 have hG : ∀ i q,(hv.set n q).getD i false=if n=i then q else hv.getD i false:=fun i q=>by
  rw[List.getD_eq_getElem?_getD,List.getD_eq_getElem?_getD]
  by_cases he:n=i
  ·subst he
   rw[List.getElem?_set_self (by omega),if_pos rfl]
   rfl
  ·rw[List.getElem?_set_ne he,if_neg he]
 have hX : ∀ i s,strAt (sh.set n s) i=if n=i then s else strAt sh i:=fun i s=>by
  unfold strAt
  rw[List.getD_eq_getElem?_getD,List.getD_eq_getElem?_getD]
  by_cases he:n=i
  ·subst he
   rw[List.getElem?_set_self (by omega),if_pos rfl]
   rfl
  ·rw[List.getElem?_set_ne he,if_neg he]
 refine⟨fun i hi=> ?_,fun i hi=> ?_,?_,fun x hx=> ?_⟩
 ·rw[hG i,hX i]
  by_cases he:n=i
  ·subst he
   rw[if_pos rfl,if_pos rfl]
   exact⟨rfl,rfl⟩
  ·rw[if_neg he,if_neg he]
   exact h.own i (by omega)
 ·rw[hG i,if_neg (by omega)]
  exact h.free i (by omega)
 ·rw[idx_set hv h2 n hn (h.free n (Nat.le_refl _)),h.cnt]
 ·rcases List.mem_or_eq_of_mem_set hx with h1|h1
  ·exact h.sz x h1
  ·rw[h1];exact good_small _ _ _ _ _
theorem holdR_zero (id gen:Int) (l:List LocS) (xs:List ByteArray):HoldR id gen l xs (List.replicate 9 ⟨#[]⟩) (List.replicate 9 false) 0 0:=
 ⟨fun i hi=>by omega,fun i _=>rep_false i,by decide,fun s hs=>by rw[List.eq_of_mem_replicate hs];exact Nat.zero_le _⟩
theorem hvF_take (id gen:Int) (l:List LocS) (xs:List ByteArray) (n i:Nat) (h:i<n):hvF id gen l (xs.take n) i=hvF id gen l xs i:=by
 unfold hvF strAt
 rw[List.getD_eq_getElem?_getD,List.getD_eq_getElem?_getD,List.getElem?_take_of_lt h]
theorem idxG_congr {f g:Nat→Bool} (k:Nat) (h : ∀ i,i<k→f i=g i):idxG f k=idxG g k:=by
 unfold idxG
 exact List.filter_congr fun i hi=>h i (List.mem_range.1 hi)
theorem idxG_free {g:Nat→Bool} {n:Nat} (h : ∀ i,n≤i→g i=false) : ∀ k,n≤k→idxG g k=idxG g n:=by
 intro k
 induction k with
 | zero=>
  intro hk
  obtain rfl:n=0:=by omega
  rfl
 | succ k ih=>
  intro hk
  rcases Nat.lt_or_ge n (k+1)with h1|h1
  ·rw[idxG_succ,h k (by omega),if_neg (by simp),List.append_nil]
   exact ih (by omega)
  ·obtain rfl:n=k+1:=by omega
   rfl
theorem HoldR.idx_eq {id gen:Int} {l:List LocS} {xs sh:List ByteArray} {hv:List Bool} {n gd:Nat} (h:HoldR id gen l xs sh hv n gd) (h2:hv.length=9) (hn:n≤9):idx hv=idxG (hvF id gen l (xs.take n)) n:=by
 have e:idx hv=idxG (fun i=>hv.getD i false) 9:=by
  unfold idx idxG
  rw[h2]
 rw[e,idxG_free h.free 9 hn]
 exact idxG_congr n fun i hi=>by rw[hvF_take _ _ _ _ _ _ hi];exact(h.own i hi).1
theorem HoldR.bad_eq {id gen:Int} {l:List LocS} {xs sh:List ByteArray} {hv:List Bool} {n gd:Nat} (h:HoldR id gen l xs sh hv n gd):badX id gen l (xs.take n) n=badN hv n:=by
 unfold badX badN
 rw[List.filter_congr fun i hi=>by rw[hvF_take _ _ _ _ _ _ (List.mem_range.1 hi),← (h.own i (List.mem_range.1 hi)).1]]
theorem HoldR.cnt_eq {id gen:Int} {l:List LocS} {xs sh:List ByteArray} {hv:List Bool} {n gd:Nat} (h:HoldR id gen l xs sh hv n gd) (h2:hv.length=9) (hn:n≤9):(badN hv n).length+gd=n:=by
 have h1:=idxG_bad id gen l (xs.take n) n
 rw[h.bad_eq,←h.idx_eq h2 hn,h.cnt]at h1
 exact h1
section
variable {id gen len:Int} {l:List LocS} {xs sh:List ByteArray} {hv:List Bool} {n gd:Nat}
theorem reads_bad (hv9:volP id gen len l=true) (hz : ∀ s∈xs,s.size≤300) (h:HoldR id gen l xs sh hv n gd) (hn:n≤9) (hx:n≤xs.length):sluicegateref19_Bad.f 3000 id gen len l (xs.take n)=some (badN hv n):=by
 have hl:(xs.take n).length=n:=by rw[List.length_take];omega
 have hb:=rbad_f id gen len l (volP_len hv9).2.2 (xs.take n) (by omega) (fun s hs=>by have:=hz s (List.mem_of_mem_take hs);omega) 3000 (by decide)
 rw[hl,h.bad_eq]at hb
 exact hb
theorem reads_next (hv9:volP id gen len l=true) (hz : ∀ s∈xs,s.size≤300) (h:HoldR id gen l xs sh hv n gd) (h2:hv.length=9) (hn:n≤9) (hg:gd≤6) (hx:n≤xs.length):sluicegateref19_Next.f 3000 id gen len l (xs.take n)=some (wantsF n gd):=by
 have hl:(xs.take n).length=n:=by rw[List.length_take];omega
 have hc:=h.cnt_eq h2 hn
 unfold sluicegateref19_Next.f wantsF
 rw[hl]
 by_cases h9:n=9
 ·rw[if_pos (by omega),if_pos (.inr (by omega))]
 ·rw[if_neg (by omega),reads_bad hv9 hz h hn hx,Option.bind_some]
  have hw:wrap64 ((n:Int)-((badN hv n).length:Int))=gd:=by unfold wrap64;omega
  rw[hw]
  by_cases h6:gd=6
  ·rw[if_pos (by omega),if_pos (.inl (by omega))]
  ·rw[if_neg (by omega),if_neg (by omega)]
theorem reads_text (hv9:volP id gen len l=true) (hz : ∀ s∈xs,s.size≤300) (h:HoldR id gen l xs sh hv n 6) (h1:sh.length=9) (h2:hv.length=9) (hn:n≤9) (hx:n≤xs.length) :
  joinF len sh hv=(⟨#[]⟩,4) ∨ ∃ s,joinF len sh hv=(s,0)∧sluicegateref19_Agrees.f 3000 id gen len l (xs.take n) s=some true:=by
 have hl:(xs.take n).length=n:=by rw[List.length_take];omega
 have hi:=h.idx_eq h2 hn
 have hg : ∀ i,i<9→hv.getD i false=true→i<n:=fun i hi hq=>by
  rcases Nat.lt_or_ge i n with hlt|hge
  ·exact hlt
  ·rw[h.free i hge]at hq;cases hq
 have h64 : ∀ i,i<9→hv.getD i false=true→(strAt sh i).size=64:=fun i hi hq=>by
  have ho:=h.own i (hg i hi hq)
  rw[hq]at ho
  rw[ho.2]
  exact(good_inv hv9 i hi (strAt xs i) ho.1.symm).2
 rcases join_cases hv9 h1 h2 h64 with ⟨h6,-⟩|⟨-,hj⟩|⟨-,t,ht,hj,hag⟩
 ·rw[h.cnt]at h6;omega
 ·exact .inl hj
 ·refine .inr ⟨B t,hj,ragr_f id gen len l hv9 (xs.take n) (by omega) (fun s hs=>by have:=hz s (List.mem_of_mem_take hs);omega) t ht (fun i hi2=> ?_) ?_ 3000 (by decide)⟩
  ·rw[hl,←hi]at hi2
   have h3:=hag i hi2
   have h4:=List.mem_of_mem_take hi2
   unfold idx at h4
   have hm:=List.mem_filter.1 h4
   have hi9:i<9:=by have:=List.mem_range.1 hm.1;omega
   have hin:=hg i hi9 hm.2
   have ho:=h.own i hin
   have hq:hvF id gen l (xs.take n) i=true:=by rw[hvF_take _ _ _ _ _ _ hin,←ho.1];exact hm.2
   have hs:shF id gen l (xs.take n) i=shF id gen l xs i:=by
    unfold shF strAt
    rw[List.getD_eq_getElem?_getD,List.getD_eq_getElem?_getD,List.getElem?_take_of_lt hin]
   exact own_of hv9 (xs.take n) t i hi9 hq (by rw[h3,ho.2,hs])
  ·rw[hl,←hi,h.cnt]
   exact Nat.le_refl _
theorem take_not {w:World} {g:Nat} (h:Rd w g id gen len l sh hv (n:Int) (gd:Int)) (hn:n≤9) (hg:gd≤6) (ix:Int) (s:ByteArray) (hs:s.size≤300) (hi:ix≠wantsF n gd):Calls Tryz.prog 20 #[.pointer (some ⟨g,0,none⟩),.int .i64 ix,.string s] w fun e w'=>e = .returned (.bool false)∧w=w':=by
 refine(take_calls h hn (by omega) ix s (by omega)).mono ?_
 rintro e w' (⟨-,rfl,rfl⟩|⟨⟨h1,h2⟩,-⟩)
 ·exact⟨rfl,rfl⟩
 ·exfalso
  apply hi
  unfold wantsF at h1 ⊢
  by_cases hq:((gd:Int)=6∨(n:Int)=9)
  ·rw[if_pos hq]at h1;omega
  ·rw[if_neg hq];exact h2
theorem take_now {w:World} {g:Nat} (h:Rd w g id gen len l sh hv (n:Int) (gd:Int)) (hn:n<9) (hg:gd≤6) (hw : ¬ wantsF n gd<0) (s:ByteArray) (hs:s.size≤300):Calls Tryz.prog 20 #[.pointer (some ⟨g,0,none⟩),.int .i64 (n:Int),.string s] w fun e w'=>e = .returned (.bool (goodR id gen l (n:Int) s).2)∧Rd w' g id gen len l (sh.set n (goodR id gen l (n:Int) s).1) (hv.set n (goodR id gen l (n:Int) s).2) ((n+1:Nat):Int) ((gd+(if (goodR id gen l (n:Int) s).2=true then 1 else 0):Nat):Int)∧Below g w w':=by
 refine(take_calls h (by omega) (by omega) (n:Int) s (by omega)).mono ?_
 rintro e w' (⟨h1|h1,-⟩|⟨-,h3⟩)
 ·exact absurd h1 hw
 ·exact absurd rfl h1
 ·exact h3
theorem wants_six {w:World} {g:Nat} (h:Rd w g id gen len l sh hv (n:Int) ((6:Nat):Int)):Calls Tryz.prog 19 #[.pointer (some ⟨g,0,none⟩)] w fun e w'=>e = .returned (.int .i64 (-1))∧w=w':=by
 have h1:=wants_calls h
 have e:wantsF (n:Int) ((6:Nat):Int) = -1:=if_pos (.inl rfl)
 rw[e]at h1
 exact h1
end
end Go.Proofs.YtdcfonmjbelgbaaGreatDoor
end
section
namespace Go.Proofs.YtdcfonmjbelgbaaGreatDoor
open Go.RowKit Q YtdcfonmjbelgbaaGreatDoorW.PrintWords YtdcfonmjbelgbaaGreatDoorW.PrintLast YtdcfonmjbelgbaaGreatDoorW.PrintMore
theorem reads_calls (id gen len:Int) (A:Option Addr) (c:Nat) (l:List LocS) (A1:Option Addr) (c1:Nat) (xs:List ByteArray) (ix:Int) (w:World) (hr:Kd.C k59 w A l.length l) (hc:l.length≤c) (hr2:Kd.C Kd.string w A1 xs.length xs) (hc2:xs.length≤c1) :
  Calls Tryz.prog 5 #[.agg #[.int .i64 id,.int .i64 gen,.int .i64 len,.slice A l.length c],.slice A1 xs.length c1,.int .i64 ix] w fun e w'=>e = .returned (.bool true)∧Below w.heap.size w w':=by
 obtain⟨W,hW⟩ : ∃ W,w.alloc (.cells #[.int .i64 id,.int .i64 gen,.int .i64 len,.slice A l.length c] 24)=W:=⟨_,rfl⟩
 have HB:Aside0 (Below w.heap.size w W):=⟨by rw[←hW];exact below_alloc (Below.refl _ _) _⟩
 have HX:Aside0 (Blk W w.heap.size #[.int .i64 id,.int .i64 gen,.int .i64 len,.slice A l.length c] 24):=⟨by rw[←hW];exact Blk.new w _ _⟩
 have HC:=Aside0.mk (Kd.C_below hr HB.out)
 have HD:=Aside0.mk (Kd.C_below hr2 HB.out)
 have HW:=Lib.hid hW
 have HCC:=Lib.hid hc
 have HC2:=Lib.hid hc2
 have HMX:=Lib.hid (Kd.C_max hr2)
 clear hW hr hr2 hc hc2
 go_enter Tryz.func5,Tryz.ntmps5
 go_wp2_with (first|(refine gate_ (.load 24 (.tmp 3)) rfl ?_;rw[HW.out];clear HW;refine wpList_load_row rfl 24 (.tmp 3) rfl w.heap.size rfl _ #[.int .i64 id,.int .i64 gen,.int .i64 len,.slice A l.length c] (0,0) _ HX.out Tryz.underlying24 rfl (by kernel_rfl) ?_;simp only[Act.put,zA,zB,zC]))
 refine(sluicegatelaw19_small.calls id gen len A c l (decide ((l.length:Int)≤20)) W HC.out HCC.out rfl).mono ?_
 rintro e w1 ⟨rfl,b1⟩
 replace HB:=Aside0.mk (below2 HB.out HB.out.size b1)
 replace HX:=Aside0.mk (HX.out.keep b1)
 replace HC:=Aside0.mk (Kd.C_below HC.out b1)
 replace HD:=Aside0.mk (Kd.C_below HD.out b1)
 clear b1
 by_cases hs:(l.length:Int)≤20
 case neg=>
  rw[decide_eq_false hs]
  clear hs
  go_wp2_with fail
  refine(slive_calls _).mono ?_
  rintro e wl ⟨rfl,bl⟩
  go_wp2_with fail
  go_ret
  exact⟨rfl,below2 HB.out HB.out.size bl⟩
 rw[decide_eq_true hs]
 have HLL:Hid (l.length≤1000):=Lib.hid (by omega)
 clear hs
 go_wp2_with fail
 refine(sluicegateref02_Small.calls (xs.length+1+3000) A1 c1 xs 12 300 (smallS xs 12 300) w1 HD.out HC2.out (small_f xs 12 300 HMX.out 3000)).mono ?_
 rintro e w2 ⟨rfl,hd⟩
 have b1:=hd.below
 clear hd
 replace HB:=Aside0.mk (below2 HB.out HB.out.size b1)
 replace HX:=Aside0.mk (HX.out.keep b1)
 replace HC:=Aside0.mk (Kd.C_below HC.out b1)
 replace HD:=Aside0.mk (Kd.C_below HD.out b1)
 clear b1
 cases hsm:smallS xs 12 300 with
 | false=>
  clear hsm
  go_wp2_with fail
  refine(slive_calls _).mono ?_
  rintro e wl ⟨rfl,bl⟩
  go_wp2_with fail
  go_ret
  exact⟨rfl,below2 HB.out HB.out.size bl⟩
 | true=>
 have H12:Hid (xs.length≤12):=Lib.hid (by have:=(smallS_has hsm).2;omega)
 have HZ:Aside0 (∀ s∈xs,s.size≤300):=⟨fun s h=>by have:=(smallS_has hsm).1 s h;omega⟩
 clear hsm
 go_wp2_with (first|(refine gate_ (.load 24 (.tmp 3)) rfl ?_;refine wpList_load_row rfl 24 (.tmp 3) rfl w.heap.size rfl _ #[.int .i64 id,.int .i64 gen,.int .i64 len,.slice A l.length c] (0,0) _ HX.out Tryz.underlying24 rfl (by kernel_rfl) ?_;simp only[Act.put,zA,zB,zC]))
 refine(sread_calls id gen len A c l w2 HC.out HLL.out).mono ?_
 rintro e w3 (⟨hv,⟨g,rfl,hrd,hg⟩,b1⟩|⟨hv,rfl,b1⟩)
 rotate_left
 ·have hvol:=sluicegateref11_Volume.calls 120 id gen len A c l false w3 (Kd.C_below HC.out b1) HCC.out (by rw[vrvol_f id gen len l 120 (by decide),hv])
  replace HB:=Aside0.mk (below2 HB.out HB.out.size b1)
  replace HX:=Aside0.mk (HX.out.keep b1)
  clear b1 hv
  go_wp2_with (first|(refine gate_ (.load 24 (.tmp 3)) rfl ?_;refine wpList_load_row rfl 24 (.tmp 3) rfl w.heap.size rfl _ #[.int .i64 id,.int .i64 gen,.int .i64 len,.slice A l.length c] (0,0) _ HX.out Tryz.underlying24 rfl (by kernel_rfl) ?_;simp only[Act.put,zA,zB,zC]))
  refine hvol.mono ?_
  rintro e w4 ⟨rfl,b1⟩
  replace HB:=Aside0.mk (below2 HB.out HB.out.size b1)
  clear b1 hvol
  go_wp2_with fail
  refine(slive_calls _).mono ?_
  rintro e wl ⟨rfl,bl⟩
  go_wp2_with fail
  go_ret
  exact⟨rfl,below2 HB.out HB.out.size bl⟩
 have HV:=Lib.hid hv
 have hvol:=sluicegateref11_Volume.calls 120 id gen len A c l true w3 (Kd.C_below HC.out b1) HCC.out (by rw[vrvol_f id gen len l 120 (by decide),hv])
 have HG:=Lib.hid hg
 have HBG:=Aside0.mk b1
 have HRD:=Aside0.mk (show Rd w3 g id gen len l (List.replicate 9 ⟨#[]⟩) (List.replicate 9 false) ((0:Nat):Int) ((0:Nat):Int)from hrd)
 have HH:=Aside0.mk (holdR_zero id gen l xs)
 have HX3:=Aside0.mk (HX.out.keep b1)
 clear hg b1 hrd hv
 go_wp2_with (first|(refine gate_ (.load 24 (.tmp 3)) rfl ?_;refine wpList_load_row rfl 24 (.tmp 3) rfl w.heap.size rfl _ #[.int .i64 id,.int .i64 gen,.int .i64 len,.slice A l.length c] (0,0) _ HX3.out Tryz.underlying24 rfl (by kernel_rfl) ?_;simp only[Act.put,zA,zB,zC]))
 refine hvol.mono ?_
 rintro e w4 ⟨rfl,b1⟩
 replace HRD:=Aside0.mk (HRD.out.keep b1)
 replace HBG:=Aside0.mk (below2 HBG.out HBG.out.size b1)
 clear b1 hvol HX3
 go_wp2_with fail
 go_loopw [9] (fun v wr=> ∃ (n gd:Nat) (sh:List ByteArray) (hv:List Bool),n≤9∧n≤xs.length∧gd≤6∧v = .int .i64 n∧Aside0 (Rd wr g id gen len l sh hv (n:Int) (gd:Int))∧Aside0 (HoldR id gen l xs sh hv n gd)∧Aside0 (Below w2.heap.size w2 wr)) (fun v _=>9-(intOf v).toNat)
 case atStart=>exact⟨0,0,_,_,by omega,by omega,by omega,rfl,HRD,HH,HBG⟩
 case round=>
  clear HRD HH HBG
  obtain⟨n,gd,sh,hv,hn,hnx,hgd,rfl,HRD,HH,HBG⟩:=hrel
  have HN:=Lib.hid hn
  have HNX':=Lib.hid hnx
  have HG6:=Lib.hid hgd
  have hu:=Tryz.underlying24
  have HLN:Hid ((xs.take n).length=n):=Lib.hid (by rw[List.length_take];omega)
  have HLC:Hid ((n:Int)≤(c1:Int)):=Lib.hid (by have:=HC2.out;omega)
  obtain⟨W,hW⟩ : ∃ W,wantsF n gd=W:=⟨_,rfl⟩
  have HNX:Aside0 (∀ w',Below w2.heap.size w2 w'→Calls Tryz.prog 18 #[.agg #[.int .i64 id,.int .i64 gen,.int .i64 len,.slice A l.length c],.slice A1 n c1] w' fun e w''=>e = .returned (.int .i64 W)∧Below w'.heap.size w' w''):=⟨fun w' hw'=>by
   have h:=sluicegateref19_Next.calls 3000 id gen len A c l A1 c1 (xs.take n) (wantsF n gd) w' (Kd.C_below HC.out hw') HCC.out (Kd.C_below (strs_take HD.out n hnx) hw') (by rw[HLN.out];have:=HC2.out;omega) (reads_next HV.out HZ.out HH.out HRD.out.hv9 hn hgd hnx)
   rw[HLN.out,hW]at h
   exact h⟩
  have HRB:Aside0 (∀ w',Below w2.heap.size w2 w'→Calls Tryz.prog 15 #[.agg #[.int .i64 id,.int .i64 gen,.int .i64 len,.slice A l.length c],.slice A1 n c1] w' fun e w''=> ∃ A' c',e = .returned (.slice A' (badN hv n).length c')∧Kd.C (Kd.int .i64) w'' A' (badN hv n).length (badN hv n)∧(badN hv n).length≤c'∧Below w'.heap.size w' w''):=⟨fun w' hw'=>by
   have h:=sluicegateref19_Bad.calls 3000 id gen len A c l A1 c1 (xs.take n) (badN hv n) w' (Kd.C_below HC.out hw') HCC.out (Kd.C_below (strs_take HD.out n hnx) hw') (by rw[HLN.out];have:=HC2.out;omega) (reads_bad HV.out HZ.out HH.out hn hnx)
   rw[HLN.out]at h
   refine h.mono ?_
   rintro e w'' ⟨v,rfl,hR,hb⟩
   obtain⟨A',c',rfl⟩:=Kd.R_slice hR
   exact⟨A',c',rfl,(Kd.R_reads' hR).2.2,(Kd.R_reads' hR).2.1,hb⟩⟩
  have HCN:Hid ((badN hv n).length+gd=n):=Lib.hid (HH.out.cnt_eq HRD.out.hv9 hn)
  have HW:=Lib.hid hW
  have HIN:Hid (sluicegateref06_Ints.f 3000 (badN hv n) (badN hv n)=some true):=Lib.hid (ints_f _ (by have:=badN_len hv n;omega) _ (by have:=badN_len hv n;omega))
  clear hW
  by_cases hlt:n<xs.length
  rotate_left
  have hlt1 : ¬ (n:Int)<(xs.length:Int):=by omega
  have hnc:=HLC.out
  have hn0:(0:Int)≤(n:Int):=by omega
  clear hlt hn hnx hgd
  go_wp2_with fail
  rotate_left
  focus
   obtain⟨x,hx⟩ : ∃ x,strAt xs n=x:=⟨_,rfl⟩
   obtain⟨ad,ea,hck⟩:=strs_at HD.out n hlt
   obtain⟨_,e0,hc0⟩:=strs_at HD.out 0 (by omega)
   subst ea
   cases e0
   rw[add_zero']at hc0
   rw[hx]at hck
   obtain⟨ab,ao,eb⟩ : ∃ ab ao,ad=⟨ab,ao,none⟩:=⟨_,_,spot_none hc0⟩
   subst eb
   simp only[Addr.add]at hck
   have HK:Hid (w2.cell? ⟨ab,ao+n,none⟩=some (.string x)):=Lib.hid (by
    rcases Nat.eq_zero_or_pos n with h|h
    ·rw[if_pos h]at hck;rw[h];exact hck
    ·rw[if_neg (by omega)]at hck;exact hck)
   have HXZ:Hid (x.size≤300):=Lib.hid (by rw[←hx,strAt_eq hlt];exact HZ.out _ (List.getElem_mem hlt))
   have HXE:=Lib.hid hx
   have hlt1:(n:Int)<(xs.length:Int):=by omega
   have HLT:=Lib.hid hlt
   clear hck hx hc0 hlt hn hnx hgd
   have hnc:=HLC.out
   have hn0:(0:Int)≤(n:Int):=by omega
   go_wp2_with fail
   refine start_ (n:=6) (S:=fun w'=>w'.cell? ⟨w.heap.size,0,none⟩=some (.int .i64 id)∧w'.cell? ⟨w.heap.size,1,none⟩=some (.int .i64 gen)∧w'.cell? ⟨w.heap.size,2,none⟩=some (.int .i64 len)∧w'.cell? ⟨w.heap.size,3,none⟩=some (.slice A l.length c)) (ds:=[]) #[false,false,false,false,false,false] (by kernel_rfl) rfl rfl ⟨((HX.out.keep (below2 HBG.out HBG.out.size (Below.drew (Below.refl wr.heap.size wr)))).cell (i:=0) rfl),((HX.out.keep (below2 HBG.out HBG.out.size (Below.drew (Below.refl wr.heap.size wr)))).cell (i:=1) rfl),((HX.out.keep (below2 HBG.out HBG.out.size (Below.drew (Below.refl wr.heap.size wr)))).cell (i:=2) rfl),((HX.out.keep (below2 HBG.out HBG.out.size (Below.drew (Below.refl wr.heap.size wr)))).cell (i:=3) rfl)⟩ (fun hHeld=> ?_)
   refine pure_ (i:=1) (N:=some 53) (v:= ?_) (a':= ?_) #[false,true,false,false,false,false] rfl rfl (by kernel_rfl) (fun _ _ _ h=>h) (Or.inl ⟨by rfl,?_⟩) ?_ ?_
   rotate_left
   ·intro w'
    go_simp
    with_reducible rfl
   rotate_left
   ·simp only[Act.put,zA,zB,zC]
    rfl
   refine pure_ (i:=2) (N:=some 54) (v:= ?_) (a':= ?_) #[false,true,true,false,false,false] rfl rfl (by kernel_rfl) (fun _ _ _ h=>h) (Or.inl ⟨by rfl,?_⟩) ?_ ?_
   rotate_left
   ·intro w'
    go_simp
    with_reducible rfl
   rotate_left
   ·simp only[Act.put,zA,zB,zC]
    rfl
   refine pure_ (i:=3) (N:=some 55) (v:= ?_) (a':= ?_) #[false,true,true,true,false,false] rfl rfl (by kernel_rfl) (fun _ _ _ h=>h) (Or.inl ⟨by rfl,?_⟩) ?_ ?_
   rotate_left
   ·intro w'
    go_simp
    with_reducible rfl
   rotate_left
   ·simp only[Act.put,zA,zB,zC]
    rfl
   refine take_ (i:=0) (N:=some 52) (v:= ?_) (a':= ?_) #[true,true,true,true,false,false] rfl rfl (by kernel_rfl) (fun _ _ _ h=>h) (Or.inl ⟨by rfl,?_⟩) hHeld ?_ ?_
   rotate_left
   ·rintro w' ⟨s0,s1,s2,s3⟩
    go_simp
    with_reducible rfl
   rotate_left
   ·simp only[Act.put,zA,zB,zC]
    rfl
   refine one_ (i:=4) (N:=some 56) #[true,true,true,true,true,false] rfl rfl (by kernel_rfl) (by decide) (fun K hK=> ?_)
   refine goes_ Tryz.func18 (by kernel_rfl) rfl #[.agg #[.int .i64 id,.int .i64 gen,.int .i64 len,.slice A l.length c],.slice (some ⟨ab,ao,none⟩) n c1] (by rfl) rfl rfl (by simp only[List.map_toArray,List.map_cons,List.map_nil];rfl) ?_
   with_reducible refine(HNX.out _ (below2 HBG.out HBG.out.size (Below.drew (Below.refl wr.heap.size wr)))).mono ?_
   rintro e w3 ⟨rfl,hb⟩
   refine⟨_,rfl,?_⟩
   have hb3:=below2 (Below.drew (Below.refl wr.heap.size wr)) (Below.drew (Below.refl wr.heap.size wr)).size hb
   clear hb
   refine hK.out _ _ ⟨((HX.out.keep (below2 HBG.out HBG.out.size hb3)).cell (i:=0) rfl),((HX.out.keep (below2 HBG.out HBG.out.size hb3)).cell (i:=1) rfl),((HX.out.keep (below2 HBG.out HBG.out.size hb3)).cell (i:=2) rfl),((HX.out.keep (below2 HBG.out HBG.out.size hb3)).cell (i:=3) rfl)⟩ (fun hHeld=> ?_)
   clear hK K
   refine norm_ (a':= ?_) ?_ ?_
   rotate_left
   ·show Act.put _ (some 56) _=_
    simp only[Act.put,zA,zB,zC]
    rfl
   refine pure_ (i:=5) (N:=some 10) (v:= ?_) (a':= ?_) #[true,true,true,true,true,true] rfl rfl (by kernel_rfl) (fun _ _ _ h=>h) (Or.inl ⟨by rfl,?_⟩) ?_ ?_
   rotate_left
   ·intro w'
    go_simp
    with_reducible rfl
   rotate_left
   ·simp only[Act.put,zA,zB,zC]
    rfl
   refine done_ (by kernel_rfl) ?_
   replace HRD:=Aside0.mk (HRD.out.keep hb3)
   replace HBG:=Aside0.mk (below2 HBG.out HBG.out.size hb3)
   clear hb3
   go_wp2_with fail
   by_cases hxw:ix=W
   have hxb:(ix != W)=false:=by rw[hxw];simp
   clear hxw
   refine start_ (n:=29) (S:=fun w'=>w'.cell? ⟨w.heap.size,0,none⟩=some (.int .i64 id)∧w'.cell? ⟨w.heap.size,1,none⟩=some (.int .i64 gen)∧w'.cell? ⟨w.heap.size,2,none⟩=some (.int .i64 len)∧w'.cell? ⟨w.heap.size,3,none⟩=some (.slice A l.length c)∧w'.cell? ⟨ab,ao+n,none⟩=some (.string x)) (ds:=[]) #[false,false,false,false,false,false,false,false,false,false,false,false,false,false,false,false,false,false,false,false,false,false,false,false,false,false,false,false,false] (by kernel_rfl) rfl rfl ⟨((HX.out.keep (below2 HBG.out HBG.out.size (Below.drew (Below.refl w3.heap.size w3)))).cell (i:=0) rfl),((HX.out.keep (below2 HBG.out HBG.out.size (Below.drew (Below.refl w3.heap.size w3)))).cell (i:=1) rfl),((HX.out.keep (below2 HBG.out HBG.out.size (Below.drew (Below.refl w3.heap.size w3)))).cell (i:=2) rfl),((HX.out.keep (below2 HBG.out HBG.out.size (Below.drew (Below.refl w3.heap.size w3)))).cell (i:=3) rfl),(((below2 HBG.out HBG.out.size (Below.drew (Below.refl w3.heap.size w3))).cell (lt_cell HK.out)).trans HK.out)⟩ (fun hHeld=> ?_)
   refine pure_ (i:=0) (N:=some 57) (v:= ?_) (a':= ?_) #[true,false,false,false,false,false,false,false,false,false,false,false,false,false,false,false,false,false,false,false,false,false,false,false,false,false,false,false,false] rfl rfl (by kernel_rfl) (fun _ _ _ h=>h) (Or.inl ⟨by rfl,?_⟩) ?_ ?_
   rotate_left
   ·intro w'
    go_simp
    with_reducible rfl
   rotate_left
   ·simp only[Act.put,zA,zB,zC]
    rfl
   refine pure_ (i:=2) (N:=some 59) (v:= ?_) (a':= ?_) #[true,false,true,false,false,false,false,false,false,false,false,false,false,false,false,false,false,false,false,false,false,false,false,false,false,false,false,false,false] rfl rfl (by kernel_rfl) (fun _ _ _ h=>h) (Or.inl ⟨by rfl,?_⟩) ?_ ?_
   rotate_left
   ·intro w'
    go_simp
    with_reducible rfl
   rotate_left
   ·simp only[Act.put,zA,zB,zC]
    rfl
   refine one_ (i:=1) (N:=some 58) #[true,true,true,false,false,false,false,false,false,false,false,false,false,false,false,false,false,false,false,false,false,false,false,false,false,false,false,false,false] rfl rfl (by kernel_rfl) (by decide) (fun K hK=> ?_)
   refine goes_ Tryz.func19 (by kernel_rfl) rfl #[.pointer (some ⟨g,0,none⟩)] (by rfl) rfl rfl (by simp only[List.map_toArray,List.map_cons,List.map_nil];rfl) ?_
   with_reducible refine((show Calls _ _ _ _ (fun e w''=>e = .returned (.int .i64 W)∧_=w'')by have h:=wants_calls (HRD.out.keep (Below.drew (Below.refl w3.heap.size w3)));rw[HW.out]at h;exact h)).mono ?_
   rintro e w4 ⟨rfl,rfl⟩
   refine⟨_,rfl,?_⟩
   refine hK.out _ _ ⟨((HX.out.keep (below2 HBG.out HBG.out.size (Below.drew (Below.refl w3.heap.size w3)))).cell (i:=0) rfl),((HX.out.keep (below2 HBG.out HBG.out.size (Below.drew (Below.refl w3.heap.size w3)))).cell (i:=1) rfl),((HX.out.keep (below2 HBG.out HBG.out.size (Below.drew (Below.refl w3.heap.size w3)))).cell (i:=2) rfl),((HX.out.keep (below2 HBG.out HBG.out.size (Below.drew (Below.refl w3.heap.size w3)))).cell (i:=3) rfl),(((below2 HBG.out HBG.out.size (Below.drew (Below.refl w3.heap.size w3))).cell (lt_cell HK.out)).trans HK.out)⟩ (fun hHeld=> ?_)
   clear hK K
   refine norm_ (a':= ?_) ?_ ?_
   rotate_left
   ·show Act.put _ (some 58) _=_
    simp only[Act.put,zA,zB,zC]
    rfl
   refine pure_ (i:=3) (N:=some 60) (v:= ?_) (a':= ?_) #[true,true,true,true,false,false,false,false,false,false,false,false,false,false,false,false,false,false,false,false,false,false,false,false,false,false,false,false,false] rfl rfl (by kernel_rfl) (fun _ _ _ h=>h) (Or.inl ⟨by rfl,?_⟩) ?_ ?_
   rotate_left
   ·intro w'
    go_simp
    with_reducible rfl
   rotate_left
   ·simp only[Act.put,zA,zB,zC]
    rfl
   refine pure_ (i:=4) (N:=some 61) (v:= ?_) (a':= ?_) #[true,true,true,true,true,false,false,false,false,false,false,false,false,false,false,false,false,false,false,false,false,false,false,false,false,false,false,false,false] rfl rfl (by kernel_rfl) (fun _ _ _ h=>h) (Or.inl ⟨by rfl,?_⟩) ?_ ?_
   rotate_left
   ·intro w'
    go_simp
    with_reducible rfl
   rotate_left
   ·simp only[Act.put,zA,zB,zC]
    rfl
   refine pure_ (i:=5) (N:=some 62) (v:= ?_) (a':= ?_) #[true,true,true,true,true,true,false,false,false,false,false,false,false,false,false,false,false,false,false,false,false,false,false,false,false,false,false,false,false] rfl rfl (by kernel_rfl) (fun _ _ _ h=>h) (Or.inl ⟨by rfl,?_⟩) ?_ ?_
   rotate_left
   ·intro w'
    go_simp
    with_reducible rfl
   rotate_left
   ·simp only[Act.put,zA,zB,zC]
    rfl
   refine pure_ (i:=6) (N:=some 63) (v:= ?_) (a':= ?_) #[true,true,true,true,true,true,true,false,false,false,false,false,false,false,false,false,false,false,false,false,false,false,false,false,false,false,false,false,false] rfl rfl (by kernel_rfl) (fun _ _ _ h=>h) (Or.inl ⟨by rfl,?_⟩) ?_ ?_
   rotate_left
   ·intro w'
    go_simp
    with_reducible rfl
   rotate_left
   ·simp only[Act.put,zA,zB,zC]
    rfl
   refine pure_ (i:=7) (N:=some 64) (v:= ?_) (a':= ?_) #[true,true,true,true,true,true,true,true,false,false,false,false,false,false,false,false,false,false,false,false,false,false,false,false,false,false,false,false,false] rfl rfl (by kernel_rfl) (fun _ _ _ h=>h) (Or.inl ⟨by rfl,?_⟩) ?_ ?_
   rotate_left
   ·intro w'
    go_simp
    with_reducible rfl
   rotate_left
   ·simp only[Act.put,zA,zB,zC]
    rfl
   refine pure_ (i:=8) (N:=some 65) (v:= ?_) (a':= ?_) #[true,true,true,true,true,true,true,true,true,false,false,false,false,false,false,false,false,false,false,false,false,false,false,false,false,false,false,false,false] rfl rfl (by kernel_rfl) (fun _ _ _ h=>h) (Or.inl ⟨by rfl,?_⟩) ?_ ?_
   rotate_left
   ·intro w'
    go_simp
    with_reducible rfl
   rotate_left
   ·simp only[Act.put,zA,zB,zC]
    rfl
   refine pure_ (i:=9) (N:=some 66) (v:=undef) (a':= ?_) #[true,true,true,true,true,true,true,true,true,true,false,false,false,false,false,false,false,false,false,false,false,false,false,false,false,false,false,false,false] rfl rfl (by kernel_rfl) (fun _ _ _ h=>h) (Or.inr ⟨by rfl,rfl⟩) ?_ ?_
   rotate_left
   ·simp only[Act.put,zA,zB,zC]
    rfl
   refine pure_ (i:=10) (N:=some 67) (v:=undef) (a':= ?_) #[true,true,true,true,true,true,true,true,true,true,true,false,false,false,false,false,false,false,false,false,false,false,false,false,false,false,false,false,false] rfl rfl (by kernel_rfl) (fun _ _ _ h=>h) (Or.inr ⟨by rfl,rfl⟩) ?_ ?_
   rotate_left
   ·simp only[Act.put,zA,zB,zC]
    rfl
   refine pure_ (i:=11) (N:=some 68) (v:=undef) (a':= ?_) #[true,true,true,true,true,true,true,true,true,true,true,true,false,false,false,false,false,false,false,false,false,false,false,false,false,false,false,false,false] rfl rfl (by kernel_rfl) (fun _ _ _ h=>h) (Or.inr ⟨by rfl,rfl⟩) ?_ ?_
   rotate_left
   ·simp only[Act.put,zA,zB,zC]
    rfl
   refine pure_ (i:=12) (N:=some 69) (v:=undef) (a':= ?_) #[true,true,true,true,true,true,true,true,true,true,true,true,true,false,false,false,false,false,false,false,false,false,false,false,false,false,false,false,false] rfl rfl (by kernel_rfl) (fun _ _ _ h=>h) (Or.inr ⟨by rfl,rfl⟩) ?_ ?_
   rotate_left
   ·simp only[Act.put,zA,zB,zC]
    rfl
   refine pure_ (i:=13) (N:=some 70) (v:=undef) (a':= ?_) #[true,true,true,true,true,true,true,true,true,true,true,true,true,true,false,false,false,false,false,false,false,false,false,false,false,false,false,false,false] rfl rfl (by kernel_rfl) (fun _ _ _ h=>h) (Or.inr ⟨by rfl,rfl⟩) ?_ ?_
   rotate_left
   ·simp only[Act.put,zA,zB,zC]
    rfl
   refine pure_ (i:=14) (N:=some 71) (v:=undef) (a':= ?_) #[true,true,true,true,true,true,true,true,true,true,true,true,true,true,true,false,false,false,false,false,false,false,false,false,false,false,false,false,false] rfl rfl (by kernel_rfl) (fun _ _ _ h=>h) (Or.inr ⟨by rfl,rfl⟩) ?_ ?_
   rotate_left
   ·simp only[Act.put,zA,zB,zC]
    rfl
   refine pure_ (i:=15) (N:=some 72) (v:=undef) (a':= ?_) #[true,true,true,true,true,true,true,true,true,true,true,true,true,true,true,true,false,false,false,false,false,false,false,false,false,false,false,false,false] rfl rfl (by kernel_rfl) (fun _ _ _ h=>h) (Or.inr ⟨by rfl,rfl⟩) ?_ ?_
   rotate_left
   ·simp only[Act.put,zA,zB,zC]
    rfl
   refine pure_ (i:=16) (N:=some 73) (v:= ?_) (a':= ?_) #[true,true,true,true,true,true,true,true,true,true,true,true,true,true,true,true,true,false,false,false,false,false,false,false,false,false,false,false,false] rfl rfl (by kernel_rfl) (fun _ _ _ h=>h) (Or.inl ⟨by rfl,?_⟩) ?_ ?_
   rotate_left
   ·intro w'
    go_simp
    with_reducible rfl
   rotate_left
   ·simp only[Act.put,zA,zB,zC]
    rfl
   refine pure_ (i:=17) (N:=some 74) (v:= ?_) (a':= ?_) #[true,true,true,true,true,true,true,true,true,true,true,true,true,true,true,true,true,true,false,false,false,false,false,false,false,false,false,false,false] rfl rfl (by kernel_rfl) (fun _ _ _ h=>h) (Or.inl ⟨by rfl,?_⟩) ?_ ?_
   rotate_left
   ·intro w'
    go_simp
    with_reducible rfl
   rotate_left
   ·simp only[Act.put,zA,zB,zC]
    rfl
   refine pure_ (i:=18) (N:=some 75) (v:= ?_) (a':= ?_) #[true,true,true,true,true,true,true,true,true,true,true,true,true,true,true,true,true,true,true,false,false,false,false,false,false,false,false,false,false] rfl rfl (by kernel_rfl) (fun _ _ _ h=>h) (Or.inl ⟨by rfl,?_⟩) ?_ ?_
   rotate_left
   ·intro w'
    go_simp
    with_reducible rfl
   rotate_left
   ·simp only[Act.put,zA,zB,zC]
    rfl
   refine pure_ (i:=19) (N:=some 76) (v:= ?_) (a':= ?_) #[true,true,true,true,true,true,true,true,true,true,true,true,true,true,true,true,true,true,true,true,false,false,false,false,false,false,false,false,false] rfl rfl (by kernel_rfl) (fun _ _ _ h=>h) (Or.inl ⟨by rfl,?_⟩) ?_ ?_
   rotate_left
   ·intro w'
    go_simp
    with_reducible rfl
   rotate_left
   ·simp only[Act.put,zA,zB,zC]
    rfl
   refine pure_ (i:=22) (N:=some 79) (v:= ?_) (a':= ?_) #[true,true,true,true,true,true,true,true,true,true,true,true,true,true,true,true,true,true,true,true,false,false,true,false,false,false,false,false,false] rfl rfl (by kernel_rfl) (fun _ _ _ h=>h) (Or.inl ⟨by rfl,?_⟩) ?_ ?_
   rotate_left
   ·intro w'
    go_simp
    with_reducible rfl
   rotate_left
   ·simp only[Act.put,zA,zB,zC]
    rfl
   refine pure_ (i:=23) (N:=some 80) (v:= ?_) (a':= ?_) #[true,true,true,true,true,true,true,true,true,true,true,true,true,true,true,true,true,true,true,true,false,false,true,true,false,false,false,false,false] rfl rfl (by kernel_rfl) (fun _ _ _ h=>h) (Or.inl ⟨by rfl,?_⟩) ?_ ?_
   rotate_left
   ·intro w'
    go_simp
    with_reducible rfl
   rotate_left
   ·simp only[Act.put,zA,zB,zC]
    rfl
   refine pure_ (i:=24) (N:=some 81) (v:= ?_) (a':= ?_) #[true,true,true,true,true,true,true,true,true,true,true,true,true,true,true,true,true,true,true,true,false,false,true,true,true,false,false,false,false] rfl rfl (by kernel_rfl) (fun _ _ _ h=>h) (Or.inl ⟨by rfl,?_⟩) ?_ ?_
   rotate_left
   ·intro w'
    go_simp
    with_reducible rfl
   rotate_left
   ·simp only[Act.put,zA,zB,zC]
    rfl
   refine take_ (i:=21) (N:=some 78) (v:= ?_) (a':= ?_) #[true,true,true,true,true,true,true,true,true,true,true,true,true,true,true,true,true,true,true,true,false,true,true,true,true,false,false,false,false] rfl rfl (by kernel_rfl) (fun _ _ _ h=>h) (Or.inl ⟨by rfl,?_⟩) hHeld ?_ ?_
   rotate_left
   ·rintro w' ⟨s0,s1,s2,s3,s4⟩
    go_simp
    with_reducible rfl
   rotate_left
   ·simp only[Act.put,zA,zB,zC]
    rfl
   refine one_ (i:=20) (N:=some 77) #[true,true,true,true,true,true,true,true,true,true,true,true,true,true,true,true,true,true,true,true,true,true,true,true,true,false,false,false,false] rfl rfl (by kernel_rfl) (by decide) (fun K hK=> ?_)
   refine goes_ Tryz.func21 (by kernel_rfl) rfl #[.pointer (some ⟨g,0,none⟩)] (by rfl) rfl rfl (by simp only[List.map_toArray,List.map_cons,List.map_nil];rfl) ?_
   with_reducible refine(bad_calls (HRD.out.keep (Below.drew (Below.refl w3.heap.size w3))) HN.out).mono ?_
   rintro e w6 ⟨Ab,cb,rfl,hob,hb⟩
   refine⟨_,rfl,?_⟩
   have hb6:=below2 (Below.drew (Below.refl w3.heap.size w3)) (Below.drew (Below.refl w3.heap.size w3)).size hb
   have HOB:=Aside0.mk hob
   clear hb hob
   refine hK.out _ _ ⟨((HX.out.keep (below2 HBG.out HBG.out.size hb6)).cell (i:=0) rfl),((HX.out.keep (below2 HBG.out HBG.out.size hb6)).cell (i:=1) rfl),((HX.out.keep (below2 HBG.out HBG.out.size hb6)).cell (i:=2) rfl),((HX.out.keep (below2 HBG.out HBG.out.size hb6)).cell (i:=3) rfl),(((below2 HBG.out HBG.out.size hb6).cell (lt_cell HK.out)).trans HK.out)⟩ (fun hHeld=> ?_)
   clear hK K
   refine norm_ (a':= ?_) ?_ ?_
   rotate_left
   ·show Act.put _ (some 77) _=_
    simp only[Act.put,zA,zB,zC]
    rfl
   refine one_ (i:=25) (N:=some 82) #[true,true,true,true,true,true,true,true,true,true,true,true,true,true,true,true,true,true,true,true,true,true,true,true,true,true,false,false,false] rfl rfl (by kernel_rfl) (by decide) (fun K hK=> ?_)
   refine goes_ Tryz.func15 (by kernel_rfl) rfl #[.agg #[.int .i64 id,.int .i64 gen,.int .i64 len,.slice A l.length c],.slice (some ⟨ab,ao,none⟩) n c1] (by rfl) rfl rfl (by simp only[List.map_toArray,List.map_cons,List.map_nil];rfl) ?_
   with_reducible refine(HRB.out _ (below2 HBG.out HBG.out.size hb6)).mono ?_
   rintro e w7 ⟨Ar,cr,rfl,hCr,hcr,hb⟩
   refine⟨_,rfl,?_⟩
   have HCB:=Aside0.mk (Kd.C_below (Kd.R_reads' HOB.out).2.2 hb)
   have HLB:=Lib.hid (Kd.R_reads' HOB.out).2.1
   have hb7:=below2 hb6 hb6.size hb
   have HCr:=Aside0.mk hCr
   have HLr:=Lib.hid hcr
   clear hb hCr hcr
   refine hK.out _ _ ⟨((HX.out.keep (below2 HBG.out HBG.out.size hb7)).cell (i:=0) rfl),((HX.out.keep (below2 HBG.out HBG.out.size hb7)).cell (i:=1) rfl),((HX.out.keep (below2 HBG.out HBG.out.size hb7)).cell (i:=2) rfl),((HX.out.keep (below2 HBG.out HBG.out.size hb7)).cell (i:=3) rfl),(((below2 HBG.out HBG.out.size hb7).cell (lt_cell HK.out)).trans HK.out)⟩ (fun hHeld=> ?_)
   clear hK K
   refine norm_ (a':= ?_) ?_ ?_
   rotate_left
   ·show Act.put _ (some 82) _=_
    simp only[Act.put,zA,zB,zC]
    rfl
   refine one_ (i:=26) (N:=some 83) #[true,true,true,true,true,true,true,true,true,true,true,true,true,true,true,true,true,true,true,true,true,true,true,true,true,true,true,false,false] rfl rfl (by kernel_rfl) (by decide) (fun K hK=> ?_)
   refine goes_ Tryz.func14 (by kernel_rfl) rfl #[.slice Ab (badN hv n).length cb,.slice Ar (badN hv n).length cr] (by rfl) rfl rfl (by simp only[List.map_toArray,List.map_cons,List.map_nil];rfl) ?_
   with_reducible refine(sluicegateref06_Ints.calls 3000 Ab cb (badN hv n) Ar cr (badN hv n) true _ HCB.out HLB.out HCr.out HLr.out HIN.out).mono ?_
   rintro e wr ⟨rfl,hd⟩
   refine⟨_,rfl,?_⟩
   have hb8:=below2 hb7 hb7.size hd.below
   clear hd
   refine hK.out _ _ ⟨((HX.out.keep (below2 HBG.out HBG.out.size hb8)).cell (i:=0) rfl),((HX.out.keep (below2 HBG.out HBG.out.size hb8)).cell (i:=1) rfl),((HX.out.keep (below2 HBG.out HBG.out.size hb8)).cell (i:=2) rfl),((HX.out.keep (below2 HBG.out HBG.out.size hb8)).cell (i:=3) rfl),(((below2 HBG.out HBG.out.size hb8).cell (lt_cell HK.out)).trans HK.out)⟩ (fun hHeld=> ?_)
   clear hK K
   refine norm_ (a':= ?_) ?_ ?_
   rotate_left
   ·show Act.put _ (some 83) _=_
    simp only[Act.put,zA,zB,zC]
    rfl
   refine pure_ (i:=27) (N:=some 84) (v:= ?_) (a':= ?_) #[true,true,true,true,true,true,true,true,true,true,true,true,true,true,true,true,true,true,true,true,true,true,true,true,true,true,true,true,false] rfl rfl (by kernel_rfl) (fun _ _ _ h=>h) (Or.inl ⟨by rfl,?_⟩) ?_ ?_
   rotate_left
   ·intro w'
    go_simp
    with_reducible rfl
   rotate_left
   ·simp only[Act.put,zA,zB,zC]
    rfl
   refine pure_ (i:=28) (N:=some 85) (v:= ?_) (a':= ?_) #[true,true,true,true,true,true,true,true,true,true,true,true,true,true,true,true,true,true,true,true,true,true,true,true,true,true,true,true,true] rfl rfl (by kernel_rfl) (fun _ _ _ h=>h) (Or.inl ⟨by rfl,?_⟩) ?_ ?_
   rotate_left
   ·intro w'
    go_simp
    with_reducible rfl
   rotate_left
   ·simp only[Act.put,zA,zB,zC]
    rfl
   refine done_ (by kernel_rfl) ?_
   rotate_left
   have HIX:=Lib.hid (show ix≠wantsF n gd by rw[HW.out];exact hxw)
   have hxb:(ix != W)=true:=by rw[bne_iff_ne];exact hxw
   clear hxw
   refine start_ (n:=29) (S:=fun w'=>w'.cell? ⟨w.heap.size,0,none⟩=some (.int .i64 id)∧w'.cell? ⟨w.heap.size,1,none⟩=some (.int .i64 gen)∧w'.cell? ⟨w.heap.size,2,none⟩=some (.int .i64 len)∧w'.cell? ⟨w.heap.size,3,none⟩=some (.slice A l.length c)∧w'.cell? ⟨ab,ao+n,none⟩=some (.string x)) (ds:=[]) #[false,false,false,false,false,false,false,false,false,false,false,false,false,false,false,false,false,false,false,false,false,false,false,false,false,false,false,false,false] (by kernel_rfl) rfl rfl ⟨((HX.out.keep (below2 HBG.out HBG.out.size (Below.drew (Below.refl w3.heap.size w3)))).cell (i:=0) rfl),((HX.out.keep (below2 HBG.out HBG.out.size (Below.drew (Below.refl w3.heap.size w3)))).cell (i:=1) rfl),((HX.out.keep (below2 HBG.out HBG.out.size (Below.drew (Below.refl w3.heap.size w3)))).cell (i:=2) rfl),((HX.out.keep (below2 HBG.out HBG.out.size (Below.drew (Below.refl w3.heap.size w3)))).cell (i:=3) rfl),(((below2 HBG.out HBG.out.size (Below.drew (Below.refl w3.heap.size w3))).cell (lt_cell HK.out)).trans HK.out)⟩ (fun hHeld=> ?_)
   refine pure_ (i:=0) (N:=some 57) (v:= ?_) (a':= ?_) #[true,false,false,false,false,false,false,false,false,false,false,false,false,false,false,false,false,false,false,false,false,false,false,false,false,false,false,false,false] rfl rfl (by kernel_rfl) (fun _ _ _ h=>h) (Or.inl ⟨by rfl,?_⟩) ?_ ?_
   rotate_left
   ·intro w'
    go_simp
    with_reducible rfl
   rotate_left
   ·simp only[Act.put,zA,zB,zC]
    rfl
   refine pure_ (i:=2) (N:=some 59) (v:= ?_) (a':= ?_) #[true,false,true,false,false,false,false,false,false,false,false,false,false,false,false,false,false,false,false,false,false,false,false,false,false,false,false,false,false] rfl rfl (by kernel_rfl) (fun _ _ _ h=>h) (Or.inl ⟨by rfl,?_⟩) ?_ ?_
   rotate_left
   ·intro w'
    go_simp
    with_reducible rfl
   rotate_left
   ·simp only[Act.put,zA,zB,zC]
    rfl
   refine one_ (i:=1) (N:=some 58) #[true,true,true,false,false,false,false,false,false,false,false,false,false,false,false,false,false,false,false,false,false,false,false,false,false,false,false,false,false] rfl rfl (by kernel_rfl) (by decide) (fun K hK=> ?_)
   refine goes_ Tryz.func19 (by kernel_rfl) rfl #[.pointer (some ⟨g,0,none⟩)] (by rfl) rfl rfl (by simp only[List.map_toArray,List.map_cons,List.map_nil];rfl) ?_
   with_reducible refine((show Calls _ _ _ _ (fun e w''=>e = .returned (.int .i64 W)∧_=w'')by have h:=wants_calls (HRD.out.keep (Below.drew (Below.refl w3.heap.size w3)));rw[HW.out]at h;exact h)).mono ?_
   rintro e w4 ⟨rfl,rfl⟩
   refine⟨_,rfl,?_⟩
   refine hK.out _ _ ⟨((HX.out.keep (below2 HBG.out HBG.out.size (Below.drew (Below.refl w3.heap.size w3)))).cell (i:=0) rfl),((HX.out.keep (below2 HBG.out HBG.out.size (Below.drew (Below.refl w3.heap.size w3)))).cell (i:=1) rfl),((HX.out.keep (below2 HBG.out HBG.out.size (Below.drew (Below.refl w3.heap.size w3)))).cell (i:=2) rfl),((HX.out.keep (below2 HBG.out HBG.out.size (Below.drew (Below.refl w3.heap.size w3)))).cell (i:=3) rfl),(((below2 HBG.out HBG.out.size (Below.drew (Below.refl w3.heap.size w3))).cell (lt_cell HK.out)).trans HK.out)⟩ (fun hHeld=> ?_)
   clear hK K
   refine norm_ (a':= ?_) ?_ ?_
   rotate_left
   ·show Act.put _ (some 58) _=_
    simp only[Act.put,zA,zB,zC]
    rfl
   refine pure_ (i:=3) (N:=some 60) (v:= ?_) (a':= ?_) #[true,true,true,true,false,false,false,false,false,false,false,false,false,false,false,false,false,false,false,false,false,false,false,false,false,false,false,false,false] rfl rfl (by kernel_rfl) (fun _ _ _ h=>h) (Or.inl ⟨by rfl,?_⟩) ?_ ?_
   rotate_left
   ·intro w'
    go_simp
    with_reducible rfl
   rotate_left
   ·simp only[Act.put,zA,zB,zC]
    rfl
   refine pure_ (i:=4) (N:=some 61) (v:= ?_) (a':= ?_) #[true,true,true,true,true,false,false,false,false,false,false,false,false,false,false,false,false,false,false,false,false,false,false,false,false,false,false,false,false] rfl rfl (by kernel_rfl) (fun _ _ _ h=>h) (Or.inl ⟨by rfl,?_⟩) ?_ ?_
   rotate_left
   ·intro w'
    go_simp
    with_reducible rfl
   rotate_left
   ·simp only[Act.put,zA,zB,zC]
    rfl
   refine pure_ (i:=5) (N:=some 62) (v:= ?_) (a':= ?_) #[true,true,true,true,true,true,false,false,false,false,false,false,false,false,false,false,false,false,false,false,false,false,false,false,false,false,false,false,false] rfl rfl (by kernel_rfl) (fun _ _ _ h=>h) (Or.inl ⟨by rfl,?_⟩) ?_ ?_
   rotate_left
   ·intro w'
    go_simp
    with_reducible rfl
   rotate_left
   ·simp only[Act.put,zA,zB,zC]
    rfl
   refine pure_ (i:=6) (N:=some 63) (v:= ?_) (a':= ?_) #[true,true,true,true,true,true,true,false,false,false,false,false,false,false,false,false,false,false,false,false,false,false,false,false,false,false,false,false,false] rfl rfl (by kernel_rfl) (fun _ _ _ h=>h) (Or.inl ⟨by rfl,?_⟩) ?_ ?_
   rotate_left
   ·intro w'
    go_simp
    with_reducible rfl
   rotate_left
   ·simp only[Act.put,zA,zB,zC]
    rfl
   refine pure_ (i:=7) (N:=some 64) (v:= ?_) (a':= ?_) #[true,true,true,true,true,true,true,true,false,false,false,false,false,false,false,false,false,false,false,false,false,false,false,false,false,false,false,false,false] rfl rfl (by kernel_rfl) (fun _ _ _ h=>h) (Or.inl ⟨by rfl,?_⟩) ?_ ?_
   rotate_left
   ·intro w'
    go_simp
    with_reducible rfl
   rotate_left
   ·simp only[Act.put,zA,zB,zC]
    rfl
   refine pure_ (i:=8) (N:=some 65) (v:= ?_) (a':= ?_) #[true,true,true,true,true,true,true,true,true,false,false,false,false,false,false,false,false,false,false,false,false,false,false,false,false,false,false,false,false] rfl rfl (by kernel_rfl) (fun _ _ _ h=>h) (Or.inl ⟨by rfl,?_⟩) ?_ ?_
   rotate_left
   ·intro w'
    go_simp
    with_reducible rfl
   rotate_left
   ·simp only[Act.put,zA,zB,zC]
    rfl
   refine pure_ (i:=9) (N:=some 66) (v:= ?_) (a':= ?_) #[true,true,true,true,true,true,true,true,true,true,false,false,false,false,false,false,false,false,false,false,false,false,false,false,false,false,false,false,false] rfl rfl (by kernel_rfl) (fun _ _ _ h=>h) (Or.inl ⟨by rfl,?_⟩) ?_ ?_
   rotate_left
   ·intro w'
    go_simp
    with_reducible rfl
   rotate_left
   ·simp only[Act.put,zA,zB,zC]
    rfl
   refine pure_ (i:=10) (N:=some 67) (v:= ?_) (a':= ?_) #[true,true,true,true,true,true,true,true,true,true,true,false,false,false,false,false,false,false,false,false,false,false,false,false,false,false,false,false,false] rfl rfl (by kernel_rfl) (fun _ _ _ h=>h) (Or.inl ⟨by rfl,?_⟩) ?_ ?_
   rotate_left
   ·intro w'
    go_simp
    with_reducible rfl
   rotate_left
   ·simp only[Act.put,zA,zB,zC]
    rfl
   refine pure_ (i:=11) (N:=some 68) (v:= ?_) (a':= ?_) #[true,true,true,true,true,true,true,true,true,true,true,true,false,false,false,false,false,false,false,false,false,false,false,false,false,false,false,false,false] rfl rfl (by kernel_rfl) (fun _ _ _ h=>h) (Or.inl ⟨by rfl,?_⟩) ?_ ?_
   rotate_left
   ·intro w'
    go_simp
    with_reducible rfl
   rotate_left
   ·simp only[Act.put,zA,zB,zC]
    rfl
   refine pure_ (i:=12) (N:=some 69) (v:= ?_) (a':= ?_) #[true,true,true,true,true,true,true,true,true,true,true,true,true,false,false,false,false,false,false,false,false,false,false,false,false,false,false,false,false] rfl rfl (by kernel_rfl) (fun _ _ _ h=>h) (Or.inl ⟨by rfl,?_⟩) ?_ ?_
   rotate_left
   ·intro w'
    go_simp
    with_reducible rfl
   rotate_left
   ·simp only[Act.put,zA,zB,zC]
    rfl
   refine pure_ (i:=13) (N:=some 70) (v:= ?_) (a':= ?_) #[true,true,true,true,true,true,true,true,true,true,true,true,true,true,false,false,false,false,false,false,false,false,false,false,false,false,false,false,false] rfl rfl (by kernel_rfl) (fun _ _ _ h=>h) (Or.inl ⟨by rfl,?_⟩) ?_ ?_
   rotate_left
   ·intro w'
    go_simp
    with_reducible rfl
   rotate_left
   ·simp only[Act.put,zA,zB,zC]
    rfl
   refine take_ (i:=14) (N:=some 71) (v:= ?_) (a':= ?_) #[true,true,true,true,true,true,true,true,true,true,true,true,true,true,true,false,false,false,false,false,false,false,false,false,false,false,false,false,false] rfl rfl (by kernel_rfl) (fun _ _ _ h=>h) (Or.inl ⟨by rfl,?_⟩) hHeld ?_ ?_
   rotate_left
   ·rintro w' ⟨s0,s1,s2,s3,s4⟩
    go_simp
    with_reducible rfl
   rotate_left
   ·simp only[Act.put,zA,zB,zC]
    rfl
   refine one_ (i:=15) (N:=some 72) #[true,true,true,true,true,true,true,true,true,true,true,true,true,true,true,true,false,false,false,false,false,false,false,false,false,false,false,false,false] rfl rfl (by kernel_rfl) (by decide) (fun K hK=> ?_)
   refine goes_ Tryz.func20 (by kernel_rfl) rfl #[.pointer (some ⟨g,0,none⟩),.int .i64 ix,.string x] (by rfl) rfl rfl (by simp only[List.map_toArray,List.map_cons,List.map_nil];rfl) ?_
   with_reducible refine(take_not (HRD.out.keep (Below.drew (Below.refl w3.heap.size w3))) HN.out HG6.out ix x HXZ.out HIX.out).mono ?_
   rintro e w5 ⟨rfl,rfl⟩
   refine⟨_,rfl,?_⟩
   refine hK.out _ _ ⟨((HX.out.keep (below2 HBG.out HBG.out.size (Below.drew (Below.refl w3.heap.size w3)))).cell (i:=0) rfl),((HX.out.keep (below2 HBG.out HBG.out.size (Below.drew (Below.refl w3.heap.size w3)))).cell (i:=1) rfl),((HX.out.keep (below2 HBG.out HBG.out.size (Below.drew (Below.refl w3.heap.size w3)))).cell (i:=2) rfl),((HX.out.keep (below2 HBG.out HBG.out.size (Below.drew (Below.refl w3.heap.size w3)))).cell (i:=3) rfl),(((below2 HBG.out HBG.out.size (Below.drew (Below.refl w3.heap.size w3))).cell (lt_cell HK.out)).trans HK.out)⟩ (fun hHeld=> ?_)
   clear hK K
   refine norm_ (a':= ?_) ?_ ?_
   rotate_left
   ·show Act.put _ (some 72) _=_
    simp only[Act.put,zA,zB,zC]
    rfl
   refine pure_ (i:=16) (N:=some 73) (v:= ?_) (a':= ?_) #[true,true,true,true,true,true,true,true,true,true,true,true,true,true,true,true,true,false,false,false,false,false,false,false,false,false,false,false,false] rfl rfl (by kernel_rfl) (fun _ _ _ h=>h) (Or.inl ⟨by rfl,?_⟩) ?_ ?_
   rotate_left
   ·intro w'
    go_simp
    with_reducible rfl
   rotate_left
   ·simp only[Act.put,zA,zB,zC]
    rfl
   refine pure_ (i:=17) (N:=some 74) (v:= ?_) (a':= ?_) #[true,true,true,true,true,true,true,true,true,true,true,true,true,true,true,true,true,true,false,false,false,false,false,false,false,false,false,false,false] rfl rfl (by kernel_rfl) (fun _ _ _ h=>h) (Or.inl ⟨by rfl,?_⟩) ?_ ?_
   rotate_left
   ·intro w'
    go_simp
    with_reducible rfl
   rotate_left
   ·simp only[Act.put,zA,zB,zC]
    rfl
   refine pure_ (i:=18) (N:=some 75) (v:= ?_) (a':= ?_) #[true,true,true,true,true,true,true,true,true,true,true,true,true,true,true,true,true,true,true,false,false,false,false,false,false,false,false,false,false] rfl rfl (by kernel_rfl) (fun _ _ _ h=>h) (Or.inl ⟨by rfl,?_⟩) ?_ ?_
   rotate_left
   ·intro w'
    go_simp
    with_reducible rfl
   rotate_left
   ·simp only[Act.put,zA,zB,zC]
    rfl
   refine pure_ (i:=19) (N:=some 76) (v:= ?_) (a':= ?_) #[true,true,true,true,true,true,true,true,true,true,true,true,true,true,true,true,true,true,true,true,false,false,false,false,false,false,false,false,false] rfl rfl (by kernel_rfl) (fun _ _ _ h=>h) (Or.inl ⟨by rfl,?_⟩) ?_ ?_
   rotate_left
   ·intro w'
    go_simp
    with_reducible rfl
   rotate_left
   ·simp only[Act.put,zA,zB,zC]
    rfl
   refine pure_ (i:=22) (N:=some 79) (v:= ?_) (a':= ?_) #[true,true,true,true,true,true,true,true,true,true,true,true,true,true,true,true,true,true,true,true,false,false,true,false,false,false,false,false,false] rfl rfl (by kernel_rfl) (fun _ _ _ h=>h) (Or.inl ⟨by rfl,?_⟩) ?_ ?_
   rotate_left
   ·intro w'
    go_simp
    with_reducible rfl
   rotate_left
   ·simp only[Act.put,zA,zB,zC]
    rfl
   refine pure_ (i:=23) (N:=some 80) (v:= ?_) (a':= ?_) #[true,true,true,true,true,true,true,true,true,true,true,true,true,true,true,true,true,true,true,true,false,false,true,true,false,false,false,false,false] rfl rfl (by kernel_rfl) (fun _ _ _ h=>h) (Or.inl ⟨by rfl,?_⟩) ?_ ?_
   rotate_left
   ·intro w'
    go_simp
    with_reducible rfl
   rotate_left
   ·simp only[Act.put,zA,zB,zC]
    rfl
   refine pure_ (i:=24) (N:=some 81) (v:= ?_) (a':= ?_) #[true,true,true,true,true,true,true,true,true,true,true,true,true,true,true,true,true,true,true,true,false,false,true,true,true,false,false,false,false] rfl rfl (by kernel_rfl) (fun _ _ _ h=>h) (Or.inl ⟨by rfl,?_⟩) ?_ ?_
   rotate_left
   ·intro w'
    go_simp
    with_reducible rfl
   rotate_left
   ·simp only[Act.put,zA,zB,zC]
    rfl
   refine take_ (i:=21) (N:=some 78) (v:= ?_) (a':= ?_) #[true,true,true,true,true,true,true,true,true,true,true,true,true,true,true,true,true,true,true,true,false,true,true,true,true,false,false,false,false] rfl rfl (by kernel_rfl) (fun _ _ _ h=>h) (Or.inl ⟨by rfl,?_⟩) hHeld ?_ ?_
   rotate_left
   ·rintro w' ⟨s0,s1,s2,s3,s4⟩
    go_simp
    with_reducible rfl
   rotate_left
   ·simp only[Act.put,zA,zB,zC]
    rfl
   refine one_ (i:=20) (N:=some 77) #[true,true,true,true,true,true,true,true,true,true,true,true,true,true,true,true,true,true,true,true,true,true,true,true,true,false,false,false,false] rfl rfl (by kernel_rfl) (by decide) (fun K hK=> ?_)
   refine goes_ Tryz.func21 (by kernel_rfl) rfl #[.pointer (some ⟨g,0,none⟩)] (by rfl) rfl rfl (by simp only[List.map_toArray,List.map_cons,List.map_nil];rfl) ?_
   with_reducible refine(bad_calls (HRD.out.keep (Below.drew (Below.refl w3.heap.size w3))) HN.out).mono ?_
   rintro e w6 ⟨Ab,cb,rfl,hob,hb⟩
   refine⟨_,rfl,?_⟩
   have hb6:=below2 (Below.drew (Below.refl w3.heap.size w3)) (Below.drew (Below.refl w3.heap.size w3)).size hb
   have HOB:=Aside0.mk hob
   clear hb hob
   refine hK.out _ _ ⟨((HX.out.keep (below2 HBG.out HBG.out.size hb6)).cell (i:=0) rfl),((HX.out.keep (below2 HBG.out HBG.out.size hb6)).cell (i:=1) rfl),((HX.out.keep (below2 HBG.out HBG.out.size hb6)).cell (i:=2) rfl),((HX.out.keep (below2 HBG.out HBG.out.size hb6)).cell (i:=3) rfl),(((below2 HBG.out HBG.out.size hb6).cell (lt_cell HK.out)).trans HK.out)⟩ (fun hHeld=> ?_)
   clear hK K
   refine norm_ (a':= ?_) ?_ ?_
   rotate_left
   ·show Act.put _ (some 77) _=_
    simp only[Act.put,zA,zB,zC]
    rfl
   refine one_ (i:=25) (N:=some 82) #[true,true,true,true,true,true,true,true,true,true,true,true,true,true,true,true,true,true,true,true,true,true,true,true,true,true,false,false,false] rfl rfl (by kernel_rfl) (by decide) (fun K hK=> ?_)
   refine goes_ Tryz.func15 (by kernel_rfl) rfl #[.agg #[.int .i64 id,.int .i64 gen,.int .i64 len,.slice A l.length c],.slice (some ⟨ab,ao,none⟩) n c1] (by rfl) rfl rfl (by simp only[List.map_toArray,List.map_cons,List.map_nil];rfl) ?_
   with_reducible refine(HRB.out _ (below2 HBG.out HBG.out.size hb6)).mono ?_
   rintro e w7 ⟨Ar,cr,rfl,hCr,hcr,hb⟩
   refine⟨_,rfl,?_⟩
   have HCB:=Aside0.mk (Kd.C_below (Kd.R_reads' HOB.out).2.2 hb)
   have HLB:=Lib.hid (Kd.R_reads' HOB.out).2.1
   have hb7:=below2 hb6 hb6.size hb
   have HCr:=Aside0.mk hCr
   have HLr:=Lib.hid hcr
   clear hb hCr hcr
   refine hK.out _ _ ⟨((HX.out.keep (below2 HBG.out HBG.out.size hb7)).cell (i:=0) rfl),((HX.out.keep (below2 HBG.out HBG.out.size hb7)).cell (i:=1) rfl),((HX.out.keep (below2 HBG.out HBG.out.size hb7)).cell (i:=2) rfl),((HX.out.keep (below2 HBG.out HBG.out.size hb7)).cell (i:=3) rfl),(((below2 HBG.out HBG.out.size hb7).cell (lt_cell HK.out)).trans HK.out)⟩ (fun hHeld=> ?_)
   clear hK K
   refine norm_ (a':= ?_) ?_ ?_
   rotate_left
   ·show Act.put _ (some 82) _=_
    simp only[Act.put,zA,zB,zC]
    rfl
   refine one_ (i:=26) (N:=some 83) #[true,true,true,true,true,true,true,true,true,true,true,true,true,true,true,true,true,true,true,true,true,true,true,true,true,true,true,false,false] rfl rfl (by kernel_rfl) (by decide) (fun K hK=> ?_)
   refine goes_ Tryz.func14 (by kernel_rfl) rfl #[.slice Ab (badN hv n).length cb,.slice Ar (badN hv n).length cr] (by rfl) rfl rfl (by simp only[List.map_toArray,List.map_cons,List.map_nil];rfl) ?_
   with_reducible refine(sluicegateref06_Ints.calls 3000 Ab cb (badN hv n) Ar cr (badN hv n) true _ HCB.out HLB.out HCr.out HLr.out HIN.out).mono ?_
   rintro e wr ⟨rfl,hd⟩
   refine⟨_,rfl,?_⟩
   have hb8:=below2 hb7 hb7.size hd.below
   clear hd
   refine hK.out _ _ ⟨((HX.out.keep (below2 HBG.out HBG.out.size hb8)).cell (i:=0) rfl),((HX.out.keep (below2 HBG.out HBG.out.size hb8)).cell (i:=1) rfl),((HX.out.keep (below2 HBG.out HBG.out.size hb8)).cell (i:=2) rfl),((HX.out.keep (below2 HBG.out HBG.out.size hb8)).cell (i:=3) rfl),(((below2 HBG.out HBG.out.size hb8).cell (lt_cell HK.out)).trans HK.out)⟩ (fun hHeld=> ?_)
   clear hK K
   refine norm_ (a':= ?_) ?_ ?_
   rotate_left
   ·show Act.put _ (some 83) _=_
    simp only[Act.put,zA,zB,zC]
    rfl
   refine pure_ (i:=27) (N:=some 84) (v:= ?_) (a':= ?_) #[true,true,true,true,true,true,true,true,true,true,true,true,true,true,true,true,true,true,true,true,true,true,true,true,true,true,true,true,false] rfl rfl (by kernel_rfl) (fun _ _ _ h=>h) (Or.inl ⟨by rfl,?_⟩) ?_ ?_
   rotate_left
   ·intro w'
    go_simp
    with_reducible rfl
   rotate_left
   ·simp only[Act.put,zA,zB,zC]
    rfl
   refine pure_ (i:=28) (N:=some 85) (v:= ?_) (a':= ?_) #[true,true,true,true,true,true,true,true,true,true,true,true,true,true,true,true,true,true,true,true,true,true,true,true,true,true,true,true,true] rfl rfl (by kernel_rfl) (fun _ _ _ h=>h) (Or.inl ⟨by rfl,?_⟩) ?_ ?_
   rotate_left
   ·intro w'
    go_simp
    with_reducible rfl
   rotate_left
   ·simp only[Act.put,zA,zB,zC]
    rfl
   refine done_ (by kernel_rfl) ?_
   all_goals
    replace HRD:=Aside0.mk (HRD.out.keep hb8)
    replace HBG:=Aside0.mk (below2 HBG.out HBG.out.size hb8)
    clear hb8 hb7 hb6 hxb
    by_cases hw:W<0
    rotate_left
    ·have hWn:W=(n:Int)∧n<9∧gd≤5:=by
      have h:=HW.out
      have h6:=HG6.out
      have h9:=HN.out
      unfold wantsF at h
      by_cases hq:((gd:Int)=6∨(n:Int)=9)
      ·rw[if_pos hq]at h;omega
      ·rw[if_neg hq]at h;omega
     have HNW:=Lib.hid (show ¬ wantsF n gd<0 by rw[HW.out];exact hw)
     have HN9:=Lib.hid hWn.2.1
     have HG5:=Lib.hid hWn.2.2
     obtain⟨rfl,a3,-⟩:=hWn
     replace a3:(n:Int)<9:=by omega
     have HGD:Aside0 (∀ w',Below w2.heap.size w2 w'→Calls Tryz.prog 22 #[.agg #[.int .i64 id,.int .i64 gen,.int .i64 len,.slice A l.length c],.int .i64 (n:Int),.string x] w' fun e w''=>e = .returned (.bool (goodR id gen l (n:Int) x).2)∧Below w'.heap.size w' w''):=⟨fun w' hw'=>sluicegateref19_Good.calls id gen len A c l (n:Int) x _ w' (Kd.C_below HC.out hw') HCC.out (rgood_f id gen len l (volP_len HV.out).2.2 n HN9.out x (by have:=HXZ.out;omega))⟩
     have hh:=HH.out.put HRD.out.sh9 HRD.out.hv9 HN9.out
     rw[HXE.out]at hh
     have HH':=Aside0.mk hh
     clear hh
     go_wp2_with fail
     refine start_ (n:=15) (S:=fun w'=>w'.cell? ⟨w.heap.size,0,none⟩=some (.int .i64 id)∧w'.cell? ⟨w.heap.size,1,none⟩=some (.int .i64 gen)∧w'.cell? ⟨w.heap.size,2,none⟩=some (.int .i64 len)∧w'.cell? ⟨w.heap.size,3,none⟩=some (.slice A l.length c)∧w'.cell? ⟨ab,ao+n,none⟩=some (.string x)) (ds:=[]) #[false,false,false,false,false,false,false,false,false,false,false,false,false,false,false] (by kernel_rfl) rfl rfl ⟨((HX.out.keep (below2 HBG.out HBG.out.size (Below.drew (Below.refl wr.heap.size wr)))).cell (i:=0) rfl),((HX.out.keep (below2 HBG.out HBG.out.size (Below.drew (Below.refl wr.heap.size wr)))).cell (i:=1) rfl),((HX.out.keep (below2 HBG.out HBG.out.size (Below.drew (Below.refl wr.heap.size wr)))).cell (i:=2) rfl),((HX.out.keep (below2 HBG.out HBG.out.size (Below.drew (Below.refl wr.heap.size wr)))).cell (i:=3) rfl),(((below2 HBG.out HBG.out.size (Below.drew (Below.refl wr.heap.size wr))).cell (lt_cell HK.out)).trans HK.out)⟩ (fun hHeld=> ?_)
     refine pure_ (i:=0) (N:=some 88) (v:= ?_) (a':= ?_) #[true,false,false,false,false,false,false,false,false,false,false,false,false,false,false] rfl rfl (by kernel_rfl) (fun _ _ _ h=>h) (Or.inl ⟨by rfl,?_⟩) ?_ ?_
     rotate_left
     ·intro w'
      go_simp
      with_reducible rfl
     rotate_left
     ·simp only[Act.put,zA,zB,zC]
      rfl
     refine pure_ (i:=1) (N:=some 89) (v:= ?_) (a':= ?_) #[true,true,false,false,false,false,false,false,false,false,false,false,false,false,false] rfl rfl (by kernel_rfl) (fun _ _ _ h=>h) (Or.inl ⟨by rfl,?_⟩) ?_ ?_
     rotate_left
     ·intro w'
      go_simp
      with_reducible rfl
     rotate_left
     ·simp only[Act.put,zA,zB,zC]
      rfl
     refine pure_ (i:=2) (N:=some 90) (v:= ?_) (a':= ?_) #[true,true,true,false,false,false,false,false,false,false,false,false,false,false,false] rfl rfl (by kernel_rfl) (fun _ _ _ h=>h) (Or.inl ⟨by rfl,?_⟩) ?_ ?_
     rotate_left
     ·intro w'
      go_simp
      with_reducible rfl
     rotate_left
     ·simp only[Act.put,zA,zB,zC]
      rfl
     refine pure_ (i:=3) (N:=some 91) (v:= ?_) (a':= ?_) #[true,true,true,true,false,false,false,false,false,false,false,false,false,false,false] rfl rfl (by kernel_rfl) (fun _ _ _ h=>h) (Or.inl ⟨by rfl,?_⟩) ?_ ?_
     rotate_left
     ·intro w'
      go_simp
      with_reducible rfl
     rotate_left
     ·simp only[Act.put,zA,zB,zC]
      rfl
     refine pure_ (i:=4) (N:=some 92) (v:= ?_) (a':= ?_) #[true,true,true,true,true,false,false,false,false,false,false,false,false,false,false] rfl rfl (by kernel_rfl) (fun _ _ _ h=>h) (Or.inl ⟨by rfl,?_⟩) ?_ ?_
     rotate_left
     ·intro w'
      go_simp
      with_reducible rfl
     rotate_left
     ·simp only[Act.put,zA,zB,zC]
      rfl
     refine pure_ (i:=8) (N:=some 96) (v:= ?_) (a':= ?_) #[true,true,true,true,true,false,false,false,true,false,false,false,false,false,false] rfl rfl (by kernel_rfl) (fun _ _ _ h=>h) (Or.inl ⟨by rfl,?_⟩) ?_ ?_
     rotate_left
     ·intro w'
      go_simp
      with_reducible rfl
     rotate_left
     ·simp only[Act.put,zA,zB,zC]
      rfl
     refine pure_ (i:=9) (N:=some 97) (v:= ?_) (a':= ?_) #[true,true,true,true,true,false,false,false,true,true,false,false,false,false,false] rfl rfl (by kernel_rfl) (fun _ _ _ h=>h) (Or.inl ⟨by rfl,?_⟩) ?_ ?_
     rotate_left
     ·intro w'
      go_simp
      with_reducible rfl
     rotate_left
     ·simp only[Act.put,zA,zB,zC]
      rfl
     refine pure_ (i:=10) (N:=some 98) (v:= ?_) (a':= ?_) #[true,true,true,true,true,false,false,false,true,true,true,false,false,false,false] rfl rfl (by kernel_rfl) (fun _ _ _ h=>h) (Or.inl ⟨by rfl,?_⟩) ?_ ?_
     rotate_left
     ·intro w'
      go_simp
      with_reducible rfl
     rotate_left
     ·simp only[Act.put,zA,zB,zC]
      rfl
     refine pure_ (i:=11) (N:=some 99) (v:= ?_) (a':= ?_) #[true,true,true,true,true,false,false,false,true,true,true,true,false,false,false] rfl rfl (by kernel_rfl) (fun _ _ _ h=>h) (Or.inl ⟨by rfl,?_⟩) ?_ ?_
     rotate_left
     ·intro w'
      go_simp
      with_reducible rfl
     rotate_left
     ·simp only[Act.put,zA,zB,zC]
      rfl
     refine take_ (i:=5) (N:=some 93) (v:= ?_) (a':= ?_) #[true,true,true,true,true,true,false,false,true,true,true,true,false,false,false] rfl rfl (by kernel_rfl) (fun _ _ _ h=>h) (Or.inl ⟨by rfl,?_⟩) hHeld ?_ ?_
     rotate_left
     ·rintro w' ⟨s0,s1,s2,s3,s4⟩
      go_simp
      with_reducible rfl
     rotate_left
     ·simp only[Act.put,zA,zB,zC]
      rfl
     refine take_ (i:=7) (N:=some 95) (v:= ?_) (a':= ?_) #[true,true,true,true,true,true,false,true,true,true,true,true,false,false,false] rfl rfl (by kernel_rfl) (fun _ _ _ h=>h) (Or.inl ⟨by rfl,?_⟩) hHeld ?_ ?_
     rotate_left
     ·rintro w' ⟨s0,s1,s2,s3,s4⟩
      go_simp
      with_reducible rfl
     rotate_left
     ·simp only[Act.put,zA,zB,zC]
      rfl
     refine take_ (i:=12) (N:=some 100) (v:= ?_) (a':= ?_) #[true,true,true,true,true,true,false,true,true,true,true,true,true,false,false] rfl rfl (by kernel_rfl) (fun _ _ _ h=>h) (Or.inl ⟨by rfl,?_⟩) hHeld ?_ ?_
     rotate_left
     ·rintro w' ⟨s0,s1,s2,s3,s4⟩
      go_simp
      with_reducible rfl
     rotate_left
     ·simp only[Act.put,zA,zB,zC]
      rfl
     refine one_ (i:=6) (N:=some 94) #[true,true,true,true,true,true,true,true,true,true,true,true,true,false,false] rfl rfl (by kernel_rfl) (by decide) (fun K hK=> ?_)
     refine goes_ Tryz.func20 (by kernel_rfl) rfl #[.pointer (some ⟨g,0,none⟩),.int .i64 (n:Int),.string x] (by rfl) rfl rfl (by simp only[List.map_toArray,List.map_cons,List.map_nil];rfl) ?_
     with_reducible refine(take_now (HRD.out.keep (Below.drew (Below.refl wr.heap.size wr))) HN9.out HG6.out (Int.not_lt.2 HNW.out) x HXZ.out).mono ?_
     rintro e w9 ⟨rfl,hrd,hb⟩
     refine⟨_,rfl,?_⟩
     have hb9:Below w2.heap.size w2 w9:=((below2 HBG.out HBG.out.size (Below.drew (Below.refl wr.heap.size wr)))).trans (hb.mono HG.out)
     have HRD9:=Aside0.mk hrd
     clear hrd hb
     refine hK.out _ _ ⟨((HX.out.keep hb9).cell (i:=0) rfl),((HX.out.keep hb9).cell (i:=1) rfl),((HX.out.keep hb9).cell (i:=2) rfl),((HX.out.keep hb9).cell (i:=3) rfl),((hb9.cell (lt_cell HK.out)).trans HK.out)⟩ (fun hHeld=> ?_)
     clear hK K
     refine norm_ (a':= ?_) ?_ ?_
     rotate_left
     ·show Act.put _ (some 94) _=_
      simp only[Act.put,zA,zB,zC]
      rfl
     refine one_ (i:=13) (N:=some 101) #[true,true,true,true,true,true,true,true,true,true,true,true,true,true,false] rfl rfl (by kernel_rfl) (by decide) (fun K hK=> ?_)
     refine goes_ Tryz.func22 (by kernel_rfl) rfl #[.agg #[.int .i64 id,.int .i64 gen,.int .i64 len,.slice A l.length c],.int .i64 (n:Int),.string x] (by rfl) rfl rfl (by simp only[List.map_toArray,List.map_cons,List.map_nil];rfl) ?_
     with_reducible refine(HGD.out _ hb9).mono ?_
     rintro e w10 ⟨rfl,hb⟩
     refine⟨_,rfl,?_⟩
     have hb10:=below2 hb9 hb9.size hb
     replace HRD9:=Aside0.mk (HRD9.out.keep hb)
     clear hb hb9
     refine hK.out _ _ ⟨((HX.out.keep hb10).cell (i:=0) rfl),((HX.out.keep hb10).cell (i:=1) rfl),((HX.out.keep hb10).cell (i:=2) rfl),((HX.out.keep hb10).cell (i:=3) rfl),((hb10.cell (lt_cell HK.out)).trans HK.out)⟩ (fun hHeld=> ?_)
     clear hK K
     refine norm_ (a':= ?_) ?_ ?_
     rotate_left
     ·show Act.put _ (some 101) _=_
      simp only[Act.put,zA,zB,zC]
      rfl
     refine pure_ (i:=14) (N:=some 102) (v:= ?_) (a':= ?_) #[true,true,true,true,true,true,true,true,true,true,true,true,true,true,true] rfl rfl (by kernel_rfl) (fun _ _ _ h=>h) (Or.inl ⟨by rfl,?_⟩) ?_ ?_
     rotate_left
     ·intro w'
      go_simp
      with_reducible rfl
     rotate_left
     ·simp only[Act.put,zA,zB,zC]
      rfl
     refine done_ (by kernel_rfl) ?_
     have HB10:=Aside0.mk hb10
     clear hb10
     go_wp2_with fail
     go_roundw
     case rel=>exact⟨n+1,_,_,_,HN9.out,HLT.out,(by have:=HG5.out;split<;>omega),by go_num,HRD9,HH',HB10⟩
     case measure=>have:=HN9.out;simp[intOf];omega
    clear HK HXZ HXE HLT hlt1
    go_wp2_with fail
    generalize (some ⟨ab,ao,none⟩:Option Addr)=A1 at *
  all_goals
   refine start_ (n:=9) (S:=fun w'=>w'.cell? ⟨w.heap.size,0,none⟩=some (.int .i64 id)∧w'.cell? ⟨w.heap.size,1,none⟩=some (.int .i64 gen)∧w'.cell? ⟨w.heap.size,2,none⟩=some (.int .i64 len)∧w'.cell? ⟨w.heap.size,3,none⟩=some (.slice A l.length c)) (ds:=[]) #[false,false,false,false,false,false,false,false,false] (by kernel_rfl) rfl rfl ⟨((HX.out.keep (below2 HBG.out HBG.out.size (Below.drew (Below.refl wr.heap.size wr)))).cell (i:=0) rfl),((HX.out.keep (below2 HBG.out HBG.out.size (Below.drew (Below.refl wr.heap.size wr)))).cell (i:=1) rfl),((HX.out.keep (below2 HBG.out HBG.out.size (Below.drew (Below.refl wr.heap.size wr)))).cell (i:=2) rfl),((HX.out.keep (below2 HBG.out HBG.out.size (Below.drew (Below.refl wr.heap.size wr)))).cell (i:=3) rfl)⟩ (fun hHeld=> ?_)
   refine pure_ (i:=0) (N:=some 103) (v:= ?_) (a':= ?_) #[true,false,false,false,false,false,false,false,false] rfl rfl (by kernel_rfl) (fun _ _ _ h=>h) (Or.inl ⟨by rfl,?_⟩) ?_ ?_
   rotate_left
   ·intro w'
    go_simp
    with_reducible rfl
   rotate_left
   ·simp only[Act.put,zA,zB,zC]
    rfl
   refine pure_ (i:=2) (N:=some 105) (v:= ?_) (a':= ?_) #[true,false,true,false,false,false,false,false,false] rfl rfl (by kernel_rfl) (fun _ _ _ h=>h) (Or.inl ⟨by rfl,?_⟩) ?_ ?_
   rotate_left
   ·intro w'
    go_simp
    with_reducible rfl
   rotate_left
   ·simp only[Act.put,zA,zB,zC]
    rfl
   refine pure_ (i:=3) (N:=some 106) (v:= ?_) (a':= ?_) #[true,false,true,true,false,false,false,false,false] rfl rfl (by kernel_rfl) (fun _ _ _ h=>h) (Or.inl ⟨by rfl,?_⟩) ?_ ?_
   rotate_left
   ·intro w'
    go_simp
    with_reducible rfl
   rotate_left
   ·simp only[Act.put,zA,zB,zC]
    rfl
   refine pure_ (i:=4) (N:=some 107) (v:= ?_) (a':= ?_) #[true,false,true,true,true,false,false,false,false] rfl rfl (by kernel_rfl) (fun _ _ _ h=>h) (Or.inl ⟨by rfl,?_⟩) ?_ ?_
   rotate_left
   ·intro w'
    go_simp
    with_reducible rfl
   rotate_left
   ·simp only[Act.put,zA,zB,zC]
    rfl
   refine take_ (i:=1) (N:=some 104) (v:= ?_) (a':= ?_) #[true,true,true,true,true,false,false,false,false] rfl rfl (by kernel_rfl) (fun _ _ _ h=>h) (Or.inl ⟨by rfl,?_⟩) hHeld ?_ ?_
   rotate_left
   ·rintro w' ⟨s0,s1,s2,s3⟩
    go_simp
    with_reducible rfl
   rotate_left
   ·simp only[Act.put,zA,zB,zC]
    rfl
   refine one_ (i:=5) (N:=some 108) #[true,true,true,true,true,true,false,false,false] rfl rfl (by kernel_rfl) (by decide) (fun K hK=> ?_)
   refine goes_ Tryz.func15 (by kernel_rfl) rfl #[.agg #[.int .i64 id,.int .i64 gen,.int .i64 len,.slice A l.length c],.slice A1 n c1] (by rfl) rfl rfl (by simp only[List.map_toArray,List.map_cons,List.map_nil];rfl) ?_
   with_reducible refine(HRB.out _ (below2 HBG.out HBG.out.size (Below.drew (Below.refl wr.heap.size wr)))).mono ?_
   rintro e w11 ⟨Ar,cr,rfl,hCr,hcr,hb⟩
   refine⟨_,rfl,?_⟩
   have hb11:=below2 (Below.drew (Below.refl wr.heap.size wr)) (Below.drew (Below.refl wr.heap.size wr)).size hb
   have HCr:=Aside0.mk hCr
   have HLr:=Lib.hid hcr
   clear hb hCr hcr
   refine hK.out _ _ ⟨((HX.out.keep (below2 HBG.out HBG.out.size hb11)).cell (i:=0) rfl),((HX.out.keep (below2 HBG.out HBG.out.size hb11)).cell (i:=1) rfl),((HX.out.keep (below2 HBG.out HBG.out.size hb11)).cell (i:=2) rfl),((HX.out.keep (below2 HBG.out HBG.out.size hb11)).cell (i:=3) rfl)⟩ (fun hHeld=> ?_)
   clear hK K
   refine norm_ (a':= ?_) ?_ ?_
   rotate_left
   ·show Act.put _ (some 108) _=_
    simp only[Act.put,zA,zB,zC]
    rfl
   refine pure_ (i:=6) (N:=some 109) (v:= ?_) (a':= ?_) #[true,true,true,true,true,true,true,false,false] rfl rfl (by kernel_rfl) (fun _ _ _ h=>h) (Or.inl ⟨by rfl,?_⟩) ?_ ?_
   rotate_left
   ·intro w'
    go_simp
    with_reducible rfl
   rotate_left
   ·simp only[Act.put,zA,zB,zC]
    rfl
   refine pure_ (i:=7) (N:=some 110) (v:= ?_) (a':= ?_) #[true,true,true,true,true,true,true,true,false] rfl rfl (by kernel_rfl) (fun _ _ _ h=>h) (Or.inl ⟨by rfl,?_⟩) ?_ ?_
   rotate_left
   ·intro w'
    go_simp
    with_reducible rfl
   rotate_left
   ·simp only[Act.put,zA,zB,zC]
    rfl
   refine pure_ (i:=8) (N:=some 11) (v:= ?_) (a':= ?_) #[true,true,true,true,true,true,true,true,true] rfl rfl (by kernel_rfl) (fun _ _ _ h=>h) (Or.inl ⟨by rfl,?_⟩) ?_ ?_
   rotate_left
   ·intro w'
    go_simp
    with_reducible rfl
   rotate_left
   ·simp only[Act.put,zA,zB,zC]
    rfl
   refine done_ (by kernel_rfl) ?_
   replace HRD:=Aside0.mk (HRD.out.keep hb11)
   replace HBG:=Aside0.mk (below2 HBG.out HBG.out.size hb11)
   rw[show IntKind.i64.wrap ((n:Int)-((badN hv n).length:Int))=(gd:Int)by
    have h1:=HCN.out
    have h2:=HN.out
    rw[i64_w]
    unfold wrap64
    omega]
   have HSZ:Aside0 (∀ s∈sh,s.size≤140737488355328):=⟨fun s hs=>by have:=HH.out.sz s hs;omega⟩
   clear hb11
   go_wp2_with fail
   refine(rtext_calls HRD.out HSZ.out).mono ?_
   rintro e wr ⟨rfl,b5⟩
   replace HRD:=Aside0.mk (HRD.out.keep b5)
   replace HBG:=Aside0.mk (below2 HBG.out HBG.out.size b5)
   clear b5
   rcases Nat.lt_or_ge gd 6 with h6|h6
   ·have hg6:(gd:Int)<6:=by omega
    rw[show rtextF len (gd:Int) sh hv=(⟨#[]⟩,2)from if_pos hg6]
    clear h6
    go_wp2_with fail
    refine(slive_calls _).mono ?_
    rintro e wl ⟨rfl,bl⟩
    go_wp2_with fail
    go_ret
    exact⟨rfl,below2 (below2 HB.out HB.out.size HBG.out) (below2 HB.out HB.out.size HBG.out).size bl⟩
   obtain rfl:gd=6:=by have:=HG6.out;omega
   have hg6 : ¬ ((6:Nat):Int)<6:=by decide
   rw[show rtextF len ((6:Nat):Int) sh hv=joinF len sh hv from if_neg hg6]
   clear h6
   rcases reads_text HV.out HZ.out HH.out HRD.out.sh9 HRD.out.hv9 HN.out HNX'.out with hj|⟨s,hj,ha⟩
   ·rw[hj]
    clear hj
    go_wp2_with fail
    refine start_ (n:=27) (S:=fun w'=>w'.cell? ⟨w.heap.size,0,none⟩=some (.int .i64 id)∧w'.cell? ⟨w.heap.size,1,none⟩=some (.int .i64 gen)∧w'.cell? ⟨w.heap.size,2,none⟩=some (.int .i64 len)∧w'.cell? ⟨w.heap.size,3,none⟩=some (.slice A l.length c)) (ds:=[]) #[false,false,false,false,false,false,false,false,false,false,false,false,false,false,false,false,false,false,false,false,false,false,false,false,false,false,false] (by kernel_rfl) rfl rfl ⟨((HX.out.keep (below2 HBG.out HBG.out.size (Below.drew (Below.refl wr.heap.size wr)))).cell (i:=0) rfl),((HX.out.keep (below2 HBG.out HBG.out.size (Below.drew (Below.refl wr.heap.size wr)))).cell (i:=1) rfl),((HX.out.keep (below2 HBG.out HBG.out.size (Below.drew (Below.refl wr.heap.size wr)))).cell (i:=2) rfl),((HX.out.keep (below2 HBG.out HBG.out.size (Below.drew (Below.refl wr.heap.size wr)))).cell (i:=3) rfl)⟩ (fun hHeld=> ?_)
    refine pure_ (i:=0) (N:=some 127) (v:= ?_) (a':= ?_) #[true,false,false,false,false,false,false,false,false,false,false,false,false,false,false,false,false,false,false,false,false,false,false,false,false,false,false] rfl rfl (by kernel_rfl) (fun _ _ _ h=>h) (Or.inl ⟨by rfl,?_⟩) ?_ ?_
    rotate_left
    ·intro w'
     go_simp
     with_reducible rfl
    rotate_left
    ·simp only[Act.put,zA,zB,zC]
     rfl
    refine one_ (i:=1) (N:=some 128) #[true,true,false,false,false,false,false,false,false,false,false,false,false,false,false,false,false,false,false,false,false,false,false,false,false,false,false] rfl rfl (by kernel_rfl) (by decide) (fun K hK=> ?_)
    refine goes_ Tryz.func19 (by kernel_rfl) rfl #[.pointer (some ⟨g,0,none⟩)] (by rfl) rfl rfl (by simp only[List.map_toArray,List.map_cons,List.map_nil];rfl) ?_
    with_reducible refine(wants_six (HRD.out.keep (Below.drew (Below.refl wr.heap.size wr)))).mono ?_
    rintro e w13 ⟨rfl,rfl⟩
    refine⟨_,rfl,?_⟩
    refine hK.out _ _ ⟨((HX.out.keep (below2 HBG.out HBG.out.size (Below.drew (Below.refl wr.heap.size wr)))).cell (i:=0) rfl),((HX.out.keep (below2 HBG.out HBG.out.size (Below.drew (Below.refl wr.heap.size wr)))).cell (i:=1) rfl),((HX.out.keep (below2 HBG.out HBG.out.size (Below.drew (Below.refl wr.heap.size wr)))).cell (i:=2) rfl),((HX.out.keep (below2 HBG.out HBG.out.size (Below.drew (Below.refl wr.heap.size wr)))).cell (i:=3) rfl)⟩ (fun hHeld=> ?_)
    clear hK K
    refine norm_ (a':= ?_) ?_ ?_
    rotate_left
    ·show Act.put _ (some 128) _=_
     simp only[Act.put,zA,zB,zC]
     rfl
    refine pure_ (i:=2) (N:=some 129) (v:= ?_) (a':= ?_) #[true,true,true,false,false,false,false,false,false,false,false,false,false,false,false,false,false,false,false,false,false,false,false,false,false,false,false] rfl rfl (by kernel_rfl) (fun _ _ _ h=>h) (Or.inl ⟨by rfl,?_⟩) ?_ ?_
    rotate_left
    ·intro w'
     go_simp
     with_reducible rfl
    rotate_left
    ·simp only[Act.put,zA,zB,zC]
     rfl
    refine pure_ (i:=3) (N:=some 130) (v:= ?_) (a':= ?_) #[true,true,true,true,false,false,false,false,false,false,false,false,false,false,false,false,false,false,false,false,false,false,false,false,false,false,false] rfl rfl (by kernel_rfl) (fun _ _ _ h=>h) (Or.inl ⟨by rfl,?_⟩) ?_ ?_
    rotate_left
    ·intro w'
     go_simp
     with_reducible rfl
    rotate_left
    ·simp only[Act.put,zA,zB,zC]
     rfl
    refine pure_ (i:=4) (N:=some 131) (v:= ?_) (a':= ?_) #[true,true,true,true,true,false,false,false,false,false,false,false,false,false,false,false,false,false,false,false,false,false,false,false,false,false,false] rfl rfl (by kernel_rfl) (fun _ _ _ h=>h) (Or.inl ⟨by rfl,?_⟩) ?_ ?_
    rotate_left
    ·intro w'
     go_simp
     with_reducible rfl
    rotate_left
    ·simp only[Act.put,zA,zB,zC]
     rfl
    refine pure_ (i:=5) (N:=some 132) (v:= ?_) (a':= ?_) #[true,true,true,true,true,true,false,false,false,false,false,false,false,false,false,false,false,false,false,false,false,false,false,false,false,false,false] rfl rfl (by kernel_rfl) (fun _ _ _ h=>h) (Or.inl ⟨by rfl,?_⟩) ?_ ?_
    rotate_left
    ·intro w'
     go_simp
     with_reducible rfl
    rotate_left
    ·simp only[Act.put,zA,zB,zC]
     rfl
    refine pure_ (i:=6) (N:=some 133) (v:= ?_) (a':= ?_) #[true,true,true,true,true,true,true,false,false,false,false,false,false,false,false,false,false,false,false,false,false,false,false,false,false,false,false] rfl rfl (by kernel_rfl) (fun _ _ _ h=>h) (Or.inl ⟨by rfl,?_⟩) ?_ ?_
    rotate_left
    ·intro w'
     go_simp
     with_reducible rfl
    rotate_left
    ·simp only[Act.put,zA,zB,zC]
     rfl
    refine pure_ (i:=7) (N:=some 134) (v:=undef) (a':= ?_) #[true,true,true,true,true,true,true,true,false,false,false,false,false,false,false,false,false,false,false,false,false,false,false,false,false,false,false] rfl rfl (by kernel_rfl) (fun _ _ _ h=>h) (Or.inr ⟨by rfl,rfl⟩) ?_ ?_
    rotate_left
    ·simp only[Act.put,zA,zB,zC]
     rfl
    refine pure_ (i:=8) (N:=some 135) (v:=undef) (a':= ?_) #[true,true,true,true,true,true,true,true,true,false,false,false,false,false,false,false,false,false,false,false,false,false,false,false,false,false,false] rfl rfl (by kernel_rfl) (fun _ _ _ h=>h) (Or.inr ⟨by rfl,rfl⟩) ?_ ?_
    rotate_left
    ·simp only[Act.put,zA,zB,zC]
     rfl
    refine pure_ (i:=9) (N:=some 136) (v:=undef) (a':= ?_) #[true,true,true,true,true,true,true,true,true,true,false,false,false,false,false,false,false,false,false,false,false,false,false,false,false,false,false] rfl rfl (by kernel_rfl) (fun _ _ _ h=>h) (Or.inr ⟨by rfl,rfl⟩) ?_ ?_
    rotate_left
    ·simp only[Act.put,zA,zB,zC]
     rfl
    refine pure_ (i:=10) (N:=some 137) (v:=undef) (a':= ?_) #[true,true,true,true,true,true,true,true,true,true,true,false,false,false,false,false,false,false,false,false,false,false,false,false,false,false,false] rfl rfl (by kernel_rfl) (fun _ _ _ h=>h) (Or.inr ⟨by rfl,rfl⟩) ?_ ?_
    rotate_left
    ·simp only[Act.put,zA,zB,zC]
     rfl
    refine pure_ (i:=11) (N:=some 138) (v:=undef) (a':= ?_) #[true,true,true,true,true,true,true,true,true,true,true,true,false,false,false,false,false,false,false,false,false,false,false,false,false,false,false] rfl rfl (by kernel_rfl) (fun _ _ _ h=>h) (Or.inr ⟨by rfl,rfl⟩) ?_ ?_
    rotate_left
    ·simp only[Act.put,zA,zB,zC]
     rfl
    refine pure_ (i:=12) (N:=some 139) (v:=undef) (a':= ?_) #[true,true,true,true,true,true,true,true,true,true,true,true,true,false,false,false,false,false,false,false,false,false,false,false,false,false,false] rfl rfl (by kernel_rfl) (fun _ _ _ h=>h) (Or.inr ⟨by rfl,rfl⟩) ?_ ?_
    rotate_left
    ·simp only[Act.put,zA,zB,zC]
     rfl
    refine pure_ (i:=13) (N:=some 140) (v:= ?_) (a':= ?_) #[true,true,true,true,true,true,true,true,true,true,true,true,true,true,false,false,false,false,false,false,false,false,false,false,false,false,false] rfl rfl (by kernel_rfl) (fun _ _ _ h=>h) (Or.inl ⟨by rfl,?_⟩) ?_ ?_
    rotate_left
    ·intro w'
     go_simp
     with_reducible rfl
    rotate_left
    ·simp only[Act.put,zA,zB,zC]
     rfl
    refine pure_ (i:=14) (N:=some 141) (v:= ?_) (a':= ?_) #[true,true,true,true,true,true,true,true,true,true,true,true,true,true,true,false,false,false,false,false,false,false,false,false,false,false,false] rfl rfl (by kernel_rfl) (fun _ _ _ h=>h) (Or.inl ⟨by rfl,?_⟩) ?_ ?_
    rotate_left
    ·intro w'
     go_simp
     with_reducible rfl
    rotate_left
    ·simp only[Act.put,zA,zB,zC]
     rfl
    refine pure_ (i:=15) (N:=some 142) (v:= ?_) (a':= ?_) #[true,true,true,true,true,true,true,true,true,true,true,true,true,true,true,true,false,false,false,false,false,false,false,false,false,false,false] rfl rfl (by kernel_rfl) (fun _ _ _ h=>h) (Or.inl ⟨by rfl,?_⟩) ?_ ?_
    rotate_left
    ·intro w'
     go_simp
     with_reducible rfl
    rotate_left
    ·simp only[Act.put,zA,zB,zC]
     rfl
    refine pure_ (i:=16) (N:=some 143) (v:= ?_) (a':= ?_) #[true,true,true,true,true,true,true,true,true,true,true,true,true,true,true,true,true,false,false,false,false,false,false,false,false,false,false] rfl rfl (by kernel_rfl) (fun _ _ _ h=>h) (Or.inl ⟨by rfl,?_⟩) ?_ ?_
    rotate_left
    ·intro w'
     go_simp
     with_reducible rfl
    rotate_left
    ·simp only[Act.put,zA,zB,zC]
     rfl
    refine pure_ (i:=17) (N:=some 144) (v:= ?_) (a':= ?_) #[true,true,true,true,true,true,true,true,true,true,true,true,true,true,true,true,true,true,false,false,false,false,false,false,false,false,false] rfl rfl (by kernel_rfl) (fun _ _ _ h=>h) (Or.inl ⟨by rfl,?_⟩) ?_ ?_
    rotate_left
    ·intro w'
     go_simp
     with_reducible rfl
    rotate_left
    ·simp only[Act.put,zA,zB,zC]
     rfl
    refine pure_ (i:=18) (N:=some 145) (v:= ?_) (a':= ?_) #[true,true,true,true,true,true,true,true,true,true,true,true,true,true,true,true,true,true,true,false,false,false,false,false,false,false,false] rfl rfl (by kernel_rfl) (fun _ _ _ h=>h) (Or.inl ⟨by rfl,?_⟩) ?_ ?_
    rotate_left
    ·intro w'
     go_simp
     with_reducible rfl
    rotate_left
    ·simp only[Act.put,zA,zB,zC]
     rfl
    refine pure_ (i:=19) (N:=some 146) (v:= ?_) (a':= ?_) #[true,true,true,true,true,true,true,true,true,true,true,true,true,true,true,true,true,true,true,true,false,false,false,false,false,false,false] rfl rfl (by kernel_rfl) (fun _ _ _ h=>h) (Or.inl ⟨by rfl,?_⟩) ?_ ?_
    rotate_left
    ·intro w'
     go_simp
     with_reducible rfl
    rotate_left
    ·simp only[Act.put,zA,zB,zC]
     rfl
    refine pure_ (i:=20) (N:=some 147) (v:= ?_) (a':= ?_) #[true,true,true,true,true,true,true,true,true,true,true,true,true,true,true,true,true,true,true,true,true,false,false,false,false,false,false] rfl rfl (by kernel_rfl) (fun _ _ _ h=>h) (Or.inl ⟨by rfl,?_⟩) ?_ ?_
    rotate_left
    ·intro w'
     go_simp
     with_reducible rfl
    rotate_left
    ·simp only[Act.put,zA,zB,zC]
     rfl
    refine pure_ (i:=21) (N:=some 148) (v:= ?_) (a':= ?_) #[true,true,true,true,true,true,true,true,true,true,true,true,true,true,true,true,true,true,true,true,true,true,false,false,false,false,false] rfl rfl (by kernel_rfl) (fun _ _ _ h=>h) (Or.inl ⟨by rfl,?_⟩) ?_ ?_
    rotate_left
    ·intro w'
     go_simp
     with_reducible rfl
    rotate_left
    ·simp only[Act.put,zA,zB,zC]
     rfl
    refine pure_ (i:=22) (N:=some 149) (v:= ?_) (a':= ?_) #[true,true,true,true,true,true,true,true,true,true,true,true,true,true,true,true,true,true,true,true,true,true,true,false,false,false,false] rfl rfl (by kernel_rfl) (fun _ _ _ h=>h) (Or.inl ⟨by rfl,?_⟩) ?_ ?_
    rotate_left
    ·intro w'
     go_simp
     with_reducible rfl
    rotate_left
    ·simp only[Act.put,zA,zB,zC]
     rfl
    refine pure_ (i:=23) (N:=some 150) (v:= ?_) (a':= ?_) #[true,true,true,true,true,true,true,true,true,true,true,true,true,true,true,true,true,true,true,true,true,true,true,true,false,false,false] rfl rfl (by kernel_rfl) (fun _ _ _ h=>h) (Or.inl ⟨by rfl,?_⟩) ?_ ?_
    rotate_left
    ·intro w'
     go_simp
     with_reducible rfl
    rotate_left
    ·simp only[Act.put,zA,zB,zC]
     rfl
    refine one_ (i:=24) (N:=some 151) #[true,true,true,true,true,true,true,true,true,true,true,true,true,true,true,true,true,true,true,true,true,true,true,true,true,false,false] rfl rfl (by kernel_rfl) (by decide) (fun K hK=> ?_)
    refine goes_ Tryz.func7 (by kernel_rfl) rfl #[] (by rfl) rfl rfl (by simp) ?_
    with_reducible refine(slive_calls _).mono ?_
    rintro e w15 ⟨rfl,hb⟩
    refine⟨_,rfl,?_⟩
    have hb15:=below2 (Below.drew (Below.refl wr.heap.size wr)) (Below.drew (Below.refl wr.heap.size wr)).size hb
    clear hb
    refine hK.out _ _ ⟨((HX.out.keep (below2 HBG.out HBG.out.size hb15)).cell (i:=0) rfl),((HX.out.keep (below2 HBG.out HBG.out.size hb15)).cell (i:=1) rfl),((HX.out.keep (below2 HBG.out HBG.out.size hb15)).cell (i:=2) rfl),((HX.out.keep (below2 HBG.out HBG.out.size hb15)).cell (i:=3) rfl)⟩ (fun hHeld=> ?_)
    clear hK K
    refine norm_ (a':= ?_) ?_ ?_
    rotate_left
    ·show Act.put _ (some 151) _=_
     simp only[Act.put,zA,zB,zC]
     rfl
    refine pure_ (i:=25) (N:=some 152) (v:= ?_) (a':= ?_) #[true,true,true,true,true,true,true,true,true,true,true,true,true,true,true,true,true,true,true,true,true,true,true,true,true,true,false] rfl rfl (by kernel_rfl) (fun _ _ _ h=>h) (Or.inl ⟨by rfl,?_⟩) ?_ ?_
    rotate_left
    ·intro w'
     go_simp
     with_reducible rfl
    rotate_left
    ·simp only[Act.put,zA,zB,zC]
     rfl
    refine pure_ (i:=26) (N:=some 6) (v:= ?_) (a':= ?_) #[true,true,true,true,true,true,true,true,true,true,true,true,true,true,true,true,true,true,true,true,true,true,true,true,true,true,true] rfl rfl (by kernel_rfl) (fun _ _ _ h=>h) (Or.inl ⟨by rfl,?_⟩) ?_ ?_
    rotate_left
    ·intro w'
     go_simp
     with_reducible rfl
    rotate_left
    ·simp only[Act.put,zA,zB,zC]
     rfl
    refine done_ (by kernel_rfl) ?_
    have HB15:=Aside0.mk hb15
    clear hb15
    go_wp2_with fail
    go_ret
    exact⟨rfl,below2 (below2 HB.out HB.out.size HBG.out) (below2 HB.out HB.out.size HBG.out).size HB15.out⟩
   ·rw[hj]
    have HAG:Aside0 (∀ w',Below w2.heap.size w2 w'→Calls Tryz.prog 16 #[.agg #[.int .i64 id,.int .i64 gen,.int .i64 len,.slice A l.length c],.slice A1 n c1,.string s] w' fun e w''=>e = .returned (.bool true)∧Below w'.heap.size w' w''):=⟨fun w' hw'=>by
     have h:=sluicegateref19_Agrees.calls 3000 id gen len A c l A1 c1 (xs.take n) s true w' (Kd.C_below HC.out hw') HCC.out (Kd.C_below (strs_take HD.out n HNX'.out) hw') (by rw[HLN.out];have:=HC2.out;have:=HNX'.out;omega) ha
     rw[HLN.out]at h
     exact h⟩
    clear hj ha
    go_wp2_with fail
    refine start_ (n:=27) (S:=fun w'=>w'.cell? ⟨w.heap.size,0,none⟩=some (.int .i64 id)∧w'.cell? ⟨w.heap.size,1,none⟩=some (.int .i64 gen)∧w'.cell? ⟨w.heap.size,2,none⟩=some (.int .i64 len)∧w'.cell? ⟨w.heap.size,3,none⟩=some (.slice A l.length c)) (ds:=[]) #[false,false,false,false,false,false,false,false,false,false,false,false,false,false,false,false,false,false,false,false,false,false,false,false,false,false,false] (by kernel_rfl) rfl rfl ⟨((HX.out.keep (below2 HBG.out HBG.out.size (Below.drew (Below.refl wr.heap.size wr)))).cell (i:=0) rfl),((HX.out.keep (below2 HBG.out HBG.out.size (Below.drew (Below.refl wr.heap.size wr)))).cell (i:=1) rfl),((HX.out.keep (below2 HBG.out HBG.out.size (Below.drew (Below.refl wr.heap.size wr)))).cell (i:=2) rfl),((HX.out.keep (below2 HBG.out HBG.out.size (Below.drew (Below.refl wr.heap.size wr)))).cell (i:=3) rfl)⟩ (fun hHeld=> ?_)
    refine pure_ (i:=0) (N:=some 127) (v:= ?_) (a':= ?_) #[true,false,false,false,false,false,false,false,false,false,false,false,false,false,false,false,false,false,false,false,false,false,false,false,false,false,false] rfl rfl (by kernel_rfl) (fun _ _ _ h=>h) (Or.inl ⟨by rfl,?_⟩) ?_ ?_
    rotate_left
    ·intro w'
     go_simp
     with_reducible rfl
    rotate_left
    ·simp only[Act.put,zA,zB,zC]
     rfl
    refine one_ (i:=1) (N:=some 128) #[true,true,false,false,false,false,false,false,false,false,false,false,false,false,false,false,false,false,false,false,false,false,false,false,false,false,false] rfl rfl (by kernel_rfl) (by decide) (fun K hK=> ?_)
    refine goes_ Tryz.func19 (by kernel_rfl) rfl #[.pointer (some ⟨g,0,none⟩)] (by rfl) rfl rfl (by simp only[List.map_toArray,List.map_cons,List.map_nil];rfl) ?_
    with_reducible refine(wants_six (HRD.out.keep (Below.drew (Below.refl wr.heap.size wr)))).mono ?_
    rintro e w13 ⟨rfl,rfl⟩
    refine⟨_,rfl,?_⟩
    refine hK.out _ _ ⟨((HX.out.keep (below2 HBG.out HBG.out.size (Below.drew (Below.refl wr.heap.size wr)))).cell (i:=0) rfl),((HX.out.keep (below2 HBG.out HBG.out.size (Below.drew (Below.refl wr.heap.size wr)))).cell (i:=1) rfl),((HX.out.keep (below2 HBG.out HBG.out.size (Below.drew (Below.refl wr.heap.size wr)))).cell (i:=2) rfl),((HX.out.keep (below2 HBG.out HBG.out.size (Below.drew (Below.refl wr.heap.size wr)))).cell (i:=3) rfl)⟩ (fun hHeld=> ?_)
    clear hK K
    refine norm_ (a':= ?_) ?_ ?_
    rotate_left
    ·show Act.put _ (some 128) _=_
     simp only[Act.put,zA,zB,zC]
     rfl
    refine pure_ (i:=2) (N:=some 129) (v:= ?_) (a':= ?_) #[true,true,true,false,false,false,false,false,false,false,false,false,false,false,false,false,false,false,false,false,false,false,false,false,false,false,false] rfl rfl (by kernel_rfl) (fun _ _ _ h=>h) (Or.inl ⟨by rfl,?_⟩) ?_ ?_
    rotate_left
    ·intro w'
     go_simp
     with_reducible rfl
    rotate_left
    ·simp only[Act.put,zA,zB,zC]
     rfl
    refine pure_ (i:=3) (N:=some 130) (v:= ?_) (a':= ?_) #[true,true,true,true,false,false,false,false,false,false,false,false,false,false,false,false,false,false,false,false,false,false,false,false,false,false,false] rfl rfl (by kernel_rfl) (fun _ _ _ h=>h) (Or.inl ⟨by rfl,?_⟩) ?_ ?_
    rotate_left
    ·intro w'
     go_simp
     with_reducible rfl
    rotate_left
    ·simp only[Act.put,zA,zB,zC]
     rfl
    refine pure_ (i:=4) (N:=some 131) (v:= ?_) (a':= ?_) #[true,true,true,true,true,false,false,false,false,false,false,false,false,false,false,false,false,false,false,false,false,false,false,false,false,false,false] rfl rfl (by kernel_rfl) (fun _ _ _ h=>h) (Or.inl ⟨by rfl,?_⟩) ?_ ?_
    rotate_left
    ·intro w'
     go_simp
     with_reducible rfl
    rotate_left
    ·simp only[Act.put,zA,zB,zC]
     rfl
    refine pure_ (i:=5) (N:=some 132) (v:= ?_) (a':= ?_) #[true,true,true,true,true,true,false,false,false,false,false,false,false,false,false,false,false,false,false,false,false,false,false,false,false,false,false] rfl rfl (by kernel_rfl) (fun _ _ _ h=>h) (Or.inl ⟨by rfl,?_⟩) ?_ ?_
    rotate_left
    ·intro w'
     go_simp
     with_reducible rfl
    rotate_left
    ·simp only[Act.put,zA,zB,zC]
     rfl
    refine pure_ (i:=6) (N:=some 133) (v:= ?_) (a':= ?_) #[true,true,true,true,true,true,true,false,false,false,false,false,false,false,false,false,false,false,false,false,false,false,false,false,false,false,false] rfl rfl (by kernel_rfl) (fun _ _ _ h=>h) (Or.inl ⟨by rfl,?_⟩) ?_ ?_
    rotate_left
    ·intro w'
     go_simp
     with_reducible rfl
    rotate_left
    ·simp only[Act.put,zA,zB,zC]
     rfl
    refine pure_ (i:=8) (N:=some 135) (v:= ?_) (a':= ?_) #[true,true,true,true,true,true,true,false,true,false,false,false,false,false,false,false,false,false,false,false,false,false,false,false,false,false,false] rfl rfl (by kernel_rfl) (fun _ _ _ h=>h) (Or.inl ⟨by rfl,?_⟩) ?_ ?_
    rotate_left
    ·intro w'
     go_simp
     with_reducible rfl
    rotate_left
    ·simp only[Act.put,zA,zB,zC]
     rfl
    refine pure_ (i:=9) (N:=some 136) (v:= ?_) (a':= ?_) #[true,true,true,true,true,true,true,false,true,true,false,false,false,false,false,false,false,false,false,false,false,false,false,false,false,false,false] rfl rfl (by kernel_rfl) (fun _ _ _ h=>h) (Or.inl ⟨by rfl,?_⟩) ?_ ?_
    rotate_left
    ·intro w'
     go_simp
     with_reducible rfl
    rotate_left
    ·simp only[Act.put,zA,zB,zC]
     rfl
    refine pure_ (i:=10) (N:=some 137) (v:= ?_) (a':= ?_) #[true,true,true,true,true,true,true,false,true,true,true,false,false,false,false,false,false,false,false,false,false,false,false,false,false,false,false] rfl rfl (by kernel_rfl) (fun _ _ _ h=>h) (Or.inl ⟨by rfl,?_⟩) ?_ ?_
    rotate_left
    ·intro w'
     go_simp
     with_reducible rfl
    rotate_left
    ·simp only[Act.put,zA,zB,zC]
     rfl
    refine pure_ (i:=11) (N:=some 138) (v:= ?_) (a':= ?_) #[true,true,true,true,true,true,true,false,true,true,true,true,false,false,false,false,false,false,false,false,false,false,false,false,false,false,false] rfl rfl (by kernel_rfl) (fun _ _ _ h=>h) (Or.inl ⟨by rfl,?_⟩) ?_ ?_
    rotate_left
    ·intro w'
     go_simp
     with_reducible rfl
    rotate_left
    ·simp only[Act.put,zA,zB,zC]
     rfl
    refine take_ (i:=7) (N:=some 134) (v:= ?_) (a':= ?_) #[true,true,true,true,true,true,true,true,true,true,true,true,false,false,false,false,false,false,false,false,false,false,false,false,false,false,false] rfl rfl (by kernel_rfl) (fun _ _ _ h=>h) (Or.inl ⟨by rfl,?_⟩) hHeld ?_ ?_
    rotate_left
    ·rintro w' ⟨s0,s1,s2,s3⟩
     go_simp
     with_reducible rfl
    rotate_left
    ·simp only[Act.put,zA,zB,zC]
     rfl
    refine one_ (i:=12) (N:=some 139) #[true,true,true,true,true,true,true,true,true,true,true,true,true,false,false,false,false,false,false,false,false,false,false,false,false,false,false] rfl rfl (by kernel_rfl) (by decide) (fun K hK=> ?_)
    refine goes_ Tryz.func16 (by kernel_rfl) rfl #[.agg #[.int .i64 id,.int .i64 gen,.int .i64 len,.slice A l.length c],.slice A1 n c1,.string s] (by rfl) rfl rfl (by simp only[List.map_toArray,List.map_cons,List.map_nil];rfl) ?_
    with_reducible refine(HAG.out _ (below2 HBG.out HBG.out.size (Below.drew (Below.refl wr.heap.size wr)))).mono ?_
    rintro e w14 ⟨rfl,hb⟩
    refine⟨_,rfl,?_⟩
    have hb14:=below2 (Below.drew (Below.refl wr.heap.size wr)) (Below.drew (Below.refl wr.heap.size wr)).size hb
    clear hb
    refine hK.out _ _ ⟨((HX.out.keep (below2 HBG.out HBG.out.size hb14)).cell (i:=0) rfl),((HX.out.keep (below2 HBG.out HBG.out.size hb14)).cell (i:=1) rfl),((HX.out.keep (below2 HBG.out HBG.out.size hb14)).cell (i:=2) rfl),((HX.out.keep (below2 HBG.out HBG.out.size hb14)).cell (i:=3) rfl)⟩ (fun hHeld=> ?_)
    clear hK K
    refine norm_ (a':= ?_) ?_ ?_
    rotate_left
    ·show Act.put _ (some 139) _=_
     simp only[Act.put,zA,zB,zC]
     rfl
    refine pure_ (i:=13) (N:=some 140) (v:= ?_) (a':= ?_) #[true,true,true,true,true,true,true,true,true,true,true,true,true,true,false,false,false,false,false,false,false,false,false,false,false,false,false] rfl rfl (by kernel_rfl) (fun _ _ _ h=>h) (Or.inl ⟨by rfl,?_⟩) ?_ ?_
    rotate_left
    ·intro w'
     go_simp
     with_reducible rfl
    rotate_left
    ·simp only[Act.put,zA,zB,zC]
     rfl
    refine pure_ (i:=14) (N:=some 141) (v:= ?_) (a':= ?_) #[true,true,true,true,true,true,true,true,true,true,true,true,true,true,true,false,false,false,false,false,false,false,false,false,false,false,false] rfl rfl (by kernel_rfl) (fun _ _ _ h=>h) (Or.inl ⟨by rfl,?_⟩) ?_ ?_
    rotate_left
    ·intro w'
     go_simp
     with_reducible rfl
    rotate_left
    ·simp only[Act.put,zA,zB,zC]
     rfl
    refine pure_ (i:=15) (N:=some 142) (v:=undef) (a':= ?_) #[true,true,true,true,true,true,true,true,true,true,true,true,true,true,true,true,false,false,false,false,false,false,false,false,false,false,false] rfl rfl (by kernel_rfl) (fun _ _ _ h=>h) (Or.inr ⟨by rfl,rfl⟩) ?_ ?_
    rotate_left
    ·simp only[Act.put,zA,zB,zC]
     rfl
    refine pure_ (i:=16) (N:=some 143) (v:=undef) (a':= ?_) #[true,true,true,true,true,true,true,true,true,true,true,true,true,true,true,true,true,false,false,false,false,false,false,false,false,false,false] rfl rfl (by kernel_rfl) (fun _ _ _ h=>h) (Or.inr ⟨by rfl,rfl⟩) ?_ ?_
    rotate_left
    ·simp only[Act.put,zA,zB,zC]
     rfl
    refine pure_ (i:=17) (N:=some 144) (v:=undef) (a':= ?_) #[true,true,true,true,true,true,true,true,true,true,true,true,true,true,true,true,true,true,false,false,false,false,false,false,false,false,false] rfl rfl (by kernel_rfl) (fun _ _ _ h=>h) (Or.inr ⟨by rfl,rfl⟩) ?_ ?_
    rotate_left
    ·simp only[Act.put,zA,zB,zC]
     rfl
    refine pure_ (i:=18) (N:=some 145) (v:=undef) (a':= ?_) #[true,true,true,true,true,true,true,true,true,true,true,true,true,true,true,true,true,true,true,false,false,false,false,false,false,false,false] rfl rfl (by kernel_rfl) (fun _ _ _ h=>h) (Or.inr ⟨by rfl,rfl⟩) ?_ ?_
    rotate_left
    ·simp only[Act.put,zA,zB,zC]
     rfl
    refine pure_ (i:=19) (N:=some 146) (v:=undef) (a':= ?_) #[true,true,true,true,true,true,true,true,true,true,true,true,true,true,true,true,true,true,true,true,false,false,false,false,false,false,false] rfl rfl (by kernel_rfl) (fun _ _ _ h=>h) (Or.inr ⟨by rfl,rfl⟩) ?_ ?_
    rotate_left
    ·simp only[Act.put,zA,zB,zC]
     rfl
    refine pure_ (i:=20) (N:=some 147) (v:=undef) (a':= ?_) #[true,true,true,true,true,true,true,true,true,true,true,true,true,true,true,true,true,true,true,true,true,false,false,false,false,false,false] rfl rfl (by kernel_rfl) (fun _ _ _ h=>h) (Or.inr ⟨by rfl,rfl⟩) ?_ ?_
    rotate_left
    ·simp only[Act.put,zA,zB,zC]
     rfl
    refine pure_ (i:=21) (N:=some 148) (v:= ?_) (a':= ?_) #[true,true,true,true,true,true,true,true,true,true,true,true,true,true,true,true,true,true,true,true,true,true,false,false,false,false,false] rfl rfl (by kernel_rfl) (fun _ _ _ h=>h) (Or.inl ⟨by rfl,?_⟩) ?_ ?_
    rotate_left
    ·intro w'
     go_simp
     with_reducible rfl
    rotate_left
    ·simp only[Act.put,zA,zB,zC]
     rfl
    refine pure_ (i:=22) (N:=some 149) (v:= ?_) (a':= ?_) #[true,true,true,true,true,true,true,true,true,true,true,true,true,true,true,true,true,true,true,true,true,true,true,false,false,false,false] rfl rfl (by kernel_rfl) (fun _ _ _ h=>h) (Or.inl ⟨by rfl,?_⟩) ?_ ?_
    rotate_left
    ·intro w'
     go_simp
     with_reducible rfl
    rotate_left
    ·simp only[Act.put,zA,zB,zC]
     rfl
    refine pure_ (i:=23) (N:=some 150) (v:= ?_) (a':= ?_) #[true,true,true,true,true,true,true,true,true,true,true,true,true,true,true,true,true,true,true,true,true,true,true,true,false,false,false] rfl rfl (by kernel_rfl) (fun _ _ _ h=>h) (Or.inl ⟨by rfl,?_⟩) ?_ ?_
    rotate_left
    ·intro w'
     go_simp
     with_reducible rfl
    rotate_left
    ·simp only[Act.put,zA,zB,zC]
     rfl
    refine one_ (i:=24) (N:=some 151) #[true,true,true,true,true,true,true,true,true,true,true,true,true,true,true,true,true,true,true,true,true,true,true,true,true,false,false] rfl rfl (by kernel_rfl) (by decide) (fun K hK=> ?_)
    refine goes_ Tryz.func7 (by kernel_rfl) rfl #[] (by rfl) rfl rfl (by simp) ?_
    with_reducible refine(slive_calls _).mono ?_
    rintro e w15 ⟨rfl,hb⟩
    refine⟨_,rfl,?_⟩
    have hb15:=below2 hb14 hb14.size hb
    clear hb
    refine hK.out _ _ ⟨((HX.out.keep (below2 HBG.out HBG.out.size hb15)).cell (i:=0) rfl),((HX.out.keep (below2 HBG.out HBG.out.size hb15)).cell (i:=1) rfl),((HX.out.keep (below2 HBG.out HBG.out.size hb15)).cell (i:=2) rfl),((HX.out.keep (below2 HBG.out HBG.out.size hb15)).cell (i:=3) rfl)⟩ (fun hHeld=> ?_)
    clear hK K
    refine norm_ (a':= ?_) ?_ ?_
    rotate_left
    ·show Act.put _ (some 151) _=_
     simp only[Act.put,zA,zB,zC]
     rfl
    refine pure_ (i:=25) (N:=some 152) (v:= ?_) (a':= ?_) #[true,true,true,true,true,true,true,true,true,true,true,true,true,true,true,true,true,true,true,true,true,true,true,true,true,true,false] rfl rfl (by kernel_rfl) (fun _ _ _ h=>h) (Or.inl ⟨by rfl,?_⟩) ?_ ?_
    rotate_left
    ·intro w'
     go_simp
     with_reducible rfl
    rotate_left
    ·simp only[Act.put,zA,zB,zC]
     rfl
    refine pure_ (i:=26) (N:=some 6) (v:= ?_) (a':= ?_) #[true,true,true,true,true,true,true,true,true,true,true,true,true,true,true,true,true,true,true,true,true,true,true,true,true,true,true] rfl rfl (by kernel_rfl) (fun _ _ _ h=>h) (Or.inl ⟨by rfl,?_⟩) ?_ ?_
    rotate_left
    ·intro w'
     go_simp
     with_reducible rfl
    rotate_left
    ·simp only[Act.put,zA,zB,zC]
     rfl
    refine done_ (by kernel_rfl) ?_
    have HB15:=Aside0.mk hb15
    clear hb15
    go_wp2_with fail
    go_ret
    exact⟨rfl,below2 (below2 HB.out HB.out.size HBG.out) (below2 HB.out HB.out.size HBG.out).size HB15.out⟩
theorem stripeReads_walk (a0_0 a0_1 a0_2:Int) (A0_3:Option Addr) (c0_3:Nat) (l0_3:List LocS) (A1:Option Addr) (c1:Nat) (l1:List ByteArray) (a2:Int) (w:World) {P0 P1 P2 P3 P4 P5:Prop} (_:P0) (_:P1) (_:P2) (hr0_3:Kd.C k59 w A0_3 l0_3.length l0_3) (hc0_3:l0_3.length≤c0_3) (_:P3) (hr1:Kd.C Kd.string w A1 l1.length l1) (hc1:l1.length≤c1) (_:P4) (_:P5) :
  Calls Tryz.prog 5 #[.agg #[.int .i64 a0_0,.int .i64 a0_1,.int .i64 a0_2,.slice A0_3 l0_3.length c0_3],.slice A1 l1.length c1,.int .i64 a2] w fun e w'=>e = .returned (.bool true)∧Below w.heap.size w w':=reads_calls a0_0 a0_1 a0_2 A0_3 c0_3 l0_3 A1 c1 l1 a2 w hr0_3 hc0_3 hr1 hc1
end Go.Proofs.YtdcfonmjbelgbaaGreatDoor
end
