/- Lemmas for the law StripeTexts, merged out of several texts and cut down to what it names, by a program of this session (some of the first ones are of the words that print.sh wrote for this claim). -/
import Derived.Test.YtdcfonmjbelgbaaGreatDoorKStripeTexts1
import Derived.Test.YtdcfonmjbelgbaaGreatDoorKStripeTexts2
import Derived.Test.YtdcfonmjbelgbaaGreatDoorKStripeTexts3
import Derived.Test.YtdcfonmjbelgbaaGreatDoorKStripeTexts4
import Derived.Test.YtdcfonmjbelgbaaGreatDoorKStripeTexts5
import Derived.Test.YtdcfonmjbelgbaaGreatDoorKStripeTexts6
import Derived.Test.YtdcfonmjbelgbaaGreatDoorKStripeTexts7
set_option maxRecDepth 100000
set_option maxHeartbeats 8000000
set_option linter.unusedVariables false
set_option linter.unusedSimpArgs false
section
namespace Go.Proofs.YtdcfonmjbelgbaaGreatDoor.Q
open Go.RowKit YtdcfonmjbelgbaaGreatDoorW.PrintWords YtdcfonmjbelgbaaGreatDoorW.PrintLast YtdcfonmjbelgbaaGreatDoorW.PrintMore
attribute [local go_sem] max2_int min2_int max_two min_two max_three min_three max_four min_four
mutual
def sluicegateref19_Agrees.l0:Nat→List ByteArray→List ByteArray→Int→Int→Int→Int→Int→Int→List (S59)→Option (Bool)
 | 0,_,_,_,_,_,_,_,_,_=>none
 | k+1,x1,x7,x8,x9,x10,x264000,x264001,x264002,x264003=>if x10<(x1.length:Int)then (if x10<9 then (if x8=0 then (sluicegateref19_Agrees.j1 k x1 x7 x8 x9 x10 (decide (x9<6)) x264000 x264001 x264002 x264003)else (sluicegateref19_Agrees.j1 k x1 x7 x8 x9 x10 false x264000 x264001 x264002 x264003))else (sluicegateref19_Agrees.j1 k x1 x7 x8 x9 x10 false x264000 x264001 x264002 x264003))else (sluicegateref19_Agrees.j1 k x1 x7 x8 x9 x10 false x264000 x264001 x264002 x264003)
def sluicegateref19_Agrees.j1:Nat→List ByteArray→List ByteArray→Int→Int→Int→Bool→Int→Int→Int→List (S59)→Option (Bool)
 | 0,_,_,_,_,_,_,_,_,_,_=>none
 | k+1,x1,x7,x8,x9,x10,x32,x264000,x264001,x264002,x264003=>if x32=true then (if 0≤x10 then (if x10<(x1.length:Int)then ((sluicegateref19_Good.f x264000 x264001 x264002 x264003 x10 (rdOf ByteArray.empty x1 x10)).bind fun t269=>(if t269=true then (if x10<(x7.length:Int)then (if (rdOf ByteArray.empty x7 x10).toList=(rdOf ByteArray.empty x1 x10).toList then (sluicegateref19_Agrees.l0 k x1 x7 x8 (wrap64 (x9+1)) (wrap64 (x10+1)) x264000 x264001 x264002 x264003)else (some false))else (none))else (sluicegateref19_Agrees.l0 k x1 x7 x8 x9 (wrap64 (x10+1)) x264000 x264001 x264002 x264003)))else (none))else (none))else (if x8=0 then (some (x9==6))else (some false))
end
def sluicegateref19_Agrees.f (k:Nat) (a0_0:Int) (a0_1:Int) (a0_2:Int) (l0_3:List (S59)) (l1:List ByteArray) (a2:ByteArray):Option (Bool):=(sluicegateref19_Sectors.f k a0_0 a0_1 a0_2 l0_3 a2).bind fun bt264=>(sluicegateref19_Agrees.l0 k l1 bt264.1 bt264.2 0 0 a0_0 a0_1 a0_2 l0_3)
def sluicegateref19_Agrees.T8:Bool×List (List Nat×List Nat):=(true,[([],[]),([],[]),([0,1],[0,1]),([2],[2]),([],[]),([],[]),([4,5],[4,5]),([6],[6]),([3,7],[3,7])])
def sluicegateref19_Agrees.B8:List Nat:=[0,0,3,7,0,0,48,112,255]
theorem sluicegateref19_Agrees.tab8:rtab .any (opsOf Tryz.f16 8)=sluicegateref19_Agrees.T8:=by kernel_rfl
theorem sluicegateref19_Agrees.bits8:waitsOk sluicegateref19_Agrees.T8.2 sluicegateref19_Agrees.B8=true:=by kernel_rfl
theorem sluicegateref19_Agrees.calls (k:Nat) (a0_0:Int) (a0_1:Int) (a0_2:Int) (A0_3:Option Addr) (c0_3:Nat) (l0_3:List (S59)) (A1:Option Addr) (c1:Nat) (l1:List ByteArray) (a2:ByteArray) (r:Bool) (w:World) (hr0_3:Kd.C k59 w A0_3 l0_3.length l0_3) (hc0_3:l0_3.length≤c0_3) (hr1:Kd.C Kd.string w A1 l1.length l1) (hc1:l1.length≤c1) (h:sluicegateref19_Agrees.f k a0_0 a0_1 a0_2 l0_3 l1 a2=some r) :
  Calls Tryz.prog 16 #[.agg #[.int .i64 a0_0,.int .i64 a0_1,.int .i64 a0_2,.slice A0_3 l0_3.length c0_3],.slice A1 l1.length c1,.string a2] w fun e w'=>e = .returned (.bool r)∧Below w.heap.size w w':=by
 have hu24:=Tryz.underlying24
 have HR0_3:=Aside0.mk hr0_3
 have HC0_3:=Aside0.mk hc0_3
 clear hr0_3 hc0_3
 have HR1:=Aside0.mk hr1
 have HC1:=Aside0.mk hc1
 clear hr1 hc1
 have HB:=Aside0.mk (Below.refl w.heap.size w)
 have H:((sluicegateref19_Sectors.f k a0_0 a0_1 a0_2 l0_3 a2).bind fun bt264=>(sluicegateref19_Agrees.l0 k l1 bt264.1 bt264.2 0 0 a0_0 a0_1 a0_2 l0_3))=some r:=h
 clear h
 replace H:=Option.bind_eq_some_iff.mp H
 obtain⟨⟨t264,t267⟩,A40,H⟩:=H
 replace H:(sluicegateref19_Agrees.l0 k l1 t264 t267 0 0 a0_0 a0_1 a0_2 l0_3)=some r:=H
 have A4:=Aside0.mk A40
 clear A40
 have H':=Aside0.mk H
 clear H
 go_enter Tryz.func16,Tryz.ntmps16
 go_wp2_with (first|((with_reducible refine gate_dst (N:=3) rfl ?_);refine box_event ?hg (N:=3) ?hd (cs:= #[.int .i64 a0_0,.int .i64 a0_1,.int .i64 a0_2,.slice A0_3 l0_3.length c0_3]) (t:=24) ?hr ?_;(case hd=>rfl);(case hg=>rfl);(case hr=>first|(go_simp;done)|(go_simp;rfl));intro gb263 hg w5 hbox hb;have n0_:=Aside0.mk (below_step (by repeat (first|(with_reducible first|exact HB.out|apply below_alloc|apply pw_below_drewN|apply below_drew1)|exact HB.out)) hb);have n1_:=Aside0.mk (hbox);have n2_:=Aside0.mk ((by rw[hg];exact(below_size (by repeat (first|(with_reducible first|exact HB.out|apply below_alloc|apply pw_below_drewN|apply below_drew1)|exact HB.out))):w.heap.size≤gb263));have n3_:=Aside0.mk ((by rw[hg];exact(below_size (by repeat (first|(with_reducible first|exact HB.out|apply below_alloc|apply pw_below_drewN|apply below_drew1)|exact HB.out))):w.heap.size≤gb263));clear HB;have HB:=n0_;have BK263:=n1_;have GW263:=n2_;have GE263:=n3_;clear n0_ n1_ n2_ n3_;clear hb hbox hg;have hcz6_0:w5.cell? ⟨gb263,0,none⟩=some (.int .i64 a0_0):=(blk_cell BK263.out 0).trans rfl;have hcz6_1:w5.cell? ⟨gb263,1,none⟩=some (.int .i64 a0_1):=(blk_cell BK263.out 1).trans rfl;have hcz6_2:w5.cell? ⟨gb263,2,none⟩=some (.int .i64 a0_2):=(blk_cell BK263.out 2).trans rfl;have hcz6_3:w5.cell? ⟨gb263,3,none⟩=some (.slice A0_3 l0_3.length c0_3):=(blk_cell BK263.out 3).trans rfl;have hfz6_0:=blk_frozen BK263.out 0;have hfz6_1:=blk_frozen BK263.out 1;have hfz6_2:=blk_frozen BK263.out 2;have hfz6_3:=blk_frozen BK263.out 3)|((with_reducible refine gate_callee (f:=9) rfl ?_);refine goesL_ (some 14) rfl rfl Tryz.func9 (by kernel_rfl) rfl #[.agg #[.int .i64 a0_0,.int .i64 a0_1,.int .i64 a0_2,.slice A0_3 l0_3.length c0_3],.string a2] rfl (by (try simp only[List.map_toArray,List.map_cons,List.map_nil]);first|done|rfl|(simp only[List.length_drop,List.length_take];rfl)) ?_;(with_reducible refine(sluicegateref19_Sectors.calls k a0_0 a0_1 a0_2 _ _ l0_3 a2 t264 t267 _ ?side1 ?side2 A4.out).mono ?_);(case side1=>repeat (first|exact(Kd.C_below HR0_3.out HB.out)|(with_reducible refine Kd.C_alloc ?_ _)|(with_reducible refine Kd.C_drewN ?_ _)|(with_reducible refine Kd.C_drew ?_)));(case side2=>exact HC0_3.out);rintro e w7 ⟨v265,rfl,ho0,hb⟩;refine⟨_,rfl,?_⟩;have n0_:=Aside0.mk (Kd.R_lower ho0 (below_size (by repeat (first|(with_reducible first|exact HB.out|apply below_alloc|apply pw_below_drewN|apply below_drew1|refine below_set ?_ GE263.out)|exact HB.out))));have n1_:=Aside0.mk (blk_below (g:=gb263) (o:=.cells #[.int .i64 a0_0,.int .i64 a0_1,.int .i64 a0_2,.slice A0_3 l0_3.length c0_3] 24 (0,0)) (by (with_reducible repeat (first|refine blk_drewN ?_ _|refine blk_drew ?_|refine blk_alloc ?_ _));exact BK263.out) hb);have n2_:=Aside0.mk (below_step (by repeat (first|(with_reducible first|exact HB.out|apply below_alloc|apply pw_below_drewN|apply below_drew1|refine below_set ?_ GE263.out)|exact HB.out)) hb);clear BK263;clear HB;have HO266:=n0_;have BK263:=n1_;have HB:=n2_;clear n0_ n1_ n2_;(try clear hb);(try clear hb2);(try clear hk);(try clear hi);(try clear ho0)))
 go_loopg [9,10] k (fun kq v9 v10 w'=> ∃ (x9_1:Int) (x10_1:Int),v9 = .int .i64 x9_1∧v10 = .int .i64 x10_1∧Aside0 (sluicegateref19_Agrees.l0 kq l1 t264 t267 x9_1 x10_1 a0_0 a0_1 a0_2 l0_3=some r)∧Aside0 (kq≤k)∧Aside0 (Kd.R Kd.string 9 w' w.heap.size (fun _=>True) v265 t264)∧Aside0 (w'.heap[gb263]? = some (.cells #[.int .i64 a0_0,.int .i64 a0_1,.int .i64 a0_2,(.slice A0_3 l0_3.length c0_3)] 24 (0,0)))∧Aside0 (Below w.heap.size w w'))
 case atStart=>exact⟨(0),(0),(by first|rfl|(simp;done)|(simp[*];done)),(by first|rfl|(simp;done)|(simp[*];done)),H',⟨Nat.le_refl _⟩,⟨by (with_reducible repeat (first|apply Kd.R_alloc|apply Kd.R_drewN|apply Kd.R_drew));exact HO266.out⟩,⟨by (with_reducible repeat (first|refine blk_drewN ?_ _|refine blk_drew ?_|refine blk_alloc ?_ _));exact BK263.out⟩,⟨by repeat (first|(with_reducible first|exact HB.out|apply below_alloc|apply pw_below_drewN|apply below_drew1|refine below_set ?_ GE263.out)|exact HB.out)⟩⟩
 case round=>
  clear H'
  try clear c1
  try clear p2
  try clear hcz6_0
  try clear hcz6_1
  try clear hcz6_2
  try clear hcz6_3
  try clear hfz6_0
  try clear hfz6_1
  try clear hfz6_2
  try clear hfz6_3
  obtain⟨x9_1,x10_1,rfl,rfl,HA,HK1,HO_7,BK263,HB⟩:=hrel
  cases gk with
  | zero=>exact absurd HA.out (by simp[sluicegateref19_Agrees.l0])
  | succ k1=>
   have H:=HA.out
   clear HA
   simp only[sluicegateref19_Agrees.l0]at H
   have HC8:=Aside0.mk H
   clear H
   go_upto_region 4 with (fail)
   go_cut [32] (fun v32 wc=> ∃ (kq:Nat) (x32_7:Bool),v32 = .bool x32_7∧Aside0 (sluicegateref19_Agrees.j1 kq l1 t264 t267 x9_1 x10_1 x32_7 a0_0 a0_1 a0_2 l0_3=some r)∧Aside0 (kq≤k1)∧Aside0 (Kd.R Kd.string 9 wc w.heap.size (fun _=>True) v265 t264)∧Aside0 (wc.heap[gb263]? = some (.cells #[.int .i64 a0_0,.int .i64 a0_1,.int .i64 a0_2,(.slice A0_3 l0_3.length c0_3)] 24 (0,0)))∧Aside0 (Below w.heap.size w wc))
   case first=>
    have H:=HC8.out
    clear HC8
    by_cases c9:x10_1<(l1.length:Int)
    ·rw[if_pos c9]at H
     have c9b0:decide (x10_1<(l1.length:Int))=true:=decide_eq_true c9
     clear c9
     (first|rw[c9b0]|(simp only[i64_w,i32_w];rw[c9b0])|skip)
     by_cases c10:x10_1<9
     ·rw[if_pos c10]at H
      have c10b0:decide (x10_1<9)=true:=decide_eq_true c10
      clear c10
      by_cases c11:t267=0
      ·rw[if_pos c11]at H
       have c11b0:(t267==0)=true:=beq_iff_eq.mpr c11
       have c11b1:(t267 != 0)=false:=bne_eq_false_iff_eq.mpr c11
       clear c11
       have H':=Aside0.mk H
       clear H
       go_wp2
       go_meet
       case rel=>exact⟨_,(decide (x9_1<6)),(by first|rfl|(simp;done)|(simp[*];done)),H',⟨by have:=HK1.out;first|omega|exact Nat.le_refl _⟩,⟨by (with_reducible repeat (first|apply Kd.R_alloc|apply Kd.R_drewN|apply Kd.R_drew));exact HO_7.out⟩,⟨by (with_reducible repeat (first|refine blk_drewN ?_ _|refine blk_drew ?_|refine blk_alloc ?_ _));exact BK263.out⟩,⟨by repeat (first|(with_reducible first|exact HB.out|apply below_alloc|apply pw_below_drewN|apply below_drew1|refine below_set ?_ GE263.out)|exact HB.out)⟩⟩
      ·rw[if_neg c11]at H
       have c11b0:(t267==0)=false:=beq_eq_false_iff_ne.mpr c11
       have c11b1:(t267 != 0)=true:=bne_iff_ne.mpr c11
       have H':=Aside0.mk H
       clear H
       go_wp2
       go_meet
       case rel=>exact⟨_,(false),(by first|rfl|(simp;done)|(simp[*];done)),H',⟨by have:=HK1.out;first|omega|exact Nat.le_refl _⟩,⟨by (with_reducible repeat (first|apply Kd.R_alloc|apply Kd.R_drewN|apply Kd.R_drew));exact HO_7.out⟩,⟨by (with_reducible repeat (first|refine blk_drewN ?_ _|refine blk_drew ?_|refine blk_alloc ?_ _));exact BK263.out⟩,⟨by repeat (first|(with_reducible first|exact HB.out|apply below_alloc|apply pw_below_drewN|apply below_drew1|refine below_set ?_ GE263.out)|exact HB.out)⟩⟩
     ·rw[if_neg c10]at H
      have c10b0:decide (x10_1<9)=false:=decide_eq_false c10
      clear c10
      have H':=Aside0.mk H
      clear H
      go_wp2
      go_meet
      case rel=>exact⟨_,(false),(by first|rfl|(simp;done)|(simp[*];done)),H',⟨by have:=HK1.out;first|omega|exact Nat.le_refl _⟩,⟨by (with_reducible repeat (first|apply Kd.R_alloc|apply Kd.R_drewN|apply Kd.R_drew));exact HO_7.out⟩,⟨by (with_reducible repeat (first|refine blk_drewN ?_ _|refine blk_drew ?_|refine blk_alloc ?_ _));exact BK263.out⟩,⟨by repeat (first|(with_reducible first|exact HB.out|apply below_alloc|apply pw_below_drewN|apply below_drew1|refine below_set ?_ GE263.out)|exact HB.out)⟩⟩
    ·rw[if_neg c9]at H
     have c9b0:decide (x10_1<(l1.length:Int))=false:=decide_eq_false c9
     clear c9
     (first|rw[c9b0]|(simp only[i64_w,i32_w];rw[c9b0])|skip)
     have H':=Aside0.mk H
     clear H
     go_wp2
     go_meet
     case rel=>exact⟨_,(false),(by first|rfl|(simp;done)|(simp[*];done)),H',⟨by have:=HK1.out;first|omega|exact Nat.le_refl _⟩,⟨by (with_reducible repeat (first|apply Kd.R_alloc|apply Kd.R_drewN|apply Kd.R_drew));exact HO_7.out⟩,⟨by (with_reducible repeat (first|refine blk_drewN ?_ _|refine blk_drew ?_|refine blk_alloc ?_ _));exact BK263.out⟩,⟨by repeat (first|(with_reducible first|exact HB.out|apply below_alloc|apply pw_below_drewN|apply below_drew1|refine below_set ?_ GE263.out)|exact HB.out)⟩⟩
   case rest=>
    clear HC8
    try clear c1
    try clear p2
    try clear c9
    try clear c9b0
    try clear c10
    try clear c10b0
    try clear c11
    try clear c11b0
    try clear c11b1
    try clear hcz6_0
    try clear hcz6_1
    try clear hcz6_2
    try clear hcz6_3
    try clear hfz6_0
    try clear hfz6_1
    try clear hfz6_2
    try clear hfz6_3
    try clear p2
    obtain⟨kq,x32_7,rfl,HA,HJ7,HO_7,BK263,HB⟩:=hcut
    cases kq with
    | zero=>exact absurd HA.out (by simp[sluicegateref19_Agrees.j1])
    | succ kj7=>
     have H:=HA.out
     clear HA
     simp only[sluicegateref19_Agrees.j1]at H
     by_cases c12:x32_7=true
     ·subst c12
      have H1:(if 0≤x10_1 then (if x10_1<(l1.length:Int)then ((sluicegateref19_Good.f a0_0 a0_1 a0_2 l0_3 x10_1 (rdOf ByteArray.empty l1 x10_1)).bind fun t269=>(if t269=true then (if x10_1<(t264.length:Int)then (if (rdOf ByteArray.empty t264 x10_1).toList=(rdOf ByteArray.empty l1 x10_1).toList then (sluicegateref19_Agrees.l0 kj7 l1 t264 t267 (wrap64 (x9_1+1)) (wrap64 (x10_1+1)) a0_0 a0_1 a0_2 l0_3)else (some false))else (none))else (sluicegateref19_Agrees.l0 kj7 l1 t264 t267 x9_1 (wrap64 (x10_1+1)) a0_0 a0_1 a0_2 l0_3)))else (none))else (none))=some r:=by rw[if_pos rfl]at H;exact H
      clear H
      have H:=H1
      clear H1
      by_cases c13:0≤x10_1
      ·rw[if_pos c13]at H
       have c13b0:decide (0≤x10_1)=true:=decide_eq_true c13
       clear c13
       by_cases c14:x10_1<(l1.length:Int)
       ·rw[if_pos c14]at H
        have c14b0:decide (x10_1<(l1.length:Int))=true:=decide_eq_true c14
        clear c14
        replace H:=Option.bind_eq_some_iff.mp H
        obtain⟨t269,A150,H⟩:=H
        replace H:(if t269=true then (if x10_1<(t264.length:Int)then (if (rdOf ByteArray.empty t264 x10_1).toList=(rdOf ByteArray.empty l1 x10_1).toList then (sluicegateref19_Agrees.l0 kj7 l1 t264 t267 (wrap64 (x9_1+1)) (wrap64 (x10_1+1)) a0_0 a0_1 a0_2 l0_3)else (some false))else (none))else (sluicegateref19_Agrees.l0 kj7 l1 t264 t267 x9_1 (wrap64 (x10_1+1)) a0_0 a0_1 a0_2 l0_3))=some r:=H
        have A15:=Aside0.mk A150
        clear A150
        by_cases c16:t269=true
        ·subst c16
         have H1:(if x10_1<(t264.length:Int)then (if (rdOf ByteArray.empty t264 x10_1).toList=(rdOf ByteArray.empty l1 x10_1).toList then (sluicegateref19_Agrees.l0 kj7 l1 t264 t267 (wrap64 (x9_1+1)) (wrap64 (x10_1+1)) a0_0 a0_1 a0_2 l0_3)else (some false))else (none))=some r:=by rw[if_pos rfl]at H;exact H
         clear H
         have H:=H1
         clear H1
         by_cases c17:x10_1<(t264.length:Int)
         ·rw[if_pos c17]at H
          have c17b0:decide (x10_1<(t264.length:Int))=true:=decide_eq_true c17
          clear c17
          by_cases c18:(rdOf ByteArray.empty t264 x10_1).toList=(rdOf ByteArray.empty l1 x10_1).toList
          ·rw[if_pos c18]at H
           have c18b0:((rdOf ByteArray.empty t264 x10_1).toList==(rdOf ByteArray.empty l1 x10_1).toList)=true:=beq_iff_eq.mpr c18
           have c18b1:((rdOf ByteArray.empty t264 x10_1).toList != (rdOf ByteArray.empty l1 x10_1).toList)=false:=bne_eq_false_iff_eq.mpr c18
           clear c18
           have H':=Aside0.mk H
           clear H
           try go_wp2
           have n0_:=Aside0.mk (Kd.R_drew HO_7.out)
           have n1_:=Aside0.mk (blk_drew BK263.out)
           have n2_:=Aside0.mk (below_drew1 HB.out)
           clear HO_7
           clear BK263
           clear HB
           have HO_7:=n0_
           have BK263:=n1_
           have HB:=n2_
           clear n0_ n1_ n2_
           have p268:0≤(x10_1:Int):=of_decide_eq_true (by first|(with_reducible assumption)|assumption)
           have q268:x10_1<(l1.length:Int):=of_decide_eq_true (by first|(with_reducible assumption)|assumption)
           obtain⟨ad268,e268,hx268_0⟩:=Kd.at_string HR1.out x10_1 p268 q268
           have hw268_0:=hx268_0
           cases e268
           replace hx268_0:=(HB.out.cell (World.block_lt_of_cell? w _ hx268_0)).trans hx268_0
           replace p268:=eq_true p268
           replace q268:=eq_true q268
           refine start_ (n:=7) (S:=fun w'=>w'.cell? ⟨gb263,0,none⟩=some (.int .i64 a0_0)∧w'.cell? ⟨gb263,1,none⟩=some (.int .i64 a0_1)∧w'.cell? ⟨gb263,2,none⟩=some (.int .i64 a0_2)∧w'.cell? ⟨gb263,3,none⟩=some (.slice A0_3 l0_3.length c0_3)∧w'.cell? (ad268.add (x10_1).toNat)=some (.string (rdOf ByteArray.empty l1 x10_1))) (ds:=[]) #[false,false,false,false,false,false,false] (by kernel_rfl) rfl rfl ⟨(blk_cell BK263.out 0).trans rfl,(blk_cell BK263.out 1).trans rfl,(blk_cell BK263.out 2).trans rfl,(blk_cell BK263.out 3).trans rfl,((HB.out.cell (World.block_lt_of_cell? w _ hw268_0)).trans hw268_0)⟩ (fun hHeld=> ?_)
           generalize wc.drew=w19 at HO_7 BK263 HB hx268_0 hHeld ⊢
           refine pure_ (i:=1) (N:=some 36) (v:= ?_) (a':= ?_) #[false,true,false,false,false,false,false] rfl rfl (by kernel_rfl) (fun _ _ _ h=>h) (Or.inl ⟨by rfl,?_⟩) ?_ ?_
           rotate_left
           ·intro w'
            go_simp
            with_reducible rfl
           rotate_left
           ·simp only[Act.put,List.setIfInBounds_toArray,List.set_cons_zero,List.set_cons_succ,i64_w,i32_w]
            rfl
           refine pure_ (i:=2) (N:=some 37) (v:= ?_) (a':= ?_) #[false,true,true,false,false,false,false] rfl rfl (by kernel_rfl) (fun _ _ _ h=>h) (Or.inl ⟨by rfl,?_⟩) ?_ ?_
           rotate_left
           ·intro w'
            go_simp
            with_reducible rfl
           rotate_left
           ·simp only[Act.put,List.setIfInBounds_toArray,List.set_cons_zero,List.set_cons_succ,i64_w,i32_w]
            rfl
           refine pure_ (i:=3) (N:=some 38) (v:= ?_) (a':= ?_) #[false,true,true,true,false,false,false] rfl rfl (by kernel_rfl) (fun _ _ _ h=>h) (Or.inl ⟨by rfl,?_⟩) ?_ ?_
           rotate_left
           ·intro w'
            go_simp
            with_reducible rfl
           rotate_left
           ·simp only[Act.put,List.setIfInBounds_toArray,List.set_cons_zero,List.set_cons_succ,i64_w,i32_w]
            rfl
           refine pure_ (i:=4) (N:=some 39) (v:= ?_) (a':= ?_) #[false,true,true,true,true,false,false] rfl rfl (by kernel_rfl) (fun _ _ _ h=>h) (Or.inl ⟨by rfl,?_⟩) ?_ ?_
           rotate_left
           ·intro w'
            go_simp
            with_reducible rfl
           rotate_left
           ·simp only[Act.put,List.setIfInBounds_toArray,List.set_cons_zero,List.set_cons_succ,i64_w,i32_w]
            rfl
           refine take_ (i:=0) (N:=some 35) (v:= ?_) (a':= ?_) #[true,true,true,true,true,false,false] rfl rfl (by kernel_rfl) (fun _ _ _ h=>h) (Or.inl ⟨by rfl,?_⟩) hHeld ?_ ?_
           rotate_left
           ·rintro w' ⟨s0,s1,s2,s3,s4⟩
            go_simp
            with_reducible rfl
           rotate_left
           ·simp only[Act.put,List.setIfInBounds_toArray,List.set_cons_zero,List.set_cons_succ,i64_w,i32_w]
            rfl
           refine take_ (i:=5) (N:=some 40) (v:= ?_) (a':= ?_) #[true,true,true,true,true,true,false] rfl rfl (by kernel_rfl) (fun _ _ _ h=>h) (Or.inl ⟨by rfl,?_⟩) hHeld ?_ ?_
           rotate_left
           ·rintro w' ⟨s0,s1,s2,s3,s4⟩
            go_simp
            with_reducible rfl
           rotate_left
           ·simp only[Act.put,List.setIfInBounds_toArray,List.set_cons_zero,List.set_cons_succ,i64_w,i32_w]
            rfl
           refine one_ (i:=6) (N:=some 41) #[true,true,true,true,true,true,true] rfl rfl (by kernel_rfl) (by decide) (fun K hK=> ?_)
           refine goes_ Tryz.func22 (by kernel_rfl) rfl #[.agg #[.int .i64 a0_0,.int .i64 a0_1,.int .i64 a0_2,.slice A0_3 l0_3.length c0_3],.int .i64 x10_1,.string (rdOf ByteArray.empty l1 x10_1)] (by rfl) rfl rfl (by (try simp only[List.map_toArray,List.map_cons,List.map_nil]);first|done|rfl|(simp only[List.length_drop,List.length_take];rfl)) ?_
           with_reducible refine(sluicegateref19_Good.calls a0_0 a0_1 a0_2 _ _ l0_3 x10_1 (rdOf ByteArray.empty l1 x10_1) true _ ?side1 ?side2 A15.out).mono ?_
           (case side1=>repeat (first|exact(Kd.C_below HR0_3.out HB.out)|(with_reducible refine Kd.C_alloc ?_ _)|(with_reducible refine Kd.C_drewN ?_ _)|(with_reducible refine Kd.C_drew ?_)))
           (case side2=>exact HC0_3.out)
           rintro e w20 ⟨rfl,hb⟩
           refine⟨_,rfl,?_⟩
           have n0_:=Aside0.mk (Kd.R_below (by (with_reducible repeat (first|apply Kd.R_alloc|apply Kd.R_drewN|apply Kd.R_drew));exact HO_7.out) hb)
           have n1_:=Aside0.mk (blk_below (g:=gb263) (o:=.cells #[.int .i64 a0_0,.int .i64 a0_1,.int .i64 a0_2,.slice A0_3 l0_3.length c0_3] 24 (0,0)) (by (with_reducible repeat (first|refine blk_drewN ?_ _|refine blk_drew ?_|refine blk_alloc ?_ _));exact BK263.out) hb)
           have n2_:=Aside0.mk (below_step (by repeat (first|(with_reducible first|exact HB.out|apply below_alloc|apply pw_below_drewN|apply below_drew1|refine below_set ?_ GE263.out)|exact HB.out)) hb)
           clear HO_7
           clear BK263
           clear HB
           have HO_7:=n0_
           have BK263:=n1_
           have HB:=n2_
           clear n0_ n1_ n2_
           (try clear hb)
           (try clear hb2)
           (try clear hk)
           (try clear hi)
           refine hK.out _ _ ⟨(blk_cell BK263.out 0).trans rfl,(blk_cell BK263.out 1).trans rfl,(blk_cell BK263.out 2).trans rfl,(blk_cell BK263.out 3).trans rfl,((HB.out.cell (World.block_lt_of_cell? w _ hw268_0)).trans hw268_0)⟩ (fun hHeld=> ?_)
           clear hK K
           refine norm_ (a':= ?_) ?_ ?_
           rotate_left
           ·show Act.put _ (some 41) _=_
            simp only[Act.put,List.setIfInBounds_toArray,List.set_cons_zero,List.set_cons_succ,i64_w,i32_w]
            rfl
           refine done_ (by kernel_rfl) ?_
           try go_wp2
           have n0_:=Aside0.mk (Kd.R_drew HO_7.out)
           have n1_:=Aside0.mk (blk_drew BK263.out)
           have n2_:=Aside0.mk (below_drew1 HB.out)
           clear HO_7
           clear BK263
           clear HB
           have HO_7:=n0_
           have BK263:=n1_
           have HB:=n2_
           clear n0_ n1_ n2_
           obtain⟨Ao22,co22,eo22⟩:=Kd.R_slice HO_7.out
           (first|subst eo22|(injection eo22 with f1_ f2_ f3_;have f4_:=f1_.symm;have f5_:=f3_.symm;clear f1_ f2_ f3_;subst f4_;subst f5_))
           have p270:0≤(x10_1:Int):=of_decide_eq_true (by first|(with_reducible assumption)|assumption)
           have q270:x10_1<(t264.length:Int):=of_decide_eq_true (by first|(with_reducible assumption)|assumption)
           obtain⟨ad270,e270,hx270_0⟩:=Kd.at_string (Kd.R_reads' HO_7.out).2.2 x10_1 p270 q270
           cases e270
           replace p270:=eq_true p270
           replace q270:=eq_true q270
           have p271:0≤(x10_1:Int):=of_decide_eq_true (by first|(with_reducible assumption)|assumption)
           have q271:x10_1<(l1.length:Int):=of_decide_eq_true (by first|(with_reducible assumption)|assumption)
           obtain⟨ad271,e271,hx271_0⟩:=Kd.at_string HR1.out x10_1 p271 q271
           have hw271_0:=hx271_0
           obtain rfl:ad268=ad271:=(by injection e271)
           replace hx271_0:=(HB.out.cell (World.block_lt_of_cell? w _ hx271_0)).trans hx271_0
           replace p271:=eq_true p271
           replace q271:=eq_true q271
           refine start_ (n:=9) (S:=fun w'=>w'.cell? (ad270.add (x10_1).toNat)=some (.string (rdOf ByteArray.empty t264 x10_1))∧w'.cell? (ad268.add (x10_1).toNat)=some (.string (rdOf ByteArray.empty l1 x10_1))) (ds:=[]) #[false,false,false,false,false,false,false,false,false] (by kernel_rfl) rfl rfl ⟨hx270_0,((HB.out.cell (World.block_lt_of_cell? w _ hw271_0)).trans hw271_0)⟩ (fun hHeld=> ?_);refine with_tabW sluicegateref19_Agrees.tab8 sluicegateref19_Agrees.bits8 (fun HT_ HW_=> ?_)
           generalize w20.drew=w21 at HO_7 BK263 HB hx270_0 hx271_0 hHeld ⊢
           refine pure_ (i:=0) (N:=some 44) (v:= ?_) (a':= ?_) #[true,false,false,false,false,false,false,false,false] rfl rfl (any_of HT_.out (by kernel_rfl)) (fun _ _ _ h=>h) (Or.inl ⟨by rfl,?_⟩) ?_ ?_
           rotate_left
           ·intro w'
            go_simp
            with_reducible rfl
           rotate_left
           ·simp only[Act.put,List.setIfInBounds_toArray,List.set_cons_zero,List.set_cons_succ,i64_w,i32_w]
            rfl
           refine pure_ (i:=1) (N:=some 45) (v:= ?_) (a':= ?_) #[true,true,false,false,false,false,false,false,false] rfl rfl (any_of HT_.out (by kernel_rfl)) (fun _ _ _ h=>h) (Or.inl ⟨by rfl,?_⟩) ?_ ?_
           rotate_left
           ·intro w'
            go_simp
            with_reducible rfl
           rotate_left
           ·simp only[Act.put,List.setIfInBounds_toArray,List.set_cons_zero,List.set_cons_succ,i64_w,i32_w]
            rfl
           refine pure_ (i:=2) (N:=some 46) (v:= ?_) (a':= ?_) #[true,true,true,false,false,false,false,false,false] rfl rfl (any_of HT_.out (by kernel_rfl)) (fun _ _ _ h=>h) (Or.inl ⟨by rfl,?_⟩) ?_ ?_
           rotate_left
           ·intro w'
            go_simp
            with_reducible rfl
           rotate_left
           ·simp only[Act.put,List.setIfInBounds_toArray,List.set_cons_zero,List.set_cons_succ,i64_w,i32_w]
            rfl
           refine pure_ (i:=4) (N:=some 48) (v:= ?_) (a':= ?_) #[true,true,true,false,true,false,false,false,false] rfl rfl (any_of HT_.out (by kernel_rfl)) (fun _ _ _ h=>h) (Or.inl ⟨by rfl,?_⟩) ?_ ?_
           rotate_left
           ·intro w'
            go_simp
            with_reducible rfl
           rotate_left
           ·simp only[Act.put,List.setIfInBounds_toArray,List.set_cons_zero,List.set_cons_succ,i64_w,i32_w]
            rfl
           refine pure_ (i:=5) (N:=some 49) (v:= ?_) (a':= ?_) #[true,true,true,false,true,true,false,false,false] rfl rfl (any_of HT_.out (by kernel_rfl)) (fun _ _ _ h=>h) (Or.inl ⟨by rfl,?_⟩) ?_ ?_
           rotate_left
           ·intro w'
            go_simp
            with_reducible rfl
           rotate_left
           ·simp only[Act.put,List.setIfInBounds_toArray,List.set_cons_zero,List.set_cons_succ,i64_w,i32_w]
            rfl
           refine pure_ (i:=6) (N:=some 50) (v:= ?_) (a':= ?_) #[true,true,true,false,true,true,true,false,false] rfl rfl (any_of HT_.out (by kernel_rfl)) (fun _ _ _ h=>h) (Or.inl ⟨by rfl,?_⟩) ?_ ?_
           rotate_left
           ·intro w'
            go_simp
            with_reducible rfl
           rotate_left
           ·simp only[Act.put,List.setIfInBounds_toArray,List.set_cons_zero,List.set_cons_succ,i64_w,i32_w]
            rfl
           refine take_ (i:=3) (N:=some 47) (v:= ?_) (a':= ?_) #[true,true,true,true,true,true,true,false,false] rfl rfl (take_ofW HT_.out HW_.out (by kernel_rfl)) (fun _ _ _ h=>h) (Or.inl ⟨by rfl,?_⟩) hHeld ?_ ?_
           rotate_left
           ·rintro w' ⟨s0,s1⟩
            go_simp
            with_reducible rfl
           rotate_left
           ·simp only[Act.put,List.setIfInBounds_toArray,List.set_cons_zero,List.set_cons_succ,i64_w,i32_w]
            rfl
           refine take_ (i:=7) (N:=some 51) (v:= ?_) (a':= ?_) #[true,true,true,true,true,true,true,true,false] rfl rfl (take_ofW HT_.out HW_.out (by kernel_rfl)) (fun _ _ _ h=>h) (Or.inl ⟨by rfl,?_⟩) hHeld ?_ ?_
           rotate_left
           ·rintro w' ⟨s0,s1⟩
            go_simp
            with_reducible rfl
           rotate_left
           ·simp only[Act.put,List.setIfInBounds_toArray,List.set_cons_zero,List.set_cons_succ,i64_w,i32_w]
            rfl
           refine pure_ (i:=8) (N:=some 52) (v:= ?_) (a':= ?_) #[true,true,true,true,true,true,true,true,true] rfl rfl (any_of HT_.out (by kernel_rfl)) (fun _ _ _ h=>h) (Or.inl ⟨by rfl,?_⟩) ?_ ?_
           rotate_left
           ·intro w'
            go_simp
            with_reducible rfl
           rotate_left
           ·simp only[Act.put,List.setIfInBounds_toArray,List.set_cons_zero,List.set_cons_succ,i64_w,i32_w]
            rfl
           refine done_ (done_of HT_.out (by kernel_rfl)) ?_
           try go_wp2
           go_roundg kj7
           case measure=>have:=HK1.out;have:=HJ7.out;omega
           case rel=>exact⟨(wrap64 (x9_1+1)),(wrap64 (x10_1+1)),(by first|rfl|(simp;done)|(simp[*];done)),(by first|rfl|(simp;done)|(simp[*];done)),H',⟨by have:=HK1.out;have:=HJ7.out;omega⟩,⟨by (with_reducible repeat (first|apply Kd.R_alloc|apply Kd.R_drewN|apply Kd.R_drew));exact HO_7.out⟩,⟨by (with_reducible repeat (first|refine blk_drewN ?_ _|refine blk_drew ?_|refine blk_alloc ?_ _));exact BK263.out⟩,⟨by repeat (first|(with_reducible first|exact HB.out|apply below_alloc|apply pw_below_drewN|apply below_drew1|refine below_set ?_ GE263.out)|exact HB.out)⟩⟩
          ·rw[if_neg c18]at H
           have c18b0:((rdOf ByteArray.empty t264 x10_1).toList==(rdOf ByteArray.empty l1 x10_1).toList)=false:=beq_eq_false_iff_ne.mpr c18
           have c18b1:((rdOf ByteArray.empty t264 x10_1).toList != (rdOf ByteArray.empty l1 x10_1).toList)=true:=bne_iff_ne.mpr c18
           obtain rfl:=Option.some.inj H
           try go_wp2
           have n0_:=Aside0.mk (Kd.R_drew HO_7.out)
           have n1_:=Aside0.mk (blk_drew BK263.out)
           have n2_:=Aside0.mk (below_drew1 HB.out)
           clear HO_7
           clear BK263
           clear HB
           have HO_7:=n0_
           have BK263:=n1_
           have HB:=n2_
           clear n0_ n1_ n2_
           have p268:0≤(x10_1:Int):=of_decide_eq_true (by first|(with_reducible assumption)|assumption)
           have q268:x10_1<(l1.length:Int):=of_decide_eq_true (by first|(with_reducible assumption)|assumption)
           obtain⟨ad268,e268,hx268_0⟩:=Kd.at_string HR1.out x10_1 p268 q268
           have hw268_0:=hx268_0
           cases e268
           replace hx268_0:=(HB.out.cell (World.block_lt_of_cell? w _ hx268_0)).trans hx268_0
           replace p268:=eq_true p268
           replace q268:=eq_true q268
           refine start_ (n:=7) (S:=fun w'=>w'.cell? ⟨gb263,0,none⟩=some (.int .i64 a0_0)∧w'.cell? ⟨gb263,1,none⟩=some (.int .i64 a0_1)∧w'.cell? ⟨gb263,2,none⟩=some (.int .i64 a0_2)∧w'.cell? ⟨gb263,3,none⟩=some (.slice A0_3 l0_3.length c0_3)∧w'.cell? (ad268.add (x10_1).toNat)=some (.string (rdOf ByteArray.empty l1 x10_1))) (ds:=[]) #[false,false,false,false,false,false,false] (by kernel_rfl) rfl rfl ⟨(blk_cell BK263.out 0).trans rfl,(blk_cell BK263.out 1).trans rfl,(blk_cell BK263.out 2).trans rfl,(blk_cell BK263.out 3).trans rfl,((HB.out.cell (World.block_lt_of_cell? w _ hw268_0)).trans hw268_0)⟩ (fun hHeld=> ?_)
           generalize wc.drew=w23 at HO_7 BK263 HB hx268_0 hHeld ⊢
           refine pure_ (i:=1) (N:=some 36) (v:= ?_) (a':= ?_) #[false,true,false,false,false,false,false] rfl rfl (by kernel_rfl) (fun _ _ _ h=>h) (Or.inl ⟨by rfl,?_⟩) ?_ ?_
           rotate_left
           ·intro w'
            go_simp
            with_reducible rfl
           rotate_left
           ·simp only[Act.put,List.setIfInBounds_toArray,List.set_cons_zero,List.set_cons_succ,i64_w,i32_w]
            rfl
           refine pure_ (i:=2) (N:=some 37) (v:= ?_) (a':= ?_) #[false,true,true,false,false,false,false] rfl rfl (by kernel_rfl) (fun _ _ _ h=>h) (Or.inl ⟨by rfl,?_⟩) ?_ ?_
           rotate_left
           ·intro w'
            go_simp
            with_reducible rfl
           rotate_left
           ·simp only[Act.put,List.setIfInBounds_toArray,List.set_cons_zero,List.set_cons_succ,i64_w,i32_w]
            rfl
           refine pure_ (i:=3) (N:=some 38) (v:= ?_) (a':= ?_) #[false,true,true,true,false,false,false] rfl rfl (by kernel_rfl) (fun _ _ _ h=>h) (Or.inl ⟨by rfl,?_⟩) ?_ ?_
           rotate_left
           ·intro w'
            go_simp
            with_reducible rfl
           rotate_left
           ·simp only[Act.put,List.setIfInBounds_toArray,List.set_cons_zero,List.set_cons_succ,i64_w,i32_w]
            rfl
           refine pure_ (i:=4) (N:=some 39) (v:= ?_) (a':= ?_) #[false,true,true,true,true,false,false] rfl rfl (by kernel_rfl) (fun _ _ _ h=>h) (Or.inl ⟨by rfl,?_⟩) ?_ ?_
           rotate_left
           ·intro w'
            go_simp
            with_reducible rfl
           rotate_left
           ·simp only[Act.put,List.setIfInBounds_toArray,List.set_cons_zero,List.set_cons_succ,i64_w,i32_w]
            rfl
           refine take_ (i:=0) (N:=some 35) (v:= ?_) (a':= ?_) #[true,true,true,true,true,false,false] rfl rfl (by kernel_rfl) (fun _ _ _ h=>h) (Or.inl ⟨by rfl,?_⟩) hHeld ?_ ?_
           rotate_left
           ·rintro w' ⟨s0,s1,s2,s3,s4⟩
            go_simp
            with_reducible rfl
           rotate_left
           ·simp only[Act.put,List.setIfInBounds_toArray,List.set_cons_zero,List.set_cons_succ,i64_w,i32_w]
            rfl
           refine take_ (i:=5) (N:=some 40) (v:= ?_) (a':= ?_) #[true,true,true,true,true,true,false] rfl rfl (by kernel_rfl) (fun _ _ _ h=>h) (Or.inl ⟨by rfl,?_⟩) hHeld ?_ ?_
           rotate_left
           ·rintro w' ⟨s0,s1,s2,s3,s4⟩
            go_simp
            with_reducible rfl
           rotate_left
           ·simp only[Act.put,List.setIfInBounds_toArray,List.set_cons_zero,List.set_cons_succ,i64_w,i32_w]
            rfl
           refine one_ (i:=6) (N:=some 41) #[true,true,true,true,true,true,true] rfl rfl (by kernel_rfl) (by decide) (fun K hK=> ?_)
           refine goes_ Tryz.func22 (by kernel_rfl) rfl #[.agg #[.int .i64 a0_0,.int .i64 a0_1,.int .i64 a0_2,.slice A0_3 l0_3.length c0_3],.int .i64 x10_1,.string (rdOf ByteArray.empty l1 x10_1)] (by rfl) rfl rfl (by (try simp only[List.map_toArray,List.map_cons,List.map_nil]);first|done|rfl|(simp only[List.length_drop,List.length_take];rfl)) ?_
           with_reducible refine(sluicegateref19_Good.calls a0_0 a0_1 a0_2 _ _ l0_3 x10_1 (rdOf ByteArray.empty l1 x10_1) true _ ?side1 ?side2 A15.out).mono ?_
           (case side1=>repeat (first|exact(Kd.C_below HR0_3.out HB.out)|(with_reducible refine Kd.C_alloc ?_ _)|(with_reducible refine Kd.C_drewN ?_ _)|(with_reducible refine Kd.C_drew ?_)))
           (case side2=>exact HC0_3.out)
           rintro e w24 ⟨rfl,hb⟩
           refine⟨_,rfl,?_⟩
           have n0_:=Aside0.mk (Kd.R_below (by (with_reducible repeat (first|apply Kd.R_alloc|apply Kd.R_drewN|apply Kd.R_drew));exact HO_7.out) hb)
           have n1_:=Aside0.mk (blk_below (g:=gb263) (o:=.cells #[.int .i64 a0_0,.int .i64 a0_1,.int .i64 a0_2,.slice A0_3 l0_3.length c0_3] 24 (0,0)) (by (with_reducible repeat (first|refine blk_drewN ?_ _|refine blk_drew ?_|refine blk_alloc ?_ _));exact BK263.out) hb)
           have n2_:=Aside0.mk (below_step (by repeat (first|(with_reducible first|exact HB.out|apply below_alloc|apply pw_below_drewN|apply below_drew1|refine below_set ?_ GE263.out)|exact HB.out)) hb)
           clear HO_7
           clear BK263
           clear HB
           have HO_7:=n0_
           have BK263:=n1_
           have HB:=n2_
           clear n0_ n1_ n2_
           (try clear hb)
           (try clear hb2)
           (try clear hk)
           (try clear hi)
           refine hK.out _ _ ⟨(blk_cell BK263.out 0).trans rfl,(blk_cell BK263.out 1).trans rfl,(blk_cell BK263.out 2).trans rfl,(blk_cell BK263.out 3).trans rfl,((HB.out.cell (World.block_lt_of_cell? w _ hw268_0)).trans hw268_0)⟩ (fun hHeld=> ?_)
           clear hK K
           refine norm_ (a':= ?_) ?_ ?_
           rotate_left
           ·show Act.put _ (some 41) _=_
            simp only[Act.put,List.setIfInBounds_toArray,List.set_cons_zero,List.set_cons_succ,i64_w,i32_w]
            rfl
           refine done_ (by kernel_rfl) ?_
           try go_wp2
           have n0_:=Aside0.mk (Kd.R_drew HO_7.out)
           have n1_:=Aside0.mk (blk_drew BK263.out)
           have n2_:=Aside0.mk (below_drew1 HB.out)
           clear HO_7
           clear BK263
           clear HB
           have HO_7:=n0_
           have BK263:=n1_
           have HB:=n2_
           clear n0_ n1_ n2_
           obtain⟨Ao26,co26,eo26⟩:=Kd.R_slice HO_7.out
           (first|subst eo26|(injection eo26 with f1_ f2_ f3_;have f4_:=f1_.symm;have f5_:=f3_.symm;clear f1_ f2_ f3_;subst f4_;subst f5_))
           have p270:0≤(x10_1:Int):=of_decide_eq_true (by first|(with_reducible assumption)|assumption)
           have q270:x10_1<(t264.length:Int):=of_decide_eq_true (by first|(with_reducible assumption)|assumption)
           obtain⟨ad270,e270,hx270_0⟩:=Kd.at_string (Kd.R_reads' HO_7.out).2.2 x10_1 p270 q270
           cases e270
           replace p270:=eq_true p270
           replace q270:=eq_true q270
           have p271:0≤(x10_1:Int):=of_decide_eq_true (by first|(with_reducible assumption)|assumption)
           have q271:x10_1<(l1.length:Int):=of_decide_eq_true (by first|(with_reducible assumption)|assumption)
           obtain⟨ad271,e271,hx271_0⟩:=Kd.at_string HR1.out x10_1 p271 q271
           have hw271_0:=hx271_0
           obtain rfl:ad268=ad271:=(by injection e271)
           replace hx271_0:=(HB.out.cell (World.block_lt_of_cell? w _ hx271_0)).trans hx271_0
           replace p271:=eq_true p271
           replace q271:=eq_true q271
           refine start_ (n:=9) (S:=fun w'=>w'.cell? (ad270.add (x10_1).toNat)=some (.string (rdOf ByteArray.empty t264 x10_1))∧w'.cell? (ad268.add (x10_1).toNat)=some (.string (rdOf ByteArray.empty l1 x10_1))) (ds:=[]) #[false,false,false,false,false,false,false,false,false] (by kernel_rfl) rfl rfl ⟨hx270_0,((HB.out.cell (World.block_lt_of_cell? w _ hw271_0)).trans hw271_0)⟩ (fun hHeld=> ?_);refine with_tabW sluicegateref19_Agrees.tab8 sluicegateref19_Agrees.bits8 (fun HT_ HW_=> ?_)
           generalize w24.drew=w25 at HO_7 BK263 HB hx270_0 hx271_0 hHeld ⊢
           refine pure_ (i:=0) (N:=some 44) (v:= ?_) (a':= ?_) #[true,false,false,false,false,false,false,false,false] rfl rfl (any_of HT_.out (by kernel_rfl)) (fun _ _ _ h=>h) (Or.inl ⟨by rfl,?_⟩) ?_ ?_
           rotate_left
           ·intro w'
            go_simp
            with_reducible rfl
           rotate_left
           ·simp only[Act.put,List.setIfInBounds_toArray,List.set_cons_zero,List.set_cons_succ,i64_w,i32_w]
            rfl
           refine pure_ (i:=1) (N:=some 45) (v:= ?_) (a':= ?_) #[true,true,false,false,false,false,false,false,false] rfl rfl (any_of HT_.out (by kernel_rfl)) (fun _ _ _ h=>h) (Or.inl ⟨by rfl,?_⟩) ?_ ?_
           rotate_left
           ·intro w'
            go_simp
            with_reducible rfl
           rotate_left
           ·simp only[Act.put,List.setIfInBounds_toArray,List.set_cons_zero,List.set_cons_succ,i64_w,i32_w]
            rfl
           refine pure_ (i:=2) (N:=some 46) (v:= ?_) (a':= ?_) #[true,true,true,false,false,false,false,false,false] rfl rfl (any_of HT_.out (by kernel_rfl)) (fun _ _ _ h=>h) (Or.inl ⟨by rfl,?_⟩) ?_ ?_
           rotate_left
           ·intro w'
            go_simp
            with_reducible rfl
           rotate_left
           ·simp only[Act.put,List.setIfInBounds_toArray,List.set_cons_zero,List.set_cons_succ,i64_w,i32_w]
            rfl
           refine pure_ (i:=4) (N:=some 48) (v:= ?_) (a':= ?_) #[true,true,true,false,true,false,false,false,false] rfl rfl (any_of HT_.out (by kernel_rfl)) (fun _ _ _ h=>h) (Or.inl ⟨by rfl,?_⟩) ?_ ?_
           rotate_left
           ·intro w'
            go_simp
            with_reducible rfl
           rotate_left
           ·simp only[Act.put,List.setIfInBounds_toArray,List.set_cons_zero,List.set_cons_succ,i64_w,i32_w]
            rfl
           refine pure_ (i:=5) (N:=some 49) (v:= ?_) (a':= ?_) #[true,true,true,false,true,true,false,false,false] rfl rfl (any_of HT_.out (by kernel_rfl)) (fun _ _ _ h=>h) (Or.inl ⟨by rfl,?_⟩) ?_ ?_
           rotate_left
           ·intro w'
            go_simp
            with_reducible rfl
           rotate_left
           ·simp only[Act.put,List.setIfInBounds_toArray,List.set_cons_zero,List.set_cons_succ,i64_w,i32_w]
            rfl
           refine pure_ (i:=6) (N:=some 50) (v:= ?_) (a':= ?_) #[true,true,true,false,true,true,true,false,false] rfl rfl (any_of HT_.out (by kernel_rfl)) (fun _ _ _ h=>h) (Or.inl ⟨by rfl,?_⟩) ?_ ?_
           rotate_left
           ·intro w'
            go_simp
            with_reducible rfl
           rotate_left
           ·simp only[Act.put,List.setIfInBounds_toArray,List.set_cons_zero,List.set_cons_succ,i64_w,i32_w]
            rfl
           refine take_ (i:=3) (N:=some 47) (v:= ?_) (a':= ?_) #[true,true,true,true,true,true,true,false,false] rfl rfl (take_ofW HT_.out HW_.out (by kernel_rfl)) (fun _ _ _ h=>h) (Or.inl ⟨by rfl,?_⟩) hHeld ?_ ?_
           rotate_left
           ·rintro w' ⟨s0,s1⟩
            go_simp
            with_reducible rfl
           rotate_left
           ·simp only[Act.put,List.setIfInBounds_toArray,List.set_cons_zero,List.set_cons_succ,i64_w,i32_w]
            rfl
           refine take_ (i:=7) (N:=some 51) (v:= ?_) (a':= ?_) #[true,true,true,true,true,true,true,true,false] rfl rfl (take_ofW HT_.out HW_.out (by kernel_rfl)) (fun _ _ _ h=>h) (Or.inl ⟨by rfl,?_⟩) hHeld ?_ ?_
           rotate_left
           ·rintro w' ⟨s0,s1⟩
            go_simp
            with_reducible rfl
           rotate_left
           ·simp only[Act.put,List.setIfInBounds_toArray,List.set_cons_zero,List.set_cons_succ,i64_w,i32_w]
            rfl
           refine pure_ (i:=8) (N:=some 52) (v:= ?_) (a':= ?_) #[true,true,true,true,true,true,true,true,true] rfl rfl (any_of HT_.out (by kernel_rfl)) (fun _ _ _ h=>h) (Or.inl ⟨by rfl,?_⟩) ?_ ?_
           rotate_left
           ·intro w'
            go_simp
            with_reducible rfl
           rotate_left
           ·simp only[Act.put,List.setIfInBounds_toArray,List.set_cons_zero,List.set_cons_succ,i64_w,i32_w]
            rfl
           refine done_ (done_of HT_.out (by kernel_rfl)) ?_
           try go_wp2
           go_ret
           exact⟨by first|rfl|(simp[errW_none,errW_some]<;>rfl)|(simp[*,errW_none,errW_some]<;>rfl),by repeat (first|(with_reducible first|exact HB.out|apply below_alloc|apply pw_below_drewN|apply below_drew1|refine below_set ?_ GE263.out)|exact HB.out)⟩
         ·rw[if_neg c17]at H
          exact absurd H (by simp)
        ·replace c16:=Bool.eq_false_iff.mpr c16
         subst c16
         have H1:(sluicegateref19_Agrees.l0 kj7 l1 t264 t267 x9_1 (wrap64 (x10_1+1)) a0_0 a0_1 a0_2 l0_3)=some r:=by rw[if_neg (show ¬ (false=true)by decide)]at H;exact H
         clear H
         have H:=H1
         clear H1
         have H':=Aside0.mk H
         clear H
         try go_wp2
         have n0_:=Aside0.mk (Kd.R_drew HO_7.out)
         have n1_:=Aside0.mk (blk_drew BK263.out)
         have n2_:=Aside0.mk (below_drew1 HB.out)
         clear HO_7
         clear BK263
         clear HB
         have HO_7:=n0_
         have BK263:=n1_
         have HB:=n2_
         clear n0_ n1_ n2_
         have p268:0≤(x10_1:Int):=of_decide_eq_true (by first|(with_reducible assumption)|assumption)
         have q268:x10_1<(l1.length:Int):=of_decide_eq_true (by first|(with_reducible assumption)|assumption)
         obtain⟨ad268,e268,hx268_0⟩:=Kd.at_string HR1.out x10_1 p268 q268
         have hw268_0:=hx268_0
         cases e268
         replace hx268_0:=(HB.out.cell (World.block_lt_of_cell? w _ hx268_0)).trans hx268_0
         replace p268:=eq_true p268
         replace q268:=eq_true q268
         refine start_ (n:=7) (S:=fun w'=>w'.cell? ⟨gb263,0,none⟩=some (.int .i64 a0_0)∧w'.cell? ⟨gb263,1,none⟩=some (.int .i64 a0_1)∧w'.cell? ⟨gb263,2,none⟩=some (.int .i64 a0_2)∧w'.cell? ⟨gb263,3,none⟩=some (.slice A0_3 l0_3.length c0_3)∧w'.cell? (ad268.add (x10_1).toNat)=some (.string (rdOf ByteArray.empty l1 x10_1))) (ds:=[]) #[false,false,false,false,false,false,false] (by kernel_rfl) rfl rfl ⟨(blk_cell BK263.out 0).trans rfl,(blk_cell BK263.out 1).trans rfl,(blk_cell BK263.out 2).trans rfl,(blk_cell BK263.out 3).trans rfl,((HB.out.cell (World.block_lt_of_cell? w _ hw268_0)).trans hw268_0)⟩ (fun hHeld=> ?_)
         generalize wc.drew=w27 at HO_7 BK263 HB hx268_0 hHeld ⊢
         refine pure_ (i:=1) (N:=some 36) (v:= ?_) (a':= ?_) #[false,true,false,false,false,false,false] rfl rfl (by kernel_rfl) (fun _ _ _ h=>h) (Or.inl ⟨by rfl,?_⟩) ?_ ?_
         rotate_left
         ·intro w'
          go_simp
          with_reducible rfl
         rotate_left
         ·simp only[Act.put,List.setIfInBounds_toArray,List.set_cons_zero,List.set_cons_succ,i64_w,i32_w]
          rfl
         refine pure_ (i:=2) (N:=some 37) (v:= ?_) (a':= ?_) #[false,true,true,false,false,false,false] rfl rfl (by kernel_rfl) (fun _ _ _ h=>h) (Or.inl ⟨by rfl,?_⟩) ?_ ?_
         rotate_left
         ·intro w'
          go_simp
          with_reducible rfl
         rotate_left
         ·simp only[Act.put,List.setIfInBounds_toArray,List.set_cons_zero,List.set_cons_succ,i64_w,i32_w]
          rfl
         refine pure_ (i:=3) (N:=some 38) (v:= ?_) (a':= ?_) #[false,true,true,true,false,false,false] rfl rfl (by kernel_rfl) (fun _ _ _ h=>h) (Or.inl ⟨by rfl,?_⟩) ?_ ?_
         rotate_left
         ·intro w'
          go_simp
          with_reducible rfl
         rotate_left
         ·simp only[Act.put,List.setIfInBounds_toArray,List.set_cons_zero,List.set_cons_succ,i64_w,i32_w]
          rfl
         refine pure_ (i:=4) (N:=some 39) (v:= ?_) (a':= ?_) #[false,true,true,true,true,false,false] rfl rfl (by kernel_rfl) (fun _ _ _ h=>h) (Or.inl ⟨by rfl,?_⟩) ?_ ?_
         rotate_left
         ·intro w'
          go_simp
          with_reducible rfl
         rotate_left
         ·simp only[Act.put,List.setIfInBounds_toArray,List.set_cons_zero,List.set_cons_succ,i64_w,i32_w]
          rfl
         refine take_ (i:=0) (N:=some 35) (v:= ?_) (a':= ?_) #[true,true,true,true,true,false,false] rfl rfl (by kernel_rfl) (fun _ _ _ h=>h) (Or.inl ⟨by rfl,?_⟩) hHeld ?_ ?_
         rotate_left
         ·rintro w' ⟨s0,s1,s2,s3,s4⟩
          go_simp
          with_reducible rfl
         rotate_left
         ·simp only[Act.put,List.setIfInBounds_toArray,List.set_cons_zero,List.set_cons_succ,i64_w,i32_w]
          rfl
         refine take_ (i:=5) (N:=some 40) (v:= ?_) (a':= ?_) #[true,true,true,true,true,true,false] rfl rfl (by kernel_rfl) (fun _ _ _ h=>h) (Or.inl ⟨by rfl,?_⟩) hHeld ?_ ?_
         rotate_left
         ·rintro w' ⟨s0,s1,s2,s3,s4⟩
          go_simp
          with_reducible rfl
         rotate_left
         ·simp only[Act.put,List.setIfInBounds_toArray,List.set_cons_zero,List.set_cons_succ,i64_w,i32_w]
          rfl
         refine one_ (i:=6) (N:=some 41) #[true,true,true,true,true,true,true] rfl rfl (by kernel_rfl) (by decide) (fun K hK=> ?_)
         refine goes_ Tryz.func22 (by kernel_rfl) rfl #[.agg #[.int .i64 a0_0,.int .i64 a0_1,.int .i64 a0_2,.slice A0_3 l0_3.length c0_3],.int .i64 x10_1,.string (rdOf ByteArray.empty l1 x10_1)] (by rfl) rfl rfl (by (try simp only[List.map_toArray,List.map_cons,List.map_nil]);first|done|rfl|(simp only[List.length_drop,List.length_take];rfl)) ?_
         with_reducible refine(sluicegateref19_Good.calls a0_0 a0_1 a0_2 _ _ l0_3 x10_1 (rdOf ByteArray.empty l1 x10_1) false _ ?side1 ?side2 A15.out).mono ?_
         (case side1=>repeat (first|exact(Kd.C_below HR0_3.out HB.out)|(with_reducible refine Kd.C_alloc ?_ _)|(with_reducible refine Kd.C_drewN ?_ _)|(with_reducible refine Kd.C_drew ?_)))
         (case side2=>exact HC0_3.out)
         rintro e w28 ⟨rfl,hb⟩
         refine⟨_,rfl,?_⟩
         have n0_:=Aside0.mk (Kd.R_below (by (with_reducible repeat (first|apply Kd.R_alloc|apply Kd.R_drewN|apply Kd.R_drew));exact HO_7.out) hb)
         have n1_:=Aside0.mk (blk_below (g:=gb263) (o:=.cells #[.int .i64 a0_0,.int .i64 a0_1,.int .i64 a0_2,.slice A0_3 l0_3.length c0_3] 24 (0,0)) (by (with_reducible repeat (first|refine blk_drewN ?_ _|refine blk_drew ?_|refine blk_alloc ?_ _));exact BK263.out) hb)
         have n2_:=Aside0.mk (below_step (by repeat (first|(with_reducible first|exact HB.out|apply below_alloc|apply pw_below_drewN|apply below_drew1|refine below_set ?_ GE263.out)|exact HB.out)) hb)
         clear HO_7
         clear BK263
         clear HB
         have HO_7:=n0_
         have BK263:=n1_
         have HB:=n2_
         clear n0_ n1_ n2_
         (try clear hb)
         (try clear hb2)
         (try clear hk)
         (try clear hi)
         refine hK.out _ _ ⟨(blk_cell BK263.out 0).trans rfl,(blk_cell BK263.out 1).trans rfl,(blk_cell BK263.out 2).trans rfl,(blk_cell BK263.out 3).trans rfl,((HB.out.cell (World.block_lt_of_cell? w _ hw268_0)).trans hw268_0)⟩ (fun hHeld=> ?_)
         clear hK K
         refine norm_ (a':= ?_) ?_ ?_
         rotate_left
         ·show Act.put _ (some 41) _=_
          simp only[Act.put,List.setIfInBounds_toArray,List.set_cons_zero,List.set_cons_succ,i64_w,i32_w]
          rfl
         refine done_ (by kernel_rfl) ?_
         try go_wp2
         go_roundg kj7
         case measure=>have:=HK1.out;have:=HJ7.out;omega
         case rel=>exact⟨(x9_1),(wrap64 (x10_1+1)),(by first|rfl|(simp;done)|(simp[*];done)),(by first|rfl|(simp;done)|(simp[*];done)),H',⟨by have:=HK1.out;have:=HJ7.out;omega⟩,⟨by (with_reducible repeat (first|apply Kd.R_alloc|apply Kd.R_drewN|apply Kd.R_drew));exact HO_7.out⟩,⟨by (with_reducible repeat (first|refine blk_drewN ?_ _|refine blk_drew ?_|refine blk_alloc ?_ _));exact BK263.out⟩,⟨by repeat (first|(with_reducible first|exact HB.out|apply below_alloc|apply pw_below_drewN|apply below_drew1|refine below_set ?_ GE263.out)|exact HB.out)⟩⟩
       ·rw[if_neg c14]at H
        exact absurd H (by simp)
      ·rw[if_neg c13]at H
       exact absurd H (by simp)
     ·replace c12:=Bool.eq_false_iff.mpr c12
      subst c12
      have H1:(if t267=0 then (some (x9_1==6))else (some false))=some r:=by rw[if_neg (show ¬ (false=true)by decide)]at H;exact H
      clear H
      have H:=H1
      clear H1
      by_cases c29:t267=0
      ·rw[if_pos c29]at H
       have c29b0:(t267==0)=true:=beq_iff_eq.mpr c29
       have c29b1:(t267 != 0)=false:=bne_eq_false_iff_eq.mpr c29
       clear c29
       obtain rfl:=Option.some.inj H
       go_wp2
       go_ret
       exact⟨by first|rfl|(simp[errW_none,errW_some]<;>rfl)|(simp[*,errW_none,errW_some]<;>rfl),by repeat (first|(with_reducible first|exact HB.out|apply below_alloc|apply pw_below_drewN|apply below_drew1|refine below_set ?_ GE263.out)|exact HB.out)⟩
      ·rw[if_neg c29]at H
       have c29b0:(t267==0)=false:=beq_eq_false_iff_ne.mpr c29
       have c29b1:(t267 != 0)=true:=bne_iff_ne.mpr c29
       obtain rfl:=Option.some.inj H
       go_wp2
       go_ret
       exact⟨by first|rfl|(simp[errW_none,errW_some]<;>rfl)|(simp[*,errW_none,errW_some]<;>rfl),by repeat (first|(with_reducible first|exact HB.out|apply below_alloc|apply pw_below_drewN|apply below_drew1|refine below_set ?_ GE263.out)|exact HB.out)⟩
end Go.Proofs.YtdcfonmjbelgbaaGreatDoor.Q
end
section
namespace Go.Proofs.YtdcfonmjbelgbaaGreatDoor.Q
open Go.RowKit YtdcfonmjbelgbaaGreatDoorW.PrintWords YtdcfonmjbelgbaaGreatDoorW.PrintLast YtdcfonmjbelgbaaGreatDoorW.PrintMore
attribute [local go_sem] max2_int min2_int max_two min_two max_three min_three max_four min_four
mutual
def sluicegatelaw19_StripeTexts.j0:Nat→List ByteArray→Bool→Int→Int→Int→List (S59)→Option (Bool)
 | 0,_,_,_,_,_,_=>none
 | k+1,x1,x15,x273000,x273001,x273002,x273003=>if x15=true then ((sluicegatelaw19_live.f).bind fun t275=>(some t275))else ((stripe_Text.f k x273000 x273001 x273002 x273003 x1).bind fun bt276=>((sluicegateref11_Volume.f k x273000 x273001 x273002 x273003).bind fun t281=>(if t281=true then (sluicegatelaw19_StripeTexts.j1 k x1 bt276.1 bt276.2.1 bt276.2.2 ((x1.length:Int) != 9) x273000 x273001 x273002 x273003)else (sluicegatelaw19_StripeTexts.j1 k x1 bt276.1 bt276.2.1 bt276.2.2 true x273000 x273001 x273002 x273003))))
def sluicegatelaw19_StripeTexts.j1:Nat→List ByteArray→ByteArray→List Int→Int→Bool→Int→Int→Int→List (S59)→Option (Bool)
 | 0,_,_,_,_,_,_,_,_,_=>none
 | k+1,x1,x5,x6,x7,x31,x273000,x273001,x273002,x273003=>if x31=true then (if x5.toList=([]:List UInt8)then (if (x6.length:Int)=0 then (if x7=1 then ((sluicegatelaw19_live.f).bind fun t282=>(some t282))else (some false))else (some false))else (some false))else ((sluicegateref19_Bad.f k x273000 x273001 x273002 x273003 x1).bind fun t283=>((sluicegateref06_Ints.f k x6 t283).bind fun t286=>(if t286=true then (if x7=0 then ((sluicegateref19_Agrees.f k x273000 x273001 x273002 x273003 x1 x5).bind fun t287=>(if t287=true then ((sluicegatelaw19_live.f).bind fun t288=>(some t288))else (some false)))else (if x7=2 then (if x5.toList=([]:List UInt8)then (if (x6.length:Int)>3 then ((sluicegatelaw19_live.f).bind fun t289=>(some t289))else (some false))else (some false))else (if x7=4 then (if x5.toList=([]:List UInt8)then (if (x6.length:Int)≤3 then ((sluicegatelaw19_live.f).bind fun t290=>(some t290))else (some false))else (some false))else (some false))))else (some false))))
end
def sluicegatelaw19_StripeTexts.f (k:Nat) (a0_0:Int) (a0_1:Int) (a0_2:Int) (l0_3:List (S59)) (l1:List ByteArray):Option (Bool):=(sluicegatelaw19_small.f a0_0 a0_1 a0_2 l0_3).bind fun t273=>(if t273=true then ((sluicegateref02_Small.f k l1 12 300).bind fun t274=>(sluicegatelaw19_StripeTexts.j0 k l1 (!t274) a0_0 a0_1 a0_2 l0_3))else (sluicegatelaw19_StripeTexts.j0 k l1 true a0_0 a0_1 a0_2 l0_3))
theorem sluicegatelaw19_StripeTexts.calls (k:Nat) (a0_0:Int) (a0_1:Int) (a0_2:Int) (A0_3:Option Addr) (c0_3:Nat) (l0_3:List (S59)) (A1:Option Addr) (c1:Nat) (l1:List ByteArray) (r:Bool) (w:World) (hr0_3:Kd.C k59 w A0_3 l0_3.length l0_3) (hc0_3:l0_3.length≤c0_3) (hr1:Kd.C Kd.string w A1 l1.length l1) (hc1:l1.length≤c1) (h:sluicegatelaw19_StripeTexts.f k a0_0 a0_1 a0_2 l0_3 l1=some r) :
  Calls Tryz.prog 4 #[.agg #[.int .i64 a0_0,.int .i64 a0_1,.int .i64 a0_2,.slice A0_3 l0_3.length c0_3],.slice A1 l1.length c1] w fun e w'=>e = .returned (.bool r)∧Below w.heap.size w w':=by
 have hu24:=Tryz.underlying24
 have HR0_3:=Aside0.mk hr0_3
 have HC0_3:=Aside0.mk hc0_3
 clear hr0_3 hc0_3
 have HR1:=Aside0.mk hr1
 have HC1:=Aside0.mk hc1
 clear hr1 hc1
 have HB:=Aside0.mk (Below.refl w.heap.size w)
 have H:((sluicegatelaw19_small.f a0_0 a0_1 a0_2 l0_3).bind fun t273=>(if t273=true then ((sluicegateref02_Small.f k l1 12 300).bind fun t274=>(sluicegatelaw19_StripeTexts.j0 k l1 (!t274) a0_0 a0_1 a0_2 l0_3))else (sluicegatelaw19_StripeTexts.j0 k l1 true a0_0 a0_1 a0_2 l0_3)))=some r:=h
 clear h
 have HC3:=Aside0.mk H
 clear H
 go_enter Tryz.func4,Tryz.ntmps4
 go_upto_region 1 with (first|((with_reducible refine gate_dst (N:=2) rfl ?_);(try (refine gate_guard (by rfl) ?_;dsimp only));refine box_event ?hg (N:=2) ?hd (cs:= #[.int .i64 a0_0,.int .i64 a0_1,.int .i64 a0_2,.slice A0_3 l0_3.length c0_3]) (t:=24) ?hr ?_;(case hd=>rfl);(case hg=>rfl);(case hr=>first|(go_simp;done)|(go_simp;rfl));intro gb272 hg w4 hbox hb;have n0_:=Aside0.mk (below_step (by repeat (first|(with_reducible first|exact HB.out|apply below_alloc|apply pw_below_drewN|apply below_drew1)|exact HB.out)) hb);have n1_:=Aside0.mk (hbox);have n2_:=Aside0.mk ((by rw[hg];exact(below_size (by repeat (first|(with_reducible first|exact HB.out|apply below_alloc|apply pw_below_drewN|apply below_drew1)|exact HB.out))):w.heap.size≤gb272));have n3_:=Aside0.mk ((by rw[hg];exact(below_size (by repeat (first|(with_reducible first|exact HB.out|apply below_alloc|apply pw_below_drewN|apply below_drew1)|exact HB.out))):w.heap.size≤gb272));clear HB;have HB:=n0_;have BK272:=n1_;have GW272:=n2_;have GE272:=n3_;clear n0_ n1_ n2_ n3_;clear hb hbox hg))
 (try simp only[Act.put,List.setIfInBounds_toArray,List.set_cons_zero,List.set_cons_succ])
 go_cut [15] (fun v15 wc=> ∃ (kq:Nat) (x15_2:Bool),v15 = .bool x15_2∧Aside0 (sluicegatelaw19_StripeTexts.j0 kq l1 x15_2 a0_0 a0_1 a0_2 l0_3=some r)∧Aside0 (kq≤k)∧Aside0 (wc.heap[gb272]? = some (.cells #[.int .i64 a0_0,.int .i64 a0_1,.int .i64 a0_2,(.slice A0_3 l0_3.length c0_3)] 24 (0,0)))∧Aside0 (Below w.heap.size w wc))
 case first=>
  have H:=HC3.out
  clear HC3
  replace H:=Option.bind_eq_some_iff.mp H
  obtain⟨t273,A50,H⟩:=H
  replace H:(if t273=true then ((sluicegateref02_Small.f k l1 12 300).bind fun t274=>(sluicegatelaw19_StripeTexts.j0 k l1 (!t274) a0_0 a0_1 a0_2 l0_3))else (sluicegatelaw19_StripeTexts.j0 k l1 true a0_0 a0_1 a0_2 l0_3))=some r:=H
  have A5:=Aside0.mk A50
  clear A50
  by_cases c6:t273=true
  ·subst c6
   have H1:((sluicegateref02_Small.f k l1 12 300).bind fun t274=>(sluicegatelaw19_StripeTexts.j0 k l1 (!t274) a0_0 a0_1 a0_2 l0_3))=some r:=by rw[if_pos rfl]at H;exact H
   clear H
   have H:=H1
   clear H1
   replace H:=Option.bind_eq_some_iff.mp H
   obtain⟨t274,A70,H⟩:=H
   replace H:(sluicegatelaw19_StripeTexts.j0 k l1 (!t274) a0_0 a0_1 a0_2 l0_3)=some r:=H
   have A7:=Aside0.mk A70
   clear A70
   have H':=Aside0.mk H
   clear H
   have hcz8_0:w4.cell? ⟨gb272,0,none⟩=some (.int .i64 a0_0):=(blk_cell BK272.out 0).trans rfl
   have hcz8_1:w4.cell? ⟨gb272,1,none⟩=some (.int .i64 a0_1):=(blk_cell BK272.out 1).trans rfl
   have hcz8_2:w4.cell? ⟨gb272,2,none⟩=some (.int .i64 a0_2):=(blk_cell BK272.out 2).trans rfl
   have hcz8_3:w4.cell? ⟨gb272,3,none⟩=some (.slice A0_3 l0_3.length c0_3):=(blk_cell BK272.out 3).trans rfl
   have hfz8_0:=blk_frozen BK272.out 0
   have hfz8_1:=blk_frozen BK272.out 1
   have hfz8_2:=blk_frozen BK272.out 2
   have hfz8_3:=blk_frozen BK272.out 3
   go_wp2_with (first|((with_reducible refine gate_callee (f:=6) rfl ?_);refine goesL_ (some 9) rfl rfl Tryz.func6 (by kernel_rfl) rfl #[.agg #[.int .i64 a0_0,.int .i64 a0_1,.int .i64 a0_2,.slice A0_3 l0_3.length c0_3]] rfl (by (try simp only[List.map_toArray,List.map_cons,List.map_nil]);first|done|rfl|(simp only[List.length_drop,List.length_take];rfl)) ?_;(with_reducible refine(sluicegatelaw19_small.calls a0_0 a0_1 a0_2 _ _ l0_3 true _ ?side1 ?side2 A5.out).mono ?_);(case side1=>repeat (first|exact(Kd.C_below HR0_3.out HB.out)|(with_reducible refine Kd.C_alloc ?_ _)|(with_reducible refine Kd.C_drewN ?_ _)|(with_reducible refine Kd.C_drew ?_)));(case side2=>exact HC0_3.out);rintro e w9 ⟨rfl,hb⟩;refine⟨_,rfl,?_⟩;have n0_:=Aside0.mk (blk_below (g:=gb272) (o:=.cells #[.int .i64 a0_0,.int .i64 a0_1,.int .i64 a0_2,.slice A0_3 l0_3.length c0_3] 24 (0,0)) (by (with_reducible repeat (first|refine blk_drewN ?_ _|refine blk_drew ?_|refine blk_alloc ?_ _));exact BK272.out) hb);have n1_:=Aside0.mk (below_step (by repeat (first|(with_reducible first|exact HB.out|apply below_alloc|apply pw_below_drewN|apply below_drew1|refine below_set ?_ GE272.out)|exact HB.out)) hb);clear BK272;clear HB;have BK272:=n0_;have HB:=n1_;clear n0_ n1_;(try clear hb);(try clear hb2);(try clear hk);(try clear hi))|(go_at_call 11;(with_reducible refine(sluicegateref02_Small.calls k _ _ l1 12 300 t274 _ ?side1 ?side2 A7.out).mono ?_);(case side1=>repeat (first|exact(Kd.C_below HR1.out HB.out)|(with_reducible refine Kd.C_alloc ?_ _)|(with_reducible refine Kd.C_drewN ?_ _)|(with_reducible refine Kd.C_drew ?_)));(case side2=>exact HC1.out);rintro e w' ⟨rfl,⟨nd,rfl⟩⟩))
   go_meet
   case rel=>exact⟨_,(!t274),(by first|rfl|(simp;done)|(simp[*];done)),H',⟨by first|omega|exact Nat.le_refl _⟩,⟨by (with_reducible repeat (first|refine blk_drewN ?_ _|refine blk_drew ?_|refine blk_alloc ?_ _));exact BK272.out⟩,⟨by repeat (first|(with_reducible first|exact HB.out|apply below_alloc|apply pw_below_drewN|apply below_drew1|refine below_set ?_ GE272.out)|exact HB.out)⟩⟩
  ·replace c6:=Bool.eq_false_iff.mpr c6
   subst c6
   have H1:(sluicegatelaw19_StripeTexts.j0 k l1 true a0_0 a0_1 a0_2 l0_3)=some r:=by rw[if_neg (show ¬ (false=true)by decide)]at H;exact H
   clear H
   have H:=H1
   clear H1
   have H':=Aside0.mk H
   clear H
   have hcz10_0:w4.cell? ⟨gb272,0,none⟩=some (.int .i64 a0_0):=(blk_cell BK272.out 0).trans rfl
   have hcz10_1:w4.cell? ⟨gb272,1,none⟩=some (.int .i64 a0_1):=(blk_cell BK272.out 1).trans rfl
   have hcz10_2:w4.cell? ⟨gb272,2,none⟩=some (.int .i64 a0_2):=(blk_cell BK272.out 2).trans rfl
   have hcz10_3:w4.cell? ⟨gb272,3,none⟩=some (.slice A0_3 l0_3.length c0_3):=(blk_cell BK272.out 3).trans rfl
   have hfz10_0:=blk_frozen BK272.out 0
   have hfz10_1:=blk_frozen BK272.out 1
   have hfz10_2:=blk_frozen BK272.out 2
   have hfz10_3:=blk_frozen BK272.out 3
   go_wp2_with (first|((with_reducible refine gate_callee (f:=6) rfl ?_);refine goesL_ (some 9) rfl rfl Tryz.func6 (by kernel_rfl) rfl #[.agg #[.int .i64 a0_0,.int .i64 a0_1,.int .i64 a0_2,.slice A0_3 l0_3.length c0_3]] rfl (by (try simp only[List.map_toArray,List.map_cons,List.map_nil]);first|done|rfl|(simp only[List.length_drop,List.length_take];rfl)) ?_;(with_reducible refine(sluicegatelaw19_small.calls a0_0 a0_1 a0_2 _ _ l0_3 false _ ?side1 ?side2 A5.out).mono ?_);(case side1=>repeat (first|exact(Kd.C_below HR0_3.out HB.out)|(with_reducible refine Kd.C_alloc ?_ _)|(with_reducible refine Kd.C_drewN ?_ _)|(with_reducible refine Kd.C_drew ?_)));(case side2=>exact HC0_3.out);rintro e w11 ⟨rfl,hb⟩;refine⟨_,rfl,?_⟩;have n0_:=Aside0.mk (blk_below (g:=gb272) (o:=.cells #[.int .i64 a0_0,.int .i64 a0_1,.int .i64 a0_2,.slice A0_3 l0_3.length c0_3] 24 (0,0)) (by (with_reducible repeat (first|refine blk_drewN ?_ _|refine blk_drew ?_|refine blk_alloc ?_ _));exact BK272.out) hb);have n1_:=Aside0.mk (below_step (by repeat (first|(with_reducible first|exact HB.out|apply below_alloc|apply pw_below_drewN|apply below_drew1|refine below_set ?_ GE272.out)|exact HB.out)) hb);clear BK272;clear HB;have BK272:=n0_;have HB:=n1_;clear n0_ n1_;(try clear hb);(try clear hb2);(try clear hk);(try clear hi)))
   go_meet
   case rel=>exact⟨_,(true),(by first|rfl|(simp;done)|(simp[*];done)),H',⟨by first|omega|exact Nat.le_refl _⟩,⟨by (with_reducible repeat (first|refine blk_drewN ?_ _|refine blk_drew ?_|refine blk_alloc ?_ _));exact BK272.out⟩,⟨by repeat (first|(with_reducible first|exact HB.out|apply below_alloc|apply pw_below_drewN|apply below_drew1|refine below_set ?_ GE272.out)|exact HB.out)⟩⟩
 case rest=>
  clear HC3
  try clear c1
  try clear p2
  try clear c4
  try clear c6
  try clear hcz10_0
  try clear hcz10_1
  try clear hcz10_2
  try clear hcz10_3
  try clear hcz8_0
  try clear hcz8_1
  try clear hcz8_2
  try clear hcz8_3
  try clear hfz10_0
  try clear hfz10_1
  try clear hfz10_2
  try clear hfz10_3
  try clear hfz8_0
  try clear hfz8_1
  try clear hfz8_2
  try clear hfz8_3
  obtain⟨kq,x15_2,rfl,HA,HJ2,BK272,HB⟩:=hcut
  cases kq with
  | zero=>exact absurd HA.out (by simp[sluicegatelaw19_StripeTexts.j0])
  | succ kj2=>
   have H:=HA.out
   clear HA
   simp only[sluicegatelaw19_StripeTexts.j0]at H
   by_cases c12:x15_2=true
   ·subst c12
    have H1:((sluicegatelaw19_live.f).bind fun t275=>(some t275))=some r:=by rw[if_pos rfl]at H;exact H
    clear H
    have H:=H1
    clear H1
    replace H:=Option.bind_eq_some_iff.mp H
    obtain⟨t275,A130,H⟩:=H
    replace H:(some t275)=some r:=H
    have A13:=Aside0.mk A130
    clear A130
    obtain rfl:=Option.some.inj H
    go_wp2_with (first|((with_reducible refine gate_callee (f:=7) rfl ?_);refine goesL_ (some 16) rfl rfl Tryz.func7 (by kernel_rfl) rfl #[] rfl (by (try simp only[List.map_toArray,List.map_cons,List.map_nil]);first|done|rfl|(simp only[List.length_drop,List.length_take];rfl)) ?_;(with_reducible refine(sluicegatelaw19_live.calls  t275 _ A13.out).mono ?_);rintro e w14 ⟨rfl,hb⟩;refine⟨_,rfl,?_⟩;have n0_:=Aside0.mk (blk_below (g:=gb272) (o:=.cells #[.int .i64 a0_0,.int .i64 a0_1,.int .i64 a0_2,.slice A0_3 l0_3.length c0_3] 24 (0,0)) (by (with_reducible repeat (first|refine blk_drewN ?_ _|refine blk_drew ?_|refine blk_alloc ?_ _));exact BK272.out) hb);have n1_:=Aside0.mk (below_step (by repeat (first|(with_reducible first|exact HB.out|apply below_alloc|apply pw_below_drewN|apply below_drew1|refine below_set ?_ GE272.out)|exact HB.out)) hb);clear BK272;clear HB;have BK272:=n0_;have HB:=n1_;clear n0_ n1_;(try clear hb);(try clear hb2);(try clear hk);(try clear hi)))
    go_ret
    exact⟨by first|rfl|(simp[errW_none,errW_some]<;>rfl)|(simp[*,errW_none,errW_some]<;>rfl),by repeat (first|(with_reducible first|exact HB.out|apply below_alloc|apply pw_below_drewN|apply below_drew1|refine below_set ?_ GE272.out)|exact HB.out)⟩
   ·replace c12:=Bool.eq_false_iff.mpr c12
    subst c12
    have H1:((stripe_Text.f kj2 a0_0 a0_1 a0_2 l0_3 l1).bind fun bt276=>((sluicegateref11_Volume.f kj2 a0_0 a0_1 a0_2 l0_3).bind fun t281=>(if t281=true then (sluicegatelaw19_StripeTexts.j1 kj2 l1 bt276.1 bt276.2.1 bt276.2.2 ((l1.length:Int) != 9) a0_0 a0_1 a0_2 l0_3)else (sluicegatelaw19_StripeTexts.j1 kj2 l1 bt276.1 bt276.2.1 bt276.2.2 true a0_0 a0_1 a0_2 l0_3))))=some r:=by rw[if_neg (show ¬ (false=true)by decide)]at H;exact H
    clear H
    have H:=H1
    clear H1
    replace H:=Option.bind_eq_some_iff.mp H
    obtain⟨⟨t276,t277,t280⟩,A150,H⟩:=H
    replace H:((sluicegateref11_Volume.f kj2 a0_0 a0_1 a0_2 l0_3).bind fun t281=>(if t281=true then (sluicegatelaw19_StripeTexts.j1 kj2 l1 t276 t277 t280 ((l1.length:Int) != 9) a0_0 a0_1 a0_2 l0_3)else (sluicegatelaw19_StripeTexts.j1 kj2 l1 t276 t277 t280 true a0_0 a0_1 a0_2 l0_3)))=some r:=H
    have A15:=Aside0.mk A150
    clear A150
    have HC16:=Aside0.mk H
    clear H
    have hcz17_0:wc.cell? ⟨gb272,0,none⟩=some (.int .i64 a0_0):=(blk_cell BK272.out 0).trans rfl
    have hcz17_1:wc.cell? ⟨gb272,1,none⟩=some (.int .i64 a0_1):=(blk_cell BK272.out 1).trans rfl
    have hcz17_2:wc.cell? ⟨gb272,2,none⟩=some (.int .i64 a0_2):=(blk_cell BK272.out 2).trans rfl
    have hcz17_3:wc.cell? ⟨gb272,3,none⟩=some (.slice A0_3 l0_3.length c0_3):=(blk_cell BK272.out 3).trans rfl
    have hfz17_0:=blk_frozen BK272.out 0
    have hfz17_1:=blk_frozen BK272.out 1
    have hfz17_2:=blk_frozen BK272.out 2
    have hfz17_3:=blk_frozen BK272.out 3
    go_upto_region 4 with (first|((with_reducible refine gate_callee (f:=12) rfl ?_);refine goesL_ (some 20) rfl rfl Tryz.func12 (by kernel_rfl) rfl #[.agg #[.int .i64 a0_0,.int .i64 a0_1,.int .i64 a0_2,.slice A0_3 l0_3.length c0_3],.slice A1 l1.length c1] rfl (by (try simp only[List.map_toArray,List.map_cons,List.map_nil]);first|done|rfl|(simp only[List.length_drop,List.length_take];rfl)) ?_;(with_reducible refine(stripe_Text.calls kj2 a0_0 a0_1 a0_2 _ _ l0_3 _ _ l1 t276 t277 t280 _ ?side1 ?side2 ?side3 ?side4 A15.out).mono ?_);(case side1=>repeat (first|exact(Kd.C_below HR0_3.out HB.out)|(with_reducible refine Kd.C_alloc ?_ _)|(with_reducible refine Kd.C_drewN ?_ _)|(with_reducible refine Kd.C_drew ?_)));(case side2=>exact HC0_3.out);(case side3=>repeat (first|exact(Kd.C_below HR1.out HB.out)|(with_reducible refine Kd.C_alloc ?_ _)|(with_reducible refine Kd.C_drewN ?_ _)|(with_reducible refine Kd.C_drew ?_)));(case side4=>exact HC1.out);rintro e w18 ⟨v278,rfl,ho0,hb⟩;refine⟨_,rfl,?_⟩;have n0_:=Aside0.mk (Kd.R_lower ho0 (below_size (by repeat (first|(with_reducible first|exact HB.out|apply below_alloc|apply pw_below_drewN|apply below_drew1|refine below_set ?_ GE272.out)|exact HB.out))));have n1_:=Aside0.mk (blk_below (g:=gb272) (o:=.cells #[.int .i64 a0_0,.int .i64 a0_1,.int .i64 a0_2,.slice A0_3 l0_3.length c0_3] 24 (0,0)) (by (with_reducible repeat (first|refine blk_drewN ?_ _|refine blk_drew ?_|refine blk_alloc ?_ _));exact BK272.out) hb);have n2_:=Aside0.mk (below_step (by repeat (first|(with_reducible first|exact HB.out|apply below_alloc|apply pw_below_drewN|apply below_drew1|refine below_set ?_ GE272.out)|exact HB.out)) hb);clear BK272;clear HB;have HO279:=n0_;have BK272:=n1_;have HB:=n2_;clear n0_ n1_ n2_;(try clear hb);(try clear hb2);(try clear hk);(try clear hi);(try clear ho0)))
    (try simp only[Act.put,List.setIfInBounds_toArray,List.set_cons_zero,List.set_cons_succ])
    go_cut [31] (fun v31 wc=> ∃ (kq:Nat) (x31_15:Bool),v31 = .bool x31_15∧Aside0 (sluicegatelaw19_StripeTexts.j1 kq l1 t276 t277 t280 x31_15 a0_0 a0_1 a0_2 l0_3=some r)∧Aside0 (kq≤kj2)∧Aside0 (Kd.R (Kd.int .i64) 3 wc w.heap.size (fun _=>True) v278 t277)∧Aside0 (wc.heap[gb272]? = some (.cells #[.int .i64 a0_0,.int .i64 a0_1,.int .i64 a0_2,(.slice A0_3 l0_3.length c0_3)] 24 (0,0)))∧Aside0 (Below w.heap.size w wc))
    case first=>
     have H:=HC16.out
     clear HC16
     replace H:=Option.bind_eq_some_iff.mp H
     obtain⟨t281,A190,H⟩:=H
     replace H:(if t281=true then (sluicegatelaw19_StripeTexts.j1 kj2 l1 t276 t277 t280 ((l1.length:Int) != 9) a0_0 a0_1 a0_2 l0_3)else (sluicegatelaw19_StripeTexts.j1 kj2 l1 t276 t277 t280 true a0_0 a0_1 a0_2 l0_3))=some r:=H
     have A19:=Aside0.mk A190
     clear A190
     by_cases c20:t281=true
     ·subst c20
      have H1:(sluicegatelaw19_StripeTexts.j1 kj2 l1 t276 t277 t280 ((l1.length:Int) != 9) a0_0 a0_1 a0_2 l0_3)=some r:=by rw[if_pos rfl]at H;exact H
      clear H
      have H:=H1
      clear H1
      have H':=Aside0.mk H
      clear H
      have hcz21_0:w18.cell? ⟨gb272,0,none⟩=some (.int .i64 a0_0):=(blk_cell BK272.out 0).trans rfl
      have hcz21_1:w18.cell? ⟨gb272,1,none⟩=some (.int .i64 a0_1):=(blk_cell BK272.out 1).trans rfl
      have hcz21_2:w18.cell? ⟨gb272,2,none⟩=some (.int .i64 a0_2):=(blk_cell BK272.out 2).trans rfl
      have hcz21_3:w18.cell? ⟨gb272,3,none⟩=some (.slice A0_3 l0_3.length c0_3):=(blk_cell BK272.out 3).trans rfl
      have hfz21_0:=blk_frozen BK272.out 0
      have hfz21_1:=blk_frozen BK272.out 1
      have hfz21_2:=blk_frozen BK272.out 2
      have hfz21_3:=blk_frozen BK272.out 3
      go_wp2_with (first|((with_reducible refine gate_callee (f:=13) rfl ?_);refine goesL_ (some 25) rfl rfl Tryz.func13 (by kernel_rfl) rfl #[.agg #[.int .i64 a0_0,.int .i64 a0_1,.int .i64 a0_2,.slice A0_3 l0_3.length c0_3]] rfl (by (try simp only[List.map_toArray,List.map_cons,List.map_nil]);first|done|rfl|(simp only[List.length_drop,List.length_take];rfl)) ?_;(with_reducible refine(sluicegateref11_Volume.calls kj2 a0_0 a0_1 a0_2 _ _ l0_3 true _ ?side1 ?side2 A19.out).mono ?_);(case side1=>repeat (first|exact(Kd.C_below HR0_3.out HB.out)|(with_reducible refine Kd.C_alloc ?_ _)|(with_reducible refine Kd.C_drewN ?_ _)|(with_reducible refine Kd.C_drew ?_)));(case side2=>exact HC0_3.out);rintro e w22 ⟨rfl,hb⟩;refine⟨_,rfl,?_⟩;have n0_:=Aside0.mk (Kd.R_below (by (with_reducible repeat (first|apply Kd.R_alloc|apply Kd.R_drewN|apply Kd.R_drew));exact HO279.out) hb);have n1_:=Aside0.mk (blk_below (g:=gb272) (o:=.cells #[.int .i64 a0_0,.int .i64 a0_1,.int .i64 a0_2,.slice A0_3 l0_3.length c0_3] 24 (0,0)) (by (with_reducible repeat (first|refine blk_drewN ?_ _|refine blk_drew ?_|refine blk_alloc ?_ _));exact BK272.out) hb);have n2_:=Aside0.mk (below_step (by repeat (first|(with_reducible first|exact HB.out|apply below_alloc|apply pw_below_drewN|apply below_drew1|refine below_set ?_ GE272.out)|exact HB.out)) hb);clear HO279;clear BK272;clear HB;have HO279:=n0_;have BK272:=n1_;have HB:=n2_;clear n0_ n1_ n2_;(try clear hb);(try clear hb2);(try clear hk);(try clear hi)))
      go_meet
      case rel=>exact⟨_,(((l1.length:Int) != 9)),(by first|rfl|(simp;done)|(simp[*];done)),H',⟨by have:=HJ2.out;first|omega|exact Nat.le_refl _⟩,⟨by (with_reducible repeat (first|apply Kd.R_alloc|apply Kd.R_drewN|apply Kd.R_drew));exact HO279.out⟩,⟨by (with_reducible repeat (first|refine blk_drewN ?_ _|refine blk_drew ?_|refine blk_alloc ?_ _));exact BK272.out⟩,⟨by repeat (first|(with_reducible first|exact HB.out|apply below_alloc|apply pw_below_drewN|apply below_drew1|refine below_set ?_ GE272.out)|exact HB.out)⟩⟩
     ·replace c20:=Bool.eq_false_iff.mpr c20
      subst c20
      have H1:(sluicegatelaw19_StripeTexts.j1 kj2 l1 t276 t277 t280 true a0_0 a0_1 a0_2 l0_3)=some r:=by rw[if_neg (show ¬ (false=true)by decide)]at H;exact H
      clear H
      have H:=H1
      clear H1
      have H':=Aside0.mk H
      clear H
      have hcz23_0:w18.cell? ⟨gb272,0,none⟩=some (.int .i64 a0_0):=(blk_cell BK272.out 0).trans rfl
      have hcz23_1:w18.cell? ⟨gb272,1,none⟩=some (.int .i64 a0_1):=(blk_cell BK272.out 1).trans rfl
      have hcz23_2:w18.cell? ⟨gb272,2,none⟩=some (.int .i64 a0_2):=(blk_cell BK272.out 2).trans rfl
      have hcz23_3:w18.cell? ⟨gb272,3,none⟩=some (.slice A0_3 l0_3.length c0_3):=(blk_cell BK272.out 3).trans rfl
      have hfz23_0:=blk_frozen BK272.out 0
      have hfz23_1:=blk_frozen BK272.out 1
      have hfz23_2:=blk_frozen BK272.out 2
      have hfz23_3:=blk_frozen BK272.out 3
      go_wp2_with (first|((with_reducible refine gate_callee (f:=13) rfl ?_);refine goesL_ (some 25) rfl rfl Tryz.func13 (by kernel_rfl) rfl #[.agg #[.int .i64 a0_0,.int .i64 a0_1,.int .i64 a0_2,.slice A0_3 l0_3.length c0_3]] rfl (by (try simp only[List.map_toArray,List.map_cons,List.map_nil]);first|done|rfl|(simp only[List.length_drop,List.length_take];rfl)) ?_;(with_reducible refine(sluicegateref11_Volume.calls kj2 a0_0 a0_1 a0_2 _ _ l0_3 false _ ?side1 ?side2 A19.out).mono ?_);(case side1=>repeat (first|exact(Kd.C_below HR0_3.out HB.out)|(with_reducible refine Kd.C_alloc ?_ _)|(with_reducible refine Kd.C_drewN ?_ _)|(with_reducible refine Kd.C_drew ?_)));(case side2=>exact HC0_3.out);rintro e w24 ⟨rfl,hb⟩;refine⟨_,rfl,?_⟩;have n0_:=Aside0.mk (Kd.R_below (by (with_reducible repeat (first|apply Kd.R_alloc|apply Kd.R_drewN|apply Kd.R_drew));exact HO279.out) hb);have n1_:=Aside0.mk (blk_below (g:=gb272) (o:=.cells #[.int .i64 a0_0,.int .i64 a0_1,.int .i64 a0_2,.slice A0_3 l0_3.length c0_3] 24 (0,0)) (by (with_reducible repeat (first|refine blk_drewN ?_ _|refine blk_drew ?_|refine blk_alloc ?_ _));exact BK272.out) hb);have n2_:=Aside0.mk (below_step (by repeat (first|(with_reducible first|exact HB.out|apply below_alloc|apply pw_below_drewN|apply below_drew1|refine below_set ?_ GE272.out)|exact HB.out)) hb);clear HO279;clear BK272;clear HB;have HO279:=n0_;have BK272:=n1_;have HB:=n2_;clear n0_ n1_ n2_;(try clear hb);(try clear hb2);(try clear hk);(try clear hi)))
      go_meet
      case rel=>exact⟨_,(true),(by first|rfl|(simp;done)|(simp[*];done)),H',⟨by have:=HJ2.out;first|omega|exact Nat.le_refl _⟩,⟨by (with_reducible repeat (first|apply Kd.R_alloc|apply Kd.R_drewN|apply Kd.R_drew));exact HO279.out⟩,⟨by (with_reducible repeat (first|refine blk_drewN ?_ _|refine blk_drew ?_|refine blk_alloc ?_ _));exact BK272.out⟩,⟨by repeat (first|(with_reducible first|exact HB.out|apply below_alloc|apply pw_below_drewN|apply below_drew1|refine below_set ?_ GE272.out)|exact HB.out)⟩⟩
    case rest=>
     clear HC16
     try clear c1
     try clear c2
     try clear p2
     try clear c4
     try clear c6
     try clear c7
     try clear c12
     try clear c13
     try clear c20
     try clear hcz10_0
     try clear hcz10_1
     try clear hcz10_2
     try clear hcz10_3
     try clear hcz17_0
     try clear hcz17_1
     try clear hcz17_2
     try clear hcz17_3
     try clear hcz21_0
     try clear hcz21_1
     try clear hcz21_2
     try clear hcz21_3
     try clear hcz23_0
     try clear hcz23_1
     try clear hcz23_2
     try clear hcz23_3
     try clear hcz8_0
     try clear hcz8_1
     try clear hcz8_2
     try clear hcz8_3
     try clear hfz10_0
     try clear hfz10_1
     try clear hfz10_2
     try clear hfz10_3
     try clear hfz17_0
     try clear hfz17_1
     try clear hfz17_2
     try clear hfz17_3
     try clear hfz21_0
     try clear hfz21_1
     try clear hfz21_2
     try clear hfz21_3
     try clear hfz23_0
     try clear hfz23_1
     try clear hfz23_2
     try clear hfz23_3
     try clear hfz8_0
     try clear hfz8_1
     try clear hfz8_2
     try clear hfz8_3
     try clear p2
     obtain⟨kq,x31_15,rfl,HA,HJ15,HO_6,BK272,HB⟩:=hcut
     cases kq with
     | zero=>exact absurd HA.out (by simp[sluicegatelaw19_StripeTexts.j1])
     | succ kj15=>
      have H:=HA.out
      clear HA
      simp only[sluicegatelaw19_StripeTexts.j1]at H
      by_cases c25:x31_15=true
      ·subst c25
       have H1:(if t276.toList=([]:List UInt8)then (if (t277.length:Int)=0 then (if t280=1 then ((sluicegatelaw19_live.f).bind fun t282=>(some t282))else (some false))else (some false))else (some false))=some r:=by rw[if_pos rfl]at H;exact H
       clear H
       have H:=H1
       clear H1
       by_cases c26:t276.toList=([]:List UInt8)
       ·rw[if_pos c26]at H
        have c26b0:(t276.toList==([]:List UInt8))=true:=beq_iff_eq.mpr c26
        have c26b1:(t276.toList != ([]:List UInt8))=false:=bne_eq_false_iff_eq.mpr c26
        clear c26
        by_cases c27:(t277.length:Int)=0
        ·rw[if_pos c27]at H
         have c27b0:((t277.length:Int)==0)=true:=beq_iff_eq.mpr c27
         have c27b1:((t277.length:Int) != 0)=false:=bne_eq_false_iff_eq.mpr c27
         clear c27
         by_cases c28:t280=1
         ·rw[if_pos c28]at H
          have c28b0:(t280==1)=true:=beq_iff_eq.mpr c28
          have c28b1:(t280 != 1)=false:=bne_eq_false_iff_eq.mpr c28
          clear c28
          replace H:=Option.bind_eq_some_iff.mp H
          obtain⟨t282,A290,H⟩:=H
          replace H:(some t282)=some r:=H
          have A29:=Aside0.mk A290
          clear A290
          obtain rfl:=Option.some.inj H
          obtain⟨Ao30,co30,eo30⟩:=Kd.R_slice HO_6.out
          subst eo30
          go_wp2_with (first|(go_at_call 7;(with_reducible refine(sluicegatelaw19_live.calls  t282 _ A29.out).mono ?_);rintro e w31 ⟨rfl,hb⟩;have n0_:=Aside0.mk (Kd.R_below (by (with_reducible repeat (first|apply Kd.R_alloc|apply Kd.R_drewN|apply Kd.R_drew));exact HO_6.out) hb);have n1_:=Aside0.mk (blk_below (g:=gb272) (o:=.cells #[.int .i64 a0_0,.int .i64 a0_1,.int .i64 a0_2,.slice A0_3 l0_3.length c0_3] 24 (0,0)) (by (with_reducible repeat (first|refine blk_drewN ?_ _|refine blk_drew ?_|refine blk_alloc ?_ _));exact BK272.out) hb);have n2_:=Aside0.mk (below_step (by repeat (first|(with_reducible first|exact HB.out|apply below_alloc|apply pw_below_drewN|apply below_drew1|refine below_set ?_ GE272.out)|exact HB.out)) hb);clear HO_6;clear BK272;clear HB;have HO_6:=n0_;have BK272:=n1_;have HB:=n2_;clear n0_ n1_ n2_;(try clear hb);(try clear hb2);(try clear hk);(try clear hi)))
          go_ret
          exact⟨by first|rfl|(simp[errW_none,errW_some]<;>rfl)|(simp[*,errW_none,errW_some]<;>rfl),by repeat (first|(with_reducible first|exact HB.out|apply below_alloc|apply pw_below_drewN|apply below_drew1|refine below_set ?_ GE272.out)|exact HB.out)⟩
         ·rw[if_neg c28]at H
          have c28b0:(t280==1)=false:=beq_eq_false_iff_ne.mpr c28
          have c28b1:(t280 != 1)=true:=bne_iff_ne.mpr c28
          obtain rfl:=Option.some.inj H
          obtain⟨Ao32,co32,eo32⟩:=Kd.R_slice HO_6.out
          subst eo32
          go_wp2
          go_ret
          exact⟨by first|rfl|(simp[errW_none,errW_some]<;>rfl)|(simp[*,errW_none,errW_some]<;>rfl),by repeat (first|(with_reducible first|exact HB.out|apply below_alloc|apply pw_below_drewN|apply below_drew1|refine below_set ?_ GE272.out)|exact HB.out)⟩
        ·rw[if_neg c27]at H
         have c27b0:((t277.length:Int)==0)=false:=beq_eq_false_iff_ne.mpr c27
         have c27b1:((t277.length:Int) != 0)=true:=bne_iff_ne.mpr c27
         have c27b2 : ¬ (t277=[]):=fun h_=>c27 (by rw[h_];rfl)
         obtain rfl:=Option.some.inj H
         obtain⟨Ao33,co33,eo33⟩:=Kd.R_slice HO_6.out
         subst eo33
         go_wp2
         go_ret
         exact⟨by first|rfl|(simp[errW_none,errW_some]<;>rfl)|(simp[*,errW_none,errW_some]<;>rfl),by repeat (first|(with_reducible first|exact HB.out|apply below_alloc|apply pw_below_drewN|apply below_drew1|refine below_set ?_ GE272.out)|exact HB.out)⟩
       ·rw[if_neg c26]at H
        have c26b0:(t276.toList==([]:List UInt8))=false:=beq_eq_false_iff_ne.mpr c26
        have c26b1:(t276.toList != ([]:List UInt8))=true:=bne_iff_ne.mpr c26
        obtain rfl:=Option.some.inj H
        go_wp2
        go_ret
        exact⟨by first|rfl|(simp[errW_none,errW_some]<;>rfl)|(simp[*,errW_none,errW_some]<;>rfl),by repeat (first|(with_reducible first|exact HB.out|apply below_alloc|apply pw_below_drewN|apply below_drew1|refine below_set ?_ GE272.out)|exact HB.out)⟩
      ·replace c25:=Bool.eq_false_iff.mpr c25
       subst c25
       have H1:((sluicegateref19_Bad.f kj15 a0_0 a0_1 a0_2 l0_3 l1).bind fun t283=>((sluicegateref06_Ints.f kj15 t277 t283).bind fun t286=>(if t286=true then (if t280=0 then ((sluicegateref19_Agrees.f kj15 a0_0 a0_1 a0_2 l0_3 l1 t276).bind fun t287=>(if t287=true then ((sluicegatelaw19_live.f).bind fun t288=>(some t288))else (some false)))else (if t280=2 then (if t276.toList=([]:List UInt8)then (if (t277.length:Int)>3 then ((sluicegatelaw19_live.f).bind fun t289=>(some t289))else (some false))else (some false))else (if t280=4 then (if t276.toList=([]:List UInt8)then (if (t277.length:Int)≤3 then ((sluicegatelaw19_live.f).bind fun t290=>(some t290))else (some false))else (some false))else (some false))))else (some false))))=some r:=by rw[if_neg (show ¬ (false=true)by decide)]at H;exact H
       clear H
       have H:=H1
       clear H1
       replace H:=Option.bind_eq_some_iff.mp H
       obtain⟨t283,A340,H⟩:=H
       replace H:((sluicegateref06_Ints.f kj15 t277 t283).bind fun t286=>(if t286=true then (if t280=0 then ((sluicegateref19_Agrees.f kj15 a0_0 a0_1 a0_2 l0_3 l1 t276).bind fun t287=>(if t287=true then ((sluicegatelaw19_live.f).bind fun t288=>(some t288))else (some false)))else (if t280=2 then (if t276.toList=([]:List UInt8)then (if (t277.length:Int)>3 then ((sluicegatelaw19_live.f).bind fun t289=>(some t289))else (some false))else (some false))else (if t280=4 then (if t276.toList=([]:List UInt8)then (if (t277.length:Int)≤3 then ((sluicegatelaw19_live.f).bind fun t290=>(some t290))else (some false))else (some false))else (some false))))else (some false)))=some r:=H
       have A34:=Aside0.mk A340
       clear A340
       replace H:=Option.bind_eq_some_iff.mp H
       obtain⟨t286,A350,H⟩:=H
       replace H:(if t286=true then (if t280=0 then ((sluicegateref19_Agrees.f kj15 a0_0 a0_1 a0_2 l0_3 l1 t276).bind fun t287=>(if t287=true then ((sluicegatelaw19_live.f).bind fun t288=>(some t288))else (some false)))else (if t280=2 then (if t276.toList=([]:List UInt8)then (if (t277.length:Int)>3 then ((sluicegatelaw19_live.f).bind fun t289=>(some t289))else (some false))else (some false))else (if t280=4 then (if t276.toList=([]:List UInt8)then (if (t277.length:Int)≤3 then ((sluicegatelaw19_live.f).bind fun t290=>(some t290))else (some false))else (some false))else (some false))))else (some false))=some r:=H
       have A35:=Aside0.mk A350
       clear A350
       by_cases c36:t286=true
       ·subst c36
        have H1:(if t280=0 then ((sluicegateref19_Agrees.f kj15 a0_0 a0_1 a0_2 l0_3 l1 t276).bind fun t287=>(if t287=true then ((sluicegatelaw19_live.f).bind fun t288=>(some t288))else (some false)))else (if t280=2 then (if t276.toList=([]:List UInt8)then (if (t277.length:Int)>3 then ((sluicegatelaw19_live.f).bind fun t289=>(some t289))else (some false))else (some false))else (if t280=4 then (if t276.toList=([]:List UInt8)then (if (t277.length:Int)≤3 then ((sluicegatelaw19_live.f).bind fun t290=>(some t290))else (some false))else (some false))else (some false))))=some r:=by rw[if_pos rfl]at H;exact H
        clear H
        have H:=H1
        clear H1
        by_cases c37:t280=0
        ·rw[if_pos c37]at H
         have c37b0:(t280==0)=true:=beq_iff_eq.mpr c37
         have c37b1:(t280 != 0)=false:=bne_eq_false_iff_eq.mpr c37
         clear c37
         replace H:=Option.bind_eq_some_iff.mp H
         obtain⟨t287,A380,H⟩:=H
         replace H:(if t287=true then ((sluicegatelaw19_live.f).bind fun t288=>(some t288))else (some false))=some r:=H
         have A38:=Aside0.mk A380
         clear A380
         by_cases c39:t287=true
         ·subst c39
          have H1:((sluicegatelaw19_live.f).bind fun t288=>(some t288))=some r:=by rw[if_pos rfl]at H;exact H
          clear H
          have H:=H1
          clear H1
          replace H:=Option.bind_eq_some_iff.mp H
          obtain⟨t288,A400,H⟩:=H
          replace H:(some t288)=some r:=H
          have A40:=Aside0.mk A400
          clear A400
          obtain rfl:=Option.some.inj H
          have hcz41_0:wc.cell? ⟨gb272,0,none⟩=some (.int .i64 a0_0):=(blk_cell BK272.out 0).trans rfl
          have hcz41_1:wc.cell? ⟨gb272,1,none⟩=some (.int .i64 a0_1):=(blk_cell BK272.out 1).trans rfl
          have hcz41_2:wc.cell? ⟨gb272,2,none⟩=some (.int .i64 a0_2):=(blk_cell BK272.out 2).trans rfl
          have hcz41_3:wc.cell? ⟨gb272,3,none⟩=some (.slice A0_3 l0_3.length c0_3):=(blk_cell BK272.out 3).trans rfl
          have hfz41_0:=blk_frozen BK272.out 0
          have hfz41_1:=blk_frozen BK272.out 1
          have hfz41_2:=blk_frozen BK272.out 2
          have hfz41_3:=blk_frozen BK272.out 3
          go_wp2_with (first|((with_reducible refine gate_callee (f:=15) rfl ?_);refine goesL_ (some 49) rfl rfl Tryz.func15 (by kernel_rfl) rfl #[.agg #[.int .i64 a0_0,.int .i64 a0_1,.int .i64 a0_2,.slice A0_3 l0_3.length c0_3],.slice A1 l1.length c1] rfl (by (try simp only[List.map_toArray,List.map_cons,List.map_nil]);first|done|rfl|(simp only[List.length_drop,List.length_take];rfl)) ?_;(with_reducible refine(sluicegateref19_Bad.calls kj15 a0_0 a0_1 a0_2 _ _ l0_3 _ _ l1 t283 _ ?side1 ?side2 ?side3 ?side4 A34.out).mono ?_);(case side1=>repeat (first|exact(Kd.C_below HR0_3.out HB.out)|(with_reducible refine Kd.C_alloc ?_ _)|(with_reducible refine Kd.C_drewN ?_ _)|(with_reducible refine Kd.C_drew ?_)));(case side2=>exact HC0_3.out);(case side3=>repeat (first|exact(Kd.C_below HR1.out HB.out)|(with_reducible refine Kd.C_alloc ?_ _)|(with_reducible refine Kd.C_drewN ?_ _)|(with_reducible refine Kd.C_drew ?_)));(case side4=>exact HC1.out);rintro e w42 ⟨v284,rfl,ho0,hb⟩;refine⟨_,rfl,?_⟩;have n0_:=Aside0.mk (Kd.R_elder' (by (with_reducible repeat (first|apply Kd.R_alloc|apply Kd.R_drewN|apply Kd.R_drew));exact HO_6.out) (Kd.R_base ho0) hb);have n1_:=Aside0.mk (Kd.R_lower (Kd.R_new' ho0 (Kd.R_lt (by (with_reducible repeat (first|apply Kd.R_alloc|apply Kd.R_drewN|apply Kd.R_drew));exact HO_6.out))) (below_size (by repeat (first|(with_reducible first|exact HB.out|apply below_alloc|apply pw_below_drewN|apply below_drew1|refine below_set ?_ GE272.out)|exact HB.out))));have n2_:=Aside0.mk (blk_below (g:=gb272) (o:=.cells #[.int .i64 a0_0,.int .i64 a0_1,.int .i64 a0_2,.slice A0_3 l0_3.length c0_3] 24 (0,0)) (by (with_reducible repeat (first|refine blk_drewN ?_ _|refine blk_drew ?_|refine blk_alloc ?_ _));exact BK272.out) hb);have n3_:=Aside0.mk (below_step (by repeat (first|(with_reducible first|exact HB.out|apply below_alloc|apply pw_below_drewN|apply below_drew1|refine below_set ?_ GE272.out)|exact HB.out)) hb);clear HO_6;clear BK272;clear HB;have HO_6:=n0_;have HO285:=n1_;have BK272:=n2_;have HB:=n3_;clear n0_ n1_ n2_ n3_;(try clear hb);(try clear hb2);(try clear hk);(try clear hi);(try clear ho0);obtain⟨Ao43,co43,eo43⟩:=Kd.R_slice HO_6.out;subst eo43;obtain⟨Ao44,co44,eo44⟩:=Kd.R_slice HO285.out;subst eo44)|((with_reducible refine gate_callee (f:=14) rfl ?_);refine goesL_ (some 50) rfl rfl Tryz.func14 (by kernel_rfl) rfl #[.slice Ao43 t277.length co43,.slice Ao44 t283.length co44] rfl (by (try simp only[List.map_toArray,List.map_cons,List.map_nil]);first|done|rfl|(simp only[List.length_drop,List.length_take];rfl)) ?_;(with_reducible refine(sluicegateref06_Ints.calls kj15 _ _ t277 _ _ t283 true _ ?side1 ?side2 ?side3 ?side4 A35.out).mono ?_);(case side1=>repeat (first|exact(Kd.R_reads' HO_6.out).2.2|(with_reducible refine Kd.C_alloc ?_ _)|(with_reducible refine Kd.C_drewN ?_ _)|(with_reducible refine Kd.C_drew ?_)));(case side2=>exact(Kd.R_reads' HO_6.out).2.1);(case side3=>repeat (first|exact(Kd.R_reads' HO285.out).2.2|(with_reducible refine Kd.C_alloc ?_ _)|(with_reducible refine Kd.C_drewN ?_ _)|(with_reducible refine Kd.C_drew ?_)));(case side4=>exact(Kd.R_reads' HO285.out).2.1);rintro e w' ⟨rfl,⟨nd,rfl⟩⟩;refine⟨_,rfl,?_⟩;have hcz45_0:w42.cell? ⟨gb272,0,none⟩=some (.int .i64 a0_0):=(blk_cell BK272.out 0).trans rfl;have hcz45_1:w42.cell? ⟨gb272,1,none⟩=some (.int .i64 a0_1):=(blk_cell BK272.out 1).trans rfl;have hcz45_2:w42.cell? ⟨gb272,2,none⟩=some (.int .i64 a0_2):=(blk_cell BK272.out 2).trans rfl;have hcz45_3:w42.cell? ⟨gb272,3,none⟩=some (.slice A0_3 l0_3.length c0_3):=(blk_cell BK272.out 3).trans rfl;have hfz45_0:=blk_frozen BK272.out 0;have hfz45_1:=blk_frozen BK272.out 1;have hfz45_2:=blk_frozen BK272.out 2;have hfz45_3:=blk_frozen BK272.out 3)|((with_reducible refine gate_callee (f:=16) rfl ?_);refine goesL_ (some 58) rfl rfl Tryz.func16 (by kernel_rfl) rfl #[.agg #[.int .i64 a0_0,.int .i64 a0_1,.int .i64 a0_2,.slice A0_3 l0_3.length c0_3],.slice A1 l1.length c1,.string t276] rfl (by (try simp only[List.map_toArray,List.map_cons,List.map_nil]);first|done|rfl|(simp only[List.length_drop,List.length_take];rfl)) ?_;(with_reducible refine(sluicegateref19_Agrees.calls kj15 a0_0 a0_1 a0_2 _ _ l0_3 _ _ l1 t276 true _ ?side1 ?side2 ?side3 ?side4 A38.out).mono ?_);(case side1=>repeat (first|exact(Kd.C_below HR0_3.out (by repeat (first|(with_reducible first|exact HB.out|apply below_alloc|apply pw_below_drewN|apply below_drew1|refine below_set ?_ GE272.out)|exact HB.out)))|(with_reducible refine Kd.C_alloc ?_ _)|(with_reducible refine Kd.C_drewN ?_ _)|(with_reducible refine Kd.C_drew ?_)));(case side2=>exact HC0_3.out);(case side3=>repeat (first|exact(Kd.C_below HR1.out (by repeat (first|(with_reducible first|exact HB.out|apply below_alloc|apply pw_below_drewN|apply below_drew1|refine below_set ?_ GE272.out)|exact HB.out)))|(with_reducible refine Kd.C_alloc ?_ _)|(with_reducible refine Kd.C_drewN ?_ _)|(with_reducible refine Kd.C_drew ?_)));(case side4=>exact HC1.out);rintro e w46 ⟨rfl,hb⟩;refine⟨_,rfl,?_⟩;have n0_:=Aside0.mk (Kd.R_below (by (with_reducible repeat (first|apply Kd.R_alloc|apply Kd.R_drewN|apply Kd.R_drew));exact HO_6.out) hb);have n1_:=Aside0.mk (Kd.R_below (by (with_reducible repeat (first|apply Kd.R_alloc|apply Kd.R_drewN|apply Kd.R_drew));exact HO285.out) hb);have n2_:=Aside0.mk (blk_below (g:=gb272) (o:=.cells #[.int .i64 a0_0,.int .i64 a0_1,.int .i64 a0_2,.slice A0_3 l0_3.length c0_3] 24 (0,0)) (by (with_reducible repeat (first|refine blk_drewN ?_ _|refine blk_drew ?_|refine blk_alloc ?_ _));exact BK272.out) hb);have n3_:=Aside0.mk (below_step (by repeat (first|(with_reducible first|exact HB.out|apply below_alloc|apply pw_below_drewN|apply below_drew1|refine below_set ?_ GE272.out)|exact HB.out)) hb);clear HO_6;clear HO285;clear BK272;clear HB;have HO_6:=n0_;have HO285:=n1_;have BK272:=n2_;have HB:=n3_;clear n0_ n1_ n2_ n3_;(try clear hb);(try clear hb2);(try clear hk);(try clear hi))|(go_at_call 7;(with_reducible refine(sluicegatelaw19_live.calls  t288 _ A40.out).mono ?_);rintro e w47 ⟨rfl,hb⟩;have n0_:=Aside0.mk (Kd.R_below (by (with_reducible repeat (first|apply Kd.R_alloc|apply Kd.R_drewN|apply Kd.R_drew));exact HO_6.out) hb);have n1_:=Aside0.mk (Kd.R_below (by (with_reducible repeat (first|apply Kd.R_alloc|apply Kd.R_drewN|apply Kd.R_drew));exact HO285.out) hb);have n2_:=Aside0.mk (blk_below (g:=gb272) (o:=.cells #[.int .i64 a0_0,.int .i64 a0_1,.int .i64 a0_2,.slice A0_3 l0_3.length c0_3] 24 (0,0)) (by (with_reducible repeat (first|refine blk_drewN ?_ _|refine blk_drew ?_|refine blk_alloc ?_ _));exact BK272.out) hb);have n3_:=Aside0.mk (below_step (by repeat (first|(with_reducible first|exact HB.out|apply below_alloc|apply pw_below_drewN|apply below_drew1|refine below_set ?_ GE272.out)|exact HB.out)) hb);clear HO_6;clear HO285;clear BK272;clear HB;have HO_6:=n0_;have HO285:=n1_;have BK272:=n2_;have HB:=n3_;clear n0_ n1_ n2_ n3_;(try clear hb);(try clear hb2);(try clear hk);(try clear hi)))
          go_ret
          exact⟨by first|rfl|(simp[errW_none,errW_some]<;>rfl)|(simp[*,errW_none,errW_some]<;>rfl),by repeat (first|(with_reducible first|exact HB.out|apply below_alloc|apply pw_below_drewN|apply below_drew1|refine below_set ?_ GE272.out)|exact HB.out)⟩
         ·replace c39:=Bool.eq_false_iff.mpr c39
          subst c39
          have H1:(some false)=some r:=by rw[if_neg (show ¬ (false=true)by decide)]at H;exact H
          clear H
          have H:=H1
          clear H1
          obtain rfl:=Option.some.inj H
          have hcz48_0:wc.cell? ⟨gb272,0,none⟩=some (.int .i64 a0_0):=(blk_cell BK272.out 0).trans rfl
          have hcz48_1:wc.cell? ⟨gb272,1,none⟩=some (.int .i64 a0_1):=(blk_cell BK272.out 1).trans rfl
          have hcz48_2:wc.cell? ⟨gb272,2,none⟩=some (.int .i64 a0_2):=(blk_cell BK272.out 2).trans rfl
          have hcz48_3:wc.cell? ⟨gb272,3,none⟩=some (.slice A0_3 l0_3.length c0_3):=(blk_cell BK272.out 3).trans rfl
          have hfz48_0:=blk_frozen BK272.out 0
          have hfz48_1:=blk_frozen BK272.out 1
          have hfz48_2:=blk_frozen BK272.out 2
          have hfz48_3:=blk_frozen BK272.out 3
          go_wp2_with (first|((with_reducible refine gate_callee (f:=15) rfl ?_);refine goesL_ (some 49) rfl rfl Tryz.func15 (by kernel_rfl) rfl #[.agg #[.int .i64 a0_0,.int .i64 a0_1,.int .i64 a0_2,.slice A0_3 l0_3.length c0_3],.slice A1 l1.length c1] rfl (by (try simp only[List.map_toArray,List.map_cons,List.map_nil]);first|done|rfl|(simp only[List.length_drop,List.length_take];rfl)) ?_;(with_reducible refine(sluicegateref19_Bad.calls kj15 a0_0 a0_1 a0_2 _ _ l0_3 _ _ l1 t283 _ ?side1 ?side2 ?side3 ?side4 A34.out).mono ?_);(case side1=>repeat (first|exact(Kd.C_below HR0_3.out HB.out)|(with_reducible refine Kd.C_alloc ?_ _)|(with_reducible refine Kd.C_drewN ?_ _)|(with_reducible refine Kd.C_drew ?_)));(case side2=>exact HC0_3.out);(case side3=>repeat (first|exact(Kd.C_below HR1.out HB.out)|(with_reducible refine Kd.C_alloc ?_ _)|(with_reducible refine Kd.C_drewN ?_ _)|(with_reducible refine Kd.C_drew ?_)));(case side4=>exact HC1.out);rintro e w49 ⟨v284,rfl,ho0,hb⟩;refine⟨_,rfl,?_⟩;have n0_:=Aside0.mk (Kd.R_elder' (by (with_reducible repeat (first|apply Kd.R_alloc|apply Kd.R_drewN|apply Kd.R_drew));exact HO_6.out) (Kd.R_base ho0) hb);have n1_:=Aside0.mk (Kd.R_lower (Kd.R_new' ho0 (Kd.R_lt (by (with_reducible repeat (first|apply Kd.R_alloc|apply Kd.R_drewN|apply Kd.R_drew));exact HO_6.out))) (below_size (by repeat (first|(with_reducible first|exact HB.out|apply below_alloc|apply pw_below_drewN|apply below_drew1|refine below_set ?_ GE272.out)|exact HB.out))));have n2_:=Aside0.mk (blk_below (g:=gb272) (o:=.cells #[.int .i64 a0_0,.int .i64 a0_1,.int .i64 a0_2,.slice A0_3 l0_3.length c0_3] 24 (0,0)) (by (with_reducible repeat (first|refine blk_drewN ?_ _|refine blk_drew ?_|refine blk_alloc ?_ _));exact BK272.out) hb);have n3_:=Aside0.mk (below_step (by repeat (first|(with_reducible first|exact HB.out|apply below_alloc|apply pw_below_drewN|apply below_drew1|refine below_set ?_ GE272.out)|exact HB.out)) hb);clear HO_6;clear BK272;clear HB;have HO_6:=n0_;have HO285:=n1_;have BK272:=n2_;have HB:=n3_;clear n0_ n1_ n2_ n3_;(try clear hb);(try clear hb2);(try clear hk);(try clear hi);(try clear ho0);obtain⟨Ao50,co50,eo50⟩:=Kd.R_slice HO_6.out;subst eo50;obtain⟨Ao51,co51,eo51⟩:=Kd.R_slice HO285.out;subst eo51)|((with_reducible refine gate_callee (f:=14) rfl ?_);refine goesL_ (some 50) rfl rfl Tryz.func14 (by kernel_rfl) rfl #[.slice Ao50 t277.length co50,.slice Ao51 t283.length co51] rfl (by (try simp only[List.map_toArray,List.map_cons,List.map_nil]);first|done|rfl|(simp only[List.length_drop,List.length_take];rfl)) ?_;(with_reducible refine(sluicegateref06_Ints.calls kj15 _ _ t277 _ _ t283 true _ ?side1 ?side2 ?side3 ?side4 A35.out).mono ?_);(case side1=>repeat (first|exact(Kd.R_reads' HO_6.out).2.2|(with_reducible refine Kd.C_alloc ?_ _)|(with_reducible refine Kd.C_drewN ?_ _)|(with_reducible refine Kd.C_drew ?_)));(case side2=>exact(Kd.R_reads' HO_6.out).2.1);(case side3=>repeat (first|exact(Kd.R_reads' HO285.out).2.2|(with_reducible refine Kd.C_alloc ?_ _)|(with_reducible refine Kd.C_drewN ?_ _)|(with_reducible refine Kd.C_drew ?_)));(case side4=>exact(Kd.R_reads' HO285.out).2.1);rintro e w' ⟨rfl,⟨nd,rfl⟩⟩;refine⟨_,rfl,?_⟩;have hcz52_0:w49.cell? ⟨gb272,0,none⟩=some (.int .i64 a0_0):=(blk_cell BK272.out 0).trans rfl;have hcz52_1:w49.cell? ⟨gb272,1,none⟩=some (.int .i64 a0_1):=(blk_cell BK272.out 1).trans rfl;have hcz52_2:w49.cell? ⟨gb272,2,none⟩=some (.int .i64 a0_2):=(blk_cell BK272.out 2).trans rfl;have hcz52_3:w49.cell? ⟨gb272,3,none⟩=some (.slice A0_3 l0_3.length c0_3):=(blk_cell BK272.out 3).trans rfl;have hfz52_0:=blk_frozen BK272.out 0;have hfz52_1:=blk_frozen BK272.out 1;have hfz52_2:=blk_frozen BK272.out 2;have hfz52_3:=blk_frozen BK272.out 3)|((with_reducible refine gate_callee (f:=16) rfl ?_);refine goesL_ (some 58) rfl rfl Tryz.func16 (by kernel_rfl) rfl #[.agg #[.int .i64 a0_0,.int .i64 a0_1,.int .i64 a0_2,.slice A0_3 l0_3.length c0_3],.slice A1 l1.length c1,.string t276] rfl (by (try simp only[List.map_toArray,List.map_cons,List.map_nil]);first|done|rfl|(simp only[List.length_drop,List.length_take];rfl)) ?_;(with_reducible refine(sluicegateref19_Agrees.calls kj15 a0_0 a0_1 a0_2 _ _ l0_3 _ _ l1 t276 false _ ?side1 ?side2 ?side3 ?side4 A38.out).mono ?_);(case side1=>repeat (first|exact(Kd.C_below HR0_3.out (by repeat (first|(with_reducible first|exact HB.out|apply below_alloc|apply pw_below_drewN|apply below_drew1|refine below_set ?_ GE272.out)|exact HB.out)))|(with_reducible refine Kd.C_alloc ?_ _)|(with_reducible refine Kd.C_drewN ?_ _)|(with_reducible refine Kd.C_drew ?_)));(case side2=>exact HC0_3.out);(case side3=>repeat (first|exact(Kd.C_below HR1.out (by repeat (first|(with_reducible first|exact HB.out|apply below_alloc|apply pw_below_drewN|apply below_drew1|refine below_set ?_ GE272.out)|exact HB.out)))|(with_reducible refine Kd.C_alloc ?_ _)|(with_reducible refine Kd.C_drewN ?_ _)|(with_reducible refine Kd.C_drew ?_)));(case side4=>exact HC1.out);rintro e w53 ⟨rfl,hb⟩;refine⟨_,rfl,?_⟩;have n0_:=Aside0.mk (Kd.R_below (by (with_reducible repeat (first|apply Kd.R_alloc|apply Kd.R_drewN|apply Kd.R_drew));exact HO_6.out) hb);have n1_:=Aside0.mk (Kd.R_below (by (with_reducible repeat (first|apply Kd.R_alloc|apply Kd.R_drewN|apply Kd.R_drew));exact HO285.out) hb);have n2_:=Aside0.mk (blk_below (g:=gb272) (o:=.cells #[.int .i64 a0_0,.int .i64 a0_1,.int .i64 a0_2,.slice A0_3 l0_3.length c0_3] 24 (0,0)) (by (with_reducible repeat (first|refine blk_drewN ?_ _|refine blk_drew ?_|refine blk_alloc ?_ _));exact BK272.out) hb);have n3_:=Aside0.mk (below_step (by repeat (first|(with_reducible first|exact HB.out|apply below_alloc|apply pw_below_drewN|apply below_drew1|refine below_set ?_ GE272.out)|exact HB.out)) hb);clear HO_6;clear HO285;clear BK272;clear HB;have HO_6:=n0_;have HO285:=n1_;have BK272:=n2_;have HB:=n3_;clear n0_ n1_ n2_ n3_;(try clear hb);(try clear hb2);(try clear hk);(try clear hi)))
          go_ret
          exact⟨by first|rfl|(simp[errW_none,errW_some]<;>rfl)|(simp[*,errW_none,errW_some]<;>rfl),by repeat (first|(with_reducible first|exact HB.out|apply below_alloc|apply pw_below_drewN|apply below_drew1|refine below_set ?_ GE272.out)|exact HB.out)⟩
        ·rw[if_neg c37]at H
         have c37b0:(t280==0)=false:=beq_eq_false_iff_ne.mpr c37
         have c37b1:(t280 != 0)=true:=bne_iff_ne.mpr c37
         by_cases c54:t280=2
         ·rw[if_pos c54]at H
          have c54b0:(t280==2)=true:=beq_iff_eq.mpr c54
          have c54b1:(t280 != 2)=false:=bne_eq_false_iff_eq.mpr c54
          clear c54
          by_cases c55:t276.toList=([]:List UInt8)
          ·rw[if_pos c55]at H
           have c55b0:(t276.toList==([]:List UInt8))=true:=beq_iff_eq.mpr c55
           have c55b1:(t276.toList != ([]:List UInt8))=false:=bne_eq_false_iff_eq.mpr c55
           clear c55
           by_cases c56:(t277.length:Int)>3
           ·rw[if_pos c56]at H
            have c56b0:decide (3<(t277.length:Int))=true:=decide_eq_true c56
            have c56b1:decide (3<t277.length)=true:=decide_eq_true (by omega)
            clear c56
            replace H:=Option.bind_eq_some_iff.mp H
            obtain⟨t289,A570,H⟩:=H
            replace H:(some t289)=some r:=H
            have A57:=Aside0.mk A570
            clear A570
            obtain rfl:=Option.some.inj H
            have hcz58_0:wc.cell? ⟨gb272,0,none⟩=some (.int .i64 a0_0):=(blk_cell BK272.out 0).trans rfl
            have hcz58_1:wc.cell? ⟨gb272,1,none⟩=some (.int .i64 a0_1):=(blk_cell BK272.out 1).trans rfl
            have hcz58_2:wc.cell? ⟨gb272,2,none⟩=some (.int .i64 a0_2):=(blk_cell BK272.out 2).trans rfl
            have hcz58_3:wc.cell? ⟨gb272,3,none⟩=some (.slice A0_3 l0_3.length c0_3):=(blk_cell BK272.out 3).trans rfl
            have hfz58_0:=blk_frozen BK272.out 0
            have hfz58_1:=blk_frozen BK272.out 1
            have hfz58_2:=blk_frozen BK272.out 2
            have hfz58_3:=blk_frozen BK272.out 3
            go_wp2_with (first|((with_reducible refine gate_callee (f:=15) rfl ?_);refine goesL_ (some 49) rfl rfl Tryz.func15 (by kernel_rfl) rfl #[.agg #[.int .i64 a0_0,.int .i64 a0_1,.int .i64 a0_2,.slice A0_3 l0_3.length c0_3],.slice A1 l1.length c1] rfl (by (try simp only[List.map_toArray,List.map_cons,List.map_nil]);first|done|rfl|(simp only[List.length_drop,List.length_take];rfl)) ?_;(with_reducible refine(sluicegateref19_Bad.calls kj15 a0_0 a0_1 a0_2 _ _ l0_3 _ _ l1 t283 _ ?side1 ?side2 ?side3 ?side4 A34.out).mono ?_);(case side1=>repeat (first|exact(Kd.C_below HR0_3.out HB.out)|(with_reducible refine Kd.C_alloc ?_ _)|(with_reducible refine Kd.C_drewN ?_ _)|(with_reducible refine Kd.C_drew ?_)));(case side2=>exact HC0_3.out);(case side3=>repeat (first|exact(Kd.C_below HR1.out HB.out)|(with_reducible refine Kd.C_alloc ?_ _)|(with_reducible refine Kd.C_drewN ?_ _)|(with_reducible refine Kd.C_drew ?_)));(case side4=>exact HC1.out);rintro e w59 ⟨v284,rfl,ho0,hb⟩;refine⟨_,rfl,?_⟩;have n0_:=Aside0.mk (Kd.R_elder' (by (with_reducible repeat (first|apply Kd.R_alloc|apply Kd.R_drewN|apply Kd.R_drew));exact HO_6.out) (Kd.R_base ho0) hb);have n1_:=Aside0.mk (Kd.R_lower (Kd.R_new' ho0 (Kd.R_lt (by (with_reducible repeat (first|apply Kd.R_alloc|apply Kd.R_drewN|apply Kd.R_drew));exact HO_6.out))) (below_size (by repeat (first|(with_reducible first|exact HB.out|apply below_alloc|apply pw_below_drewN|apply below_drew1|refine below_set ?_ GE272.out)|exact HB.out))));have n2_:=Aside0.mk (blk_below (g:=gb272) (o:=.cells #[.int .i64 a0_0,.int .i64 a0_1,.int .i64 a0_2,.slice A0_3 l0_3.length c0_3] 24 (0,0)) (by (with_reducible repeat (first|refine blk_drewN ?_ _|refine blk_drew ?_|refine blk_alloc ?_ _));exact BK272.out) hb);have n3_:=Aside0.mk (below_step (by repeat (first|(with_reducible first|exact HB.out|apply below_alloc|apply pw_below_drewN|apply below_drew1|refine below_set ?_ GE272.out)|exact HB.out)) hb);clear HO_6;clear BK272;clear HB;have HO_6:=n0_;have HO285:=n1_;have BK272:=n2_;have HB:=n3_;clear n0_ n1_ n2_ n3_;(try clear hb);(try clear hb2);(try clear hk);(try clear hi);(try clear ho0);obtain⟨Ao60,co60,eo60⟩:=Kd.R_slice HO_6.out;subst eo60;obtain⟨Ao61,co61,eo61⟩:=Kd.R_slice HO285.out;subst eo61)|((with_reducible refine gate_callee (f:=14) rfl ?_);refine goesL_ (some 50) rfl rfl Tryz.func14 (by kernel_rfl) rfl #[.slice Ao60 t277.length co60,.slice Ao61 t283.length co61] rfl (by (try simp only[List.map_toArray,List.map_cons,List.map_nil]);first|done|rfl|(simp only[List.length_drop,List.length_take];rfl)) ?_;(with_reducible refine(sluicegateref06_Ints.calls kj15 _ _ t277 _ _ t283 true _ ?side1 ?side2 ?side3 ?side4 A35.out).mono ?_);(case side1=>repeat (first|exact(Kd.R_reads' HO_6.out).2.2|(with_reducible refine Kd.C_alloc ?_ _)|(with_reducible refine Kd.C_drewN ?_ _)|(with_reducible refine Kd.C_drew ?_)));(case side2=>exact(Kd.R_reads' HO_6.out).2.1);(case side3=>repeat (first|exact(Kd.R_reads' HO285.out).2.2|(with_reducible refine Kd.C_alloc ?_ _)|(with_reducible refine Kd.C_drewN ?_ _)|(with_reducible refine Kd.C_drew ?_)));(case side4=>exact(Kd.R_reads' HO285.out).2.1);rintro e w' ⟨rfl,⟨nd,rfl⟩⟩;refine⟨_,rfl,?_⟩)|(go_at_call 7;(with_reducible refine(sluicegatelaw19_live.calls  t289 _ A57.out).mono ?_);rintro e w62 ⟨rfl,hb⟩;have n0_:=Aside0.mk (Kd.R_below (by (with_reducible repeat (first|apply Kd.R_alloc|apply Kd.R_drewN|apply Kd.R_drew));exact HO_6.out) hb);have n1_:=Aside0.mk (Kd.R_below (by (with_reducible repeat (first|apply Kd.R_alloc|apply Kd.R_drewN|apply Kd.R_drew));exact HO285.out) hb);have n2_:=Aside0.mk (blk_below (g:=gb272) (o:=.cells #[.int .i64 a0_0,.int .i64 a0_1,.int .i64 a0_2,.slice A0_3 l0_3.length c0_3] 24 (0,0)) (by (with_reducible repeat (first|refine blk_drewN ?_ _|refine blk_drew ?_|refine blk_alloc ?_ _));exact BK272.out) hb);have n3_:=Aside0.mk (below_step (by repeat (first|(with_reducible first|exact HB.out|apply below_alloc|apply pw_below_drewN|apply below_drew1|refine below_set ?_ GE272.out)|exact HB.out)) hb);clear HO_6;clear HO285;clear BK272;clear HB;have HO_6:=n0_;have HO285:=n1_;have BK272:=n2_;have HB:=n3_;clear n0_ n1_ n2_ n3_;(try clear hb);(try clear hb2);(try clear hk);(try clear hi)))
            go_ret
            exact⟨by first|rfl|(simp[errW_none,errW_some]<;>rfl)|(simp[*,errW_none,errW_some]<;>rfl),by repeat (first|(with_reducible first|exact HB.out|apply below_alloc|apply pw_below_drewN|apply below_drew1|refine below_set ?_ GE272.out)|exact HB.out)⟩
           ·rw[if_neg c56]at H
            have c56b0:decide (3<(t277.length:Int))=false:=decide_eq_false c56
            have c56b1:decide (3<t277.length)=false:=decide_eq_false (by omega)
            clear c56
            obtain rfl:=Option.some.inj H
            have hcz63_0:wc.cell? ⟨gb272,0,none⟩=some (.int .i64 a0_0):=(blk_cell BK272.out 0).trans rfl
            have hcz63_1:wc.cell? ⟨gb272,1,none⟩=some (.int .i64 a0_1):=(blk_cell BK272.out 1).trans rfl
            have hcz63_2:wc.cell? ⟨gb272,2,none⟩=some (.int .i64 a0_2):=(blk_cell BK272.out 2).trans rfl
            have hcz63_3:wc.cell? ⟨gb272,3,none⟩=some (.slice A0_3 l0_3.length c0_3):=(blk_cell BK272.out 3).trans rfl
            have hfz63_0:=blk_frozen BK272.out 0
            have hfz63_1:=blk_frozen BK272.out 1
            have hfz63_2:=blk_frozen BK272.out 2
            have hfz63_3:=blk_frozen BK272.out 3
            go_wp2_with (first|((with_reducible refine gate_callee (f:=15) rfl ?_);refine goesL_ (some 49) rfl rfl Tryz.func15 (by kernel_rfl) rfl #[.agg #[.int .i64 a0_0,.int .i64 a0_1,.int .i64 a0_2,.slice A0_3 l0_3.length c0_3],.slice A1 l1.length c1] rfl (by (try simp only[List.map_toArray,List.map_cons,List.map_nil]);first|done|rfl|(simp only[List.length_drop,List.length_take];rfl)) ?_;(with_reducible refine(sluicegateref19_Bad.calls kj15 a0_0 a0_1 a0_2 _ _ l0_3 _ _ l1 t283 _ ?side1 ?side2 ?side3 ?side4 A34.out).mono ?_);(case side1=>repeat (first|exact(Kd.C_below HR0_3.out HB.out)|(with_reducible refine Kd.C_alloc ?_ _)|(with_reducible refine Kd.C_drewN ?_ _)|(with_reducible refine Kd.C_drew ?_)));(case side2=>exact HC0_3.out);(case side3=>repeat (first|exact(Kd.C_below HR1.out HB.out)|(with_reducible refine Kd.C_alloc ?_ _)|(with_reducible refine Kd.C_drewN ?_ _)|(with_reducible refine Kd.C_drew ?_)));(case side4=>exact HC1.out);rintro e w64 ⟨v284,rfl,ho0,hb⟩;refine⟨_,rfl,?_⟩;have n0_:=Aside0.mk (Kd.R_elder' (by (with_reducible repeat (first|apply Kd.R_alloc|apply Kd.R_drewN|apply Kd.R_drew));exact HO_6.out) (Kd.R_base ho0) hb);have n1_:=Aside0.mk (Kd.R_lower (Kd.R_new' ho0 (Kd.R_lt (by (with_reducible repeat (first|apply Kd.R_alloc|apply Kd.R_drewN|apply Kd.R_drew));exact HO_6.out))) (below_size (by repeat (first|(with_reducible first|exact HB.out|apply below_alloc|apply pw_below_drewN|apply below_drew1|refine below_set ?_ GE272.out)|exact HB.out))));have n2_:=Aside0.mk (blk_below (g:=gb272) (o:=.cells #[.int .i64 a0_0,.int .i64 a0_1,.int .i64 a0_2,.slice A0_3 l0_3.length c0_3] 24 (0,0)) (by (with_reducible repeat (first|refine blk_drewN ?_ _|refine blk_drew ?_|refine blk_alloc ?_ _));exact BK272.out) hb);have n3_:=Aside0.mk (below_step (by repeat (first|(with_reducible first|exact HB.out|apply below_alloc|apply pw_below_drewN|apply below_drew1|refine below_set ?_ GE272.out)|exact HB.out)) hb);clear HO_6;clear BK272;clear HB;have HO_6:=n0_;have HO285:=n1_;have BK272:=n2_;have HB:=n3_;clear n0_ n1_ n2_ n3_;(try clear hb);(try clear hb2);(try clear hk);(try clear hi);(try clear ho0);obtain⟨Ao65,co65,eo65⟩:=Kd.R_slice HO_6.out;subst eo65;obtain⟨Ao66,co66,eo66⟩:=Kd.R_slice HO285.out;subst eo66)|((with_reducible refine gate_callee (f:=14) rfl ?_);refine goesL_ (some 50) rfl rfl Tryz.func14 (by kernel_rfl) rfl #[.slice Ao65 t277.length co65,.slice Ao66 t283.length co66] rfl (by (try simp only[List.map_toArray,List.map_cons,List.map_nil]);first|done|rfl|(simp only[List.length_drop,List.length_take];rfl)) ?_;(with_reducible refine(sluicegateref06_Ints.calls kj15 _ _ t277 _ _ t283 true _ ?side1 ?side2 ?side3 ?side4 A35.out).mono ?_);(case side1=>repeat (first|exact(Kd.R_reads' HO_6.out).2.2|(with_reducible refine Kd.C_alloc ?_ _)|(with_reducible refine Kd.C_drewN ?_ _)|(with_reducible refine Kd.C_drew ?_)));(case side2=>exact(Kd.R_reads' HO_6.out).2.1);(case side3=>repeat (first|exact(Kd.R_reads' HO285.out).2.2|(with_reducible refine Kd.C_alloc ?_ _)|(with_reducible refine Kd.C_drewN ?_ _)|(with_reducible refine Kd.C_drew ?_)));(case side4=>exact(Kd.R_reads' HO285.out).2.1);rintro e w' ⟨rfl,⟨nd,rfl⟩⟩;refine⟨_,rfl,?_⟩))
            go_ret
            exact⟨by first|rfl|(simp[errW_none,errW_some]<;>rfl)|(simp[*,errW_none,errW_some]<;>rfl),by repeat (first|(with_reducible first|exact HB.out|apply below_alloc|apply pw_below_drewN|apply below_drew1|refine below_set ?_ GE272.out)|exact HB.out)⟩
          ·rw[if_neg c55]at H
           have c55b0:(t276.toList==([]:List UInt8))=false:=beq_eq_false_iff_ne.mpr c55
           have c55b1:(t276.toList != ([]:List UInt8))=true:=bne_iff_ne.mpr c55
           obtain rfl:=Option.some.inj H
           have hcz67_0:wc.cell? ⟨gb272,0,none⟩=some (.int .i64 a0_0):=(blk_cell BK272.out 0).trans rfl
           have hcz67_1:wc.cell? ⟨gb272,1,none⟩=some (.int .i64 a0_1):=(blk_cell BK272.out 1).trans rfl
           have hcz67_2:wc.cell? ⟨gb272,2,none⟩=some (.int .i64 a0_2):=(blk_cell BK272.out 2).trans rfl
           have hcz67_3:wc.cell? ⟨gb272,3,none⟩=some (.slice A0_3 l0_3.length c0_3):=(blk_cell BK272.out 3).trans rfl
           have hfz67_0:=blk_frozen BK272.out 0
           have hfz67_1:=blk_frozen BK272.out 1
           have hfz67_2:=blk_frozen BK272.out 2
           have hfz67_3:=blk_frozen BK272.out 3
           go_wp2_with (first|((with_reducible refine gate_callee (f:=15) rfl ?_);refine goesL_ (some 49) rfl rfl Tryz.func15 (by kernel_rfl) rfl #[.agg #[.int .i64 a0_0,.int .i64 a0_1,.int .i64 a0_2,.slice A0_3 l0_3.length c0_3],.slice A1 l1.length c1] rfl (by (try simp only[List.map_toArray,List.map_cons,List.map_nil]);first|done|rfl|(simp only[List.length_drop,List.length_take];rfl)) ?_;(with_reducible refine(sluicegateref19_Bad.calls kj15 a0_0 a0_1 a0_2 _ _ l0_3 _ _ l1 t283 _ ?side1 ?side2 ?side3 ?side4 A34.out).mono ?_);(case side1=>repeat (first|exact(Kd.C_below HR0_3.out HB.out)|(with_reducible refine Kd.C_alloc ?_ _)|(with_reducible refine Kd.C_drewN ?_ _)|(with_reducible refine Kd.C_drew ?_)));(case side2=>exact HC0_3.out);(case side3=>repeat (first|exact(Kd.C_below HR1.out HB.out)|(with_reducible refine Kd.C_alloc ?_ _)|(with_reducible refine Kd.C_drewN ?_ _)|(with_reducible refine Kd.C_drew ?_)));(case side4=>exact HC1.out);rintro e w68 ⟨v284,rfl,ho0,hb⟩;refine⟨_,rfl,?_⟩;have n0_:=Aside0.mk (Kd.R_elder' (by (with_reducible repeat (first|apply Kd.R_alloc|apply Kd.R_drewN|apply Kd.R_drew));exact HO_6.out) (Kd.R_base ho0) hb);have n1_:=Aside0.mk (Kd.R_lower (Kd.R_new' ho0 (Kd.R_lt (by (with_reducible repeat (first|apply Kd.R_alloc|apply Kd.R_drewN|apply Kd.R_drew));exact HO_6.out))) (below_size (by repeat (first|(with_reducible first|exact HB.out|apply below_alloc|apply pw_below_drewN|apply below_drew1|refine below_set ?_ GE272.out)|exact HB.out))));have n2_:=Aside0.mk (blk_below (g:=gb272) (o:=.cells #[.int .i64 a0_0,.int .i64 a0_1,.int .i64 a0_2,.slice A0_3 l0_3.length c0_3] 24 (0,0)) (by (with_reducible repeat (first|refine blk_drewN ?_ _|refine blk_drew ?_|refine blk_alloc ?_ _));exact BK272.out) hb);have n3_:=Aside0.mk (below_step (by repeat (first|(with_reducible first|exact HB.out|apply below_alloc|apply pw_below_drewN|apply below_drew1|refine below_set ?_ GE272.out)|exact HB.out)) hb);clear HO_6;clear BK272;clear HB;have HO_6:=n0_;have HO285:=n1_;have BK272:=n2_;have HB:=n3_;clear n0_ n1_ n2_ n3_;(try clear hb);(try clear hb2);(try clear hk);(try clear hi);(try clear ho0);obtain⟨Ao69,co69,eo69⟩:=Kd.R_slice HO_6.out;subst eo69;obtain⟨Ao70,co70,eo70⟩:=Kd.R_slice HO285.out;subst eo70)|((with_reducible refine gate_callee (f:=14) rfl ?_);refine goesL_ (some 50) rfl rfl Tryz.func14 (by kernel_rfl) rfl #[.slice Ao69 t277.length co69,.slice Ao70 t283.length co70] rfl (by (try simp only[List.map_toArray,List.map_cons,List.map_nil]);first|done|rfl|(simp only[List.length_drop,List.length_take];rfl)) ?_;(with_reducible refine(sluicegateref06_Ints.calls kj15 _ _ t277 _ _ t283 true _ ?side1 ?side2 ?side3 ?side4 A35.out).mono ?_);(case side1=>repeat (first|exact(Kd.R_reads' HO_6.out).2.2|(with_reducible refine Kd.C_alloc ?_ _)|(with_reducible refine Kd.C_drewN ?_ _)|(with_reducible refine Kd.C_drew ?_)));(case side2=>exact(Kd.R_reads' HO_6.out).2.1);(case side3=>repeat (first|exact(Kd.R_reads' HO285.out).2.2|(with_reducible refine Kd.C_alloc ?_ _)|(with_reducible refine Kd.C_drewN ?_ _)|(with_reducible refine Kd.C_drew ?_)));(case side4=>exact(Kd.R_reads' HO285.out).2.1);rintro e w' ⟨rfl,⟨nd,rfl⟩⟩;refine⟨_,rfl,?_⟩))
           go_ret
           exact⟨by first|rfl|(simp[errW_none,errW_some]<;>rfl)|(simp[*,errW_none,errW_some]<;>rfl),by repeat (first|(with_reducible first|exact HB.out|apply below_alloc|apply pw_below_drewN|apply below_drew1|refine below_set ?_ GE272.out)|exact HB.out)⟩
         ·rw[if_neg c54]at H
          have c54b0:(t280==2)=false:=beq_eq_false_iff_ne.mpr c54
          have c54b1:(t280 != 2)=true:=bne_iff_ne.mpr c54
          by_cases c71:t280=4
          ·rw[if_pos c71]at H
           have c71b0:(t280==4)=true:=beq_iff_eq.mpr c71
           have c71b1:(t280 != 4)=false:=bne_eq_false_iff_eq.mpr c71
           clear c71
           by_cases c72:t276.toList=([]:List UInt8)
           ·rw[if_pos c72]at H
            have c72b0:(t276.toList==([]:List UInt8))=true:=beq_iff_eq.mpr c72
            have c72b1:(t276.toList != ([]:List UInt8))=false:=bne_eq_false_iff_eq.mpr c72
            clear c72
            by_cases c73:(t277.length:Int)≤3
            ·rw[if_pos c73]at H
             have c73b0:decide ((t277.length:Int)≤3)=true:=decide_eq_true c73
             have c73b1:decide (t277.length≤3)=true:=decide_eq_true (by omega)
             clear c73
             replace H:=Option.bind_eq_some_iff.mp H
             obtain⟨t290,A740,H⟩:=H
             replace H:(some t290)=some r:=H
             have A74:=Aside0.mk A740
             clear A740
             obtain rfl:=Option.some.inj H
             have hcz75_0:wc.cell? ⟨gb272,0,none⟩=some (.int .i64 a0_0):=(blk_cell BK272.out 0).trans rfl
             have hcz75_1:wc.cell? ⟨gb272,1,none⟩=some (.int .i64 a0_1):=(blk_cell BK272.out 1).trans rfl
             have hcz75_2:wc.cell? ⟨gb272,2,none⟩=some (.int .i64 a0_2):=(blk_cell BK272.out 2).trans rfl
             have hcz75_3:wc.cell? ⟨gb272,3,none⟩=some (.slice A0_3 l0_3.length c0_3):=(blk_cell BK272.out 3).trans rfl
             have hfz75_0:=blk_frozen BK272.out 0
             have hfz75_1:=blk_frozen BK272.out 1
             have hfz75_2:=blk_frozen BK272.out 2
             have hfz75_3:=blk_frozen BK272.out 3
             go_wp2_with (first|((with_reducible refine gate_callee (f:=15) rfl ?_);refine goesL_ (some 49) rfl rfl Tryz.func15 (by kernel_rfl) rfl #[.agg #[.int .i64 a0_0,.int .i64 a0_1,.int .i64 a0_2,.slice A0_3 l0_3.length c0_3],.slice A1 l1.length c1] rfl (by (try simp only[List.map_toArray,List.map_cons,List.map_nil]);first|done|rfl|(simp only[List.length_drop,List.length_take];rfl)) ?_;(with_reducible refine(sluicegateref19_Bad.calls kj15 a0_0 a0_1 a0_2 _ _ l0_3 _ _ l1 t283 _ ?side1 ?side2 ?side3 ?side4 A34.out).mono ?_);(case side1=>repeat (first|exact(Kd.C_below HR0_3.out HB.out)|(with_reducible refine Kd.C_alloc ?_ _)|(with_reducible refine Kd.C_drewN ?_ _)|(with_reducible refine Kd.C_drew ?_)));(case side2=>exact HC0_3.out);(case side3=>repeat (first|exact(Kd.C_below HR1.out HB.out)|(with_reducible refine Kd.C_alloc ?_ _)|(with_reducible refine Kd.C_drewN ?_ _)|(with_reducible refine Kd.C_drew ?_)));(case side4=>exact HC1.out);rintro e w76 ⟨v284,rfl,ho0,hb⟩;refine⟨_,rfl,?_⟩;have n0_:=Aside0.mk (Kd.R_elder' (by (with_reducible repeat (first|apply Kd.R_alloc|apply Kd.R_drewN|apply Kd.R_drew));exact HO_6.out) (Kd.R_base ho0) hb);have n1_:=Aside0.mk (Kd.R_lower (Kd.R_new' ho0 (Kd.R_lt (by (with_reducible repeat (first|apply Kd.R_alloc|apply Kd.R_drewN|apply Kd.R_drew));exact HO_6.out))) (below_size (by repeat (first|(with_reducible first|exact HB.out|apply below_alloc|apply pw_below_drewN|apply below_drew1|refine below_set ?_ GE272.out)|exact HB.out))));have n2_:=Aside0.mk (blk_below (g:=gb272) (o:=.cells #[.int .i64 a0_0,.int .i64 a0_1,.int .i64 a0_2,.slice A0_3 l0_3.length c0_3] 24 (0,0)) (by (with_reducible repeat (first|refine blk_drewN ?_ _|refine blk_drew ?_|refine blk_alloc ?_ _));exact BK272.out) hb);have n3_:=Aside0.mk (below_step (by repeat (first|(with_reducible first|exact HB.out|apply below_alloc|apply pw_below_drewN|apply below_drew1|refine below_set ?_ GE272.out)|exact HB.out)) hb);clear HO_6;clear BK272;clear HB;have HO_6:=n0_;have HO285:=n1_;have BK272:=n2_;have HB:=n3_;clear n0_ n1_ n2_ n3_;(try clear hb);(try clear hb2);(try clear hk);(try clear hi);(try clear ho0);obtain⟨Ao77,co77,eo77⟩:=Kd.R_slice HO_6.out;subst eo77;obtain⟨Ao78,co78,eo78⟩:=Kd.R_slice HO285.out;subst eo78)|((with_reducible refine gate_callee (f:=14) rfl ?_);refine goesL_ (some 50) rfl rfl Tryz.func14 (by kernel_rfl) rfl #[.slice Ao77 t277.length co77,.slice Ao78 t283.length co78] rfl (by (try simp only[List.map_toArray,List.map_cons,List.map_nil]);first|done|rfl|(simp only[List.length_drop,List.length_take];rfl)) ?_;(with_reducible refine(sluicegateref06_Ints.calls kj15 _ _ t277 _ _ t283 true _ ?side1 ?side2 ?side3 ?side4 A35.out).mono ?_);(case side1=>repeat (first|exact(Kd.R_reads' HO_6.out).2.2|(with_reducible refine Kd.C_alloc ?_ _)|(with_reducible refine Kd.C_drewN ?_ _)|(with_reducible refine Kd.C_drew ?_)));(case side2=>exact(Kd.R_reads' HO_6.out).2.1);(case side3=>repeat (first|exact(Kd.R_reads' HO285.out).2.2|(with_reducible refine Kd.C_alloc ?_ _)|(with_reducible refine Kd.C_drewN ?_ _)|(with_reducible refine Kd.C_drew ?_)));(case side4=>exact(Kd.R_reads' HO285.out).2.1);rintro e w' ⟨rfl,⟨nd,rfl⟩⟩;refine⟨_,rfl,?_⟩)|(go_at_call 7;(with_reducible refine(sluicegatelaw19_live.calls  t290 _ A74.out).mono ?_);rintro e w79 ⟨rfl,hb⟩;have n0_:=Aside0.mk (Kd.R_below (by (with_reducible repeat (first|apply Kd.R_alloc|apply Kd.R_drewN|apply Kd.R_drew));exact HO_6.out) hb);have n1_:=Aside0.mk (Kd.R_below (by (with_reducible repeat (first|apply Kd.R_alloc|apply Kd.R_drewN|apply Kd.R_drew));exact HO285.out) hb);have n2_:=Aside0.mk (blk_below (g:=gb272) (o:=.cells #[.int .i64 a0_0,.int .i64 a0_1,.int .i64 a0_2,.slice A0_3 l0_3.length c0_3] 24 (0,0)) (by (with_reducible repeat (first|refine blk_drewN ?_ _|refine blk_drew ?_|refine blk_alloc ?_ _));exact BK272.out) hb);have n3_:=Aside0.mk (below_step (by repeat (first|(with_reducible first|exact HB.out|apply below_alloc|apply pw_below_drewN|apply below_drew1|refine below_set ?_ GE272.out)|exact HB.out)) hb);clear HO_6;clear HO285;clear BK272;clear HB;have HO_6:=n0_;have HO285:=n1_;have BK272:=n2_;have HB:=n3_;clear n0_ n1_ n2_ n3_;(try clear hb);(try clear hb2);(try clear hk);(try clear hi)))
             go_ret
             exact⟨by first|rfl|(simp[errW_none,errW_some]<;>rfl)|(simp[*,errW_none,errW_some]<;>rfl),by repeat (first|(with_reducible first|exact HB.out|apply below_alloc|apply pw_below_drewN|apply below_drew1|refine below_set ?_ GE272.out)|exact HB.out)⟩
            ·rw[if_neg c73]at H
             have c73b0:decide ((t277.length:Int)≤3)=false:=decide_eq_false c73
             have c73b1:decide (t277.length≤3)=false:=decide_eq_false (by omega)
             clear c73
             obtain rfl:=Option.some.inj H
             have hcz80_0:wc.cell? ⟨gb272,0,none⟩=some (.int .i64 a0_0):=(blk_cell BK272.out 0).trans rfl
             have hcz80_1:wc.cell? ⟨gb272,1,none⟩=some (.int .i64 a0_1):=(blk_cell BK272.out 1).trans rfl
             have hcz80_2:wc.cell? ⟨gb272,2,none⟩=some (.int .i64 a0_2):=(blk_cell BK272.out 2).trans rfl
             have hcz80_3:wc.cell? ⟨gb272,3,none⟩=some (.slice A0_3 l0_3.length c0_3):=(blk_cell BK272.out 3).trans rfl
             have hfz80_0:=blk_frozen BK272.out 0
             have hfz80_1:=blk_frozen BK272.out 1
             have hfz80_2:=blk_frozen BK272.out 2
             have hfz80_3:=blk_frozen BK272.out 3
             go_wp2_with (first|((with_reducible refine gate_callee (f:=15) rfl ?_);refine goesL_ (some 49) rfl rfl Tryz.func15 (by kernel_rfl) rfl #[.agg #[.int .i64 a0_0,.int .i64 a0_1,.int .i64 a0_2,.slice A0_3 l0_3.length c0_3],.slice A1 l1.length c1] rfl (by (try simp only[List.map_toArray,List.map_cons,List.map_nil]);first|done|rfl|(simp only[List.length_drop,List.length_take];rfl)) ?_;(with_reducible refine(sluicegateref19_Bad.calls kj15 a0_0 a0_1 a0_2 _ _ l0_3 _ _ l1 t283 _ ?side1 ?side2 ?side3 ?side4 A34.out).mono ?_);(case side1=>repeat (first|exact(Kd.C_below HR0_3.out HB.out)|(with_reducible refine Kd.C_alloc ?_ _)|(with_reducible refine Kd.C_drewN ?_ _)|(with_reducible refine Kd.C_drew ?_)));(case side2=>exact HC0_3.out);(case side3=>repeat (first|exact(Kd.C_below HR1.out HB.out)|(with_reducible refine Kd.C_alloc ?_ _)|(with_reducible refine Kd.C_drewN ?_ _)|(with_reducible refine Kd.C_drew ?_)));(case side4=>exact HC1.out);rintro e w81 ⟨v284,rfl,ho0,hb⟩;refine⟨_,rfl,?_⟩;have n0_:=Aside0.mk (Kd.R_elder' (by (with_reducible repeat (first|apply Kd.R_alloc|apply Kd.R_drewN|apply Kd.R_drew));exact HO_6.out) (Kd.R_base ho0) hb);have n1_:=Aside0.mk (Kd.R_lower (Kd.R_new' ho0 (Kd.R_lt (by (with_reducible repeat (first|apply Kd.R_alloc|apply Kd.R_drewN|apply Kd.R_drew));exact HO_6.out))) (below_size (by repeat (first|(with_reducible first|exact HB.out|apply below_alloc|apply pw_below_drewN|apply below_drew1|refine below_set ?_ GE272.out)|exact HB.out))));have n2_:=Aside0.mk (blk_below (g:=gb272) (o:=.cells #[.int .i64 a0_0,.int .i64 a0_1,.int .i64 a0_2,.slice A0_3 l0_3.length c0_3] 24 (0,0)) (by (with_reducible repeat (first|refine blk_drewN ?_ _|refine blk_drew ?_|refine blk_alloc ?_ _));exact BK272.out) hb);have n3_:=Aside0.mk (below_step (by repeat (first|(with_reducible first|exact HB.out|apply below_alloc|apply pw_below_drewN|apply below_drew1|refine below_set ?_ GE272.out)|exact HB.out)) hb);clear HO_6;clear BK272;clear HB;have HO_6:=n0_;have HO285:=n1_;have BK272:=n2_;have HB:=n3_;clear n0_ n1_ n2_ n3_;(try clear hb);(try clear hb2);(try clear hk);(try clear hi);(try clear ho0);obtain⟨Ao82,co82,eo82⟩:=Kd.R_slice HO_6.out;subst eo82;obtain⟨Ao83,co83,eo83⟩:=Kd.R_slice HO285.out;subst eo83)|((with_reducible refine gate_callee (f:=14) rfl ?_);refine goesL_ (some 50) rfl rfl Tryz.func14 (by kernel_rfl) rfl #[.slice Ao82 t277.length co82,.slice Ao83 t283.length co83] rfl (by (try simp only[List.map_toArray,List.map_cons,List.map_nil]);first|done|rfl|(simp only[List.length_drop,List.length_take];rfl)) ?_;(with_reducible refine(sluicegateref06_Ints.calls kj15 _ _ t277 _ _ t283 true _ ?side1 ?side2 ?side3 ?side4 A35.out).mono ?_);(case side1=>repeat (first|exact(Kd.R_reads' HO_6.out).2.2|(with_reducible refine Kd.C_alloc ?_ _)|(with_reducible refine Kd.C_drewN ?_ _)|(with_reducible refine Kd.C_drew ?_)));(case side2=>exact(Kd.R_reads' HO_6.out).2.1);(case side3=>repeat (first|exact(Kd.R_reads' HO285.out).2.2|(with_reducible refine Kd.C_alloc ?_ _)|(with_reducible refine Kd.C_drewN ?_ _)|(with_reducible refine Kd.C_drew ?_)));(case side4=>exact(Kd.R_reads' HO285.out).2.1);rintro e w' ⟨rfl,⟨nd,rfl⟩⟩;refine⟨_,rfl,?_⟩))
             go_ret
             exact⟨by first|rfl|(simp[errW_none,errW_some]<;>rfl)|(simp[*,errW_none,errW_some]<;>rfl),by repeat (first|(with_reducible first|exact HB.out|apply below_alloc|apply pw_below_drewN|apply below_drew1|refine below_set ?_ GE272.out)|exact HB.out)⟩
           ·rw[if_neg c72]at H
            have c72b0:(t276.toList==([]:List UInt8))=false:=beq_eq_false_iff_ne.mpr c72
            have c72b1:(t276.toList != ([]:List UInt8))=true:=bne_iff_ne.mpr c72
            obtain rfl:=Option.some.inj H
            have hcz84_0:wc.cell? ⟨gb272,0,none⟩=some (.int .i64 a0_0):=(blk_cell BK272.out 0).trans rfl
            have hcz84_1:wc.cell? ⟨gb272,1,none⟩=some (.int .i64 a0_1):=(blk_cell BK272.out 1).trans rfl
            have hcz84_2:wc.cell? ⟨gb272,2,none⟩=some (.int .i64 a0_2):=(blk_cell BK272.out 2).trans rfl
            have hcz84_3:wc.cell? ⟨gb272,3,none⟩=some (.slice A0_3 l0_3.length c0_3):=(blk_cell BK272.out 3).trans rfl
            have hfz84_0:=blk_frozen BK272.out 0
            have hfz84_1:=blk_frozen BK272.out 1
            have hfz84_2:=blk_frozen BK272.out 2
            have hfz84_3:=blk_frozen BK272.out 3
            go_wp2_with (first|((with_reducible refine gate_callee (f:=15) rfl ?_);refine goesL_ (some 49) rfl rfl Tryz.func15 (by kernel_rfl) rfl #[.agg #[.int .i64 a0_0,.int .i64 a0_1,.int .i64 a0_2,.slice A0_3 l0_3.length c0_3],.slice A1 l1.length c1] rfl (by (try simp only[List.map_toArray,List.map_cons,List.map_nil]);first|done|rfl|(simp only[List.length_drop,List.length_take];rfl)) ?_;(with_reducible refine(sluicegateref19_Bad.calls kj15 a0_0 a0_1 a0_2 _ _ l0_3 _ _ l1 t283 _ ?side1 ?side2 ?side3 ?side4 A34.out).mono ?_);(case side1=>repeat (first|exact(Kd.C_below HR0_3.out HB.out)|(with_reducible refine Kd.C_alloc ?_ _)|(with_reducible refine Kd.C_drewN ?_ _)|(with_reducible refine Kd.C_drew ?_)));(case side2=>exact HC0_3.out);(case side3=>repeat (first|exact(Kd.C_below HR1.out HB.out)|(with_reducible refine Kd.C_alloc ?_ _)|(with_reducible refine Kd.C_drewN ?_ _)|(with_reducible refine Kd.C_drew ?_)));(case side4=>exact HC1.out);rintro e w85 ⟨v284,rfl,ho0,hb⟩;refine⟨_,rfl,?_⟩;have n0_:=Aside0.mk (Kd.R_elder' (by (with_reducible repeat (first|apply Kd.R_alloc|apply Kd.R_drewN|apply Kd.R_drew));exact HO_6.out) (Kd.R_base ho0) hb);have n1_:=Aside0.mk (Kd.R_lower (Kd.R_new' ho0 (Kd.R_lt (by (with_reducible repeat (first|apply Kd.R_alloc|apply Kd.R_drewN|apply Kd.R_drew));exact HO_6.out))) (below_size (by repeat (first|(with_reducible first|exact HB.out|apply below_alloc|apply pw_below_drewN|apply below_drew1|refine below_set ?_ GE272.out)|exact HB.out))));have n2_:=Aside0.mk (blk_below (g:=gb272) (o:=.cells #[.int .i64 a0_0,.int .i64 a0_1,.int .i64 a0_2,.slice A0_3 l0_3.length c0_3] 24 (0,0)) (by (with_reducible repeat (first|refine blk_drewN ?_ _|refine blk_drew ?_|refine blk_alloc ?_ _));exact BK272.out) hb);have n3_:=Aside0.mk (below_step (by repeat (first|(with_reducible first|exact HB.out|apply below_alloc|apply pw_below_drewN|apply below_drew1|refine below_set ?_ GE272.out)|exact HB.out)) hb);clear HO_6;clear BK272;clear HB;have HO_6:=n0_;have HO285:=n1_;have BK272:=n2_;have HB:=n3_;clear n0_ n1_ n2_ n3_;(try clear hb);(try clear hb2);(try clear hk);(try clear hi);(try clear ho0);obtain⟨Ao86,co86,eo86⟩:=Kd.R_slice HO_6.out;subst eo86;obtain⟨Ao87,co87,eo87⟩:=Kd.R_slice HO285.out;subst eo87)|((with_reducible refine gate_callee (f:=14) rfl ?_);refine goesL_ (some 50) rfl rfl Tryz.func14 (by kernel_rfl) rfl #[.slice Ao86 t277.length co86,.slice Ao87 t283.length co87] rfl (by (try simp only[List.map_toArray,List.map_cons,List.map_nil]);first|done|rfl|(simp only[List.length_drop,List.length_take];rfl)) ?_;(with_reducible refine(sluicegateref06_Ints.calls kj15 _ _ t277 _ _ t283 true _ ?side1 ?side2 ?side3 ?side4 A35.out).mono ?_);(case side1=>repeat (first|exact(Kd.R_reads' HO_6.out).2.2|(with_reducible refine Kd.C_alloc ?_ _)|(with_reducible refine Kd.C_drewN ?_ _)|(with_reducible refine Kd.C_drew ?_)));(case side2=>exact(Kd.R_reads' HO_6.out).2.1);(case side3=>repeat (first|exact(Kd.R_reads' HO285.out).2.2|(with_reducible refine Kd.C_alloc ?_ _)|(with_reducible refine Kd.C_drewN ?_ _)|(with_reducible refine Kd.C_drew ?_)));(case side4=>exact(Kd.R_reads' HO285.out).2.1);rintro e w' ⟨rfl,⟨nd,rfl⟩⟩;refine⟨_,rfl,?_⟩))
            go_ret
            exact⟨by first|rfl|(simp[errW_none,errW_some]<;>rfl)|(simp[*,errW_none,errW_some]<;>rfl),by repeat (first|(with_reducible first|exact HB.out|apply below_alloc|apply pw_below_drewN|apply below_drew1|refine below_set ?_ GE272.out)|exact HB.out)⟩
          ·rw[if_neg c71]at H
           have c71b0:(t280==4)=false:=beq_eq_false_iff_ne.mpr c71
           have c71b1:(t280 != 4)=true:=bne_iff_ne.mpr c71
           obtain rfl:=Option.some.inj H
           have hcz88_0:wc.cell? ⟨gb272,0,none⟩=some (.int .i64 a0_0):=(blk_cell BK272.out 0).trans rfl
           have hcz88_1:wc.cell? ⟨gb272,1,none⟩=some (.int .i64 a0_1):=(blk_cell BK272.out 1).trans rfl
           have hcz88_2:wc.cell? ⟨gb272,2,none⟩=some (.int .i64 a0_2):=(blk_cell BK272.out 2).trans rfl
           have hcz88_3:wc.cell? ⟨gb272,3,none⟩=some (.slice A0_3 l0_3.length c0_3):=(blk_cell BK272.out 3).trans rfl
           have hfz88_0:=blk_frozen BK272.out 0
           have hfz88_1:=blk_frozen BK272.out 1
           have hfz88_2:=blk_frozen BK272.out 2
           have hfz88_3:=blk_frozen BK272.out 3
           go_wp2_with (first|((with_reducible refine gate_callee (f:=15) rfl ?_);refine goesL_ (some 49) rfl rfl Tryz.func15 (by kernel_rfl) rfl #[.agg #[.int .i64 a0_0,.int .i64 a0_1,.int .i64 a0_2,.slice A0_3 l0_3.length c0_3],.slice A1 l1.length c1] rfl (by (try simp only[List.map_toArray,List.map_cons,List.map_nil]);first|done|rfl|(simp only[List.length_drop,List.length_take];rfl)) ?_;(with_reducible refine(sluicegateref19_Bad.calls kj15 a0_0 a0_1 a0_2 _ _ l0_3 _ _ l1 t283 _ ?side1 ?side2 ?side3 ?side4 A34.out).mono ?_);(case side1=>repeat (first|exact(Kd.C_below HR0_3.out HB.out)|(with_reducible refine Kd.C_alloc ?_ _)|(with_reducible refine Kd.C_drewN ?_ _)|(with_reducible refine Kd.C_drew ?_)));(case side2=>exact HC0_3.out);(case side3=>repeat (first|exact(Kd.C_below HR1.out HB.out)|(with_reducible refine Kd.C_alloc ?_ _)|(with_reducible refine Kd.C_drewN ?_ _)|(with_reducible refine Kd.C_drew ?_)));(case side4=>exact HC1.out);rintro e w89 ⟨v284,rfl,ho0,hb⟩;refine⟨_,rfl,?_⟩;have n0_:=Aside0.mk (Kd.R_elder' (by (with_reducible repeat (first|apply Kd.R_alloc|apply Kd.R_drewN|apply Kd.R_drew));exact HO_6.out) (Kd.R_base ho0) hb);have n1_:=Aside0.mk (Kd.R_lower (Kd.R_new' ho0 (Kd.R_lt (by (with_reducible repeat (first|apply Kd.R_alloc|apply Kd.R_drewN|apply Kd.R_drew));exact HO_6.out))) (below_size (by repeat (first|(with_reducible first|exact HB.out|apply below_alloc|apply pw_below_drewN|apply below_drew1|refine below_set ?_ GE272.out)|exact HB.out))));have n2_:=Aside0.mk (blk_below (g:=gb272) (o:=.cells #[.int .i64 a0_0,.int .i64 a0_1,.int .i64 a0_2,.slice A0_3 l0_3.length c0_3] 24 (0,0)) (by (with_reducible repeat (first|refine blk_drewN ?_ _|refine blk_drew ?_|refine blk_alloc ?_ _));exact BK272.out) hb);have n3_:=Aside0.mk (below_step (by repeat (first|(with_reducible first|exact HB.out|apply below_alloc|apply pw_below_drewN|apply below_drew1|refine below_set ?_ GE272.out)|exact HB.out)) hb);clear HO_6;clear BK272;clear HB;have HO_6:=n0_;have HO285:=n1_;have BK272:=n2_;have HB:=n3_;clear n0_ n1_ n2_ n3_;(try clear hb);(try clear hb2);(try clear hk);(try clear hi);(try clear ho0);obtain⟨Ao90,co90,eo90⟩:=Kd.R_slice HO_6.out;subst eo90;obtain⟨Ao91,co91,eo91⟩:=Kd.R_slice HO285.out;subst eo91)|((with_reducible refine gate_callee (f:=14) rfl ?_);refine goesL_ (some 50) rfl rfl Tryz.func14 (by kernel_rfl) rfl #[.slice Ao90 t277.length co90,.slice Ao91 t283.length co91] rfl (by (try simp only[List.map_toArray,List.map_cons,List.map_nil]);first|done|rfl|(simp only[List.length_drop,List.length_take];rfl)) ?_;(with_reducible refine(sluicegateref06_Ints.calls kj15 _ _ t277 _ _ t283 true _ ?side1 ?side2 ?side3 ?side4 A35.out).mono ?_);(case side1=>repeat (first|exact(Kd.R_reads' HO_6.out).2.2|(with_reducible refine Kd.C_alloc ?_ _)|(with_reducible refine Kd.C_drewN ?_ _)|(with_reducible refine Kd.C_drew ?_)));(case side2=>exact(Kd.R_reads' HO_6.out).2.1);(case side3=>repeat (first|exact(Kd.R_reads' HO285.out).2.2|(with_reducible refine Kd.C_alloc ?_ _)|(with_reducible refine Kd.C_drewN ?_ _)|(with_reducible refine Kd.C_drew ?_)));(case side4=>exact(Kd.R_reads' HO285.out).2.1);rintro e w' ⟨rfl,⟨nd,rfl⟩⟩;refine⟨_,rfl,?_⟩))
           go_ret
           exact⟨by first|rfl|(simp[errW_none,errW_some]<;>rfl)|(simp[*,errW_none,errW_some]<;>rfl),by repeat (first|(with_reducible first|exact HB.out|apply below_alloc|apply pw_below_drewN|apply below_drew1|refine below_set ?_ GE272.out)|exact HB.out)⟩
       ·replace c36:=Bool.eq_false_iff.mpr c36
        subst c36
        have H1:(some false)=some r:=by rw[if_neg (show ¬ (false=true)by decide)]at H;exact H
        clear H
        have H:=H1
        clear H1
        obtain rfl:=Option.some.inj H
        have hcz92_0:wc.cell? ⟨gb272,0,none⟩=some (.int .i64 a0_0):=(blk_cell BK272.out 0).trans rfl
        have hcz92_1:wc.cell? ⟨gb272,1,none⟩=some (.int .i64 a0_1):=(blk_cell BK272.out 1).trans rfl
        have hcz92_2:wc.cell? ⟨gb272,2,none⟩=some (.int .i64 a0_2):=(blk_cell BK272.out 2).trans rfl
        have hcz92_3:wc.cell? ⟨gb272,3,none⟩=some (.slice A0_3 l0_3.length c0_3):=(blk_cell BK272.out 3).trans rfl
        have hfz92_0:=blk_frozen BK272.out 0
        have hfz92_1:=blk_frozen BK272.out 1
        have hfz92_2:=blk_frozen BK272.out 2
        have hfz92_3:=blk_frozen BK272.out 3
        go_wp2_with (first|((with_reducible refine gate_callee (f:=15) rfl ?_);refine goesL_ (some 49) rfl rfl Tryz.func15 (by kernel_rfl) rfl #[.agg #[.int .i64 a0_0,.int .i64 a0_1,.int .i64 a0_2,.slice A0_3 l0_3.length c0_3],.slice A1 l1.length c1] rfl (by (try simp only[List.map_toArray,List.map_cons,List.map_nil]);first|done|rfl|(simp only[List.length_drop,List.length_take];rfl)) ?_;(with_reducible refine(sluicegateref19_Bad.calls kj15 a0_0 a0_1 a0_2 _ _ l0_3 _ _ l1 t283 _ ?side1 ?side2 ?side3 ?side4 A34.out).mono ?_);(case side1=>repeat (first|exact(Kd.C_below HR0_3.out HB.out)|(with_reducible refine Kd.C_alloc ?_ _)|(with_reducible refine Kd.C_drewN ?_ _)|(with_reducible refine Kd.C_drew ?_)));(case side2=>exact HC0_3.out);(case side3=>repeat (first|exact(Kd.C_below HR1.out HB.out)|(with_reducible refine Kd.C_alloc ?_ _)|(with_reducible refine Kd.C_drewN ?_ _)|(with_reducible refine Kd.C_drew ?_)));(case side4=>exact HC1.out);rintro e w93 ⟨v284,rfl,ho0,hb⟩;refine⟨_,rfl,?_⟩;have n0_:=Aside0.mk (Kd.R_elder' (by (with_reducible repeat (first|apply Kd.R_alloc|apply Kd.R_drewN|apply Kd.R_drew));exact HO_6.out) (Kd.R_base ho0) hb);have n1_:=Aside0.mk (Kd.R_lower (Kd.R_new' ho0 (Kd.R_lt (by (with_reducible repeat (first|apply Kd.R_alloc|apply Kd.R_drewN|apply Kd.R_drew));exact HO_6.out))) (below_size (by repeat (first|(with_reducible first|exact HB.out|apply below_alloc|apply pw_below_drewN|apply below_drew1|refine below_set ?_ GE272.out)|exact HB.out))));have n2_:=Aside0.mk (blk_below (g:=gb272) (o:=.cells #[.int .i64 a0_0,.int .i64 a0_1,.int .i64 a0_2,.slice A0_3 l0_3.length c0_3] 24 (0,0)) (by (with_reducible repeat (first|refine blk_drewN ?_ _|refine blk_drew ?_|refine blk_alloc ?_ _));exact BK272.out) hb);have n3_:=Aside0.mk (below_step (by repeat (first|(with_reducible first|exact HB.out|apply below_alloc|apply pw_below_drewN|apply below_drew1|refine below_set ?_ GE272.out)|exact HB.out)) hb);clear HO_6;clear BK272;clear HB;have HO_6:=n0_;have HO285:=n1_;have BK272:=n2_;have HB:=n3_;clear n0_ n1_ n2_ n3_;(try clear hb);(try clear hb2);(try clear hk);(try clear hi);(try clear ho0);obtain⟨Ao94,co94,eo94⟩:=Kd.R_slice HO_6.out;subst eo94;obtain⟨Ao95,co95,eo95⟩:=Kd.R_slice HO285.out;subst eo95)|((with_reducible refine gate_callee (f:=14) rfl ?_);refine goesL_ (some 50) rfl rfl Tryz.func14 (by kernel_rfl) rfl #[.slice Ao94 t277.length co94,.slice Ao95 t283.length co95] rfl (by (try simp only[List.map_toArray,List.map_cons,List.map_nil]);first|done|rfl|(simp only[List.length_drop,List.length_take];rfl)) ?_;(with_reducible refine(sluicegateref06_Ints.calls kj15 _ _ t277 _ _ t283 false _ ?side1 ?side2 ?side3 ?side4 A35.out).mono ?_);(case side1=>repeat (first|exact(Kd.R_reads' HO_6.out).2.2|(with_reducible refine Kd.C_alloc ?_ _)|(with_reducible refine Kd.C_drewN ?_ _)|(with_reducible refine Kd.C_drew ?_)));(case side2=>exact(Kd.R_reads' HO_6.out).2.1);(case side3=>repeat (first|exact(Kd.R_reads' HO285.out).2.2|(with_reducible refine Kd.C_alloc ?_ _)|(with_reducible refine Kd.C_drewN ?_ _)|(with_reducible refine Kd.C_drew ?_)));(case side4=>exact(Kd.R_reads' HO285.out).2.1);rintro e w' ⟨rfl,⟨nd,rfl⟩⟩;refine⟨_,rfl,?_⟩))
        go_ret
        exact⟨by first|rfl|(simp[errW_none,errW_some]<;>rfl)|(simp[*,errW_none,errW_some]<;>rfl),by repeat (first|(with_reducible first|exact HB.out|apply below_alloc|apply pw_below_drewN|apply below_drew1|refine below_set ?_ GE272.out)|exact HB.out)⟩
end Go.Proofs.YtdcfonmjbelgbaaGreatDoor.Q
end
section
namespace Go.Proofs.YtdcfonmjbelgbaaGreatDoor
open Go.RowKit Q YtdcfonmjbelgbaaGreatDoorW.PrintWords YtdcfonmjbelgbaaGreatDoorW.PrintLast YtdcfonmjbelgbaaGreatDoorW.PrintMore
theorem snb_zeros (n:Nat):nb (List.replicate n 0)=List.replicate n 0:=by
 unfold nb
 rw[List.map_replicate]
 rfl
theorem sw64 (i:Nat) (hi:i<6):wrap64 (64*(i:Int))=((64*i:Nat):Int)∧wrap64 (((64*i:Nat):Int)+64)=((64*i+64:Nat):Int):=by
 unfold wrap64
 omega
theorem srsh_loop (s:List UInt8) (hs:s.length≤384) : ∀ (d i k:Nat),6-i=d→i≤6→d<k→sluicegateref08_Shards.l0 k (B (padN s)) ((List.range i).map (partN s)) (i:Int)=some ((List.range 6).map (partN s),0):=by
 intro d
 have hl:=padN_len s hs
 induction d with
 | zero=>
  intro i k hd hi hk
  obtain⟨k,rfl⟩ : ∃ j,k=j+1:=⟨k-1,by omega⟩
  obtain rfl:i=6:=by omega
  simp only[sluicegateref08_Shards.l0]
  rfl
 | succ d ih=>
  intro i k hd hi hk
  obtain⟨k,rfl⟩ : ∃ j,k=j+1:=⟨k-1,by omega⟩
  obtain⟨w1,w2⟩:=sw64 i (by omega)
  simp only[sluicegateref08_Shards.l0]
  rw[w1,w2,if_pos (by omega),if_pos (by omega),if_pos (by omega),if_pos (by rw[B_size,hl];omega),if_pos (by rw[List.length_map,List.length_range];omega),nwrap_k i (by omega),Int.toNat_natCast,Int.toNat_natCast,B_extract]
  have e:(List.range i).map (partN s)++[B (((padN s).drop (64*i)).take (64*i+64-64*i))]=(List.range (i+1)).map (partN s):=by
   rw[show 64*i+64-64*i=64 by omega,List.range_succ,List.map_append]
   rfl
  rw[e]
  exact ih (i+1) k (by omega) (by omega) (by omega)
theorem srsh_f (s:List UInt8) (hs:s.length≤384) (k:Nat) (hk:6<k):sluicegateref08_Shards.f k (B s)=some (partsN s,0):=by
 unfold sluicegateref08_Shards.f
 have hw:wrap64 (384-(s.length:Int))=((384-s.length:Nat):Int):=by unfold wrap64;omega
 have hz:strOfNums (List.replicate (384-s.length) 0)=B (List.replicate (384-s.length) 0):=by rw[←snb_zeros,strOfNums_nb]
 rw[B_size,if_neg (by omega),hw,if_pos (by omega),Int.toNat_natCast,if_pos (by omega),Option.bind_some,hz,if_pos (by rw[B_size,List.length_replicate];omega),B_append]
 exact srsh_loop s hs 6 0 k rfl (by omega) hk
theorem rsect_l0 (id gen len:Int) (l:List LocS) (h9:l.length=9) (d:List ByteArray) : ∀ (m k K:Nat),9-k=m→k≤9→m<K→sluicegateref19_Sectors.l0 K (encL d) (secK id gen l d k) (k:Int) id gen len l=some (secK id gen l d 9,0):=by
 intro m
 induction m with
 | zero=>
  intro k K hd hk hK
  obtain⟨K,rfl⟩ : ∃ j,K=j+1:=⟨K-1,by omega⟩
  obtain rfl:k=9:=by omega
  rw[sluicegateref19_Sectors.l0]
  rw[if_neg (by omega)]
 | succ m ih=>
  intro k K hd hk hK
  obtain⟨K,rfl⟩ : ∃ j,K=j+1:=⟨K-1,by omega⟩
  have hl:=encL_len d
  have hw : ∀ x,sluicegateref07_Write.f id gen (k:Int) (rd_T59 l (k:Int)).f0 (rd_T59 l (k:Int)).f1 x=some (secW id gen (k:Int) (rd_T59 l (k:Int)).f0 (rd_T59 l (k:Int)).f1 x):=fun x=>rfl
  rw[sluicegateref19_Sectors.l0]
  rw[if_pos (by omega),if_pos (by omega),if_pos (by omega),if_pos (by omega),rdOf_str (encL d) k (by omega),hw,Option.bind_some,if_pos (by rw[secK_len];omega),wrap_k k (by omega)]
  have e:secK id gen l d k++[(secW id gen (k:Int) (rd_T59 l (k:Int)).f0 (rd_T59 l (k:Int)).f1 (strAt (encL d) k)).1]=secK id gen l d (k+1):=secK_succ id gen l d k
  rw[e]
  exact ih (k+1) K (by omega) (by omega) (by omega)
theorem rsect_f (id gen len:Int) (l:List LocS) (t:List UInt8) (K:Nat) (hK:2000≤K):sluicegateref19_Sectors.f K id gen len l (B t)=some (sectR id gen len l (B t)):=by
 obtain⟨K,rfl⟩ : ∃ j,K=j+1:=⟨K-1,by omega⟩
 have hJ:sluicegateref19_Sectors.j0 (K+1) (B t) true id gen len l=some ([],1):=by
  rw[sluicegateref19_Sectors.j0]
  rw[if_pos rfl]
 unfold sluicegateref19_Sectors.f sectR
 rw[vrvol_f id gen len l (K+1) (by omega),Option.bind_some]
 cases hv:volP id gen len l with
 | false=>rw[if_neg (by simp),hJ,if_neg (by simp)]
 | true=>
  rw[if_pos rfl]
  by_cases hs:((B t).size:Int)=len
  ·have hne:(((B t).size:Int) != len)=false:=by rw[hs];simp
   have h4:t.length≤384:=by have:=(volP_len hv).1;rw[B_size]at hs;omega
   have h9:=(volP_len hv).2.2
   rw[hne,if_pos ⟨rfl,hs⟩,sluicegateref19_Sectors.j0]
   rw[if_neg (by simp),srsh_f t h4 K (by omega),Option.bind_some]
   have he:=enc_f (partsN t) (by rw[parts_len];decide) (by rw[parts_wid t h4];decide) K (by rw[parts_wid t h4,parts_len];omega)
   have hr:encR (partsN t)=(encL (partsN t),0):=by
    unfold encR
    rw[if_pos ⟨parts_len t,parts_even t h4⟩]
   rw[hr]at he
   simp only
   rw[he,Option.bind_some,B_data]
   exact rsect_l0 id gen len l h9 (partsN t) 9 0 K rfl (by omega) (by omega)
  ·have hne:(((B t).size:Int) != len)=true:=by rw[bne_iff_ne];exact hs
   rw[hne,hJ,if_neg (fun h=>hs h.2)]
theorem rgood_f (id gen len:Int) (l:List LocS) (h9:l.length=9) (i:Nat) (hi:i<9) (s:ByteArray) (hs:s.size≤140737488355328):sluicegateref19_Good.f id gen len l (i:Int) s=some (goodR id gen l (i:Int) s).2:=by
 unfold sluicegateref19_Good.f sluicegateref07_Mine.f
 rw[if_pos (by omega),if_pos hs,Option.bind_some]
 unfold goodR
 split<;>rfl
def badX (id gen:Int) (l:List LocS) (xs:List ByteArray) (k:Nat):List Int:=((List.range k).filter fun i=> !hvF id gen l xs i).map fun i:Nat=>(i:Int)
theorem badX_succ (id gen:Int) (l:List LocS) (xs:List ByteArray) (k:Nat):badX id gen l xs (k+1)=if hvF id gen l xs k=true then badX id gen l xs k else badX id gen l xs k++[(k:Int)]:=by
 unfold badX
 rw[List.range_succ,List.filter_append,List.map_append]
 simp only[List.filter_cons,List.filter_nil]
 cases hvF id gen l xs k
 ·rfl
 ·exact List.append_nil _
theorem badX_len (id gen:Int) (l:List LocS) (xs:List ByteArray) (k:Nat):(badX id gen l xs k).length≤k:=by
 unfold badX
 rw[List.length_map]
 have h:=List.length_filter_le (fun i=> !hvF id gen l xs i) (List.range k)
 rwa [List.length_range]at h
theorem badX_nine (id gen:Int) (l:List LocS) (xs:List ByteArray):badX id gen l xs 9=badN (hvL id gen l xs) 9:=by
 unfold badX badN
 congr 1
theorem rbad_l0 (id gen len:Int) (l:List LocS) (h9:l.length=9) (xs:List ByteArray) (hx:xs.length≤9) (hz : ∀ s∈xs,s.size≤140737488355328) : ∀ (d k K:Nat),xs.length-k=d→k≤xs.length→d<K→sluicegateref19_Bad.l0 K xs (badX id gen l xs k) (k:Int) id gen len l=some (badX id gen l xs xs.length):=by
 intro d
 induction d with
 | zero=>
  intro k K hd hk hK
  obtain⟨K,rfl⟩ : ∃ j,K=j+1:=⟨K-1,by omega⟩
  obtain rfl:k=xs.length:=by omega
  rw[sluicegateref19_Bad.l0]
  rw[if_neg (by omega)]
 | succ d ih=>
  intro k K hd hk hK
  obtain⟨K,rfl⟩ : ∃ j,K=j+1:=⟨K-1,by omega⟩
  have hk9:k<xs.length:=by omega
  have hg:=rgood_f id gen len l h9 k (by omega) (strAt xs k) (by rw[strAt_eq hk9];exact hz _ (List.getElem_mem _))
  have hb:=badX_succ id gen l xs k
  have hbl:=badX_len id gen l xs k
  rw[sluicegateref19_Bad.l0]
  rw[if_pos (by omega),if_pos (by omega),rdOf_str xs k hk9,hg,Option.bind_some,wrap_k k (by omega)]
  show (if hvF id gen l xs k=true then _ else _)=_
  cases hq:hvF id gen l xs k with
  | true=>
   rw[hq,if_pos rfl]at hb
   rw[if_pos rfl,←hb]
   exact ih (k+1) K (by omega) (by omega) (by omega)
  | false=>
   rw[hq,if_neg (by simp)]at hb
   rw[if_neg (by simp),if_pos (by omega),←hb]
   exact ih (k+1) K (by omega) (by omega) (by omega)
theorem rbad_f (id gen len:Int) (l:List LocS) (h9:l.length=9) (xs:List ByteArray) (hx:xs.length≤9) (hz : ∀ s∈xs,s.size≤140737488355328) (K:Nat) (hK:20≤K):sluicegateref19_Bad.f K id gen len l xs=some (badX id gen l xs xs.length):=by
 unfold sluicegateref19_Bad.f
 exact rbad_l0 id gen len l h9 xs hx hz xs.length 0 K rfl (Nat.zero_le _) (by omega)
def idxG (g:Nat→Bool) (k:Nat):List Nat:=(List.range k).filter g
theorem idxG_succ (g:Nat→Bool) (k:Nat):idxG g (k+1)=idxG g k++if g k=true then [k]else []:=by
 unfold idxG
 rw[List.range_succ,List.filter_append,List.filter_cons,List.filter_nil]
theorem idxG_pre (g:Nat→Bool) (k:Nat) : ∀ n,k≤n → ∃ r,idxG g n=idxG g k++r:=by
 intro n
 induction n with
 | zero=>
  intro h
  obtain rfl:k=0:=by omega
  exact⟨[],(List.append_nil _).symm⟩
 | succ n ih=>
  intro h
  rcases Nat.lt_or_ge k (n+1)with h1|h1
  ·obtain⟨r,hr⟩:=ih (by omega)
   exact⟨r++if g n=true then [n]else [],by rw[idxG_succ,hr,List.append_assoc]⟩
  ·obtain rfl:k=n+1:=by omega
   exact⟨[],(List.append_nil _).symm⟩
theorem ragr_l0 (id gen len:Int) (l:List LocS) (h9:l.length=9) (xs L:List ByteArray) (hx:xs.length≤9) (hL:L.length=9) (hz : ∀ s∈xs,s.size≤140737488355328) (hag : ∀ i∈(idxG (hvF id gen l xs) xs.length).take 6,strAt L i=strAt xs i) (h6:6≤(idxG (hvF id gen l xs) xs.length).length) :
  ∀ (d k K:Nat),xs.length-k=d→k≤xs.length→2*d+10<K→(idxG (hvF id gen l xs) k).length≤6→sluicegateref19_Agrees.l0 K xs L 0 ((idxG (hvF id gen l xs) k).length:Int) (k:Int) id gen len l=some true:=by
 intro d
 induction d with
 | zero=>
  intro k K hd hk hK hc
  obtain⟨K,rfl⟩ : ∃ j,K=j+2:=⟨K-2,by omega⟩
  obtain rfl:k=xs.length:=by omega
  have e6:(idxG (hvF id gen l xs) xs.length).length=6:=by omega
  rw[sluicegateref19_Agrees.l0]
  rw[if_neg (by omega),sluicegateref19_Agrees.j1]
  rw[if_neg (by simp),if_pos rfl,e6]
  rfl
 | succ d ih=>
  intro k K hd hk hK hc
  obtain⟨K,rfl⟩ : ∃ j,K=j+2:=⟨K-2,by omega⟩
  have hkx:k<xs.length:=by omega
  rw[sluicegateref19_Agrees.l0]
  rw[if_pos (by omega),if_pos (by omega),if_pos rfl]
  by_cases hc6:(idxG (hvF id gen l xs) k).length<6
  ·have hg:=rgood_f id gen len l h9 k (by omega) (strAt xs k) (by rw[strAt_eq hkx];exact hz _ (List.getElem_mem _))
   have hs:=idxG_succ (hvF id gen l xs) k
   rw[decide_eq_true (by omega),sluicegateref19_Agrees.j1]
   rw[if_pos rfl,if_pos (by omega),if_pos (by omega),rdOf_str xs k hkx,hg,Option.bind_some,wrap_k k (by omega)]
   show (if hvF id gen l xs k=true then _ else _)=_
   cases hq:hvF id gen l xs k with
   | false=>
    rw[hq,if_neg (by simp),List.append_nil]at hs
    rw[if_neg (by simp),←hs]
    exact ih (k+1) K (by omega) (by omega) (by omega) (by rw[hs];omega)
   | true=>
    rw[hq,if_pos rfl]at hs
    have hm:k∈(idxG (hvF id gen l xs) xs.length).take 6:=by
     obtain⟨r,hr⟩:=idxG_pre (hvF id gen l xs) (k+1) xs.length (by omega)
     rw[hr,hs,List.take_append]
     refine List.mem_append_left _ ?_
     rw[List.take_of_length_le (by rw[List.length_append,List.length_singleton];omega)]
     simp
    have hlen:(idxG (hvF id gen l xs) (k+1)).length=(idxG (hvF id gen l xs) k).length+1:=by rw[hs,List.length_append,List.length_singleton]
    rw[if_pos rfl,if_pos (by omega),rdOf_str L k (by omega),if_pos (by rw[hag k hm]),nwrap_k _ (by omega),←hlen]
    exact ih (k+1) K (by omega) (by omega) (by omega) (by omega)
  ·have e6:(idxG (hvF id gen l xs) k).length=6:=by omega
   rw[decide_eq_false (by omega),sluicegateref19_Agrees.j1]
   rw[if_neg (by simp),if_pos rfl,e6]
   rfl
theorem ragr_f (id gen len:Int) (l:List LocS) (hv:volP id gen len l=true) (xs:List ByteArray) (hx:xs.length≤9) (hz : ∀ s∈xs,s.size≤140737488355328) (t:List UInt8) (ht:(t.length:Int)=len) (hag : ∀ i∈(idxG (hvF id gen l xs) xs.length).take 6,strAt xs i=ownX id gen l t i) (h6:6≤(idxG (hvF id gen l xs) xs.length).length) (K:Nat) (hK:2000≤K) :
  sluicegateref19_Agrees.f K id gen len l xs (B t)=some true:=by
 have hR:sectR id gen len l (B t)=(secK id gen l (partsN t) 9,0):=by
  unfold sectR
  rw[if_pos ⟨hv,by rw[B_size];exact ht⟩,B_data]
 unfold sluicegateref19_Agrees.f
 rw[rsect_f id gen len l t K hK,hR,Option.bind_some]
 refine ragr_l0 id gen len l (volP_len hv).2.2 xs (secK id gen l (partsN t) 9) hx (secK_len _ _ _ _ _) hz (fun i hi=> ?_) h6 xs.length 0 K rfl (Nat.zero_le _) (by omega) (Nat.zero_le _)
 have hi2:=List.mem_of_mem_take hi
 have hi9:i<9:=by
  unfold idxG at hi2
  have:=List.mem_range.1 (List.mem_filter.1 hi2).1
  omega
 rw[secK_nine _ _ _ _ i hi9,hag i hi]
end Go.Proofs.YtdcfonmjbelgbaaGreatDoor
end
section
namespace Go.Proofs.YtdcfonmjbelgbaaGreatDoor
open Go.RowKit Q YtdcfonmjbelgbaaGreatDoorW.PrintWords YtdcfonmjbelgbaaGreatDoorW.PrintLast YtdcfonmjbelgbaaGreatDoorW.PrintMore
theorem sfill_agrees (l:List ByteArray) (h:List Bool) (hl:l.length=9) (hh:h.length=9) (he:evenB (leftL l h)=true) (h6:6≤(idx h).length) : ∀ i∈(idx h).take 6,strAt (encL (dataL l h)) i=strAt l i:=by
 intro i hi
 obtain⟨k,hk,hik⟩:=List.getElem_of_mem hi
 have hk6:k<6:=by rw[List.length_take]at hk;omega
 have hm:=idx_mem (List.mem_of_mem_take hi)
 have hg:((idx h).take 6).getD k 0=i:=by rw[List.getD_eq_getElem?_getD,List.getElem?_eq_getElem hk,hik];rfl
 rw[strAt_enc _ i (by omega)]
 have hL:(leftL l h).length=(idx h).length:=by unfold leftL;rw[List.length_map]
 have:=code_has h hh h6 ((leftL l h).take 6) (by rw[List.length_take];omega) (evenB_take he 6 (by omega)) k hk6
 rw[hg]at this
 unfold dataL
 rw[this]
 have e1:strAt ((leftL l h).take 6) k=strAt (leftL l h) k:=by
  unfold strAt
  rw[List.getD_eq_getElem?_getD,List.getD_eq_getElem?_getD,List.getElem?_take,if_pos hk6]
 rw[e1]
 unfold leftL
 rw[strAt_map _ _ _ (by omega)]
 rw[getD_take _ _ _ hk6]at hg
 rw[hg]
theorem flat_part : ∀ (d:List ByteArray),all64 d=true → ∀ i,i<d.length→B (((flatN d).drop (64*i)).take 64)=strAt d i
 | [],_,i,hi=>by simp at hi
 | x::d,h,i,hi=>by
  unfold all64 at h
  rw[List.all_cons,Bool.and_eq_true]at h
  have hx:x.data.toList.length=64:=by rw[size_data];exact eq_of_beq h.1
  have hf:flatN (x::d)=x.data.toList++flatN d:=by simp[flatN]
  rw[hf]
  cases i with
  | zero=>
   rw[Nat.mul_zero,List.drop_zero,List.take_append_of_le_length (by omega),List.take_of_length_le (by omega),B_eta]
   rfl
  | succ i=>
   have ih:=flat_part d (by unfold all64;exact h.2) i (by simpa using hi)
   rw[show 64*(i+1)=x.data.toList.length+64*i by omega,List.drop_append,List.drop_of_length_le (by omega),List.nil_append,Nat.add_sub_cancel_left,ih]
   rfl
theorem flat_parts_of (d:List ByteArray) (h6:d.length=6) (ha:all64 d=true) (s:List UInt8) (hs:padN s=flatN d):partsN s=d:=by
 apply List.ext_getElem
 ·rw[parts_len,h6]
 ·intro i h1 h2
  have hi:i<6:=by rw[parts_len]at h1;exact h1
  have e:=flat_part d ha i h2
  rw[strAt_eq h2]at e
  rw[←e,←hs]
  match i,hi with
  | 0,_|1,_|2,_|3,_|4,_|5,_=>rfl
theorem pad_back (F:List UInt8) (h:F.length=384) (n:Nat) (hn:n≤384) (hz:zeroB (F.drop n)=true):padN (F.take n)=F:=by
 have hd:F.drop n=List.replicate (384-n) 0:=by
  apply List.eq_replicate_iff.2
  refine⟨by rw[List.length_drop,h],fun b hb=> ?_⟩
  unfold zeroB at hz
  have:=List.all_eq_true.1 hz b hb
  simpa using this
 unfold padN
 rw[List.length_take,h,Nat.min_eq_left hn,←hd,List.take_append_drop]
theorem left_even {id gen len:Int} {l:List LocS} (hv:volP id gen len l=true) (xs:List ByteArray) {sh:List ByteArray} {hb:List Bool} (h9:hb.length=9) (hx : ∀ i,i<9→hb.getD i false=true→(strAt sh i).size=64):evenB (leftL sh hb)=true∧(∀ s∈leftL sh hb,s.size=64):=by
 have hall : ∀ s∈leftL sh hb,s.size=64:=fun s hs=>by
  unfold leftL at hs
  obtain⟨i,hi,rfl⟩:=List.mem_map.1 hs
  have hm:=idx_mem hi
  exact hx i (by omega) hm.2
 refine⟨?_,hall⟩
 unfold evenB
 rw[List.all_eq_true]
 intro s hs
 have hw:wid (leftL sh hb)=64:=by
  unfold wid
  have hpos:0<(leftL sh hb).length:=List.length_pos_of_mem hs
  rw[strAt_eq hpos]
  exact hall _ (List.getElem_mem _)
 rw[hw,hall s hs]
 rfl
theorem join_cases {id gen len:Int} {l:List LocS} (hv:volP id gen len l=true) {sh:List ByteArray} {hb:List Bool} (h1:sh.length=9) (h9:hb.length=9) (hx : ∀ i,i<9→hb.getD i false=true→(strAt sh i).size=64) :
  ((idx hb).length<6∧joinF len sh hb=(⟨#[]⟩,2))∨(6≤(idx hb).length∧joinF len sh hb=(⟨#[]⟩,4))∨(6≤(idx hb).length ∧ ∃ t:List UInt8,(t.length:Int)=len∧joinF len sh hb=(B t,0) ∧ ∀ i∈(idx hb).take 6,strAt (encL (partsN t)) i=strAt sh i):=by
 obtain⟨hev,hall⟩:=left_even hv [] h9 hx
 have hlen:=volP_len hv
 by_cases h6:(idx hb).length<6
 ·refine .inl ⟨h6,?_⟩
  have hF:fillR sh hb=([],2):=by
   unfold fillR
   rw[if_pos ⟨h1,h9⟩,if_pos hev,if_pos h6]
  unfold joinF
  rw[hF]
  rfl
 ·refine .inr ?_
  have hF:=fillR_ok h1 h9 hev (by omega:6≤(idx hb).length)
  have hd6:(dataL sh hb).length=6:=dataK_len _ _ _
  have hde:evenB (dataL sh hb)=true:=evenB_dataK _ _ _
  have ha:all64 (dataL sh hb)=true:=by
   unfold all64
   rw[List.all_eq_true]
   intro s hs
   unfold dataL dataK at hs
   obtain⟨i,_,rfl⟩:=List.mem_map.1 hs
   rw[mixS_size]
   have hL:(leftL sh hb).length=(idx hb).length:=by unfold leftL;rw[List.length_map]
   have hw:wid ((leftL sh hb).take 6)=64:=by
    unfold wid
    have hpos:0<((leftL sh hb).take 6).length:=by rw[List.length_take];omega
    rw[strAt_eq hpos]
    exact hall _ (List.mem_of_mem_take (List.getElem_mem _))
   rw[hw]
   rfl
  have hfa:=sfill_agrees sh hb h1 h9 hev (by omega)
  have hjn:joinF len sh hb=joinR (dataL sh hb) len:=by
   unfold joinF
   rw[hF,if_pos rfl,enc_take _ hd6 hde]
  rw[hjn]
  generalize dataL sh hb=d at hd6 ha hfa
  obtain⟨n,hn⟩ : ∃ n:Nat,len=(n:Int):=⟨len.toNat,by omega⟩
  have hfl:=flat_len d ha
  unfold joinR
  rw[if_pos ⟨hd6,hlen.2.1,hlen.1,ha⟩]
  subst hn
  rw[Int.toNat_natCast]
  cases hz:zeroB ((flatN d).drop n)with
  | false=>exact .inl ⟨by omega,by rw[if_neg (by simp)]⟩
  | true=>
   refine .inr ⟨by omega,(flatN d).take n,?_,by rw[if_pos rfl],?_⟩
   ·rw[List.length_take];omega
   ·have hp:=flat_parts_of d hd6 ha ((flatN d).take n) (pad_back (flatN d) (by omega) n (by omega) hz)
    rw[hp]
    exact hfa
theorem idx_hv (id gen:Int) (l:List LocS) (xs:List ByteArray):idx (hvL id gen l xs)=idxG (hvF id gen l xs) 9:=by
 unfold idx idxG
 rw[show (hvL id gen l xs).length=9 by simp[hvL]]
 apply List.filter_congr
 intro i hi
 exact hvL_get _ _ _ _ i (by simpa using hi)
end Go.Proofs.YtdcfonmjbelgbaaGreatDoor
end
section
namespace Go.Proofs.YtdcfonmjbelgbaaGreatDoor
open Go.RowKit Q YtdcfonmjbelgbaaGreatDoorW.PrintWords YtdcfonmjbelgbaaGreatDoorW.PrintLast YtdcfonmjbelgbaaGreatDoorW.PrintMore
theorem small_f (l:List ByteArray) (a b:Int) (hl:l.length≤9223372036854775807) (j:Nat):sluicegateref02_Small.f (l.length+1+j) l a b=some (smallS l a b):=by
 induction j with
 | zero=>exact small_l0 l a b hl l.length 0 (by omega)
 | succ j ih=>exact sluicegateref02_Small.mono _ _ _ _ _ ih
theorem own_of {id gen len:Int} {l:List LocS} (hv:volP id gen len l=true) (xs:List ByteArray) (t:List UInt8) (i:Nat) (hi:i<9) (hg:hvF id gen l xs i=true) (he:strAt (encL (partsN t)) i=shF id gen l xs i):strAt xs i=ownX id gen l t i:=by
 have h:=(good_inv hv i hi (strAt xs i) hg).1
 unfold ownX
 rw[he]
 exact h
theorem good64 {id gen len:Int} {l:List LocS} (hv:volP id gen len l=true) (xs:List ByteArray) : ∀ i,i<9→(hvL id gen l xs).getD i false=true→(strAt (shL id gen l xs) i).size=64:=fun i hi hg=>by
 rw[hvL_get _ _ _ _ i hi]at hg
 rw[shL_get _ _ _ _ i hi]
 exact(good_inv hv i hi (strAt xs i) hg).2
theorem texts_law (id gen len:Int) (l:List LocS) (xs:List ByteArray) (hl:xs.length≤9223372036854775807) : ∃ k,sluicegatelaw19_StripeTexts.f k id gen len l xs=some true:=by
 refine⟨xs.length+1+3000,?_⟩
 have eL:sluicegatelaw19_live.f=some true:=rfl
 have hJ:sluicegatelaw19_StripeTexts.j0 (xs.length+1+3000) xs true id gen len l=some true:=by
  rw[show xs.length+1+3000=(xs.length+3000)+1 by omega,sluicegatelaw19_StripeTexts.j0]
  rw[if_pos rfl,eL]
  rfl
 unfold sluicegatelaw19_StripeTexts.f sluicegatelaw19_small.f
 rw[Option.bind_some]
 by_cases h1:(l.length:Int)≤20
 case neg=>
  rw[decide_eq_false h1,if_neg (by simp)]
  exact hJ
 rw[decide_eq_true h1,if_pos rfl,small_f xs 12 300 hl 3000,Option.bind_some]
 cases hs:smallS xs 12 300 with
 | false=>exact hJ
 | true=>
  obtain⟨hz3,hl12⟩:=smallS_has hs
  have hz : ∀ s∈xs,s.size≤140737488355328:=fun s h=>by have:=hz3 s h;omega
  rw[show (!true)=false from rfl,show xs.length+1+3000=(xs.length+2999)+1+1 by omega,sluicegatelaw19_StripeTexts.j0]
  rw[if_neg (by simp),stext_f id gen len l (by omega) xs hz (xs.length+2999+1) (by omega),Option.bind_some,vrvol_f id gen len l (xs.length+2999+1) (by omega),Option.bind_some]
  have hbadJ : ∀ r:ByteArray×List Int×Int,r=(⟨#[]⟩,[],1)→sluicegatelaw19_StripeTexts.j1 (xs.length+2999+1) xs r.1 r.2.1 r.2.2 true id gen len l=some true:=fun r hr=>by
   rw[hr,sluicegatelaw19_StripeTexts.j1]
   rw[if_pos rfl,if_pos (show (⟨#[]⟩:ByteArray).toList=[]from B_toList []),if_pos (by rfl),if_pos rfl,eL]
   rfl
  cases hv:volP id gen len l with
  | false=>
   rw[if_neg (by simp)]
   exact hbadJ _ (by unfold textR;rw[if_neg (by rw[hv];simp)])
  | true=>
   rw[if_pos rfl]
   by_cases h9:xs.length=9
   case neg=>
    have hne:(((xs.length:Int)) != 9)=true:=by rw[bne_iff_ne];omega
    rw[hne]
    exact hbadJ _ (by unfold textR;rw[if_neg (fun h=>h9 h.2)])
   have hne:(((xs.length:Int)) != 9)=false:=by rw[h9];rfl
   have hb:=rbad_f id gen len l (volP_len hv).2.2 xs (by omega) hz (xs.length+2999) (by omega)
   rw[h9,badX_nine]at hb
   have hR:textR id gen len l xs=((joinF len (shL id gen l xs) (hvL id gen l xs)).1,badN (hvL id gen l xs) 9,(joinF len (shL id gen l xs) (hvL id gen l xs)).2):=by
    unfold textR
    rw[if_pos ⟨hv,h9⟩]
   have hlen:(hvL id gen l xs).length=9:=by simp[hvL]
   have hbl:=badN_len (hvL id gen l xs) 9
   have hib:=idx_bad (hvL id gen l xs) hlen
   have hin:=ints_f (badN (hvL id gen l xs) 9) (by omega) (xs.length+2999) (by omega)
   rw[hne,hR,sluicegatelaw19_StripeTexts.j1]
   rw[h9]at hin ⊢
   rw[if_neg (by simp),hb,Option.bind_some,hin,Option.bind_some,if_pos rfl]
   rcases join_cases hv (sh:=shL id gen l xs) (hb:=hvL id gen l xs) (by simp[shL]) hlen (good64 hv xs)with ⟨h6,hj⟩|⟨h6,hj⟩|⟨h6,t,ht,hj,hag⟩
   ·rw[hj]
    simp only
    rw[if_neg (by decide),if_pos trivial,if_pos (show (⟨#[]⟩:ByteArray).toList=[]from B_toList []),if_pos (by omega),eL]
    rfl
   ·rw[hj]
    simp only
    rw[if_neg (by decide),if_neg (by decide),if_pos trivial,if_pos (show (⟨#[]⟩:ByteArray).toList=[]from B_toList []),if_pos (by omega),eL]
    rfl
   ·rw[hj]
    simp only
    rw[idx_hv]at hag h6
    have ha:=ragr_f id gen len l hv xs (by omega) hz t ht (fun i hi=>by
     rw[h9]at hi
     have hi2:=List.mem_of_mem_take hi
     unfold idxG at hi2
     have hm:=List.mem_filter.1 hi2
     have hi9:=List.mem_range.1 hm.1
     exact own_of hv xs t i hi9 hm.2 (by rw[hag i hi,shL_get _ _ _ _ i hi9])) (by rw[h9];exact h6) (9+2999) (by omega)
    rw[if_pos trivial,ha,Option.bind_some,if_pos rfl,eL]
    rfl
theorem stripeTexts_walk (a0_0 a0_1 a0_2:Int) (A0_3:Option Addr) (c0_3:Nat) (l0_3:List LocS) (A1:Option Addr) (c1:Nat) (l1:List ByteArray) (w:World) {P0 P1 P2 P3 P4:Prop} (_:P0) (_:P1) (_:P2) (hr0_3:Kd.C k59 w A0_3 l0_3.length l0_3) (hc0_3:l0_3.length≤c0_3) (_:P3) (hr1:Kd.C Kd.string w A1 l1.length l1) (hc1:l1.length≤c1) (_:P4) :
  Calls Tryz.prog 4 #[.agg #[.int .i64 a0_0,.int .i64 a0_1,.int .i64 a0_2,.slice A0_3 l0_3.length c0_3],.slice A1 l1.length c1] w fun e w'=>e = .returned (.bool true)∧Below w.heap.size w w':=by
 obtain⟨k,h⟩:=texts_law a0_0 a0_1 a0_2 l0_3 l1 (Kd.C_max hr1)
 exact sluicegatelaw19_StripeTexts.calls k a0_0 a0_1 a0_2 A0_3 c0_3 l0_3 A1 c1 l1 true w hr0_3 hc0_3 hr1 hc1 h
end Go.Proofs.YtdcfonmjbelgbaaGreatDoor
end
