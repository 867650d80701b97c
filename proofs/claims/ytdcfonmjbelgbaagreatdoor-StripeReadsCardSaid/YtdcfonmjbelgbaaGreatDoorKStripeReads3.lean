/- Lemmas for the law StripeReads, merged out of several texts and cut down to what it names, by a program of this session (some of the first ones are of the words that print.sh wrote for this claim). -/
import Derived.Test.YtdcfonmjbelgbaaGreatDoorKStripeReads1
import Derived.Test.YtdcfonmjbelgbaaGreatDoorKStripeReads2
set_option maxRecDepth 100000
set_option maxHeartbeats 8000000
set_option linter.unusedVariables false
set_option linter.unusedSimpArgs false
section
namespace Go.Proofs.YtdcfonmjbelgbaaGreatDoor.Q
open Go.RowKit YtdcfonmjbelgbaaGreatDoorW.PrintWords YtdcfonmjbelgbaaGreatDoorW.PrintLast YtdcfonmjbelgbaaGreatDoorW.PrintMore
attribute [local go_sem] max2_int min2_int max_two min_two max_three min_three max_four min_four
def sluicegateref06_Ints.l0:Nat→List Int→List Int→Int→Option (Bool)
 | 0,_,_,_=>none
 | k+1,x0,x1,x5=>if x5<(x0.length:Int)then (if 0≤x5 then (if x5<(x1.length:Int)then (if (rd x0 x5)=(rd x1 x5)then (sluicegateref06_Ints.l0 k x0 x1 (wrap64 (x5+1)))else (some false))else (none))else (none))else (some true)
def sluicegateref06_Ints.f (k:Nat) (l0:List Int) (l1:List Int):Option (Bool):=if (l0.length:Int)=(l1.length:Int)then (sluicegateref06_Ints.l0 k l0 l1 0)else (some false)
theorem sluicegateref06_Ints.calls (k:Nat) (A0:Option Addr) (c0:Nat) (l0:List Int) (A1:Option Addr) (c1:Nat) (l1:List Int) (r:Bool) (w:World) (hr0:Kd.C (Kd.int .i64) w A0 l0.length l0) (hc0:l0.length≤c0) (hr1:Kd.C (Kd.int .i64) w A1 l1.length l1) (hc1:l1.length≤c1) (h:sluicegateref06_Ints.f k l0 l1=some r) :
  Calls Tryz.prog 14 #[.slice A0 l0.length c0,.slice A1 l1.length c1] w fun e w'=>e = .returned (.bool r)∧Drawn0 w w':=by
 have HR0:=Aside0.mk hr0
 have HC0:=Aside0.mk hc0
 clear hr0 hc0
 have HR1:=Aside0.mk hr1
 have HC1:=Aside0.mk hc1
 clear hr1 hc1
 have H:(if (l0.length:Int)=(l1.length:Int)then (sluicegateref06_Ints.l0 k l0 l1 0)else (some false))=some r:=h
 clear h
 by_cases c3:(l0.length:Int)=(l1.length:Int)
 ·rw[if_pos c3]at H
  have c3b0:((l0.length:Int)==(l1.length:Int))=true:=beq_iff_eq.mpr c3
  have c3b1:((l0.length:Int) != (l1.length:Int))=false:=bne_eq_false_iff_eq.mpr c3
  have c3b2:(l0.length==l1.length)=true:=by first|simpa using c3|(simp at c3 ⊢;omega)
  clear c3
  have H':=Aside0.mk H
  clear H
  go_enter Tryz.func14,Tryz.ntmps14
  go_wp2
  repeat (go_quiet (fail);try go_wp2)
  go_loopg [5] k (fun kq v5 w'=> ∃ (x5_1:Int),v5 = .int .i64 x5_1∧Aside0 (sluicegateref06_Ints.l0 kq l0 l1 x5_1=some r)∧Aside0 (kq≤k)∧Drawn0 w w')
  case atStart=>exact⟨(0),(by first|rfl|(simp;done)|(simp[*];done)),H',⟨Nat.le_refl _⟩,by repeat (first|exact Drawn0.refl _|apply Drawn0.step)⟩
  case round=>
   clear H'
   try clear c1
   try clear p2
   try clear c3
   try clear c3b0
   try clear c3b1
   try clear c3b2
   obtain⟨x5_1,rfl,HA,HK1,⟨m1,rfl⟩⟩:=hrel
   cases gk with
   | zero=>exact absurd HA.out (by simp[sluicegateref06_Ints.l0])
   | succ k1=>
    have H:=HA.out
    clear HA
    simp only[sluicegateref06_Ints.l0]at H
    by_cases c4:x5_1<(l0.length:Int)
    ·rw[if_pos c4]at H
     have c4b0:decide (x5_1<(l0.length:Int))=true:=decide_eq_true c4
     clear c4
     by_cases c5:0≤x5_1
     ·rw[if_pos c5]at H
      have c5b0:decide (0≤x5_1)=true:=decide_eq_true c5
      clear c5
      by_cases c6:x5_1<(l1.length:Int)
      ·rw[if_pos c6]at H
       have c6b0:decide (x5_1<(l1.length:Int))=true:=decide_eq_true c6
       clear c6
       by_cases c7:(rd l0 x5_1)=(rd l1 x5_1)
       ·rw[if_pos c7]at H
        have c7b0:((rd l0 x5_1)==(rd l1 x5_1))=true:=beq_iff_eq.mpr c7
        have c7b1:((rd l0 x5_1) != (rd l1 x5_1))=false:=bne_eq_false_iff_eq.mpr c7
        clear c7
        have H':=Aside0.mk H
        clear H
        have p168:0≤(x5_1:Int):=of_decide_eq_true (by first|(with_reducible assumption)|assumption)
        have q168:x5_1<(l0.length:Int):=of_decide_eq_true (by first|(with_reducible assumption)|assumption)
        obtain⟨ad168,e168,hx168_0⟩:=Kd.at_int HR0.out x5_1 p168 q168
        cases e168
        replace p168:=eq_true p168
        replace q168:=eq_true q168
        have p169:0≤(x5_1:Int):=of_decide_eq_true (by first|(with_reducible assumption)|assumption)
        have q169:x5_1<(l1.length:Int):=of_decide_eq_true (by first|(with_reducible assumption)|assumption)
        obtain⟨ad169,e169,hx169_0⟩:=Kd.at_int HR1.out x5_1 p169 q169
        cases e169
        replace p169:=eq_true p169
        replace q169:=eq_true q169
        go_wp2
        repeat (go_quiet (fail);try go_wp2)
        go_roundg k1
        case measure=>have:=HK1.out;omega
        case rel=>exact⟨(wrap64 (x5_1+1)),(by first|rfl|(simp;done)|(simp[*];done)),H',⟨by have:=HK1.out;omega⟩,by repeat (first|exact Drawn0.refl _|apply Drawn0.step)⟩
       ·rw[if_neg c7]at H
        have c7b0:((rd l0 x5_1)==(rd l1 x5_1))=false:=beq_eq_false_iff_ne.mpr c7
        have c7b1:((rd l0 x5_1) != (rd l1 x5_1))=true:=bne_iff_ne.mpr c7
        obtain rfl:=Option.some.inj H
        have p168:0≤(x5_1:Int):=of_decide_eq_true (by first|(with_reducible assumption)|assumption)
        have q168:x5_1<(l0.length:Int):=of_decide_eq_true (by first|(with_reducible assumption)|assumption)
        obtain⟨ad168,e168,hx168_0⟩:=Kd.at_int HR0.out x5_1 p168 q168
        cases e168
        replace p168:=eq_true p168
        replace q168:=eq_true q168
        have p169:0≤(x5_1:Int):=of_decide_eq_true (by first|(with_reducible assumption)|assumption)
        have q169:x5_1<(l1.length:Int):=of_decide_eq_true (by first|(with_reducible assumption)|assumption)
        obtain⟨ad169,e169,hx169_0⟩:=Kd.at_int HR1.out x5_1 p169 q169
        cases e169
        replace p169:=eq_true p169
        replace q169:=eq_true q169
        go_wp2
        repeat (go_quiet (fail);try go_wp2)
        go_ret
        exact⟨by first|rfl|(simp;done)|(simp[*];done),by repeat (first|exact Drawn0.refl _|apply Drawn0.step)⟩
      ·rw[if_neg c6]at H
       exact absurd H (by simp)
     ·rw[if_neg c5]at H
      exact absurd H (by simp)
    ·rw[if_neg c4]at H
     have c4b0:decide (x5_1<(l0.length:Int))=false:=decide_eq_false c4
     clear c4
     obtain rfl:=Option.some.inj H
     go_wp2
     repeat (go_quiet (fail);try go_wp2)
     go_ret
     exact⟨by first|rfl|(simp;done)|(simp[*];done),by repeat (first|exact Drawn0.refl _|apply Drawn0.step)⟩
 ·rw[if_neg c3]at H
  have c3b0:((l0.length:Int)==(l1.length:Int))=false:=beq_eq_false_iff_ne.mpr c3
  have c3b1:((l0.length:Int) != (l1.length:Int))=true:=bne_iff_ne.mpr c3
  have c3b2:(l0.length==l1.length)=false:=by first|simpa using c3|(simp at c3 ⊢;omega)
  obtain rfl:=Option.some.inj H
  go_enter Tryz.func14,Tryz.ntmps14
  go_wp2
  repeat (go_quiet (fail);try go_wp2)
  go_ret
  exact⟨by first|rfl|(simp;done)|(simp[*];done),by repeat (first|exact Drawn0.refl _|apply Drawn0.step)⟩
def sluicegatelaw19_laid.l0:Nat→Int→Int→Int→Int→Int→List (S59)→Option (Int×Int×Int×(List (S59)))
 | 0,_,_,_,_,_,_=>none
 | k+1,x0,x6,x172000,x172001,x172002,x172003=>if x6<9 then (if x172003.length<8796093022208 then (sluicegatelaw19_laid.l0 k x0 (wrap64 (x6+1)) x172000 x172001 x172002 (x172003++[(⟨x6,x0⟩:S59)]))else (none))else (some (x172000,x172001,x172002,x172003))
def sluicegatelaw19_laid.f (k:Nat) (a0:Int) (a1:Int):Option (Int×Int×Int×(List (S59))):=sluicegatelaw19_laid.l0 k a0 0 a0 0 a1 ([]:List (S59))
theorem sluicegatelaw19_laid.calls (k:Nat) (a0:Int) (a1:Int) (r1:Int) (r2:Int) (r3:Int) (r4:List (S59)) (w:World) (h:sluicegatelaw19_laid.f k a0 a1=some (r1,r2,r3,r4)) :
  Calls Tryz.prog 24 #[.int .i64 a0,.int .i64 a1] w fun e w'=> ∃ v3_:Value,e = .returned (.agg #[.int .i64 r1,.int .i64 r2,.int .i64 r3,v3_])∧Kd.R k59 59 w' w.heap.size (fun _=>True) v3_ r4∧Below w.heap.size w w':=by
 have hu24:=Tryz.underlying24
 have hu59:=Tryz.underlying59
 have HB:=Aside0.mk (Below.refl w.heap.size w)
 have H:(sluicegatelaw19_laid.l0 k a0 0 a0 0 a1 ([]:List (S59)))=some (r1,r2,r3,r4):=h
 clear h
 have H':=Aside0.mk H
 clear H
 go_enter Tryz.func24,Tryz.ntmps24
 go_wp2_with (first|((with_reducible refine gate_dst (N:=4) rfl ?_);refine box_event ?hg (N:=4) ?hd (cs:= #[.int .i64 0,.int .i64 0,.int .i64 0,.slice none 0 0]) (t:=24) ?hr ?_;(case hd=>rfl);(case hg=>rfl);(case hr=>first|(go_simp;done)|(go_simp;rfl));intro gb170 hg w3 hbox hb;have n0_:=Aside0.mk (below_step (by repeat (first|(with_reducible first|exact HB.out|apply below_alloc|apply pw_below_drewN|apply below_drew1)|exact HB.out)) hb);have n1_:=Aside0.mk (hbox);have n2_:=Aside0.mk ((by rw[hg];exact(below_size (by repeat (first|(with_reducible first|exact HB.out|apply below_alloc|apply pw_below_drewN|apply below_drew1)|exact HB.out))):w.heap.size≤gb170));have n3_:=Aside0.mk ((by rw[hg];exact(below_size (by repeat (first|(with_reducible first|exact HB.out|apply below_alloc|apply pw_below_drewN|apply below_drew1)|exact HB.out))):w.heap.size≤gb170));clear HB;have HB:=n0_;have BK170:=n1_;have GW170:=n2_;have GE170:=n3_;clear n0_ n1_ n2_ n3_;clear hb hbox hg)|((with_reducible refine gate_dst (N:=5) rfl ?_);refine box_event ?hg (N:=5) ?hd (cs:= #[.int .i64 0,.int .i64 0,.int .i64 0,.slice none 0 0]) (t:=24) ?hr ?_;(case hd=>rfl);(case hg=>rfl);(case hr=>first|(go_simp;done)|(go_simp;rfl));intro gb171 hg w4 hbox hb;have n0_:=Aside0.mk (blk_below (g:=gb170) (o:=.cells #[.int .i64 0,.int .i64 0,.int .i64 0,.slice none 0 0] 24 (0,0)) (by (with_reducible repeat (first|refine blk_drewN ?_ _|refine blk_drew ?_|refine blk_alloc ?_ _));exact BK170.out) hb);have n1_:=Aside0.mk (below_step (by repeat (first|(with_reducible first|exact HB.out|apply below_alloc|apply pw_below_drewN|apply below_drew1|refine below_set ?_ GE170.out)|exact HB.out)) hb);have n2_:=Aside0.mk (hbox);have n3_:=Aside0.mk ((by rw[hg];exact(below_size (by repeat (first|(with_reducible first|exact HB.out|apply below_alloc|apply pw_below_drewN|apply below_drew1|refine below_set ?_ GE170.out)|exact HB.out))):w.heap.size≤gb171));have n4_:=Aside0.mk ((by rw[hg];exact(below_size (by repeat (first|(with_reducible first|exact HB.out|apply below_alloc|apply pw_below_drewN|apply below_drew1|refine below_set ?_ GE170.out)|exact HB.out))):w.heap.size≤gb171));have n5_:=Aside0.mk ((by rw[hg];exact Nat.ne_of_lt (blk_lt (g:=gb170) (o:=.cells #[.int .i64 0,.int .i64 0,.int .i64 0,.slice none 0 0] 24 (0,0)) (by (with_reducible repeat (first|refine blk_drewN ?_ _|refine blk_drew ?_|refine blk_alloc ?_ _));exact BK170.out)):gb170≠gb171));have n6_:=Aside0.mk ((by rw[hg];exact Nat.ne_of_gt (blk_lt (g:=gb170) (o:=.cells #[.int .i64 0,.int .i64 0,.int .i64 0,.slice none 0 0] 24 (0,0)) (by (with_reducible repeat (first|refine blk_drewN ?_ _|refine blk_drew ?_|refine blk_alloc ?_ _));exact BK170.out)):gb171≠gb170));clear BK170;clear HB;have BK170:=n0_;have HB:=n1_;have BK171:=n2_;have GW171:=n3_;have GE171:=n4_;have NB170_171:=n5_;have NB171_170:=n6_;clear n0_ n1_ n2_ n3_ n4_ n5_ n6_;clear hb hbox hg;have hnb5:=NB171_170.out;have hnc5:=NB170_171.out;have hcz6_0:w4.cell? ⟨gb171,0,none⟩=some (.int .i64 0):=(blk_cell BK171.out 0).trans rfl;have hcz6_1:w4.cell? ⟨gb171,1,none⟩=some (.int .i64 0):=(blk_cell BK171.out 1).trans rfl;have hcz6_2:w4.cell? ⟨gb171,2,none⟩=some (.int .i64 0):=(blk_cell BK171.out 2).trans rfl;have hcz6_3:w4.cell? ⟨gb171,3,none⟩=some (.slice none 0 0):=(blk_cell BK171.out 3).trans rfl;have hfz6_0:=blk_frozen BK171.out 0;have hfz6_1:=blk_frozen BK171.out 1;have hfz6_2:=blk_frozen BK171.out 2;have hfz6_3:=blk_frozen BK171.out 3))
 go_loopg [6] k (fun kq v6 w'=> ∃ (x6_1:Int) (x172003_1:List (S59)) (u172003:Value),v6 = .int .i64 x6_1∧Aside0 (sluicegatelaw19_laid.l0 kq a0 x6_1 a0 0 a1 x172003_1=some (r1,r2,r3,r4))∧Aside0 (kq≤k)∧Aside0 (Kd.R k59 59 w' w.heap.size (fun _=>True) u172003 x172003_1)∧Aside0 (w'.heap[gb170]? = some (.cells #[.int .i64 0,.int .i64 0,.int .i64 0,(.slice none 0 0)] 24 (0,0)))∧Aside0 (w'.heap[gb171]? = some (.cells #[.int .i64 a0,.int .i64 0,.int .i64 a1,u172003] 24 (0,0)))∧Aside0 (Below w.heap.size w w'))
 case atStart=>exact⟨(0),(([]:List (S59))),(.slice none 0 0),(by first|rfl|(simp;done)|(simp[*];done)),H',⟨Nat.le_refl _⟩,⟨by first|exact Kd.R_nil _ _ _ _ _|exact Kd.N_nil _ _ _ _ _|exact Kd.V_nil _ _ _ _ _|exact Kd.Q_nil _ _ _ _ _|exact Kd.S_nil _ _ _ _ _⟩,⟨by (with_reducible repeat (first|refine blk_drewN ?_ _|refine blk_drew ?_|refine blk_alloc ?_ _));refine blk_far ?_ NB170_171.out _;(with_reducible repeat (first|refine blk_drewN ?_ _|refine blk_drew ?_|refine blk_alloc ?_ _));refine blk_far ?_ NB170_171.out _;(with_reducible repeat (first|refine blk_drewN ?_ _|refine blk_drew ?_|refine blk_alloc ?_ _));refine blk_far ?_ NB170_171.out _;(with_reducible repeat (first|refine blk_drewN ?_ _|refine blk_drew ?_|refine blk_alloc ?_ _));refine blk_far ?_ NB170_171.out _;(with_reducible repeat (first|refine blk_drewN ?_ _|refine blk_drew ?_|refine blk_alloc ?_ _));exact BK170.out⟩,⟨by (with_reducible repeat (first|refine blk_drewN ?_ _|refine blk_drew ?_|refine blk_alloc ?_ _));refine blk_put (cs:= #[.int .i64 a0,.int .i64 0,.int .i64 a1,.slice none 0 0]) ?_ 3 _ rfl;(with_reducible repeat (first|refine blk_drewN ?_ _|refine blk_drew ?_|refine blk_alloc ?_ _));refine blk_put (cs:= #[.int .i64 a0,.int .i64 0,.int .i64 0,.slice none 0 0]) ?_ 2 _ rfl;(with_reducible repeat (first|refine blk_drewN ?_ _|refine blk_drew ?_|refine blk_alloc ?_ _));refine blk_put (cs:= #[.int .i64 a0,.int .i64 0,.int .i64 0,.slice none 0 0]) ?_ 1 _ rfl;(with_reducible repeat (first|refine blk_drewN ?_ _|refine blk_drew ?_|refine blk_alloc ?_ _));refine blk_put (cs:= #[.int .i64 0,.int .i64 0,.int .i64 0,.slice none 0 0]) ?_ 0 _ rfl;(with_reducible repeat (first|refine blk_drewN ?_ _|refine blk_drew ?_|refine blk_alloc ?_ _));exact BK171.out⟩,⟨by repeat (first|(with_reducible first|exact HB.out|apply below_alloc|apply pw_below_drewN|apply below_drew1|refine below_set ?_ GE170.out|refine below_set ?_ GE171.out)|exact HB.out)⟩⟩
 case round=>
  clear H'
  try clear c2
  try clear p2
  try clear c5
  try clear hcz6_0
  try clear hcz6_1
  try clear hcz6_2
  try clear hcz6_3
  try clear hfz6_0
  try clear hfz6_1
  try clear hfz6_2
  try clear hfz6_3
  obtain⟨x6_1,x172003_1,u172003,rfl,HA,HK1,HO_172003,BK170,BK171,HB⟩:=hrel
  cases gk with
  | zero=>exact absurd HA.out (by simp[sluicegatelaw19_laid.l0])
  | succ k1=>
   have H:=HA.out
   clear HA
   simp only[sluicegatelaw19_laid.l0]at H
   by_cases c7:x6_1<9
   ·rw[if_pos c7]at H
    have c7b0:decide (x6_1<9)=true:=decide_eq_true c7
    clear c7
    by_cases c8:x172003_1.length<8796093022208
    ·rw[if_pos c8]at H
     have LMc8:=Aside0.mk c8
     clear c8
     obtain⟨y172,hy172⟩ : ∃ y_:List (S59),y_=(x172003_1++[(⟨x6_1,a0⟩:S59)]):=⟨_,rfl⟩
     replace H:(sluicegatelaw19_laid.l0 k1 a0 (wrap64 (x6_1+1)) a0 0 a1 y172)=some (r1,r2,r3,r4):=by first|(rw[hy172];with_reducible exact H)|(have H2_:=(Option.bind_some _ _).symm.trans H;rw[hy172];with_reducible exact H2_)|(have H2_:=(Option.bind_some _ _).symm.trans H;with_reducible exact H2_)|with_reducible exact H|(rw[hy172];exact H)|exact H
     have Ny172:=Aside0.mk hy172
     clear hy172
     have H':=Aside0.mk H
     clear H
     have hnb9:=NB171_170.out
     have hnc9:=NB170_171.out
     have hcz10_0:wr.cell? ⟨gb171,0,none⟩=some (.int .i64 a0):=(blk_cell BK171.out 0).trans rfl
     have hcz10_1:wr.cell? ⟨gb171,1,none⟩=some (.int .i64 0):=(blk_cell BK171.out 1).trans rfl
     have hcz10_2:wr.cell? ⟨gb171,2,none⟩=some (.int .i64 a1):=(blk_cell BK171.out 2).trans rfl
     have hcz10_3:wr.cell? ⟨gb171,3,none⟩=some (u172003):=(blk_cell BK171.out 3).trans rfl
     have hfz10_0:=blk_frozen BK171.out 0
     have hfz10_1:=blk_frozen BK171.out 1
     have hfz10_2:=blk_frozen BK171.out 2
     have hfz10_3:=blk_frozen BK171.out 3
     go_wp2_with (first|((with_reducible refine gate_builtin (b:=.append) (xs:= #[.tmp 15,.tmp 19]) rfl ?_);at_builtin;refine Kd.R_append k59 (w0:=w) w.heap.size rfl (.tmp 15) (.tmp 19) 22 59 (.agg #[(.int .i64 0),(.int .i64 0)]) 16 rfl Tryz.underlying22 info59 rfl (by decide) (by omega) u172003 x172003_1 (⟨x6_1,a0⟩:S59) [.int .i64 x6_1,.int .i64 a0] (fun _=>True) (fun _=>False) rfl rfl ?aP (fun _ hk=>hk.elim) ?aF ?aO ?aB ?aS ?aL ?_;(case aP=>exact k59_mkM _ _ _ (⟨x6_1,a0⟩:S59));(case aB=>exact(by repeat (first|(with_reducible first|exact HB.out|apply below_alloc|apply pw_below_drewN|apply below_drew1|refine below_set ?_ GE170.out|refine below_set ?_ GE171.out)|exact HB.out)));(case aF=>exact(fun _ _=>trivial));(case aO=>exact(by (with_reducible repeat (first|apply Kd.R_alloc|apply Kd.R_drewN|apply Kd.R_drew));exact HO_172003.out));(case aS=>exact(below_size (by repeat (first|(with_reducible first|exact HB.out|apply below_alloc|apply pw_below_drewN|apply below_drew1|refine below_set ?_ GE170.out|refine below_set ?_ GE171.out)|exact HB.out))));(case aL=>have:=LMc8.out;omega);intro v173 w11 ho hb hg hat;rw[←Ny172.out]at ho;have n0_:=Aside0.mk (blk_grown (g:=gb170) (o:=.cells #[.int .i64 0,.int .i64 0,.int .i64 0,.slice none 0 0] 24 (0,0)) (by (with_reducible repeat (first|refine blk_drewN ?_ _|refine blk_drew ?_|refine blk_alloc ?_ _));exact BK170.out) hg (Kd.R_ne HO_172003.out BK170.out (by decide)));have n1_:=Aside0.mk (blk_grown (g:=gb171) (o:=.cells #[.int .i64 a0,.int .i64 0,.int .i64 a1,u172003] 24 (0,0)) (by (with_reducible repeat (first|refine blk_drewN ?_ _|refine blk_drew ?_|refine blk_alloc ?_ _));exact BK171.out) hg (Kd.R_ne HO_172003.out BK171.out (by decide)));have n2_:=Aside0.mk (hb);have n3_:=Aside0.mk (ho);clear BK170;clear BK171;clear HB;clear HO_172003;have BK170:=n0_;have BK171:=n1_;have HB:=n2_;have HO174:=n3_;clear n0_ n1_ n2_ n3_;clear ho hb hg hat;obtain⟨Ao12,co12,eo12⟩:=Kd.R_slice HO174.out;subst eo12;have hcz13_0:w11.cell? ⟨gb171,0,none⟩=some (.int .i64 a0):=(blk_cell BK171.out 0).trans rfl;have hcz13_1:w11.cell? ⟨gb171,1,none⟩=some (.int .i64 0):=(blk_cell BK171.out 1).trans rfl;have hcz13_2:w11.cell? ⟨gb171,2,none⟩=some (.int .i64 a1):=(blk_cell BK171.out 2).trans rfl;have hcz13_3:w11.cell? ⟨gb171,3,none⟩=some (u172003):=(blk_cell BK171.out 3).trans rfl;have hfz13_0:=blk_frozen BK171.out 0;have hfz13_1:=blk_frozen BK171.out 1;have hfz13_2:=blk_frozen BK171.out 2;have hfz13_3:=blk_frozen BK171.out 3))
     go_roundg k1
     case measure=>have:=HK1.out;omega
     case rel=>exact⟨(wrap64 (x6_1+1)),(y172),(.slice Ao12 y172.length co12),(by first|rfl|(simp;done)|(simp[*];done)),H',⟨by have:=HK1.out;omega⟩,⟨by (with_reducible repeat (first|apply Kd.R_alloc|apply Kd.R_drewN|apply Kd.R_drew));exact Kd.R_mono (Kd.R_far (p:=⟨gb171,3,none⟩) (Kd.R_types HO174.out BK171.out (by decide)) (fun _ hk=>hk.2) (.slice Ao12 y172.length co12)) (fun _ hk=>trivial)⟩,⟨by (with_reducible repeat (first|refine blk_drewN ?_ _|refine blk_drew ?_|refine blk_alloc ?_ _));refine blk_far ?_ NB170_171.out _;(with_reducible repeat (first|refine blk_drewN ?_ _|refine blk_drew ?_|refine blk_alloc ?_ _));exact BK170.out⟩,⟨by (with_reducible repeat (first|refine blk_drewN ?_ _|refine blk_drew ?_|refine blk_alloc ?_ _));refine blk_put (cs:= #[.int .i64 a0,.int .i64 0,.int .i64 a1,u172003]) ?_ 3 _ rfl;(with_reducible repeat (first|refine blk_drewN ?_ _|refine blk_drew ?_|refine blk_alloc ?_ _));exact BK171.out⟩,⟨by repeat (first|(with_reducible first|exact HB.out|apply below_alloc|apply pw_below_drewN|apply below_drew1|refine below_set ?_ GE170.out|refine below_set ?_ GE171.out)|exact HB.out)⟩⟩
    ·rw[if_neg c8]at H
     exact absurd H (by simp)
   ·rw[if_neg c7]at H
    have c7b0:decide (x6_1<9)=false:=decide_eq_false c7
    clear c7
    simp only[Option.some.injEq,Prod.mk.injEq]at H
    obtain⟨rfl,rfl,rfl,rfl⟩:=H
    have hnb14:=NB171_170.out
    have hnc14:=NB170_171.out
    have hcz15_0:wr.cell? ⟨gb171,0,none⟩=some (.int .i64 a0):=(blk_cell BK171.out 0).trans rfl
    have hcz15_1:wr.cell? ⟨gb171,1,none⟩=some (.int .i64 0):=(blk_cell BK171.out 1).trans rfl
    have hcz15_2:wr.cell? ⟨gb171,2,none⟩=some (.int .i64 a1):=(blk_cell BK171.out 2).trans rfl
    have hcz15_3:wr.cell? ⟨gb171,3,none⟩=some (u172003):=(blk_cell BK171.out 3).trans rfl
    have hfz15_0:=blk_frozen BK171.out 0
    have hfz15_1:=blk_frozen BK171.out 1
    have hfz15_2:=blk_frozen BK171.out 2
    have hfz15_3:=blk_frozen BK171.out 3
    have hcz16_0:wr.cell? ⟨gb170,0,none⟩=some (.int .i64 0):=(blk_cell BK170.out 0).trans rfl
    have hcz16_1:wr.cell? ⟨gb170,1,none⟩=some (.int .i64 0):=(blk_cell BK170.out 1).trans rfl
    have hcz16_2:wr.cell? ⟨gb170,2,none⟩=some (.int .i64 0):=(blk_cell BK170.out 2).trans rfl
    have hcz16_3:wr.cell? ⟨gb170,3,none⟩=some (.slice none 0 0):=(blk_cell BK170.out 3).trans rfl
    have hfz16_0:=blk_frozen BK170.out 0
    have hfz16_1:=blk_frozen BK170.out 1
    have hfz16_2:=blk_frozen BK170.out 2
    have hfz16_3:=blk_frozen BK170.out 3
    obtain⟨Ao17,co17,eo17⟩:=Kd.R_slice HO_172003.out
    subst eo17
    go_wp2
    refine bodyPost_ret (results_cell_row rfl _ _ gb170 24 #[.int .i64 a0,.int .i64 0,.int .i64 a1,.slice Ao17 x172003_1.length co17] (0,0) _ rfl (by (with_reducible repeat (first|refine blk_drewN ?_ _|refine blk_drew ?_|refine blk_alloc ?_ _));refine blk_put (cs:= #[.int .i64 a0,.int .i64 0,.int .i64 a1,.slice none 0 0]) ?_ 3 _ rfl;(with_reducible repeat (first|refine blk_drewN ?_ _|refine blk_drew ?_|refine blk_alloc ?_ _));refine blk_put (cs:= #[.int .i64 a0,.int .i64 0,.int .i64 0,.slice none 0 0]) ?_ 2 _ rfl;(with_reducible repeat (first|refine blk_drewN ?_ _|refine blk_drew ?_|refine blk_alloc ?_ _));refine blk_put (cs:= #[.int .i64 a0,.int .i64 0,.int .i64 0,.slice none 0 0]) ?_ 1 _ rfl;(with_reducible repeat (first|refine blk_drewN ?_ _|refine blk_drew ?_|refine blk_alloc ?_ _));refine blk_put (cs:= #[.int .i64 0,.int .i64 0,.int .i64 0,.slice none 0 0]) ?_ 0 _ rfl;(with_reducible repeat (first|refine blk_drewN ?_ _|refine blk_drew ?_|refine blk_alloc ?_ _));exact BK170.out) Tryz.underlying24 rfl (by kernel_rfl)) rfl ?_
    exact⟨_,by first|rfl|(simp[errW_none,errW_some]<;>rfl)|(simp[*,errW_none,errW_some]<;>rfl),by (with_reducible repeat (first|apply Kd.R_alloc|apply Kd.R_drewN|apply Kd.R_drew));exact Kd.R_mono (Kd.R_far (p:=⟨gb170,3,none⟩) (Kd.R_far (p:=⟨gb170,2,none⟩) (Kd.R_far (p:=⟨gb170,1,none⟩) (Kd.R_far (p:=⟨gb170,0,none⟩) (Kd.R_types HO_172003.out BK170.out (by decide)) (fun _ hk=>hk.2) (.int .i64 a0)) (fun _ hk=>hk.2) (.int .i64 0)) (fun _ hk=>hk.2) (.int .i64 a1)) (fun _ hk=>hk.2) (.slice Ao17 x172003_1.length co17)) (fun _ hk=>trivial),by repeat (first|(with_reducible first|exact HB.out|apply below_alloc|apply pw_below_drewN|apply below_drew1|refine below_set ?_ GE170.out|refine below_set ?_ GE171.out)|exact HB.out)⟩
def sluicegateref11_number.f (a0:Int):Option (Bool):=if a0≥0 then (some (decide (a0≤1099511627776)))else (some false)
theorem sluicegateref11_number.calls (a0:Int) (r:Bool) (w:World) (h:sluicegateref11_number.f a0=some r) :
  Calls Tryz.prog 35 #[.int .i64 a0] w fun e w'=>e = .returned (.bool r)∧Drawn0 w w':=by
 have H:(if a0≥0 then (some (decide (a0≤1099511627776)))else (some false))=some r:=h
 clear h
 by_cases c2:a0≥0
 ·rw[if_pos c2]at H
  have c2b0:decide (0≤a0)=true:=decide_eq_true c2
  clear c2
  obtain rfl:=Option.some.inj H
  go_enter Tryz.func35,Tryz.ntmps35
  go_wp2
  go_ret
  exact⟨by first|rfl|(simp;done)|(simp[*];done),by repeat (first|exact Drawn0.refl _|apply Drawn0.step)⟩
 ·rw[if_neg c2]at H
  have c2b0:decide (0≤a0)=false:=decide_eq_false c2
  clear c2
  obtain rfl:=Option.some.inj H
  go_enter Tryz.func35,Tryz.ntmps35
  go_wp2
  go_ret
  exact⟨by first|rfl|(simp;done)|(simp[*];done),by repeat (first|exact Drawn0.refl _|apply Drawn0.step)⟩
def sluicegateref10_Is.f (a0_0:Int) (a0_1:Int):Option (Bool):=if a0_0≥0 then (if a0_0<12 then (if a0_1≥0 then (some (decide (a0_1<48)))else (some false))else (some false))else (some false)
theorem sluicegateref10_Is.calls (a0_0:Int) (a0_1:Int) (r:Bool) (w:World) (h:sluicegateref10_Is.f a0_0 a0_1=some r) :
  Calls Tryz.prog 36 #[.agg #[.int .i64 a0_0,.int .i64 a0_1]] w fun e w'=>e = .returned (.bool r)∧Below w.heap.size w w':=by
 have hu59:=Tryz.underlying59
 have HB:=Aside0.mk (Below.refl w.heap.size w)
 have H:(if a0_0≥0 then (if a0_0<12 then (if a0_1≥0 then (some (decide (a0_1<48)))else (some false))else (some false))else (some false))=some r:=h
 clear h
 by_cases c2:a0_0≥0
 ·rw[if_pos c2]at H
  have c2b0:decide (0≤a0_0)=true:=decide_eq_true c2
  clear c2
  by_cases c3:a0_0<12
  ·rw[if_pos c3]at H
   have c3b0:decide (a0_0<12)=true:=decide_eq_true c3
   clear c3
   by_cases c4:a0_1≥0
   ·rw[if_pos c4]at H
    have c4b0:decide (0≤a0_1)=true:=decide_eq_true c4
    clear c4
    obtain rfl:=Option.some.inj H
    go_enter Tryz.func36,Tryz.ntmps36
    go_wp2_with (first|((with_reducible refine gate_dst (N:=1) rfl ?_);refine box_event ?hg (N:=1) ?hd (cs:= #[.int .i64 a0_0,.int .i64 a0_1]) (t:=59) ?hr ?_;(case hd=>rfl);(case hg=>rfl);(case hr=>first|(go_simp;done)|(go_simp;rfl));intro gb175 hg w5 hbox hb;have n0_:=Aside0.mk (below_step (by repeat (first|(with_reducible first|exact HB.out|apply below_alloc|apply pw_below_drewN|apply below_drew1)|exact HB.out)) hb);have n1_:=Aside0.mk (hbox);have n2_:=Aside0.mk ((by rw[hg];exact(below_size (by repeat (first|(with_reducible first|exact HB.out|apply below_alloc|apply pw_below_drewN|apply below_drew1)|exact HB.out))):w.heap.size≤gb175));have n3_:=Aside0.mk ((by rw[hg];exact(below_size (by repeat (first|(with_reducible first|exact HB.out|apply below_alloc|apply pw_below_drewN|apply below_drew1)|exact HB.out))):w.heap.size≤gb175));clear HB;have HB:=n0_;have BK175:=n1_;have GW175:=n2_;have GE175:=n3_;clear n0_ n1_ n2_ n3_;clear hb hbox hg;have hcz6_0:w5.cell? ⟨gb175,0,none⟩=some (.int .i64 a0_0):=(blk_cell BK175.out 0).trans rfl;have hcz6_1:w5.cell? ⟨gb175,1,none⟩=some (.int .i64 a0_1):=(blk_cell BK175.out 1).trans rfl;have hfz6_0:=blk_frozen BK175.out 0;have hfz6_1:=blk_frozen BK175.out 1))
    go_ret
    exact⟨by first|rfl|(simp[errW_none,errW_some]<;>rfl)|(simp[*,errW_none,errW_some]<;>rfl),by repeat (first|(with_reducible first|exact HB.out|apply below_alloc|apply pw_below_drewN|apply below_drew1|refine below_set ?_ GE175.out)|exact HB.out)⟩
   ·rw[if_neg c4]at H
    have c4b0:decide (0≤a0_1)=false:=decide_eq_false c4
    clear c4
    obtain rfl:=Option.some.inj H
    go_enter Tryz.func36,Tryz.ntmps36
    go_wp2_with (first|((with_reducible refine gate_dst (N:=1) rfl ?_);refine box_event ?hg (N:=1) ?hd (cs:= #[.int .i64 a0_0,.int .i64 a0_1]) (t:=59) ?hr ?_;(case hd=>rfl);(case hg=>rfl);(case hr=>first|(go_simp;done)|(go_simp;rfl));intro gb175 hg w7 hbox hb;have n0_:=Aside0.mk (below_step (by repeat (first|(with_reducible first|exact HB.out|apply below_alloc|apply pw_below_drewN|apply below_drew1)|exact HB.out)) hb);have n1_:=Aside0.mk (hbox);have n2_:=Aside0.mk ((by rw[hg];exact(below_size (by repeat (first|(with_reducible first|exact HB.out|apply below_alloc|apply pw_below_drewN|apply below_drew1)|exact HB.out))):w.heap.size≤gb175));have n3_:=Aside0.mk ((by rw[hg];exact(below_size (by repeat (first|(with_reducible first|exact HB.out|apply below_alloc|apply pw_below_drewN|apply below_drew1)|exact HB.out))):w.heap.size≤gb175));clear HB;have HB:=n0_;have BK175:=n1_;have GW175:=n2_;have GE175:=n3_;clear n0_ n1_ n2_ n3_;clear hb hbox hg;have hcz8_0:w7.cell? ⟨gb175,0,none⟩=some (.int .i64 a0_0):=(blk_cell BK175.out 0).trans rfl;have hcz8_1:w7.cell? ⟨gb175,1,none⟩=some (.int .i64 a0_1):=(blk_cell BK175.out 1).trans rfl;have hfz8_0:=blk_frozen BK175.out 0;have hfz8_1:=blk_frozen BK175.out 1))
    go_ret
    exact⟨by first|rfl|(simp[errW_none,errW_some]<;>rfl)|(simp[*,errW_none,errW_some]<;>rfl),by repeat (first|(with_reducible first|exact HB.out|apply below_alloc|apply pw_below_drewN|apply below_drew1|refine below_set ?_ GE175.out)|exact HB.out)⟩
  ·rw[if_neg c3]at H
   have c3b0:decide (a0_0<12)=false:=decide_eq_false c3
   clear c3
   obtain rfl:=Option.some.inj H
   go_enter Tryz.func36,Tryz.ntmps36
   go_wp2_with (first|((with_reducible refine gate_dst (N:=1) rfl ?_);refine box_event ?hg (N:=1) ?hd (cs:= #[.int .i64 a0_0,.int .i64 a0_1]) (t:=59) ?hr ?_;(case hd=>rfl);(case hg=>rfl);(case hr=>first|(go_simp;done)|(go_simp;rfl));intro gb175 hg w9 hbox hb;have n0_:=Aside0.mk (below_step (by repeat (first|(with_reducible first|exact HB.out|apply below_alloc|apply pw_below_drewN|apply below_drew1)|exact HB.out)) hb);have n1_:=Aside0.mk (hbox);have n2_:=Aside0.mk ((by rw[hg];exact(below_size (by repeat (first|(with_reducible first|exact HB.out|apply below_alloc|apply pw_below_drewN|apply below_drew1)|exact HB.out))):w.heap.size≤gb175));have n3_:=Aside0.mk ((by rw[hg];exact(below_size (by repeat (first|(with_reducible first|exact HB.out|apply below_alloc|apply pw_below_drewN|apply below_drew1)|exact HB.out))):w.heap.size≤gb175));clear HB;have HB:=n0_;have BK175:=n1_;have GW175:=n2_;have GE175:=n3_;clear n0_ n1_ n2_ n3_;clear hb hbox hg;have hcz10_0:w9.cell? ⟨gb175,0,none⟩=some (.int .i64 a0_0):=(blk_cell BK175.out 0).trans rfl;have hcz10_1:w9.cell? ⟨gb175,1,none⟩=some (.int .i64 a0_1):=(blk_cell BK175.out 1).trans rfl;have hfz10_0:=blk_frozen BK175.out 0;have hfz10_1:=blk_frozen BK175.out 1))
   go_ret
   exact⟨by first|rfl|(simp[errW_none,errW_some]<;>rfl)|(simp[*,errW_none,errW_some]<;>rfl),by repeat (first|(with_reducible first|exact HB.out|apply below_alloc|apply pw_below_drewN|apply below_drew1|refine below_set ?_ GE175.out)|exact HB.out)⟩
 ·rw[if_neg c2]at H
  have c2b0:decide (0≤a0_0)=false:=decide_eq_false c2
  clear c2
  obtain rfl:=Option.some.inj H
  go_enter Tryz.func36,Tryz.ntmps36
  go_wp2_with (first|((with_reducible refine gate_dst (N:=1) rfl ?_);refine box_event ?hg (N:=1) ?hd (cs:= #[.int .i64 a0_0,.int .i64 a0_1]) (t:=59) ?hr ?_;(case hd=>rfl);(case hg=>rfl);(case hr=>first|(go_simp;done)|(go_simp;rfl));intro gb175 hg w11 hbox hb;have n0_:=Aside0.mk (below_step (by repeat (first|(with_reducible first|exact HB.out|apply below_alloc|apply pw_below_drewN|apply below_drew1)|exact HB.out)) hb);have n1_:=Aside0.mk (hbox);have n2_:=Aside0.mk ((by rw[hg];exact(below_size (by repeat (first|(with_reducible first|exact HB.out|apply below_alloc|apply pw_below_drewN|apply below_drew1)|exact HB.out))):w.heap.size≤gb175));have n3_:=Aside0.mk ((by rw[hg];exact(below_size (by repeat (first|(with_reducible first|exact HB.out|apply below_alloc|apply pw_below_drewN|apply below_drew1)|exact HB.out))):w.heap.size≤gb175));clear HB;have HB:=n0_;have BK175:=n1_;have GW175:=n2_;have GE175:=n3_;clear n0_ n1_ n2_ n3_;clear hb hbox hg;have hcz12_0:w11.cell? ⟨gb175,0,none⟩=some (.int .i64 a0_0):=(blk_cell BK175.out 0).trans rfl;have hcz12_1:w11.cell? ⟨gb175,1,none⟩=some (.int .i64 a0_1):=(blk_cell BK175.out 1).trans rfl;have hfz12_0:=blk_frozen BK175.out 0;have hfz12_1:=blk_frozen BK175.out 1))
  go_ret
  exact⟨by first|rfl|(simp[errW_none,errW_some]<;>rfl)|(simp[*,errW_none,errW_some]<;>rfl),by repeat (first|(with_reducible first|exact HB.out|apply below_alloc|apply pw_below_drewN|apply below_drew1|refine below_set ?_ GE175.out)|exact HB.out)⟩
end Go.Proofs.YtdcfonmjbelgbaaGreatDoor.Q
end
section
namespace Go.Proofs.YtdcfonmjbelgbaaGreatDoor.Q
open Go.RowKit YtdcfonmjbelgbaaGreatDoorW.PrintWords YtdcfonmjbelgbaaGreatDoorW.PrintLast YtdcfonmjbelgbaaGreatDoorW.PrintMore
attribute [local go_sem] max2_int min2_int max_two min_two max_three min_three max_four min_four
mutual
def sluicegateref11_Volume.j0:Nat→Bool→Int→Int→Int→List (S59)→Option (Bool)
 | 0,_,_,_,_,_=>none
 | k+1,x30,x177000,x177001,x177002,x177003=>if x30=true then (some false)else (sluicegateref11_Volume.l0 k 0 x177000 x177001 x177002 x177003)
def sluicegateref11_Volume.l0:Nat→Int→Int→Int→Int→List (S59)→Option (Bool)
 | 0,_,_,_,_,_=>none
 | k+1,x3,x177000,x177001,x177002,x177003=>if x3<9 then (if 0≤x3 then (if x3<(x177003.length:Int)then ((sluicegateref10_Is.f ((rd_T59 x177003 x3).f0) ((rd_T59 x177003 x3).f1)).bind fun t180=>(if t180=true then (sluicegateref11_Volume.l1 k x3 0 x177000 x177001 x177002 x177003)else (some false)))else (none))else (none))else (some true)
def sluicegateref11_Volume.l1:Nat→Int→Int→Int→Int→Int→List (S59)→Option (Bool)
 | 0,_,_,_,_,_,_=>none
 | k+1,x3,x4,x177000,x177001,x177002,x177003=>if x4<x3 then (if 0≤x4 then (if x4<(x177003.length:Int)then (if 0≤x3 then (if x3<(x177003.length:Int)then (if ((rd_T59 x177003 x4).f0)=((rd_T59 x177003 x3).f0)then (some false)else (sluicegateref11_Volume.l1 k x3 (wrap64 (x4+1)) x177000 x177001 x177002 x177003))else (none))else (none))else (none))else (none))else (sluicegateref11_Volume.l0 k (wrap64 (x3+1)) x177000 x177001 x177002 x177003)
end
def sluicegateref11_Volume.f (k:Nat) (a0_0:Int) (a0_1:Int) (a0_2:Int) (l0_3:List (S59)):Option (Bool):=(sluicegateref11_number.f a0_0).bind fun t177=>(if t177=true then ((sluicegateref11_number.f a0_1).bind fun t178=>(if t178=true then (if a0_2<0 then (sluicegateref11_Volume.j0 k true a0_0 a0_1 a0_2 l0_3)else (if a0_2>384 then (sluicegateref11_Volume.j0 k true a0_0 a0_1 a0_2 l0_3)else (sluicegateref11_Volume.j0 k ((l0_3.length:Int) != 9) a0_0 a0_1 a0_2 l0_3)))else (sluicegateref11_Volume.j0 k true a0_0 a0_1 a0_2 l0_3)))else (sluicegateref11_Volume.j0 k true a0_0 a0_1 a0_2 l0_3))
theorem sluicegateref11_Volume.calls (k:Nat) (a0_0:Int) (a0_1:Int) (a0_2:Int) (A0_3:Option Addr) (c0_3:Nat) (l0_3:List (S59)) (r:Bool) (w:World) (hr0_3:Kd.C k59 w A0_3 l0_3.length l0_3) (hc0_3:l0_3.length≤c0_3) (h:sluicegateref11_Volume.f k a0_0 a0_1 a0_2 l0_3=some r) :
  Calls Tryz.prog 13 #[.agg #[.int .i64 a0_0,.int .i64 a0_1,.int .i64 a0_2,.slice A0_3 l0_3.length c0_3]] w fun e w'=>e = .returned (.bool r)∧Below w.heap.size w w':=by
 have hu24:=Tryz.underlying24
 have hu59:=Tryz.underlying59
 have HR0_3:=Aside0.mk hr0_3
 have HC0_3:=Aside0.mk hc0_3
 clear hr0_3 hc0_3
 have HB:=Aside0.mk (Below.refl w.heap.size w)
 have H:((sluicegateref11_number.f a0_0).bind fun t177=>(if t177=true then ((sluicegateref11_number.f a0_1).bind fun t178=>(if t178=true then (if a0_2<0 then (sluicegateref11_Volume.j0 k true a0_0 a0_1 a0_2 l0_3)else (if a0_2>384 then (sluicegateref11_Volume.j0 k true a0_0 a0_1 a0_2 l0_3)else (sluicegateref11_Volume.j0 k ((l0_3.length:Int) != 9) a0_0 a0_1 a0_2 l0_3)))else (sluicegateref11_Volume.j0 k true a0_0 a0_1 a0_2 l0_3)))else (sluicegateref11_Volume.j0 k true a0_0 a0_1 a0_2 l0_3)))=some r:=h
 clear h
 have HC2:=Aside0.mk H
 clear H
 go_enter Tryz.func13,Tryz.ntmps13
 go_upto_region 1 with (first|((with_reducible refine gate_dst (N:=1) rfl ?_);(try (refine gate_guard (by rfl) ?_;dsimp only));refine box_event ?hg (N:=1) ?hd (cs:= #[.int .i64 a0_0,.int .i64 a0_1,.int .i64 a0_2,.slice A0_3 l0_3.length c0_3]) (t:=24) ?hr ?_;(case hd=>rfl);(case hg=>rfl);(case hr=>first|(go_simp;done)|(go_simp;rfl));intro gb176 hg w3 hbox hb;have n0_:=Aside0.mk (below_step (by repeat (first|(with_reducible first|exact HB.out|apply below_alloc|apply pw_below_drewN|apply below_drew1)|exact HB.out)) hb);have n1_:=Aside0.mk (hbox);have n2_:=Aside0.mk ((by rw[hg];exact(below_size (by repeat (first|(with_reducible first|exact HB.out|apply below_alloc|apply pw_below_drewN|apply below_drew1)|exact HB.out))):w.heap.size≤gb176));have n3_:=Aside0.mk ((by rw[hg];exact(below_size (by repeat (first|(with_reducible first|exact HB.out|apply below_alloc|apply pw_below_drewN|apply below_drew1)|exact HB.out))):w.heap.size≤gb176));clear HB;have HB:=n0_;have BK176:=n1_;have GW176:=n2_;have GE176:=n3_;clear n0_ n1_ n2_ n3_;clear hb hbox hg))
 repeat (go_quiet (first|((with_reducible refine gate_dst (N:=1) rfl ?_);(try (refine gate_guard (by rfl) ?_;dsimp only));refine box_event ?hg (N:=1) ?hd (cs:= #[.int .i64 a0_0,.int .i64 a0_1,.int .i64 a0_2,.slice A0_3 l0_3.length c0_3]) (t:=24) ?hr ?_;(case hd=>rfl);(case hg=>rfl);(case hr=>first|(go_simp;done)|(go_simp;rfl));intro gb176 hg w3 hbox hb;have n0_:=Aside0.mk (below_step (by repeat (first|(with_reducible first|exact HB.out|apply below_alloc|apply pw_below_drewN|apply below_drew1)|exact HB.out)) hb);have n1_:=Aside0.mk (hbox);have n2_:=Aside0.mk ((by rw[hg];exact(below_size (by repeat (first|(with_reducible first|exact HB.out|apply below_alloc|apply pw_below_drewN|apply below_drew1)|exact HB.out))):w.heap.size≤gb176));have n3_:=Aside0.mk ((by rw[hg];exact(below_size (by repeat (first|(with_reducible first|exact HB.out|apply below_alloc|apply pw_below_drewN|apply below_drew1)|exact HB.out))):w.heap.size≤gb176));clear HB;have HB:=n0_;have BK176:=n1_;have GW176:=n2_;have GE176:=n3_;clear n0_ n1_ n2_ n3_;clear hb hbox hg));go_upto_region 1 with (first|((with_reducible refine gate_dst (N:=1) rfl ?_);(try (refine gate_guard (by rfl) ?_;dsimp only));refine box_event ?hg (N:=1) ?hd (cs:= #[.int .i64 a0_0,.int .i64 a0_1,.int .i64 a0_2,.slice A0_3 l0_3.length c0_3]) (t:=24) ?hr ?_;(case hd=>rfl);(case hg=>rfl);(case hr=>first|(go_simp;done)|(go_simp;rfl));intro gb176 hg w3 hbox hb;have n0_:=Aside0.mk (below_step (by repeat (first|(with_reducible first|exact HB.out|apply below_alloc|apply pw_below_drewN|apply below_drew1)|exact HB.out)) hb);have n1_:=Aside0.mk (hbox);have n2_:=Aside0.mk ((by rw[hg];exact(below_size (by repeat (first|(with_reducible first|exact HB.out|apply below_alloc|apply pw_below_drewN|apply below_drew1)|exact HB.out))):w.heap.size≤gb176));have n3_:=Aside0.mk ((by rw[hg];exact(below_size (by repeat (first|(with_reducible first|exact HB.out|apply below_alloc|apply pw_below_drewN|apply below_drew1)|exact HB.out))):w.heap.size≤gb176));clear HB;have HB:=n0_;have BK176:=n1_;have GW176:=n2_;have GE176:=n3_;clear n0_ n1_ n2_ n3_;clear hb hbox hg)))
 (try simp only[Act.put,zA,zB,zC])
 go_cut [30] (fun v30 wc=> ∃ (kq:Nat) (x30_1:Bool),v30 = .bool x30_1∧Aside0 (sluicegateref11_Volume.j0 kq x30_1 a0_0 a0_1 a0_2 l0_3=some r)∧Aside0 (kq≤k)∧Aside0 (wc.heap[gb176]? = some (.cells #[.int .i64 a0_0,.int .i64 a0_1,.int .i64 a0_2,(.slice A0_3 l0_3.length c0_3)] 24 (0,0)))∧Aside0 (Below w.heap.size w wc))
 case first=>
  have H:=HC2.out
  clear HC2
  replace H:=Option.bind_eq_some_iff.mp H
  obtain⟨t177,A40,H⟩:=H
  replace H:(if t177=true then ((sluicegateref11_number.f a0_1).bind fun t178=>(if t178=true then (if a0_2<0 then (sluicegateref11_Volume.j0 k true a0_0 a0_1 a0_2 l0_3)else (if a0_2>384 then (sluicegateref11_Volume.j0 k true a0_0 a0_1 a0_2 l0_3)else (sluicegateref11_Volume.j0 k ((l0_3.length:Int) != 9) a0_0 a0_1 a0_2 l0_3)))else (sluicegateref11_Volume.j0 k true a0_0 a0_1 a0_2 l0_3)))else (sluicegateref11_Volume.j0 k true a0_0 a0_1 a0_2 l0_3))=some r:=H
  have A4:=Aside0.mk A40
  clear A40
  by_cases c5:t177=true
  ·subst c5
   have H1:((sluicegateref11_number.f a0_1).bind fun t178=>(if t178=true then (if a0_2<0 then (sluicegateref11_Volume.j0 k true a0_0 a0_1 a0_2 l0_3)else (if a0_2>384 then (sluicegateref11_Volume.j0 k true a0_0 a0_1 a0_2 l0_3)else (sluicegateref11_Volume.j0 k ((l0_3.length:Int) != 9) a0_0 a0_1 a0_2 l0_3)))else (sluicegateref11_Volume.j0 k true a0_0 a0_1 a0_2 l0_3)))=some r:=by rw[if_pos rfl]at H;exact H
   clear H
   have H:=H1
   clear H1
   replace H:=Option.bind_eq_some_iff.mp H
   obtain⟨t178,A60,H⟩:=H
   replace H:(if t178=true then (if a0_2<0 then (sluicegateref11_Volume.j0 k true a0_0 a0_1 a0_2 l0_3)else (if a0_2>384 then (sluicegateref11_Volume.j0 k true a0_0 a0_1 a0_2 l0_3)else (sluicegateref11_Volume.j0 k ((l0_3.length:Int) != 9) a0_0 a0_1 a0_2 l0_3)))else (sluicegateref11_Volume.j0 k true a0_0 a0_1 a0_2 l0_3))=some r:=H
   have A6:=Aside0.mk A60
   clear A60
   by_cases c7:t178=true
   ·subst c7
    have H1:(if a0_2<0 then (sluicegateref11_Volume.j0 k true a0_0 a0_1 a0_2 l0_3)else (if a0_2>384 then (sluicegateref11_Volume.j0 k true a0_0 a0_1 a0_2 l0_3)else (sluicegateref11_Volume.j0 k ((l0_3.length:Int) != 9) a0_0 a0_1 a0_2 l0_3)))=some r:=by rw[if_pos rfl]at H;exact H
    clear H
    have H:=H1
    clear H1
    by_cases c8:a0_2<0
    ·rw[if_pos c8]at H
     have c8b0:decide (a0_2<0)=true:=decide_eq_true c8
     clear c8
     (first|rw[c8b0]|(simp only[i64_w,i32_w];rw[c8b0])|skip)
     have H':=Aside0.mk H
     clear H
     have hcz9_0:w3.cell? ⟨gb176,0,none⟩=some (.int .i64 a0_0):=(blk_cell BK176.out 0).trans rfl
     have hcz9_1:w3.cell? ⟨gb176,1,none⟩=some (.int .i64 a0_1):=(blk_cell BK176.out 1).trans rfl
     have hcz9_2:w3.cell? ⟨gb176,2,none⟩=some (.int .i64 a0_2):=(blk_cell BK176.out 2).trans rfl
     have hcz9_3:w3.cell? ⟨gb176,3,none⟩=some (.slice A0_3 l0_3.length c0_3):=(blk_cell BK176.out 3).trans rfl
     have hfz9_0:=blk_frozen BK176.out 0
     have hfz9_1:=blk_frozen BK176.out 1
     have hfz9_2:=blk_frozen BK176.out 2
     have hfz9_3:=blk_frozen BK176.out 3
     go_wp2_with (first|(go_at_call 35;(with_reducible refine(sluicegateref11_number.calls a0_0 true _ A4.out).mono ?_);rintro e w' ⟨rfl,⟨nd,rfl⟩⟩;(try first|exact⟨rfl,_,World.drewN_drewN _ _ _⟩|exact⟨rfl,_,Eq.trans (World.drewN_drewN _ _ _) (congrArg (World.drewN _) (Nat.add_assoc _ _ _))⟩))|(go_at_call 35;(with_reducible refine(sluicegateref11_number.calls a0_1 true _ A6.out).mono ?_);rintro e w' ⟨rfl,⟨nd,rfl⟩⟩;(try first|exact⟨rfl,_,World.drewN_drewN _ _ _⟩|exact⟨rfl,_,Eq.trans (World.drewN_drewN _ _ _) (congrArg (World.drewN _) (Nat.add_assoc _ _ _))⟩)))
     repeat (go_quiet (first|(go_at_call 35;(with_reducible refine(sluicegateref11_number.calls a0_0 true _ A4.out).mono ?_);rintro e w' ⟨rfl,⟨nd,rfl⟩⟩;(try first|exact⟨rfl,_,World.drewN_drewN _ _ _⟩|exact⟨rfl,_,Eq.trans (World.drewN_drewN _ _ _) (congrArg (World.drewN _) (Nat.add_assoc _ _ _))⟩))|(go_at_call 35;(with_reducible refine(sluicegateref11_number.calls a0_1 true _ A6.out).mono ?_);rintro e w' ⟨rfl,⟨nd,rfl⟩⟩;(try first|exact⟨rfl,_,World.drewN_drewN _ _ _⟩|exact⟨rfl,_,Eq.trans (World.drewN_drewN _ _ _) (congrArg (World.drewN _) (Nat.add_assoc _ _ _))⟩)));try go_wp2_with (first|(go_at_call 35;(with_reducible refine(sluicegateref11_number.calls a0_0 true _ A4.out).mono ?_);rintro e w' ⟨rfl,⟨nd,rfl⟩⟩;(try first|exact⟨rfl,_,World.drewN_drewN _ _ _⟩|exact⟨rfl,_,Eq.trans (World.drewN_drewN _ _ _) (congrArg (World.drewN _) (Nat.add_assoc _ _ _))⟩))|(go_at_call 35;(with_reducible refine(sluicegateref11_number.calls a0_1 true _ A6.out).mono ?_);rintro e w' ⟨rfl,⟨nd,rfl⟩⟩;(try first|exact⟨rfl,_,World.drewN_drewN _ _ _⟩|exact⟨rfl,_,Eq.trans (World.drewN_drewN _ _ _) (congrArg (World.drewN _) (Nat.add_assoc _ _ _))⟩))))
     go_meet
     case rel=>exact⟨_,(true),(by first|rfl|(simp;done)|(simp[*];done)),H',⟨by first|omega|exact Nat.le_refl _⟩,⟨by (with_reducible repeat (first|refine blk_drewN ?_ _|refine blk_drew ?_|refine blk_alloc ?_ _));exact BK176.out⟩,⟨by repeat (first|(with_reducible first|exact HB.out|apply below_alloc|apply pw_below_drewN|apply below_drew1|refine below_set ?_ GE176.out)|exact HB.out)⟩⟩
    ·rw[if_neg c8]at H
     have c8b0:decide (a0_2<0)=false:=decide_eq_false c8
     clear c8
     (first|rw[c8b0]|(simp only[i64_w,i32_w];rw[c8b0])|skip)
     by_cases c10:a0_2>384
     ·rw[if_pos c10]at H
      have c10b0:decide (384<a0_2)=true:=decide_eq_true c10
      clear c10
      have H':=Aside0.mk H
      clear H
      have hcz11_0:w3.cell? ⟨gb176,0,none⟩=some (.int .i64 a0_0):=(blk_cell BK176.out 0).trans rfl
      have hcz11_1:w3.cell? ⟨gb176,1,none⟩=some (.int .i64 a0_1):=(blk_cell BK176.out 1).trans rfl
      have hcz11_2:w3.cell? ⟨gb176,2,none⟩=some (.int .i64 a0_2):=(blk_cell BK176.out 2).trans rfl
      have hcz11_3:w3.cell? ⟨gb176,3,none⟩=some (.slice A0_3 l0_3.length c0_3):=(blk_cell BK176.out 3).trans rfl
      have hfz11_0:=blk_frozen BK176.out 0
      have hfz11_1:=blk_frozen BK176.out 1
      have hfz11_2:=blk_frozen BK176.out 2
      have hfz11_3:=blk_frozen BK176.out 3
      go_wp2_with (first|(go_at_call 35;(with_reducible refine(sluicegateref11_number.calls a0_0 true _ A4.out).mono ?_);rintro e w' ⟨rfl,⟨nd,rfl⟩⟩;(try first|exact⟨rfl,_,World.drewN_drewN _ _ _⟩|exact⟨rfl,_,Eq.trans (World.drewN_drewN _ _ _) (congrArg (World.drewN _) (Nat.add_assoc _ _ _))⟩))|(go_at_call 35;(with_reducible refine(sluicegateref11_number.calls a0_1 true _ A6.out).mono ?_);rintro e w' ⟨rfl,⟨nd,rfl⟩⟩;(try first|exact⟨rfl,_,World.drewN_drewN _ _ _⟩|exact⟨rfl,_,Eq.trans (World.drewN_drewN _ _ _) (congrArg (World.drewN _) (Nat.add_assoc _ _ _))⟩)))
      repeat (go_quiet (first|(go_at_call 35;(with_reducible refine(sluicegateref11_number.calls a0_0 true _ A4.out).mono ?_);rintro e w' ⟨rfl,⟨nd,rfl⟩⟩;(try first|exact⟨rfl,_,World.drewN_drewN _ _ _⟩|exact⟨rfl,_,Eq.trans (World.drewN_drewN _ _ _) (congrArg (World.drewN _) (Nat.add_assoc _ _ _))⟩))|(go_at_call 35;(with_reducible refine(sluicegateref11_number.calls a0_1 true _ A6.out).mono ?_);rintro e w' ⟨rfl,⟨nd,rfl⟩⟩;(try first|exact⟨rfl,_,World.drewN_drewN _ _ _⟩|exact⟨rfl,_,Eq.trans (World.drewN_drewN _ _ _) (congrArg (World.drewN _) (Nat.add_assoc _ _ _))⟩)));try go_wp2_with (first|(go_at_call 35;(with_reducible refine(sluicegateref11_number.calls a0_0 true _ A4.out).mono ?_);rintro e w' ⟨rfl,⟨nd,rfl⟩⟩;(try first|exact⟨rfl,_,World.drewN_drewN _ _ _⟩|exact⟨rfl,_,Eq.trans (World.drewN_drewN _ _ _) (congrArg (World.drewN _) (Nat.add_assoc _ _ _))⟩))|(go_at_call 35;(with_reducible refine(sluicegateref11_number.calls a0_1 true _ A6.out).mono ?_);rintro e w' ⟨rfl,⟨nd,rfl⟩⟩;(try first|exact⟨rfl,_,World.drewN_drewN _ _ _⟩|exact⟨rfl,_,Eq.trans (World.drewN_drewN _ _ _) (congrArg (World.drewN _) (Nat.add_assoc _ _ _))⟩))))
      go_meet
      case rel=>exact⟨_,(true),(by first|rfl|(simp;done)|(simp[*];done)),H',⟨by first|omega|exact Nat.le_refl _⟩,⟨by (with_reducible repeat (first|refine blk_drewN ?_ _|refine blk_drew ?_|refine blk_alloc ?_ _));exact BK176.out⟩,⟨by repeat (first|(with_reducible first|exact HB.out|apply below_alloc|apply pw_below_drewN|apply below_drew1|refine below_set ?_ GE176.out)|exact HB.out)⟩⟩
     ·rw[if_neg c10]at H
      have c10b0:decide (384<a0_2)=false:=decide_eq_false c10
      clear c10
      have H':=Aside0.mk H
      clear H
      have hcz12_0:w3.cell? ⟨gb176,0,none⟩=some (.int .i64 a0_0):=(blk_cell BK176.out 0).trans rfl
      have hcz12_1:w3.cell? ⟨gb176,1,none⟩=some (.int .i64 a0_1):=(blk_cell BK176.out 1).trans rfl
      have hcz12_2:w3.cell? ⟨gb176,2,none⟩=some (.int .i64 a0_2):=(blk_cell BK176.out 2).trans rfl
      have hcz12_3:w3.cell? ⟨gb176,3,none⟩=some (.slice A0_3 l0_3.length c0_3):=(blk_cell BK176.out 3).trans rfl
      have hfz12_0:=blk_frozen BK176.out 0
      have hfz12_1:=blk_frozen BK176.out 1
      have hfz12_2:=blk_frozen BK176.out 2
      have hfz12_3:=blk_frozen BK176.out 3
      go_wp2_with (first|(go_at_call 35;(with_reducible refine(sluicegateref11_number.calls a0_0 true _ A4.out).mono ?_);rintro e w' ⟨rfl,⟨nd,rfl⟩⟩;(try first|exact⟨rfl,_,World.drewN_drewN _ _ _⟩|exact⟨rfl,_,Eq.trans (World.drewN_drewN _ _ _) (congrArg (World.drewN _) (Nat.add_assoc _ _ _))⟩))|(go_at_call 35;(with_reducible refine(sluicegateref11_number.calls a0_1 true _ A6.out).mono ?_);rintro e w' ⟨rfl,⟨nd,rfl⟩⟩;(try first|exact⟨rfl,_,World.drewN_drewN _ _ _⟩|exact⟨rfl,_,Eq.trans (World.drewN_drewN _ _ _) (congrArg (World.drewN _) (Nat.add_assoc _ _ _))⟩)))
      repeat (go_quiet (first|(go_at_call 35;(with_reducible refine(sluicegateref11_number.calls a0_0 true _ A4.out).mono ?_);rintro e w' ⟨rfl,⟨nd,rfl⟩⟩;(try first|exact⟨rfl,_,World.drewN_drewN _ _ _⟩|exact⟨rfl,_,Eq.trans (World.drewN_drewN _ _ _) (congrArg (World.drewN _) (Nat.add_assoc _ _ _))⟩))|(go_at_call 35;(with_reducible refine(sluicegateref11_number.calls a0_1 true _ A6.out).mono ?_);rintro e w' ⟨rfl,⟨nd,rfl⟩⟩;(try first|exact⟨rfl,_,World.drewN_drewN _ _ _⟩|exact⟨rfl,_,Eq.trans (World.drewN_drewN _ _ _) (congrArg (World.drewN _) (Nat.add_assoc _ _ _))⟩)));try go_wp2_with (first|(go_at_call 35;(with_reducible refine(sluicegateref11_number.calls a0_0 true _ A4.out).mono ?_);rintro e w' ⟨rfl,⟨nd,rfl⟩⟩;(try first|exact⟨rfl,_,World.drewN_drewN _ _ _⟩|exact⟨rfl,_,Eq.trans (World.drewN_drewN _ _ _) (congrArg (World.drewN _) (Nat.add_assoc _ _ _))⟩))|(go_at_call 35;(with_reducible refine(sluicegateref11_number.calls a0_1 true _ A6.out).mono ?_);rintro e w' ⟨rfl,⟨nd,rfl⟩⟩;(try first|exact⟨rfl,_,World.drewN_drewN _ _ _⟩|exact⟨rfl,_,Eq.trans (World.drewN_drewN _ _ _) (congrArg (World.drewN _) (Nat.add_assoc _ _ _))⟩))))
      go_meet
      case rel=>exact⟨_,(((l0_3.length:Int) != 9)),(by first|rfl|(simp;done)|(simp[*];done)),H',⟨by first|omega|exact Nat.le_refl _⟩,⟨by (with_reducible repeat (first|refine blk_drewN ?_ _|refine blk_drew ?_|refine blk_alloc ?_ _));exact BK176.out⟩,⟨by repeat (first|(with_reducible first|exact HB.out|apply below_alloc|apply pw_below_drewN|apply below_drew1|refine below_set ?_ GE176.out)|exact HB.out)⟩⟩
   ·replace c7:=Bool.eq_false_iff.mpr c7
    subst c7
    have H1:(sluicegateref11_Volume.j0 k true a0_0 a0_1 a0_2 l0_3)=some r:=by rw[if_neg (show ¬ (false=true)by decide)]at H;exact H
    clear H
    have H:=H1
    clear H1
    have H':=Aside0.mk H
    clear H
    have hcz13_0:w3.cell? ⟨gb176,0,none⟩=some (.int .i64 a0_0):=(blk_cell BK176.out 0).trans rfl
    have hcz13_1:w3.cell? ⟨gb176,1,none⟩=some (.int .i64 a0_1):=(blk_cell BK176.out 1).trans rfl
    have hcz13_2:w3.cell? ⟨gb176,2,none⟩=some (.int .i64 a0_2):=(blk_cell BK176.out 2).trans rfl
    have hcz13_3:w3.cell? ⟨gb176,3,none⟩=some (.slice A0_3 l0_3.length c0_3):=(blk_cell BK176.out 3).trans rfl
    have hfz13_0:=blk_frozen BK176.out 0
    have hfz13_1:=blk_frozen BK176.out 1
    have hfz13_2:=blk_frozen BK176.out 2
    have hfz13_3:=blk_frozen BK176.out 3
    go_wp2_with (first|(go_at_call 35;(with_reducible refine(sluicegateref11_number.calls a0_0 true _ A4.out).mono ?_);rintro e w' ⟨rfl,⟨nd,rfl⟩⟩;(try first|exact⟨rfl,_,World.drewN_drewN _ _ _⟩|exact⟨rfl,_,Eq.trans (World.drewN_drewN _ _ _) (congrArg (World.drewN _) (Nat.add_assoc _ _ _))⟩))|(go_at_call 35;(with_reducible refine(sluicegateref11_number.calls a0_1 false _ A6.out).mono ?_);rintro e w' ⟨rfl,⟨nd,rfl⟩⟩;(try first|exact⟨rfl,_,World.drewN_drewN _ _ _⟩|exact⟨rfl,_,Eq.trans (World.drewN_drewN _ _ _) (congrArg (World.drewN _) (Nat.add_assoc _ _ _))⟩)))
    repeat (go_quiet (first|(go_at_call 35;(with_reducible refine(sluicegateref11_number.calls a0_0 true _ A4.out).mono ?_);rintro e w' ⟨rfl,⟨nd,rfl⟩⟩;(try first|exact⟨rfl,_,World.drewN_drewN _ _ _⟩|exact⟨rfl,_,Eq.trans (World.drewN_drewN _ _ _) (congrArg (World.drewN _) (Nat.add_assoc _ _ _))⟩))|(go_at_call 35;(with_reducible refine(sluicegateref11_number.calls a0_1 false _ A6.out).mono ?_);rintro e w' ⟨rfl,⟨nd,rfl⟩⟩;(try first|exact⟨rfl,_,World.drewN_drewN _ _ _⟩|exact⟨rfl,_,Eq.trans (World.drewN_drewN _ _ _) (congrArg (World.drewN _) (Nat.add_assoc _ _ _))⟩)));try go_wp2_with (first|(go_at_call 35;(with_reducible refine(sluicegateref11_number.calls a0_0 true _ A4.out).mono ?_);rintro e w' ⟨rfl,⟨nd,rfl⟩⟩;(try first|exact⟨rfl,_,World.drewN_drewN _ _ _⟩|exact⟨rfl,_,Eq.trans (World.drewN_drewN _ _ _) (congrArg (World.drewN _) (Nat.add_assoc _ _ _))⟩))|(go_at_call 35;(with_reducible refine(sluicegateref11_number.calls a0_1 false _ A6.out).mono ?_);rintro e w' ⟨rfl,⟨nd,rfl⟩⟩;(try first|exact⟨rfl,_,World.drewN_drewN _ _ _⟩|exact⟨rfl,_,Eq.trans (World.drewN_drewN _ _ _) (congrArg (World.drewN _) (Nat.add_assoc _ _ _))⟩))))
    go_meet
    case rel=>exact⟨_,(true),(by first|rfl|(simp;done)|(simp[*];done)),H',⟨by first|omega|exact Nat.le_refl _⟩,⟨by (with_reducible repeat (first|refine blk_drewN ?_ _|refine blk_drew ?_|refine blk_alloc ?_ _));exact BK176.out⟩,⟨by repeat (first|(with_reducible first|exact HB.out|apply below_alloc|apply pw_below_drewN|apply below_drew1|refine below_set ?_ GE176.out)|exact HB.out)⟩⟩
  ·replace c5:=Bool.eq_false_iff.mpr c5
   subst c5
   have H1:(sluicegateref11_Volume.j0 k true a0_0 a0_1 a0_2 l0_3)=some r:=by rw[if_neg (show ¬ (false=true)by decide)]at H;exact H
   clear H
   have H:=H1
   clear H1
   have H':=Aside0.mk H
   clear H
   have hcz14_0:w3.cell? ⟨gb176,0,none⟩=some (.int .i64 a0_0):=(blk_cell BK176.out 0).trans rfl
   have hcz14_1:w3.cell? ⟨gb176,1,none⟩=some (.int .i64 a0_1):=(blk_cell BK176.out 1).trans rfl
   have hcz14_2:w3.cell? ⟨gb176,2,none⟩=some (.int .i64 a0_2):=(blk_cell BK176.out 2).trans rfl
   have hcz14_3:w3.cell? ⟨gb176,3,none⟩=some (.slice A0_3 l0_3.length c0_3):=(blk_cell BK176.out 3).trans rfl
   have hfz14_0:=blk_frozen BK176.out 0
   have hfz14_1:=blk_frozen BK176.out 1
   have hfz14_2:=blk_frozen BK176.out 2
   have hfz14_3:=blk_frozen BK176.out 3
   go_wp2_with (first|(go_at_call 35;(with_reducible refine(sluicegateref11_number.calls a0_0 false _ A4.out).mono ?_);rintro e w' ⟨rfl,⟨nd,rfl⟩⟩;(try first|exact⟨rfl,_,World.drewN_drewN _ _ _⟩|exact⟨rfl,_,Eq.trans (World.drewN_drewN _ _ _) (congrArg (World.drewN _) (Nat.add_assoc _ _ _))⟩)))
   repeat (go_quiet (first|(go_at_call 35;(with_reducible refine(sluicegateref11_number.calls a0_0 false _ A4.out).mono ?_);rintro e w' ⟨rfl,⟨nd,rfl⟩⟩;(try first|exact⟨rfl,_,World.drewN_drewN _ _ _⟩|exact⟨rfl,_,Eq.trans (World.drewN_drewN _ _ _) (congrArg (World.drewN _) (Nat.add_assoc _ _ _))⟩)));try go_wp2_with (first|(go_at_call 35;(with_reducible refine(sluicegateref11_number.calls a0_0 false _ A4.out).mono ?_);rintro e w' ⟨rfl,⟨nd,rfl⟩⟩;(try first|exact⟨rfl,_,World.drewN_drewN _ _ _⟩|exact⟨rfl,_,Eq.trans (World.drewN_drewN _ _ _) (congrArg (World.drewN _) (Nat.add_assoc _ _ _))⟩))))
   go_meet
   case rel=>exact⟨_,(true),(by first|rfl|(simp;done)|(simp[*];done)),H',⟨by first|omega|exact Nat.le_refl _⟩,⟨by (with_reducible repeat (first|refine blk_drewN ?_ _|refine blk_drew ?_|refine blk_alloc ?_ _));exact BK176.out⟩,⟨by repeat (first|(with_reducible first|exact HB.out|apply below_alloc|apply pw_below_drewN|apply below_drew1|refine below_set ?_ GE176.out)|exact HB.out)⟩⟩
 case rest=>
  clear HC2
  try clear c1
  try clear p2
  try clear c5
  try clear c7
  try clear c8
  try clear c8b0
  try clear c10
  try clear c10b0
  try clear c13
  try clear hcz11_0
  try clear hcz11_1
  try clear hcz11_2
  try clear hcz11_3
  try clear hcz12_0
  try clear hcz12_1
  try clear hcz12_2
  try clear hcz12_3
  try clear hcz13_0
  try clear hcz13_1
  try clear hcz13_2
  try clear hcz13_3
  try clear hcz14_0
  try clear hcz14_1
  try clear hcz14_2
  try clear hcz14_3
  try clear hcz9_0
  try clear hcz9_1
  try clear hcz9_2
  try clear hcz9_3
  try clear hfz11_0
  try clear hfz11_1
  try clear hfz11_2
  try clear hfz11_3
  try clear hfz12_0
  try clear hfz12_1
  try clear hfz12_2
  try clear hfz12_3
  try clear hfz13_0
  try clear hfz13_1
  try clear hfz13_2
  try clear hfz13_3
  try clear hfz14_0
  try clear hfz14_1
  try clear hfz14_2
  try clear hfz14_3
  try clear hfz9_0
  try clear hfz9_1
  try clear hfz9_2
  try clear hfz9_3
  obtain⟨kq,x30_1,rfl,HA,HJ1,BK176,HB⟩:=hcut
  cases kq with
  | zero=>exact absurd HA.out (by simp[sluicegateref11_Volume.j0])
  | succ kj1=>
   have H:=HA.out
   clear HA
   simp only[sluicegateref11_Volume.j0]at H
   by_cases c15:x30_1=true
   ·subst c15
    have H1:(some false)=some r:=by rw[if_pos rfl]at H;exact H
    clear H
    have H:=H1
    clear H1
    obtain rfl:=Option.some.inj H
    go_wp2
    repeat (go_quiet (fail);try go_wp2)
    go_ret
    exact⟨by first|rfl|(simp[errW_none,errW_some]<;>rfl)|(simp[*,errW_none,errW_some]<;>rfl),by repeat (first|(with_reducible first|exact HB.out|apply below_alloc|apply pw_below_drewN|apply below_drew1|refine below_set ?_ GE176.out)|exact HB.out)⟩
   ·replace c15:=Bool.eq_false_iff.mpr c15
    subst c15
    have H1:(sluicegateref11_Volume.l0 kj1 0 a0_0 a0_1 a0_2 l0_3)=some r:=by rw[if_neg (show ¬ (false=true)by decide)]at H;exact H
    clear H
    have H:=H1
    clear H1
    have H':=Aside0.mk H
    clear H
    go_wp2
    repeat (go_quiet (fail);try go_wp2)
    go_loopg [3] kj1 (fun kq v3 w'=> ∃ (x3_2:Int),v3 = .int .i64 x3_2∧Aside0 (sluicegateref11_Volume.l0 kq x3_2 a0_0 a0_1 a0_2 l0_3=some r)∧Aside0 (kq≤kj1)∧Aside0 (w'.heap[gb176]? = some (.cells #[.int .i64 a0_0,.int .i64 a0_1,.int .i64 a0_2,(.slice A0_3 l0_3.length c0_3)] 24 (0,0)))∧Aside0 (Below w.heap.size w w'))
    case atStart=>exact⟨(0),(by first|rfl|(simp;done)|(simp[*];done)),H',⟨Nat.le_refl _⟩,⟨by (with_reducible repeat (first|refine blk_drewN ?_ _|refine blk_drew ?_|refine blk_alloc ?_ _));exact BK176.out⟩,⟨by repeat (first|(with_reducible first|exact HB.out|apply below_alloc|apply pw_below_drewN|apply below_drew1|refine below_set ?_ GE176.out)|exact HB.out)⟩⟩
    case round=>
     clear H'
     try clear c1
     try clear p2
     try clear c5
     try clear c7
     try clear c8
     try clear c8b0
     try clear c10
     try clear c10b0
     try clear c13
     try clear c15
     try clear hcz11_0
     try clear hcz11_1
     try clear hcz11_2
     try clear hcz11_3
     try clear hcz12_0
     try clear hcz12_1
     try clear hcz12_2
     try clear hcz12_3
     try clear hcz13_0
     try clear hcz13_1
     try clear hcz13_2
     try clear hcz13_3
     try clear hcz14_0
     try clear hcz14_1
     try clear hcz14_2
     try clear hcz14_3
     try clear hcz9_0
     try clear hcz9_1
     try clear hcz9_2
     try clear hcz9_3
     try clear hfz11_0
     try clear hfz11_1
     try clear hfz11_2
     try clear hfz11_3
     try clear hfz12_0
     try clear hfz12_1
     try clear hfz12_2
     try clear hfz12_3
     try clear hfz13_0
     try clear hfz13_1
     try clear hfz13_2
     try clear hfz13_3
     try clear hfz14_0
     try clear hfz14_1
     try clear hfz14_2
     try clear hfz14_3
     try clear hfz9_0
     try clear hfz9_1
     try clear hfz9_2
     try clear hfz9_3
     try clear p2
     obtain⟨x3_2,rfl,HA,HK2,BK176,HB⟩:=hrel
     cases gk with
     | zero=>exact absurd HA.out (by simp[sluicegateref11_Volume.l0])
     | succ k2=>
      have H:=HA.out
      clear HA
      simp only[sluicegateref11_Volume.l0]at H
      by_cases c16:x3_2<9
      ·rw[if_pos c16]at H
       have c16b0:decide (x3_2<9)=true:=decide_eq_true c16
       clear c16
       by_cases c17:0≤x3_2
       ·rw[if_pos c17]at H
        have c17b0:decide (0≤x3_2)=true:=decide_eq_true c17
        clear c17
        by_cases c18:x3_2<(l0_3.length:Int)
        ·rw[if_pos c18]at H
         have c18b0:decide (x3_2<(l0_3.length:Int))=true:=decide_eq_true c18
         clear c18
         replace H:=Option.bind_eq_some_iff.mp H
         obtain⟨t180,A190,H⟩:=H
         replace H:(if t180=true then (sluicegateref11_Volume.l1 k2 x3_2 0 a0_0 a0_1 a0_2 l0_3)else (some false))=some r:=H
         have A19:=Aside0.mk A190
         clear A190
         by_cases c20:t180=true
         ·subst c20
          have H1:(sluicegateref11_Volume.l1 k2 x3_2 0 a0_0 a0_1 a0_2 l0_3)=some r:=by rw[if_pos rfl]at H;exact H
          clear H
          have H:=H1
          clear H1
          have H':=Aside0.mk H
          clear H
          have hcz21_0:wr.cell? ⟨gb176,0,none⟩=some (.int .i64 a0_0):=(blk_cell BK176.out 0).trans rfl
          have hcz21_1:wr.cell? ⟨gb176,1,none⟩=some (.int .i64 a0_1):=(blk_cell BK176.out 1).trans rfl
          have hcz21_2:wr.cell? ⟨gb176,2,none⟩=some (.int .i64 a0_2):=(blk_cell BK176.out 2).trans rfl
          have hcz21_3:wr.cell? ⟨gb176,3,none⟩=some (.slice A0_3 l0_3.length c0_3):=(blk_cell BK176.out 3).trans rfl
          have hfz21_0:=blk_frozen BK176.out 0
          have hfz21_1:=blk_frozen BK176.out 1
          have hfz21_2:=blk_frozen BK176.out 2
          have hfz21_3:=blk_frozen BK176.out 3
          have p179:0≤(x3_2:Int):=of_decide_eq_true (by first|(with_reducible assumption)|assumption)
          have q179:x3_2<(l0_3.length:Int):=of_decide_eq_true (by first|(with_reducible assumption)|assumption)
          obtain⟨ad179,e179,hx179_0,hx179_1⟩:=at_T59 HR0_3.out x3_2 p179 q179
          cases e179
          replace hx179_0:=(HB.out.cell (World.block_lt_of_cell? w _ hx179_0)).trans hx179_0
          replace hx179_1:=(HB.out.cell (World.block_lt_of_cell? w _ hx179_1)).trans hx179_1
          replace p179:=eq_true p179
          replace q179:=eq_true q179
          go_wp2_with (first|(go_at_call 36;(with_reducible refine(sluicegateref10_Is.calls ((rd_T59 l0_3 x3_2).f0) ((rd_T59 l0_3 x3_2).f1) true _ A19.out).mono ?_);rintro e w22 ⟨rfl,hb⟩;have n0_:=Aside0.mk (blk_below (g:=gb176) (o:=.cells #[.int .i64 a0_0,.int .i64 a0_1,.int .i64 a0_2,.slice (some ad179) l0_3.length c0_3] 24 (0,0)) (by (with_reducible repeat (first|refine blk_drewN ?_ _|refine blk_drew ?_|refine blk_alloc ?_ _));exact BK176.out) hb);have n1_:=Aside0.mk (below_step (by repeat (first|(with_reducible first|exact HB.out|apply below_alloc|apply pw_below_drewN|apply below_drew1|refine below_set ?_ GE176.out)|exact HB.out)) hb);clear BK176;clear HB;have BK176:=n0_;have HB:=n1_;clear n0_ n1_;(try clear hb);(try clear hb2);(try clear hk);(try clear hi)))
          repeat (go_quiet (first|(go_at_call 36;(with_reducible refine(sluicegateref10_Is.calls ((rd_T59 l0_3 x3_2).f0) ((rd_T59 l0_3 x3_2).f1) true _ A19.out).mono ?_);rintro e w22 ⟨rfl,hb⟩;have n0_:=Aside0.mk (blk_below (g:=gb176) (o:=.cells #[.int .i64 a0_0,.int .i64 a0_1,.int .i64 a0_2,.slice (some ad179) l0_3.length c0_3] 24 (0,0)) (by (with_reducible repeat (first|refine blk_drewN ?_ _|refine blk_drew ?_|refine blk_alloc ?_ _));exact BK176.out) hb);have n1_:=Aside0.mk (below_step (by repeat (first|(with_reducible first|exact HB.out|apply below_alloc|apply pw_below_drewN|apply below_drew1|refine below_set ?_ GE176.out)|exact HB.out)) hb);clear BK176;clear HB;have BK176:=n0_;have HB:=n1_;clear n0_ n1_;(try clear hb);(try clear hb2);(try clear hk);(try clear hi)));try go_wp2_with (first|(go_at_call 36;(with_reducible refine(sluicegateref10_Is.calls ((rd_T59 l0_3 x3_2).f0) ((rd_T59 l0_3 x3_2).f1) true _ A19.out).mono ?_);rintro e w22 ⟨rfl,hb⟩;have n0_:=Aside0.mk (blk_below (g:=gb176) (o:=.cells #[.int .i64 a0_0,.int .i64 a0_1,.int .i64 a0_2,.slice (some ad179) l0_3.length c0_3] 24 (0,0)) (by (with_reducible repeat (first|refine blk_drewN ?_ _|refine blk_drew ?_|refine blk_alloc ?_ _));exact BK176.out) hb);have n1_:=Aside0.mk (below_step (by repeat (first|(with_reducible first|exact HB.out|apply below_alloc|apply pw_below_drewN|apply below_drew1|refine below_set ?_ GE176.out)|exact HB.out)) hb);clear BK176;clear HB;have BK176:=n0_;have HB:=n1_;clear n0_ n1_;(try clear hb);(try clear hb2);(try clear hk);(try clear hi))))
          go_loopg [4] k2 (fun kq v4 w'=> ∃ (x4_3:Int),v4 = .int .i64 x4_3∧Aside0 (sluicegateref11_Volume.l1 kq x3_2 x4_3 a0_0 a0_1 a0_2 l0_3=some r)∧Aside0 (kq≤k2)∧Aside0 (w'.heap[gb176]? = some (.cells #[.int .i64 a0_0,.int .i64 a0_1,.int .i64 a0_2,(.slice (some ad179) l0_3.length c0_3)] 24 (0,0)))∧Aside0 (Below w.heap.size w w'))
          case atStart=>exact⟨(0),(by first|rfl|(simp;done)|(simp[*];done)),H',⟨Nat.le_refl _⟩,⟨by (with_reducible repeat (first|refine blk_drewN ?_ _|refine blk_drew ?_|refine blk_alloc ?_ _));exact BK176.out⟩,⟨by repeat (first|(with_reducible first|exact HB.out|apply below_alloc|apply pw_below_drewN|apply below_drew1|refine below_set ?_ GE176.out)|exact HB.out)⟩⟩
          case round=>
           clear H'
           try clear c1
           try clear p1
           try clear q1
           try clear hx1
           try clear c2
           try clear p2
           try clear c5
           try clear c7
           try clear c8
           try clear c8b0
           try clear c10
           try clear c10b0
           try clear c13
           try clear c15
           try clear c16
           try clear c16b0
           try clear c17
           try clear c17b0
           try clear p17
           try clear q17
           try clear hx17
           try clear c18
           try clear c18b0
           try clear c20
           try clear hcz11_0
           try clear hcz11_1
           try clear hcz11_2
           try clear hcz11_3
           try clear hcz12_0
           try clear hcz12_1
           try clear hcz12_2
           try clear hcz12_3
           try clear hcz13_0
           try clear hcz13_1
           try clear hcz13_2
           try clear hcz13_3
           try clear hcz14_0
           try clear hcz14_1
           try clear hcz14_2
           try clear hcz14_3
           try clear hcz21_0
           try clear hcz21_1
           try clear hcz21_2
           try clear hcz21_3
           try clear hcz9_0
           try clear hcz9_1
           try clear hcz9_2
           try clear hcz9_3
           try clear hfz11_0
           try clear hfz11_1
           try clear hfz11_2
           try clear hfz11_3
           try clear hfz12_0
           try clear hfz12_1
           try clear hfz12_2
           try clear hfz12_3
           try clear hfz13_0
           try clear hfz13_1
           try clear hfz13_2
           try clear hfz13_3
           try clear hfz14_0
           try clear hfz14_1
           try clear hfz14_2
           try clear hfz14_3
           try clear hfz21_0
           try clear hfz21_1
           try clear hfz21_2
           try clear hfz21_3
           try clear hfz9_0
           try clear hfz9_1
           try clear hfz9_2
           try clear hfz9_3
           try clear hx179_0
           try clear hx179_1
           try clear p179
           try clear p2
           try clear q179
           obtain⟨x4_3,rfl,HA,HK3,BK176,HB⟩:=hrel
           cases gk with
           | zero=>exact absurd HA.out (by simp[sluicegateref11_Volume.l1])
           | succ k3=>
            have H:=HA.out
            clear HA
            simp only[sluicegateref11_Volume.l1]at H
            by_cases c23:x4_3<x3_2
            ·rw[if_pos c23]at H
             have c23b0:decide (x4_3<x3_2)=true:=decide_eq_true c23
             clear c23
             by_cases c24:0≤x4_3
             ·rw[if_pos c24]at H
              have c24b0:decide (0≤x4_3)=true:=decide_eq_true c24
              clear c24
              by_cases c25:x4_3<(l0_3.length:Int)
              ·rw[if_pos c25]at H
               have c25b0:decide (x4_3<(l0_3.length:Int))=true:=decide_eq_true c25
               clear c25
               by_cases c26:0≤x3_2
               ·rw[if_pos c26]at H
                have c26b0:decide (0≤x3_2)=true:=decide_eq_true c26
                clear c26
                by_cases c27:x3_2<(l0_3.length:Int)
                ·rw[if_pos c27]at H
                 have c27b0:decide (x3_2<(l0_3.length:Int))=true:=decide_eq_true c27
                 clear c27
                 by_cases c28:((rd_T59 l0_3 x4_3).f0)=((rd_T59 l0_3 x3_2).f0)
                 ·rw[if_pos c28]at H
                  have c28b0:(((rd_T59 l0_3 x4_3).f0)==((rd_T59 l0_3 x3_2).f0))=true:=beq_iff_eq.mpr c28
                  have c28b1:(((rd_T59 l0_3 x4_3).f0) != ((rd_T59 l0_3 x3_2).f0))=false:=bne_eq_false_iff_eq.mpr c28
                  clear c28
                  obtain rfl:=Option.some.inj H
                  have hcz29_0:wr.cell? ⟨gb176,0,none⟩=some (.int .i64 a0_0):=(blk_cell BK176.out 0).trans rfl
                  have hcz29_1:wr.cell? ⟨gb176,1,none⟩=some (.int .i64 a0_1):=(blk_cell BK176.out 1).trans rfl
                  have hcz29_2:wr.cell? ⟨gb176,2,none⟩=some (.int .i64 a0_2):=(blk_cell BK176.out 2).trans rfl
                  have hcz29_3:wr.cell? ⟨gb176,3,none⟩=some (.slice (some ad179) l0_3.length c0_3):=(blk_cell BK176.out 3).trans rfl
                  have hfz29_0:=blk_frozen BK176.out 0
                  have hfz29_1:=blk_frozen BK176.out 1
                  have hfz29_2:=blk_frozen BK176.out 2
                  have hfz29_3:=blk_frozen BK176.out 3
                  have p181:0≤(x4_3:Int):=of_decide_eq_true (by first|(with_reducible assumption)|assumption)
                  have q181:x4_3<(l0_3.length:Int):=of_decide_eq_true (by first|(with_reducible assumption)|assumption)
                  obtain⟨ad181,e181,hx181_0,hx181_1⟩:=at_T59 HR0_3.out x4_3 p181 q181
                  obtain rfl:ad179=ad181:=(by injection e181)
                  replace hx181_0:=(HB.out.cell (World.block_lt_of_cell? w _ hx181_0)).trans hx181_0
                  replace hx181_1:=(HB.out.cell (World.block_lt_of_cell? w _ hx181_1)).trans hx181_1
                  replace p181:=eq_true p181
                  replace q181:=eq_true q181
                  have p182:0≤(x3_2:Int):=of_decide_eq_true (by first|(with_reducible assumption)|assumption)
                  have q182:x3_2<(l0_3.length:Int):=of_decide_eq_true (by first|(with_reducible assumption)|assumption)
                  obtain⟨ad182,e182,hx182_0,hx182_1⟩:=at_T59 HR0_3.out x3_2 p182 q182
                  obtain rfl:ad179=ad182:=(by injection e182)
                  replace hx182_0:=(HB.out.cell (World.block_lt_of_cell? w _ hx182_0)).trans hx182_0
                  replace hx182_1:=(HB.out.cell (World.block_lt_of_cell? w _ hx182_1)).trans hx182_1
                  replace p182:=eq_true p182
                  replace q182:=eq_true q182
                  go_wp2
                  repeat (go_quiet (fail);try go_wp2)
                  go_ret
                  exact⟨by first|rfl|(simp[errW_none,errW_some]<;>rfl)|(simp[*,errW_none,errW_some]<;>rfl),by repeat (first|(with_reducible first|exact HB.out|apply below_alloc|apply pw_below_drewN|apply below_drew1|refine below_set ?_ GE176.out)|exact HB.out)⟩
                 ·rw[if_neg c28]at H
                  have c28b0:(((rd_T59 l0_3 x4_3).f0)==((rd_T59 l0_3 x3_2).f0))=false:=beq_eq_false_iff_ne.mpr c28
                  have c28b1:(((rd_T59 l0_3 x4_3).f0) != ((rd_T59 l0_3 x3_2).f0))=true:=bne_iff_ne.mpr c28
                  have H':=Aside0.mk H
                  clear H
                  have hcz30_0:wr.cell? ⟨gb176,0,none⟩=some (.int .i64 a0_0):=(blk_cell BK176.out 0).trans rfl
                  have hcz30_1:wr.cell? ⟨gb176,1,none⟩=some (.int .i64 a0_1):=(blk_cell BK176.out 1).trans rfl
                  have hcz30_2:wr.cell? ⟨gb176,2,none⟩=some (.int .i64 a0_2):=(blk_cell BK176.out 2).trans rfl
                  have hcz30_3:wr.cell? ⟨gb176,3,none⟩=some (.slice (some ad179) l0_3.length c0_3):=(blk_cell BK176.out 3).trans rfl
                  have hfz30_0:=blk_frozen BK176.out 0
                  have hfz30_1:=blk_frozen BK176.out 1
                  have hfz30_2:=blk_frozen BK176.out 2
                  have hfz30_3:=blk_frozen BK176.out 3
                  have p181:0≤(x4_3:Int):=of_decide_eq_true (by first|(with_reducible assumption)|assumption)
                  have q181:x4_3<(l0_3.length:Int):=of_decide_eq_true (by first|(with_reducible assumption)|assumption)
                  obtain⟨ad181,e181,hx181_0,hx181_1⟩:=at_T59 HR0_3.out x4_3 p181 q181
                  obtain rfl:ad179=ad181:=(by injection e181)
                  replace hx181_0:=(HB.out.cell (World.block_lt_of_cell? w _ hx181_0)).trans hx181_0
                  replace hx181_1:=(HB.out.cell (World.block_lt_of_cell? w _ hx181_1)).trans hx181_1
                  replace p181:=eq_true p181
                  replace q181:=eq_true q181
                  have p182:0≤(x3_2:Int):=of_decide_eq_true (by first|(with_reducible assumption)|assumption)
                  have q182:x3_2<(l0_3.length:Int):=of_decide_eq_true (by first|(with_reducible assumption)|assumption)
                  obtain⟨ad182,e182,hx182_0,hx182_1⟩:=at_T59 HR0_3.out x3_2 p182 q182
                  obtain rfl:ad179=ad182:=(by injection e182)
                  replace hx182_0:=(HB.out.cell (World.block_lt_of_cell? w _ hx182_0)).trans hx182_0
                  replace hx182_1:=(HB.out.cell (World.block_lt_of_cell? w _ hx182_1)).trans hx182_1
                  replace p182:=eq_true p182
                  replace q182:=eq_true q182
                  go_wp2
                  repeat (go_quiet (fail);try go_wp2)
                  go_roundg k3
                  case measure=>have:=HJ1.out;have:=HK2.out;have:=HK3.out;omega
                  case rel=>exact⟨(wrap64 (x4_3+1)),(by first|rfl|(simp;done)|(simp[*];done)),H',⟨by have:=HJ1.out;have:=HK2.out;have:=HK3.out;omega⟩,⟨by (with_reducible repeat (first|refine blk_drewN ?_ _|refine blk_drew ?_|refine blk_alloc ?_ _));exact BK176.out⟩,⟨by repeat (first|(with_reducible first|exact HB.out|apply below_alloc|apply pw_below_drewN|apply below_drew1|refine below_set ?_ GE176.out)|exact HB.out)⟩⟩
                ·rw[if_neg c27]at H
                 exact absurd H (by simp)
               ·rw[if_neg c26]at H
                exact absurd H (by simp)
              ·rw[if_neg c25]at H
               exact absurd H (by simp)
             ·rw[if_neg c24]at H
              exact absurd H (by simp)
            ·rw[if_neg c23]at H
             have c23b0:decide (x4_3<x3_2)=false:=decide_eq_false c23
             clear c23
             have H':=Aside0.mk H
             clear H
             go_wp2
             repeat (go_quiet (fail);try go_wp2)
             go_roundg k3
             case measure=>have:=HJ1.out;have:=HK2.out;have:=HK3.out;omega
             case rel=>exact⟨(wrap64 (x3_2+1)),(by first|rfl|(simp;done)|(simp[*];done)),H',⟨by have:=HJ1.out;have:=HK2.out;have:=HK3.out;omega⟩,⟨by (with_reducible repeat (first|refine blk_drewN ?_ _|refine blk_drew ?_|refine blk_alloc ?_ _));exact BK176.out⟩,⟨by repeat (first|(with_reducible first|exact HB.out|apply below_alloc|apply pw_below_drewN|apply below_drew1|refine below_set ?_ GE176.out)|exact HB.out)⟩⟩
         ·replace c20:=Bool.eq_false_iff.mpr c20
          subst c20
          have H1:(some false)=some r:=by rw[if_neg (show ¬ (false=true)by decide)]at H;exact H
          clear H
          have H:=H1
          clear H1
          obtain rfl:=Option.some.inj H
          have hcz31_0:wr.cell? ⟨gb176,0,none⟩=some (.int .i64 a0_0):=(blk_cell BK176.out 0).trans rfl
          have hcz31_1:wr.cell? ⟨gb176,1,none⟩=some (.int .i64 a0_1):=(blk_cell BK176.out 1).trans rfl
          have hcz31_2:wr.cell? ⟨gb176,2,none⟩=some (.int .i64 a0_2):=(blk_cell BK176.out 2).trans rfl
          have hcz31_3:wr.cell? ⟨gb176,3,none⟩=some (.slice A0_3 l0_3.length c0_3):=(blk_cell BK176.out 3).trans rfl
          have hfz31_0:=blk_frozen BK176.out 0
          have hfz31_1:=blk_frozen BK176.out 1
          have hfz31_2:=blk_frozen BK176.out 2
          have hfz31_3:=blk_frozen BK176.out 3
          have p179:0≤(x3_2:Int):=of_decide_eq_true (by first|(with_reducible assumption)|assumption)
          have q179:x3_2<(l0_3.length:Int):=of_decide_eq_true (by first|(with_reducible assumption)|assumption)
          obtain⟨ad179,e179,hx179_0,hx179_1⟩:=at_T59 HR0_3.out x3_2 p179 q179
          cases e179
          replace hx179_0:=(HB.out.cell (World.block_lt_of_cell? w _ hx179_0)).trans hx179_0
          replace hx179_1:=(HB.out.cell (World.block_lt_of_cell? w _ hx179_1)).trans hx179_1
          replace p179:=eq_true p179
          replace q179:=eq_true q179
          go_wp2_with (first|(go_at_call 36;(with_reducible refine(sluicegateref10_Is.calls ((rd_T59 l0_3 x3_2).f0) ((rd_T59 l0_3 x3_2).f1) false _ A19.out).mono ?_);rintro e w32 ⟨rfl,hb⟩;have n0_:=Aside0.mk (blk_below (g:=gb176) (o:=.cells #[.int .i64 a0_0,.int .i64 a0_1,.int .i64 a0_2,.slice (some ad179) l0_3.length c0_3] 24 (0,0)) (by (with_reducible repeat (first|refine blk_drewN ?_ _|refine blk_drew ?_|refine blk_alloc ?_ _));exact BK176.out) hb);have n1_:=Aside0.mk (below_step (by repeat (first|(with_reducible first|exact HB.out|apply below_alloc|apply pw_below_drewN|apply below_drew1|refine below_set ?_ GE176.out)|exact HB.out)) hb);clear BK176;clear HB;have BK176:=n0_;have HB:=n1_;clear n0_ n1_;(try clear hb);(try clear hb2);(try clear hk);(try clear hi)))
          repeat (go_quiet (first|(go_at_call 36;(with_reducible refine(sluicegateref10_Is.calls ((rd_T59 l0_3 x3_2).f0) ((rd_T59 l0_3 x3_2).f1) false _ A19.out).mono ?_);rintro e w32 ⟨rfl,hb⟩;have n0_:=Aside0.mk (blk_below (g:=gb176) (o:=.cells #[.int .i64 a0_0,.int .i64 a0_1,.int .i64 a0_2,.slice (some ad179) l0_3.length c0_3] 24 (0,0)) (by (with_reducible repeat (first|refine blk_drewN ?_ _|refine blk_drew ?_|refine blk_alloc ?_ _));exact BK176.out) hb);have n1_:=Aside0.mk (below_step (by repeat (first|(with_reducible first|exact HB.out|apply below_alloc|apply pw_below_drewN|apply below_drew1|refine below_set ?_ GE176.out)|exact HB.out)) hb);clear BK176;clear HB;have BK176:=n0_;have HB:=n1_;clear n0_ n1_;(try clear hb);(try clear hb2);(try clear hk);(try clear hi)));try go_wp2_with (first|(go_at_call 36;(with_reducible refine(sluicegateref10_Is.calls ((rd_T59 l0_3 x3_2).f0) ((rd_T59 l0_3 x3_2).f1) false _ A19.out).mono ?_);rintro e w32 ⟨rfl,hb⟩;have n0_:=Aside0.mk (blk_below (g:=gb176) (o:=.cells #[.int .i64 a0_0,.int .i64 a0_1,.int .i64 a0_2,.slice (some ad179) l0_3.length c0_3] 24 (0,0)) (by (with_reducible repeat (first|refine blk_drewN ?_ _|refine blk_drew ?_|refine blk_alloc ?_ _));exact BK176.out) hb);have n1_:=Aside0.mk (below_step (by repeat (first|(with_reducible first|exact HB.out|apply below_alloc|apply pw_below_drewN|apply below_drew1|refine below_set ?_ GE176.out)|exact HB.out)) hb);clear BK176;clear HB;have BK176:=n0_;have HB:=n1_;clear n0_ n1_;(try clear hb);(try clear hb2);(try clear hk);(try clear hi))))
          go_ret
          exact⟨by first|rfl|(simp[errW_none,errW_some]<;>rfl)|(simp[*,errW_none,errW_some]<;>rfl),by repeat (first|(with_reducible first|exact HB.out|apply below_alloc|apply pw_below_drewN|apply below_drew1|refine below_set ?_ GE176.out)|exact HB.out)⟩
        ·rw[if_neg c18]at H
         exact absurd H (by simp)
       ·rw[if_neg c17]at H
        exact absurd H (by simp)
      ·rw[if_neg c16]at H
       have c16b0:decide (x3_2<9)=false:=decide_eq_false c16
       clear c16
       obtain rfl:=Option.some.inj H
       go_wp2
       repeat (go_quiet (fail);try go_wp2)
       go_ret
       exact⟨by first|rfl|(simp[errW_none,errW_some]<;>rfl)|(simp[*,errW_none,errW_some]<;>rfl),by repeat (first|(with_reducible first|exact HB.out|apply below_alloc|apply pw_below_drewN|apply below_drew1|refine below_set ?_ GE176.out)|exact HB.out)⟩
def sluicegateref08_Shards.l0:Nat→ByteArray→List ByteArray→Int→Option (List ByteArray×Int)
 | 0,_,_,_=>none
 | k+1,x0,x4,x5=>if x5<6 then (if 0≤(wrap64 (64*x5))then (if (wrap64 (64*x5))≤(wrap64 ((wrap64 (64*x5))+64))then (if (wrap64 ((wrap64 (64*x5))+64))≤(x0.size:Int)then (if x4.length<8796093022208 then (sluicegateref08_Shards.l0 k x0 (x4++[x0.extract ((wrap64 (64*x5)):Int).toNat ((wrap64 ((wrap64 (64*x5))+64)):Int).toNat]) (wrap64 (x5+1)))else (none))else (none))else (none))else (none))else (some (x4,0))
def sluicegateref08_Shards.f (k:Nat) (a0:ByteArray):Option (List ByteArray×Int):=if (a0.size:Int)>384 then (some (([]:List ByteArray),12))else (if 0≤(wrap64 (384-(a0.size:Int)))then (if (wrap64 (384-(a0.size:Int)):Int).toNat≤281474976710656 then ((some (List.replicate (wrap64 (384-(a0.size:Int)):Int).toNat 0:List Int)).bind fun y183=>(if a0.size+(strOfNums y183).size≤9223372036854775807 then (sluicegateref08_Shards.l0 k (a0++(strOfNums y183)) ([]:List ByteArray) 0)else (none)))else (none))else (none))
theorem sluicegateref08_Shards.calls (k:Nat) (a0:ByteArray) (r1:List ByteArray) (r2:Int) (w:World) (h:sluicegateref08_Shards.f k a0=some (r1,r2)) :
  Calls Tryz.prog 30 #[.string a0] w fun e w'=> ∃ v0_:Value,e = .returned (.tuple #[v0_,.int .i64 r2])∧Kd.R Kd.string 9 w' w.heap.size (fun _=>True) v0_ r1∧Below w.heap.size w w':=by
 have HB:=Aside0.mk (Below.refl w.heap.size w)
 have H:(if (a0.size:Int)>384 then (some (([]:List ByteArray),12))else (if 0≤(wrap64 (384-(a0.size:Int)))then (if (wrap64 (384-(a0.size:Int)):Int).toNat≤281474976710656 then ((some (List.replicate (wrap64 (384-(a0.size:Int)):Int).toNat 0:List Int)).bind fun y183=>(if a0.size+(strOfNums y183).size≤9223372036854775807 then (sluicegateref08_Shards.l0 k (a0++(strOfNums y183)) ([]:List ByteArray) 0)else (none)))else (none))else (none)))=some (r1,r2):=h
 clear h
 by_cases c2:(a0.size:Int)>384
 ·rw[if_pos c2]at H
  have c2b0:decide (384<(a0.size:Int))=true:=decide_eq_true c2
  have c2b1:decide (384<a0.size)=true:=decide_eq_true (by omega)
  clear c2
  simp only[Option.some.injEq,Prod.mk.injEq]at H
  obtain⟨rfl,rfl⟩:=H
  go_enter Tryz.func30,Tryz.ntmps30
  go_wp2
  go_ret2
  exact⟨_,by first|rfl|(simp[errW_none,errW_some]<;>rfl)|(simp[*,errW_none,errW_some]<;>rfl),by first|exact Kd.R_nil _ _ _ _ _|exact Kd.N_nil _ _ _ _ _|exact Kd.V_nil _ _ _ _ _|exact Kd.Q_nil _ _ _ _ _|exact Kd.S_nil _ _ _ _ _,by repeat (first|(with_reducible first|exact HB.out|apply below_alloc|apply pw_below_drewN|apply below_drew1)|exact HB.out)⟩
 ·rw[if_neg c2]at H
  have c2b0:decide (384<(a0.size:Int))=false:=decide_eq_false c2
  have c2b1:decide (384<a0.size)=false:=decide_eq_false (by omega)
  clear c2
  obtain⟨ji3,hji3⟩ : ∃ j_:Int,(wrap64 (384-(a0.size:Int)))=j_:=⟨_,rfl⟩
  replace H:(if 0≤(ji3)then (if (ji3:Int).toNat≤281474976710656 then ((some (List.replicate (ji3:Int).toNat 0:List Int)).bind fun y183=>(if a0.size+(strOfNums y183).size≤9223372036854775807 then (sluicegateref08_Shards.l0 k (a0++(strOfNums y183)) ([]:List ByteArray) 0)else (none)))else (none))else (none))=some (r1,r2):=by first|(rw[hji3]at H;exact H)|(simp only[hji3]at H ⊢;exact H)
  have hji3w:(IntKind.i64.wrap (384-(a0.size:Int)))=ji3:=(i64_w _).trans hji3
  by_cases c4:0≤(ji3)
  ·rw[if_pos c4]at H
   have c4b0:=eq_true c4
   have c4b1:decide (0≤(ji3))=true:=decide_eq_true c4
   clear c4
   by_cases c5:(ji3:Int).toNat≤281474976710656
   ·rw[if_pos c5]at H
    have c5b0:=eq_true c5
    have c5b1:decide ((ji3:Int).toNat≤281474976710656)=true:=decide_eq_true c5
    clear c5
    obtain⟨y183,hy183⟩ : ∃ y_:List Int,y_=(List.replicate (ji3:Int).toNat 0):=⟨_,rfl⟩
    replace H:(if a0.size+(strOfNums y183).size≤9223372036854775807 then (sluicegateref08_Shards.l0 k (a0++(strOfNums y183)) ([]:List ByteArray) 0)else (none))=some (r1,r2):=by first|(rw[hy183];with_reducible exact H)|(have H2_:=(Option.bind_some _ _).symm.trans H;rw[hy183];with_reducible exact H2_)|(have H2_:=(Option.bind_some _ _).symm.trans H;with_reducible exact H2_)|with_reducible exact H|(rw[hy183];exact H)|exact H
    have Ny183:=Aside0.mk hy183
    clear hy183
    by_cases c6:a0.size+(strOfNums y183).size≤9223372036854775807
    ·rw[if_pos c6]at H
     have c6b0:=eq_true c6
     have c6b1:decide (a0.size+(strOfNums y183).size≤9223372036854775807)=true:=decide_eq_true c6
     try have c6b2:(9223372036854775807<a0.size+(strOfNums y183).size)=False:=eq_false (Nat.not_lt.2 c6)
     have H':=Aside0.mk H
     clear H
     go_enter Tryz.func30,Tryz.ntmps30
     go_wp2_with (first|((with_reducible refine gate_dst (N:=13) rfl ?_);refine Kd.R_make (Kd.int .u8) _ 5 rfl (N:=13) rfl 80 _ _ rfl ji3 rfl rfl Tryz.underlying80 (.int .u8 0) 1 info5 rfl (by decide) (by omega) 0 (ok:=fun _=>True) (okp:=fun _=>True) rfl (fun _ hk=>hk) trivial (of_decide_eq_true (by first|(with_reducible assumption)|assumption)) (Nat.le_trans (Nat.mul_le_mul_right _ (of_decide_eq_true (by first|(with_reducible assumption)|assumption):ji3.toNat≤281474976710656)) (by omega)) (Below.refl _ _) (Nat.le_refl _) ?_;intro v184 w7 ho8 hb hg_ hnew_;clear hg_ hnew_;(first|rw[←Ny183.out]at ho8|(simp only[Int.reduceToNat]at ho8;rw[←Ny183.out]at ho8));have n0_:=Aside0.mk (Kd.R_lower ho8 (below_size (by repeat (first|(with_reducible first|exact HB.out|apply below_alloc|apply pw_below_drewN|apply below_drew1)|exact HB.out))));have n1_:=Aside0.mk (below_step (by repeat (first|(with_reducible first|exact HB.out|apply below_alloc|apply pw_below_drewN|apply below_drew1)|exact HB.out)) hb);clear HB;have HO185:=n0_;have HB:=n1_;clear n0_ n1_;clear hb ho8;have hcv9:=own_string (P:=Tryz.prog) Tryz.underlying80 Tryz.underlying5 Tryz.underlying9 (Kd.own_of_R HO185.out)))
     go_loopg [4,5] k (fun kq v4 v5 w'=> ∃ (x4_1:List ByteArray) (x5_1:Int),v5 = .int .i64 x5_1∧Aside0 (sluicegateref08_Shards.l0 kq (a0++(strOfNums y183)) x4_1 x5_1=some (r1,r2))∧Aside0 (kq≤k)∧Aside0 (Kd.R Kd.string 9 w' w.heap.size (fun _=>True) v4 x4_1)∧Aside0 (Below w.heap.size w w'))
     case atStart=>exact⟨(([]:List ByteArray)),(0),(by first|rfl|(simp;done)|(simp[*];done)),H',⟨Nat.le_refl _⟩,⟨by first|exact Kd.R_nil _ _ _ _ _|exact Kd.N_nil _ _ _ _ _|exact Kd.V_nil _ _ _ _ _|exact Kd.Q_nil _ _ _ _ _|exact Kd.S_nil _ _ _ _ _⟩,⟨by repeat (first|(with_reducible first|exact HB.out|apply below_alloc|apply pw_below_drewN|apply below_drew1)|exact HB.out)⟩⟩
     case round=>
      clear H'
      try clear c2
      try clear c2b0
      try clear c2b1
      try clear p2
      try clear c3
      try clear c4
      try clear c4b0
      try clear c4b1
      try clear c5
      try clear c5b0
      try clear c5b1
      try clear c6
      try clear c6b0
      try clear c6b1
      try clear c6b2
      try clear p6
      try clear hcv9
      obtain⟨x4_1,x5_1,rfl,HA,HK1,HO_4,HB⟩:=hrel
      cases gk with
      | zero=>exact absurd HA.out (by simp[sluicegateref08_Shards.l0])
      | succ k1=>
       have H:=HA.out
       clear HA
       simp only[sluicegateref08_Shards.l0]at H
       by_cases c10:x5_1<6
       ·rw[if_pos c10]at H
        have c10b0:decide (x5_1<6)=true:=decide_eq_true c10
        clear c10
        obtain⟨ji11,hji11⟩ : ∃ j_:Int,(wrap64 (64*x5_1))=j_:=⟨_,rfl⟩
        replace H:(if 0≤(ji11)then (if (ji11)≤(wrap64 ((ji11)+64))then (if (wrap64 ((ji11)+64))≤((a0++(strOfNums y183)).size:Int)then (if x4_1.length<8796093022208 then (sluicegateref08_Shards.l0 k1 (a0++(strOfNums y183)) (x4_1++[(a0++(strOfNums y183)).extract ((ji11):Int).toNat ((wrap64 ((ji11)+64)):Int).toNat]) (wrap64 (x5_1+1)))else (none))else (none))else (none))else (none))=some (r1,r2):=by first|(rw[hji11]at H;exact H)|(simp only[hji11]at H ⊢;exact H)
        have hji11w:(IntKind.i64.wrap (64*x5_1))=ji11:=(i64_w _).trans hji11
        by_cases c12:0≤(ji11)
        ·rw[if_pos c12]at H
         have c12b0:=eq_true c12
         have c12b1:decide (0≤(ji11))=true:=decide_eq_true c12
         clear c12
         by_cases c13:(ji11)≤(wrap64 ((ji11)+64))
         ·rw[if_pos c13]at H
          have c13b0:=eq_true c13
          have c13b1:decide ((ji11)≤(wrap64 ((ji11)+64)))=true:=decide_eq_true c13
          by_cases c14:(wrap64 ((ji11)+64))≤((a0++(strOfNums y183)).size:Int)
          ·rw[if_pos c14]at H
           have c14b0:=eq_true c14
           have c14b1:decide ((wrap64 ((ji11)+64))≤((a0++(strOfNums y183)).size:Int))=true:=decide_eq_true c14
           have c14b9:((wrap64 ((ji11)+64))≤(a0.size:Int)+((strOfNums y183).size:Int))=True:=eq_true (by have h:=c14;simp only[ByteArray.size_append,Int.natCast_add]at h;exact h)
           by_cases c15:x4_1.length<8796093022208
           ·rw[if_pos c15]at H
            have LMc15:=Aside0.mk c15
            clear c15
            obtain⟨y186,hy186⟩ : ∃ y_:List ByteArray,y_=(x4_1++[(a0++(strOfNums y183)).extract ((ji11):Int).toNat ((wrap64 ((ji11)+64)):Int).toNat]):=⟨_,rfl⟩
            replace H:(sluicegateref08_Shards.l0 k1 (a0++(strOfNums y183)) y186 (wrap64 (x5_1+1)))=some (r1,r2):=by first|(rw[hy186];with_reducible exact H)|(have H2_:=(Option.bind_some _ _).symm.trans H;rw[hy186];with_reducible exact H2_)|(have H2_:=(Option.bind_some _ _).symm.trans H;with_reducible exact H2_)|with_reducible exact H|(rw[hy186];exact H)|exact H
            have Ny186:=Aside0.mk hy186
            clear hy186
            have H':=Aside0.mk H
            clear H
            go_wp2_with (first|((with_reducible refine gate_builtin (b:=.append) (xs:= #[.tmp 20,.tmp 28]) rfl ?_);at_builtin;refine Kd.R_append Kd.string (w0:=w) w.heap.size rfl (.tmp 20) (.tmp 28) 27 9 (.string ⟨#[]⟩) 16 rfl Tryz.underlying27 info9 rfl (by decide) (by omega) u4 x4_1 ((a0++(strOfNums y183)).extract ((ji11):Int).toNat ((wrap64 ((ji11)+64)):Int).toNat) [.string ((a0++(strOfNums y183)).extract ((ji11):Int).toNat ((wrap64 ((ji11)+64)):Int).toNat)] (fun _=>True) (fun _=>False) rfl rfl ?aP (fun _ hk=>hk.elim) ?aF ?aO ?aB ?aS ?aL ?_;(case aP=>exact rfl);(case aB=>exact(by repeat (first|(with_reducible first|exact HB.out|apply below_alloc|apply pw_below_drewN|apply below_drew1)|exact HB.out)));(case aF=>exact(fun _ _=>trivial));(case aO=>exact(by (with_reducible repeat (first|apply Kd.R_alloc|apply Kd.R_drewN|apply Kd.R_drew));exact HO_4.out));(case aS=>exact(below_size (by repeat (first|(with_reducible first|exact HB.out|apply below_alloc|apply pw_below_drewN|apply below_drew1)|exact HB.out))));(case aL=>have:=LMc15.out;omega);intro v187 w16 ho hb hg hat;rw[←Ny186.out]at ho;have n0_:=Aside0.mk (hb);have n1_:=Aside0.mk (ho);clear HB;clear HO_4;have HB:=n0_;have HO188:=n1_;clear n0_ n1_;clear ho hb hg hat))
            go_roundg k1
            case measure=>have:=HK1.out;omega
            case rel=>exact⟨(y186),(wrap64 (x5_1+1)),(by first|rfl|(simp;done)|(simp[*];done)),H',⟨by have:=HK1.out;omega⟩,⟨by (with_reducible repeat (first|apply Kd.R_alloc|apply Kd.R_drewN|apply Kd.R_drew));exact HO188.out⟩,⟨by repeat (first|(with_reducible first|exact HB.out|apply below_alloc|apply pw_below_drewN|apply below_drew1)|exact HB.out)⟩⟩
           ·rw[if_neg c15]at H
            exact absurd H (by simp)
          ·rw[if_neg c14]at H
           exact absurd H (by simp)
         ·rw[if_neg c13]at H
          exact absurd H (by simp)
        ·rw[if_neg c12]at H
         exact absurd H (by simp)
       ·rw[if_neg c10]at H
        have c10b0:decide (x5_1<6)=false:=decide_eq_false c10
        clear c10
        simp only[Option.some.injEq,Prod.mk.injEq]at H
        obtain⟨rfl,rfl⟩:=H
        go_wp2
        go_ret2
        exact⟨_,by first|rfl|(simp[errW_none,errW_some]<;>rfl)|(simp only[←hji3];first|rfl|(simp[errW_none,errW_some]<;>rfl))|(simp[*,errW_none,errW_some]<;>rfl),by (with_reducible repeat (first|apply Kd.R_alloc|apply Kd.R_drewN|apply Kd.R_drew));exact HO_4.out,by repeat (first|(with_reducible first|exact HB.out|apply below_alloc|apply pw_below_drewN|apply below_drew1)|exact HB.out)⟩
    ·rw[if_neg c6]at H
     exact absurd H (by simp)
   ·rw[if_neg c5]at H
    exact absurd H (by simp)
  ·rw[if_neg c4]at H
   exact absurd H (by simp)
end Go.Proofs.YtdcfonmjbelgbaaGreatDoor.Q
end
section
namespace Go.Proofs.YtdcfonmjbelgbaaGreatDoor.Q
open Go.RowKit YtdcfonmjbelgbaaGreatDoorW.PrintWords YtdcfonmjbelgbaaGreatDoorW.PrintLast YtdcfonmjbelgbaaGreatDoorW.PrintMore
attribute [local go_sem] max2_int min2_int max_two min_two max_three min_three max_four min_four
def sluicegateref02_one.l0:Nat→List ByteArray→Int→Option (Bool)
 | 0,_,_=>none
 | k+1,x0,x3=>if x3<(x0.length:Int)then (if 0≤x3 then (if 0<(x0.length:Int)then (if ((rdOf ByteArray.empty x0 x3).size:Int)=((rdOf ByteArray.empty x0 0).size:Int)then (sluicegateref02_one.l0 k x0 (wrap64 (x3+1)))else (some false))else (none))else (none))else (some true)
def sluicegateref02_one.f (k:Nat) (l0:List ByteArray):Option (Bool):=sluicegateref02_one.l0 k l0 0
theorem sluicegateref02_one.calls (k:Nat) (A0:Option Addr) (c0:Nat) (l0:List ByteArray) (r:Bool) (w:World) (hr0:Kd.C Kd.string w A0 l0.length l0) (hc0:l0.length≤c0) (h:sluicegateref02_one.f k l0=some r) :
  Calls Tryz.prog 48 #[.slice A0 l0.length c0] w fun e w'=>e = .returned (.bool r)∧Drawn0 w w':=by
 have HR0:=Aside0.mk hr0
 have HC0:=Aside0.mk hc0
 clear hr0 hc0
 have H:(sluicegateref02_one.l0 k l0 0)=some r:=h
 clear h
 have H':=Aside0.mk H
 clear H
 go_enter Tryz.func48,Tryz.ntmps48
 go_wp2
 repeat (go_quiet (fail);try go_wp2)
 go_loopg [3] k (fun kq v3 w'=> ∃ (x3_1:Int),v3 = .int .i64 x3_1∧Aside0 (sluicegateref02_one.l0 kq l0 x3_1=some r)∧Aside0 (kq≤k)∧Drawn0 w w')
 case atStart=>exact⟨(0),(by first|rfl|(simp;done)|(simp[*];done)),H',⟨Nat.le_refl _⟩,by repeat (first|exact Drawn0.refl _|apply Drawn0.step)⟩
 case round=>
  clear H'
  obtain⟨x3_1,rfl,HA,HK1,⟨m1,rfl⟩⟩:=hrel
  cases gk with
  | zero=>exact absurd HA.out (by simp[sluicegateref02_one.l0])
  | succ k1=>
   have H:=HA.out
   clear HA
   simp only[sluicegateref02_one.l0]at H
   by_cases c2:x3_1<(l0.length:Int)
   ·rw[if_pos c2]at H
    have c2b0:decide (x3_1<(l0.length:Int))=true:=decide_eq_true c2
    clear c2
    by_cases c3:0≤x3_1
    ·rw[if_pos c3]at H
     have c3b0:decide (0≤x3_1)=true:=decide_eq_true c3
     clear c3
     by_cases c4:0<(l0.length:Int)
     ·rw[if_pos c4]at H
      have c4b0:decide (0<(l0.length:Int))=true:=decide_eq_true c4
      have c4b1:decide (0<l0.length)=true:=decide_eq_true (by omega)
      clear c4
      by_cases c5:((rdOf ByteArray.empty l0 x3_1).size:Int)=((rdOf ByteArray.empty l0 0).size:Int)
      ·rw[if_pos c5]at H
       have c5b0:(((rdOf ByteArray.empty l0 x3_1).size:Int)==((rdOf ByteArray.empty l0 0).size:Int))=true:=beq_iff_eq.mpr c5
       have c5b1:(((rdOf ByteArray.empty l0 x3_1).size:Int) != ((rdOf ByteArray.empty l0 0).size:Int))=false:=bne_eq_false_iff_eq.mpr c5
       have c5b2:((rdOf ByteArray.empty l0 x3_1).size==(rdOf ByteArray.empty l0 0).size)=true:=by first|simpa using c5|(simp at c5 ⊢;omega)
       clear c5
       have H':=Aside0.mk H
       clear H
       have p189:0≤(x3_1:Int):=of_decide_eq_true (by first|(with_reducible assumption)|assumption)
       have q189:x3_1<(l0.length:Int):=of_decide_eq_true (by first|(with_reducible assumption)|assumption)
       obtain⟨ad189,e189,hx189_0⟩:=Kd.at_string HR0.out x3_1 p189 q189
       cases e189
       replace p189:=eq_true p189
       replace q189:=eq_true q189
       have p190:0≤(0:Int):=(by omega)
       have q190:0<(l0.length:Int):=of_decide_eq_true (by first|(with_reducible assumption)|assumption)
       obtain⟨ad190,e190,hx190_0⟩:=Kd.at_string HR0.out 0 p190 q190
       obtain rfl:ad189=ad190:=(by injection e190)
       have qi190:(0<l0.length)=True:=eq_true (by omega)
       (try rw[show ((0:Int)).toNat=0 from rfl]at hx190_0)
       (try rw[Addr.add_zero']at hx190_0)
       replace p190:=eq_true p190
       replace q190:=eq_true q190
       go_wp2
       repeat (go_quiet (fail);try go_wp2)
       go_roundg k1
       case measure=>have:=HK1.out;omega
       case rel=>exact⟨(wrap64 (x3_1+1)),(by first|rfl|(simp;done)|(simp[*];done)),H',⟨by have:=HK1.out;omega⟩,by repeat (first|exact Drawn0.refl _|apply Drawn0.step)⟩
      ·rw[if_neg c5]at H
       have c5b0:(((rdOf ByteArray.empty l0 x3_1).size:Int)==((rdOf ByteArray.empty l0 0).size:Int))=false:=beq_eq_false_iff_ne.mpr c5
       have c5b1:(((rdOf ByteArray.empty l0 x3_1).size:Int) != ((rdOf ByteArray.empty l0 0).size:Int))=true:=bne_iff_ne.mpr c5
       have c5b2:((rdOf ByteArray.empty l0 x3_1).size==(rdOf ByteArray.empty l0 0).size)=false:=by first|simpa using c5|(simp at c5 ⊢;omega)
       obtain rfl:=Option.some.inj H
       have p189:0≤(x3_1:Int):=of_decide_eq_true (by first|(with_reducible assumption)|assumption)
       have q189:x3_1<(l0.length:Int):=of_decide_eq_true (by first|(with_reducible assumption)|assumption)
       obtain⟨ad189,e189,hx189_0⟩:=Kd.at_string HR0.out x3_1 p189 q189
       cases e189
       replace p189:=eq_true p189
       replace q189:=eq_true q189
       have p190:0≤(0:Int):=(by omega)
       have q190:0<(l0.length:Int):=of_decide_eq_true (by first|(with_reducible assumption)|assumption)
       obtain⟨ad190,e190,hx190_0⟩:=Kd.at_string HR0.out 0 p190 q190
       obtain rfl:ad189=ad190:=(by injection e190)
       have qi190:(0<l0.length)=True:=eq_true (by omega)
       (try rw[show ((0:Int)).toNat=0 from rfl]at hx190_0)
       (try rw[Addr.add_zero']at hx190_0)
       replace p190:=eq_true p190
       replace q190:=eq_true q190
       go_wp2
       repeat (go_quiet (fail);try go_wp2)
       go_ret
       exact⟨by first|rfl|(simp;done)|(simp[*];done),by repeat (first|exact Drawn0.refl _|apply Drawn0.step)⟩
     ·rw[if_neg c4]at H
      exact absurd H (by simp)
    ·rw[if_neg c3]at H
     exact absurd H (by simp)
   ·rw[if_neg c2]at H
    have c2b0:decide (x3_1<(l0.length:Int))=false:=decide_eq_false c2
    clear c2
    obtain rfl:=Option.some.inj H
    go_wp2
    repeat (go_quiet (fail);try go_wp2)
    go_ret
    exact⟨by first|rfl|(simp;done)|(simp[*];done),by repeat (first|exact Drawn0.refl _|apply Drawn0.step)⟩
mutual
def sluicegateref01_Times.l0:Nat→Int→Int→Int→Int→Option (Int)
 | 0,_,_,_,_=>none
 | k+1,x0,x1,x5,x6=>if x6<8 then (if 0≤(IntKind.u64.wrap (x6))then (if (Int.tmod (shr .i64 (wrap64 (x1)) (IntKind.u64.wrap (x6))) 2)=1 then (sluicegateref01_Times.l0 k x0 x1 (Go.bits .xor .i64 x5 (shl .i64 (wrap64 (x0)) (IntKind.u64.wrap (x6)))) (wrap64 (x6+1)))else (sluicegateref01_Times.l0 k x0 x1 x5 (wrap64 (x6+1))))else (none))else (sluicegateref01_Times.l1 k x5 14)
def sluicegateref01_Times.l1:Nat→Int→Int→Option (Int)
 | 0,_,_=>none
 | k+1,x5,x7=>if x7≥8 then (if 0≤(IntKind.u64.wrap (x7))then (if (Int.tmod (shr .i64 x5 (IntKind.u64.wrap (x7))) 2)=1 then (if 0≤(IntKind.u64.wrap (wrap64 (x7-8)))then (sluicegateref01_Times.l1 k (Go.bits .xor .i64 x5 (shl .i64 285 (IntKind.u64.wrap (wrap64 (x7-8))))) (wrap64 (x7-1)))else (none))else (sluicegateref01_Times.l1 k x5 (wrap64 (x7-1))))else (none))else (some ((x5)%256))
end
def sluicegateref01_Times.f (k:Nat) (a0:Int) (a1:Int):Option (Int):=sluicegateref01_Times.l0 k a0 a1 0 0
theorem sluicegateref01_Times.calls (k:Nat) (a0:Int) (a1:Int) (r:Int) (w:World) (h:sluicegateref01_Times.f k a0 a1=some r) :
  Calls Tryz.prog 69 #[.int .u8 a0,.int .u8 a1] w fun e w'=>e = .returned (.int .u8 r)∧Drawn0 w w':=by
 have H:(sluicegateref01_Times.l0 k a0 a1 0 0)=some r:=h
 clear h
 have H':=Aside0.mk H
 clear H
 go_enter Tryz.func69,Tryz.ntmps69
 go_wp2
 go_loopg [5,6] k (fun kq v5 v6 w'=> ∃ (x5_1:Int) (x6_1:Int),v5 = .int .i64 x5_1∧v6 = .int .i64 x6_1∧Aside0 (sluicegateref01_Times.l0 kq a0 a1 x5_1 x6_1=some r)∧Aside0 (kq≤k)∧Drawn0 w w')
 case atStart=>exact⟨(0),(0),(by first|rfl|(simp;done)|(simp[*];done)),(by first|rfl|(simp;done)|(simp[*];done)),H',⟨Nat.le_refl _⟩,by repeat (first|exact Drawn0.refl _|apply Drawn0.step)⟩
 case round=>
  clear H'
  try clear p2
  obtain⟨x5_1,x6_1,rfl,rfl,HA,HK1,⟨m1,rfl⟩⟩:=hrel
  cases gk with
  | zero=>exact absurd HA.out (by simp[sluicegateref01_Times.l0])
  | succ k1=>
   have H:=HA.out
   clear HA
   simp only[sluicegateref01_Times.l0]at H
   by_cases c3:x6_1<8
   ·rw[if_pos c3]at H
    have c3b0:decide (x6_1<8)=true:=decide_eq_true c3
    clear c3
    obtain⟨ji4,hji4⟩ : ∃ j_:Int,(IntKind.u64.wrap (x6_1))=j_:=⟨_,rfl⟩
    replace H:(if 0≤(ji4)then (if (Int.tmod (shr .i64 (wrap64 (a1)) (ji4)) 2)=1 then (sluicegateref01_Times.l0 k1 a0 a1 (Go.bits .xor .i64 x5_1 (shl .i64 (wrap64 (a0)) (ji4))) (wrap64 (x6_1+1)))else (sluicegateref01_Times.l0 k1 a0 a1 x5_1 (wrap64 (x6_1+1))))else (none))=some r:=by first|(rw[hji4]at H;exact H)|(simp only[hji4]at H ⊢;exact H)
    by_cases c5:0≤(ji4)
    ·rw[if_pos c5]at H
     have c5b0:=eq_true c5
     have c5b1:decide (0≤(ji4))=true:=decide_eq_true c5
     clear c5
     obtain⟨ji6,hji6⟩ : ∃ j_:Int,(shr .i64 (wrap64 (a1)) (ji4))=j_:=⟨_,rfl⟩
     replace H:(if (Int.tmod (ji6) 2)=1 then (sluicegateref01_Times.l0 k1 a0 a1 (Go.bits .xor .i64 x5_1 (shl .i64 (wrap64 (a0)) (ji4))) (wrap64 (x6_1+1)))else (sluicegateref01_Times.l0 k1 a0 a1 x5_1 (wrap64 (x6_1+1))))=some r:=by first|(rw[hji6]at H;exact H)|(simp only[hji6]at H ⊢;exact H)
     have hji6_:((wrap64 (a1))/2 ^ min (ji4).toNat 64)=ji6:=hji6
     have hji6z:(ji4)≤64→((wrap64 (a1))/2 ^ (ji4).toNat)=ji6:=shr_small hji6
     by_cases c7:(Int.tmod (ji6) 2)=1
     ·rw[if_pos c7]at H
      have c7b0:((Int.tmod (ji6) 2)==1)=true:=beq_iff_eq.mpr c7
      have c7b1:((Int.tmod (ji6) 2) != 1)=false:=bne_eq_false_iff_eq.mpr c7
      clear c7
      have c8b0:=eq_true (of_decide_eq_true (by first|(with_reducible assumption)|assumption):0≤(ji4))
      obtain⟨ji9,hji9⟩ : ∃ j_:Int,(shl .i64 (wrap64 (a0)) (ji4))=j_:=⟨_,rfl⟩
      replace H:(sluicegateref01_Times.l0 k1 a0 a1 (Go.bits .xor .i64 x5_1 (ji9)) (wrap64 (x6_1+1)))=some r:=by first|(rw[hji9]at H;exact H)|(simp only[hji9]at H ⊢;exact H)
      have hji9_:(IntKind.i64.wrap ((wrap64 (a0))*2 ^ min (ji4).toNat 64))=ji9:=hji9
      have hji9z:(ji4)≤64→(IntKind.i64.wrap ((wrap64 (a0))*2 ^ (ji4).toNat))=ji9:=shl_small hji9
      have hji9y:(wrap64 ((wrap64 (a0))*2 ^ min (ji4).toNat 64))=ji9:=(i64_w _).symm.trans hji9_
      have hji9x:(ji4)≤64→(wrap64 ((wrap64 (a0))*2 ^ (ji4).toNat))=ji9:=fun h_=>(i64_w _).symm.trans (hji9z h_)
      have H':=Aside0.mk H
      clear H
      go_wp2
      go_roundg k1
      case measure=>have:=HK1.out;omega
      case rel=>exact⟨(Go.bits .xor .i64 x5_1 (ji9)),(wrap64 (x6_1+1)),(by first|rfl|(simp;done)|(simp only[←hji9]<;>(first|rfl|simp))|(simp[*];done)),(by first|rfl|(simp;done)|(simp[*];done)),H',⟨by have:=HK1.out;omega⟩,by repeat (first|exact Drawn0.refl _|apply Drawn0.step)⟩
     ·rw[if_neg c7]at H
      have c7b0:((Int.tmod (ji6) 2)==1)=false:=beq_eq_false_iff_ne.mpr c7
      have c7b1:((Int.tmod (ji6) 2) != 1)=true:=bne_iff_ne.mpr c7
      have H':=Aside0.mk H
      clear H
      go_wp2
      go_roundg k1
      case measure=>have:=HK1.out;omega
      case rel=>exact⟨(x5_1),(wrap64 (x6_1+1)),(by first|rfl|(simp;done)|(simp[*];done)),(by first|rfl|(simp;done)|(simp[*];done)),H',⟨by have:=HK1.out;omega⟩,by repeat (first|exact Drawn0.refl _|apply Drawn0.step)⟩
    ·rw[if_neg c5]at H
     exact absurd H (by simp)
   ·rw[if_neg c3]at H
    have c3b0:decide (x6_1<8)=false:=decide_eq_false c3
    clear c3
    have H':=Aside0.mk H
    clear H
    go_wp2
    go_loopg [5,7] k1 (fun kq v5 v7 w'=> ∃ (x5_2:Int) (x7_2:Int),v5 = .int .i64 x5_2∧v7 = .int .i64 x7_2∧Aside0 (sluicegateref01_Times.l1 kq x5_2 x7_2=some r)∧Aside0 (kq≤k1)∧Drawn0 w w')
    case atStart=>exact⟨(x5_1),(14),(by first|rfl|(simp;done)|(simp[*];done)),(by first|rfl|(simp;done)|(simp[*];done)),H',⟨Nat.le_refl _⟩,by repeat (first|exact Drawn0.refl _|apply Drawn0.step)⟩
    case round=>
     clear H'
     try clear p2
     try clear c3
     try clear c3b0
     try clear c5
     try clear c5b0
     try clear c5b1
     try clear c6
     try clear p6
     try clear c7
     try clear c7b0
     try clear c7b1
     try clear c8
     try clear c8b0
     try clear p2
     obtain⟨x5_2,x7_2,rfl,rfl,HA,HK2,⟨m2,rfl⟩⟩:=hrel
     cases gk with
     | zero=>exact absurd HA.out (by simp[sluicegateref01_Times.l1])
     | succ k2=>
      have H:=HA.out
      clear HA
      simp only[sluicegateref01_Times.l1]at H
      by_cases c10:x7_2≥8
      ·rw[if_pos c10]at H
       have c10b0:decide (8≤x7_2)=true:=decide_eq_true c10
       clear c10
       obtain⟨ji11,hji11⟩ : ∃ j_:Int,(IntKind.u64.wrap (x7_2))=j_:=⟨_,rfl⟩
       replace H:(if 0≤(ji11)then (if (Int.tmod (shr .i64 x5_2 (ji11)) 2)=1 then (if 0≤(IntKind.u64.wrap (wrap64 (x7_2-8)))then (sluicegateref01_Times.l1 k2 (Go.bits .xor .i64 x5_2 (shl .i64 285 (IntKind.u64.wrap (wrap64 (x7_2-8))))) (wrap64 (x7_2-1)))else (none))else (sluicegateref01_Times.l1 k2 x5_2 (wrap64 (x7_2-1))))else (none))=some r:=by first|(rw[hji11]at H;exact H)|(simp only[hji11]at H ⊢;exact H)
       by_cases c12:0≤(ji11)
       ·rw[if_pos c12]at H
        have c12b0:=eq_true c12
        have c12b1:decide (0≤(ji11))=true:=decide_eq_true c12
        clear c12
        obtain⟨ji13,hji13⟩ : ∃ j_:Int,(shr .i64 x5_2 (ji11))=j_:=⟨_,rfl⟩
        replace H:(if (Int.tmod (ji13) 2)=1 then (if 0≤(IntKind.u64.wrap (wrap64 (x7_2-8)))then (sluicegateref01_Times.l1 k2 (Go.bits .xor .i64 x5_2 (shl .i64 285 (IntKind.u64.wrap (wrap64 (x7_2-8))))) (wrap64 (x7_2-1)))else (none))else (sluicegateref01_Times.l1 k2 x5_2 (wrap64 (x7_2-1))))=some r:=by first|(rw[hji13]at H;exact H)|(simp only[hji13]at H ⊢;exact H)
        have hji13_:(x5_2/2 ^ min (ji11).toNat 64)=ji13:=hji13
        have hji13z:(ji11)≤64→(x5_2/2 ^ (ji11).toNat)=ji13:=shr_small hji13
        by_cases c14:(Int.tmod (ji13) 2)=1
        ·rw[if_pos c14]at H
         have c14b0:((Int.tmod (ji13) 2)==1)=true:=beq_iff_eq.mpr c14
         have c14b1:((Int.tmod (ji13) 2) != 1)=false:=bne_eq_false_iff_eq.mpr c14
         clear c14
         obtain⟨ji15,hji15⟩ : ∃ j_:Int,(IntKind.u64.wrap (wrap64 (x7_2-8)))=j_:=⟨_,rfl⟩
         replace H:(if 0≤(ji15)then (sluicegateref01_Times.l1 k2 (Go.bits .xor .i64 x5_2 (shl .i64 285 (ji15))) (wrap64 (x7_2-1)))else (none))=some r:=by first|(rw[hji15]at H;exact H)|(simp only[hji15]at H ⊢;exact H)
         by_cases c16:0≤(ji15)
         ·rw[if_pos c16]at H
          have c16b0:=eq_true c16
          have c16b1:decide (0≤(ji15))=true:=decide_eq_true c16
          clear c16
          obtain⟨ji17,hji17⟩ : ∃ j_:Int,(shl .i64 285 (ji15))=j_:=⟨_,rfl⟩
          replace H:(sluicegateref01_Times.l1 k2 (Go.bits .xor .i64 x5_2 (ji17)) (wrap64 (x7_2-1)))=some r:=by first|(rw[hji17]at H;exact H)|(simp only[hji17]at H ⊢;exact H)
          have hji17_:(IntKind.i64.wrap (285*2 ^ min (ji15).toNat 64))=ji17:=hji17
          have hji17z:(ji15)≤64→(IntKind.i64.wrap (285*2 ^ (ji15).toNat))=ji17:=shl_small hji17
          have hji17y:(wrap64 (285*2 ^ min (ji15).toNat 64))=ji17:=(i64_w _).symm.trans hji17_
          have hji17x:(ji15)≤64→(wrap64 (285*2 ^ (ji15).toNat))=ji17:=fun h_=>(i64_w _).symm.trans (hji17z h_)
          have H':=Aside0.mk H
          clear H
          go_wp2
          go_roundg k2
          case measure=>have:=HK1.out;have:=HK2.out;omega
          case rel=>exact⟨(Go.bits .xor .i64 x5_2 (ji17)),(wrap64 (x7_2-1)),(by first|rfl|(simp;done)|(simp only[←hji17]<;>(first|rfl|simp))|(simp[*];done)),(by first|rfl|(simp;done)|(simp[*];done)),H',⟨by have:=HK1.out;have:=HK2.out;omega⟩,by repeat (first|exact Drawn0.refl _|apply Drawn0.step)⟩
         ·rw[if_neg c16]at H
          exact absurd H (by simp)
        ·rw[if_neg c14]at H
         have c14b0:((Int.tmod (ji13) 2)==1)=false:=beq_eq_false_iff_ne.mpr c14
         have c14b1:((Int.tmod (ji13) 2) != 1)=true:=bne_iff_ne.mpr c14
         have H':=Aside0.mk H
         clear H
         go_wp2
         go_roundg k2
         case measure=>have:=HK1.out;have:=HK2.out;omega
         case rel=>exact⟨(x5_2),(wrap64 (x7_2-1)),(by first|rfl|(simp;done)|(simp[*];done)),(by first|rfl|(simp;done)|(simp[*];done)),H',⟨by have:=HK1.out;have:=HK2.out;omega⟩,by repeat (first|exact Drawn0.refl _|apply Drawn0.step)⟩
       ·rw[if_neg c12]at H
        exact absurd H (by simp)
      ·rw[if_neg c10]at H
       have c10b0:decide (8≤x7_2)=false:=decide_eq_false c10
       clear c10
       obtain rfl:=Option.some.inj H
       go_wp2
       go_ret
       exact⟨by first|rfl|(simp;done)|(simp[*];done),by repeat (first|exact Drawn0.refl _|apply Drawn0.step)⟩
def sluicegateref01_Over.l0:Nat→Int→Int→Int→Option (Int×Int)
 | 0,_,_,_=>none
 | k+1,x0,x1,x6=>if x6<256 then ((sluicegateref01_Times.f k ((x6)%256) x1).bind fun t191=>(if t191=x0 then (some ((x6)%256,0))else (sluicegateref01_Over.l0 k x0 x1 (wrap64 (x6+1)))))else (some (0,1))
def sluicegateref01_Over.f (k:Nat) (a0:Int) (a1:Int):Option (Int×Int):=if a1=0 then (some (0,1))else (sluicegateref01_Over.l0 k a0 a1 0)
theorem sluicegateref01_Over.calls (k:Nat) (a0:Int) (a1:Int) (r1:Int) (r2:Int) (w:World) (h:sluicegateref01_Over.f k a0 a1=some (r1,r2)) :
  Calls Tryz.prog 87 #[.int .u8 a0,.int .u8 a1] w fun e w'=>e = .returned (.tuple #[.int .u8 r1,.int .i64 r2])∧Drawn0 w w':=by
 have H:(if a1=0 then (some (0,1))else (sluicegateref01_Over.l0 k a0 a1 0))=some (r1,r2):=h
 clear h
 by_cases c3:a1=0
 ·rw[if_pos c3]at H
  have c3b0:(a1==0)=true:=beq_iff_eq.mpr c3
  have c3b1:(a1 != 0)=false:=bne_eq_false_iff_eq.mpr c3
  clear c3
  simp only[Option.some.injEq,Prod.mk.injEq]at H
  obtain⟨rfl,rfl⟩:=H
  go_enter Tryz.func87,Tryz.ntmps87
  go_wp2
  go_ret2
  exact⟨by first|rfl|(simp;done)|(simp[*];done),by repeat (first|exact Drawn0.refl _|apply Drawn0.step)⟩
 ·rw[if_neg c3]at H
  have c3b0:(a1==0)=false:=beq_eq_false_iff_ne.mpr c3
  have c3b1:(a1 != 0)=true:=bne_iff_ne.mpr c3
  have H':=Aside0.mk H
  clear H
  go_enter Tryz.func87,Tryz.ntmps87
  go_wp2
  go_loopg [6] k (fun kq v6 w'=> ∃ (x6_1:Int),v6 = .int .i64 x6_1∧Aside0 (sluicegateref01_Over.l0 kq a0 a1 x6_1=some (r1,r2))∧Aside0 (kq≤k)∧Drawn0 w w')
  case atStart=>exact⟨(0),(by first|rfl|(simp;done)|(simp[*];done)),H',⟨Nat.le_refl _⟩,by repeat (first|exact Drawn0.refl _|apply Drawn0.step)⟩
  case round=>
   clear H'
   try clear p2
   try clear c3
   try clear c3b0
   try clear c3b1
   obtain⟨x6_1,rfl,HA,HK1,⟨m1,rfl⟩⟩:=hrel
   cases gk with
   | zero=>exact absurd HA.out (by simp[sluicegateref01_Over.l0])
   | succ k1=>
    have H:=HA.out
    clear HA
    simp only[sluicegateref01_Over.l0]at H
    by_cases c4:x6_1<256
    ·rw[if_pos c4]at H
     have c4b0:decide (x6_1<256)=true:=decide_eq_true c4
     clear c4
     replace H:=Option.bind_eq_some_iff.mp H
     obtain⟨t191,A50,H⟩:=H
     replace H:(if t191=a0 then (some ((x6_1)%256,0))else (sluicegateref01_Over.l0 k1 a0 a1 (wrap64 (x6_1+1))))=some (r1,r2):=H
     have A5:=Aside0.mk A50
     clear A50
     by_cases c6:t191=a0
     ·rw[if_pos c6]at H
      have c6b0:(t191==a0)=true:=beq_iff_eq.mpr c6
      have c6b1:(t191 != a0)=false:=bne_eq_false_iff_eq.mpr c6
      clear c6
      simp only[Option.some.injEq,Prod.mk.injEq]at H
      obtain⟨rfl,rfl⟩:=H
      go_wp2_with (first|((with_reducible refine gate_callee (f:=69) rfl ?_);refine goesL_ (some 16) rfl rfl Tryz.func69 (by kernel_rfl) rfl #[.int .u8 ((x6_1)%256),.int .u8 a1] rfl (by (try simp only[List.map_toArray,List.map_cons,List.map_nil]);first|done|rfl|(simp only[List.length_drop,List.length_take];rfl)) ?_;(with_reducible refine(sluicegateref01_Times.calls k1 ((x6_1)%256) a1 t191 _ A5.out).mono ?_);rintro e w' ⟨rfl,⟨nd,rfl⟩⟩;refine⟨_,rfl,?_⟩))
      go_ret2
      exact⟨by first|rfl|(simp;done)|(simp[*];done),by repeat (first|exact Drawn0.refl _|apply Drawn0.step)⟩
     ·rw[if_neg c6]at H
      have c6b0:(t191==a0)=false:=beq_eq_false_iff_ne.mpr c6
      have c6b1:(t191 != a0)=true:=bne_iff_ne.mpr c6
      have H':=Aside0.mk H
      clear H
      go_wp2_with (first|((with_reducible refine gate_callee (f:=69) rfl ?_);refine goesL_ (some 16) rfl rfl Tryz.func69 (by kernel_rfl) rfl #[.int .u8 ((x6_1)%256),.int .u8 a1] rfl (by (try simp only[List.map_toArray,List.map_cons,List.map_nil]);first|done|rfl|(simp only[List.length_drop,List.length_take];rfl)) ?_;(with_reducible refine(sluicegateref01_Times.calls k1 ((x6_1)%256) a1 t191 _ A5.out).mono ?_);rintro e w' ⟨rfl,⟨nd,rfl⟩⟩;refine⟨_,rfl,?_⟩))
      go_roundg k1
      case measure=>have:=HK1.out;omega
      case rel=>exact⟨(wrap64 (x6_1+1)),(by first|rfl|(simp;done)|(simp[*];done)),H',⟨by have:=HK1.out;omega⟩,by repeat (first|exact Drawn0.refl _|apply Drawn0.step)⟩
    ·rw[if_neg c4]at H
     have c4b0:decide (x6_1<256)=false:=decide_eq_false c4
     clear c4
     simp only[Option.some.injEq,Prod.mk.injEq]at H
     obtain⟨rfl,rfl⟩:=H
     go_wp2
     go_ret2
     exact⟨by first|rfl|(simp;done)|(simp[*];done),by repeat (first|exact Drawn0.refl _|apply Drawn0.step)⟩
def sluicegateref02_Factor.f (k:Nat) (a0:Int) (a1:Int):Option (Int):=if a0<6 then (if a0=a1 then (some 1)else (some 0))else ((sluicegateref01_Over.f k 1 ((Go.bits .xor .i64 a0 a1)%256)).bind fun bt192=>(some bt192.1))
theorem sluicegateref02_Factor.calls (k:Nat) (a0:Int) (a1:Int) (r:Int) (w:World) (h:sluicegateref02_Factor.f k a0 a1=some r) :
  Calls Tryz.prog 70 #[.int .i64 a0,.int .i64 a1] w fun e w'=>e = .returned (.int .u8 r)∧Drawn0 w w':=by
 have H:(if a0<6 then (if a0=a1 then (some 1)else (some 0))else ((sluicegateref01_Over.f k 1 ((Go.bits .xor .i64 a0 a1)%256)).bind fun bt192=>(some bt192.1)))=some r:=h
 clear h
 by_cases c3:a0<6
 ·rw[if_pos c3]at H
  have c3b0:decide (a0<6)=true:=decide_eq_true c3
  clear c3
  by_cases c4:a0=a1
  ·rw[if_pos c4]at H
   have c4b0:(a0==a1)=true:=beq_iff_eq.mpr c4
   have c4b1:(a0 != a1)=false:=bne_eq_false_iff_eq.mpr c4
   clear c4
   obtain rfl:=Option.some.inj H
   go_enter Tryz.func70,Tryz.ntmps70
   go_wp2
   go_ret
   exact⟨by first|rfl|(simp;done)|(simp[*];done),by repeat (first|exact Drawn0.refl _|apply Drawn0.step)⟩
  ·rw[if_neg c4]at H
   have c4b0:(a0==a1)=false:=beq_eq_false_iff_ne.mpr c4
   have c4b1:(a0 != a1)=true:=bne_iff_ne.mpr c4
   obtain rfl:=Option.some.inj H
   go_enter Tryz.func70,Tryz.ntmps70
   go_wp2
   go_ret
   exact⟨by first|rfl|(simp;done)|(simp[*];done),by repeat (first|exact Drawn0.refl _|apply Drawn0.step)⟩
 ·rw[if_neg c3]at H
  have c3b0:decide (a0<6)=false:=decide_eq_false c3
  clear c3
  replace H:=Option.bind_eq_some_iff.mp H
  obtain⟨⟨t192,t193⟩,A50,H⟩:=H
  replace H:(some t192)=some r:=H
  have A5:=Aside0.mk A50
  clear A50
  obtain rfl:=Option.some.inj H
  go_enter Tryz.func70,Tryz.ntmps70
  go_wp2_with (first|((with_reducible refine gate_callee (f:=87) rfl ?_);refine goesL_ (some 17) rfl rfl Tryz.func87 (by kernel_rfl) rfl #[.int .u8 1,.int .u8 ((Go.bits .xor .i64 a0 a1)%256)] rfl (by (try simp only[List.map_toArray,List.map_cons,List.map_nil]);first|done|rfl|(simp only[List.length_drop,List.length_take];rfl)) ?_;(with_reducible refine(sluicegateref01_Over.calls k 1 ((Go.bits .xor .i64 a0 a1)%256) t192 t193 _ A5.out).mono ?_);rintro e w' ⟨rfl,⟨nd,rfl⟩⟩;refine⟨_,rfl,?_⟩))
  go_ret
  exact⟨by first|rfl|(simp;done)|(simp[*];done),by repeat (first|exact Drawn0.refl _|apply Drawn0.step)⟩
mutual
def sluicegateref02_shard.l0:Nat→List ByteArray→Int→List Int→Int→Option (ByteArray)
 | 0,_,_,_,_=>none
 | k+1,x0,x1,x5,x6=>if 0<(x0.length:Int)then (if x6<((rdOf ByteArray.empty x0 0).size:Int)then (sluicegateref02_shard.l1 k x0 x1 x5 x6 0 0)else (some (strOfNums x5)))else (none)
def sluicegateref02_shard.l1:Nat→List ByteArray→Int→List Int→Int→Int→Int→Option (ByteArray)
 | 0,_,_,_,_,_,_=>none
 | k+1,x0,x1,x5,x6,x7,x8=>if x8<6 then ((sluicegateref02_Factor.f k x1 x8).bind fun t195=>(if 0≤x8 then (if x8<(x0.length:Int)then (if 0≤x6 then (if x6<((rdOf ByteArray.empty x0 x8).size:Int)then ((sluicegateref01_Times.f k t195 (bt (rdOf ByteArray.empty x0 x8) x6)).bind fun t197=>(sluicegateref02_shard.l1 k x0 x1 x5 x6 (Go.bits .xor .u8 x7 t197) (wrap64 (x8+1))))else (none))else (none))else (none))else (none)))else (if x5.length<140737488355328 then (sluicegateref02_shard.l0 k x0 x1 (x5++[x7]) (wrap64 (x6+1)))else (none))
end
def sluicegateref02_shard.f (k:Nat) (l0:List ByteArray) (a1:Int):Option (ByteArray):=sluicegateref02_shard.l0 k l0 a1 ([]:List Int) 0
theorem sluicegateref02_shard.calls (k:Nat) (A0:Option Addr) (c0:Nat) (l0:List ByteArray) (a1:Int) (r:ByteArray) (w:World) (hr0:Kd.C Kd.string w A0 l0.length l0) (hc0:l0.length≤c0) (h:sluicegateref02_shard.f k l0 a1=some r) :
  Calls Tryz.prog 49 #[.slice A0 l0.length c0,.int .i64 a1] w fun e w'=>e = .returned (.string r)∧Below w.heap.size w w':=by
 have HR0:=Aside0.mk hr0
 have HC0:=Aside0.mk hc0
 clear hr0 hc0
 have HB:=Aside0.mk (Below.refl w.heap.size w)
 have H:(sluicegateref02_shard.l0 k l0 a1 ([]:List Int) 0)=some r:=h
 clear h
 have H':=Aside0.mk H
 clear H
 go_enter Tryz.func49,Tryz.ntmps49
 go_wp2
 repeat (go_quiet (fail);try go_wp2)
 go_loopg [5,6] k (fun kq v5 v6 w'=> ∃ (x5_1:List Int) (x6_1:Int),v6 = .int .i64 x6_1∧Aside0 (sluicegateref02_shard.l0 kq l0 a1 x5_1 x6_1=some r)∧Aside0 (kq≤k)∧Aside0 (Kd.R (Kd.int .u8) 5 w' w.heap.size (fun _=>True) v5 x5_1)∧Aside0 (Below w.heap.size w w'))
 case atStart=>exact⟨(([]:List Int)),(0),(by first|rfl|(simp;done)|(simp[*];done)),H',⟨Nat.le_refl _⟩,⟨by first|exact Kd.R_nil _ _ _ _ _|exact Kd.N_nil _ _ _ _ _|exact Kd.V_nil _ _ _ _ _|exact Kd.Q_nil _ _ _ _ _|exact Kd.S_nil _ _ _ _ _⟩,⟨by repeat (first|(with_reducible first|exact HB.out|apply below_alloc|apply pw_below_drewN|apply below_drew1)|exact HB.out)⟩⟩
 case round=>
  clear H'
  try clear p2
  obtain⟨x5_1,x6_1,rfl,HA,HK1,HO_5,HB⟩:=hrel
  cases gk with
  | zero=>exact absurd HA.out (by simp[sluicegateref02_shard.l0])
  | succ k1=>
   have H:=HA.out
   clear HA
   simp only[sluicegateref02_shard.l0]at H
   by_cases c3:0<(l0.length:Int)
   ·rw[if_pos c3]at H
    have c3b0:decide (0<(l0.length:Int))=true:=decide_eq_true c3
    have c3b1:decide (0<l0.length)=true:=decide_eq_true (by omega)
    clear c3
    by_cases c4:x6_1<((rdOf ByteArray.empty l0 0).size:Int)
    ·rw[if_pos c4]at H
     have c4b0:decide (x6_1<((rdOf ByteArray.empty l0 0).size:Int))=true:=decide_eq_true c4
     clear c4
     have H':=Aside0.mk H
     clear H
     have p194:0≤(0:Int):=(by omega)
     have q194:0<(l0.length:Int):=of_decide_eq_true (by first|(with_reducible assumption)|assumption)
     obtain⟨ad194,e194,hx194_0⟩:=Kd.at_string HR0.out 0 p194 q194
     cases e194
     have qi194:(0<l0.length)=True:=eq_true (by omega)
     (try rw[show ((0:Int)).toNat=0 from rfl]at hx194_0)
     (try rw[Addr.add_zero']at hx194_0)
     replace hx194_0:=(HB.out.cell (World.block_lt_of_cell? w _ hx194_0)).trans hx194_0
     replace p194:=eq_true p194
     replace q194:=eq_true q194
     go_wp2
     repeat (go_quiet (fail);try go_wp2)
     go_loopg [7,8] k1 (fun kq v7 v8 w'=> ∃ (x7_2:Int) (x8_2:Int),v7 = .int .u8 x7_2∧v8 = .int .i64 x8_2∧Aside0 (sluicegateref02_shard.l1 kq l0 a1 x5_1 x6_1 x7_2 x8_2=some r)∧Aside0 (kq≤k1)∧Aside0 (Kd.R (Kd.int .u8) 5 w' w.heap.size (fun _=>True) u5 x5_1)∧Aside0 (Below w.heap.size w w'))
     case atStart=>exact⟨(0),(0),(by first|rfl|(simp;done)|(simp[*];done)),(by first|rfl|(simp;done)|(simp[*];done)),H',⟨Nat.le_refl _⟩,⟨by (with_reducible repeat (first|apply Kd.R_alloc|apply Kd.R_drewN|apply Kd.R_drew));exact HO_5.out⟩,⟨by repeat (first|(with_reducible first|exact HB.out|apply below_alloc|apply pw_below_drewN|apply below_drew1)|exact HB.out)⟩⟩
     case round=>
      clear H'
      try clear p1
      try clear q1
      try clear hx1
      try clear qi1
      try clear p2
      try clear c3
      try clear c3b0
      try clear c3b1
      try clear c4
      try clear c4b0
      try clear hx194_0
      try clear p194
      try clear p2
      try clear q194
      obtain⟨x7_2,x8_2,rfl,rfl,HA,HK2,HO_5,HB⟩:=hrel
      cases gk with
      | zero=>exact absurd HA.out (by simp[sluicegateref02_shard.l1])
      | succ k2=>
       have H:=HA.out
       clear HA
       simp only[sluicegateref02_shard.l1]at H
       by_cases c5:x8_2<6
       ·rw[if_pos c5]at H
        have c5b0:decide (x8_2<6)=true:=decide_eq_true c5
        clear c5
        replace H:=Option.bind_eq_some_iff.mp H
        obtain⟨t195,A60,H⟩:=H
        replace H:(if 0≤x8_2 then (if x8_2<(l0.length:Int)then (if 0≤x6_1 then (if x6_1<((rdOf ByteArray.empty l0 x8_2).size:Int)then ((sluicegateref01_Times.f k2 t195 (bt (rdOf ByteArray.empty l0 x8_2) x6_1)).bind fun t197=>(sluicegateref02_shard.l1 k2 l0 a1 x5_1 x6_1 (Go.bits .xor .u8 x7_2 t197) (wrap64 (x8_2+1))))else (none))else (none))else (none))else (none))=some r:=H
        have A6:=Aside0.mk A60
        clear A60
        by_cases c7:0≤x8_2
        ·rw[if_pos c7]at H
         have c7b0:decide (0≤x8_2)=true:=decide_eq_true c7
         clear c7
         by_cases c8:x8_2<(l0.length:Int)
         ·rw[if_pos c8]at H
          have c8b0:decide (x8_2<(l0.length:Int))=true:=decide_eq_true c8
          clear c8
          by_cases c9:0≤x6_1
          ·rw[if_pos c9]at H
           have c9b0:decide (0≤x6_1)=true:=decide_eq_true c9
           clear c9
           by_cases c10:x6_1<((rdOf ByteArray.empty l0 x8_2).size:Int)
           ·rw[if_pos c10]at H
            have c10b0:decide (x6_1<((rdOf ByteArray.empty l0 x8_2).size:Int))=true:=decide_eq_true c10
            clear c10
            replace H:=Option.bind_eq_some_iff.mp H
            obtain⟨t197,A120,H⟩:=H
            replace H:(sluicegateref02_shard.l1 k2 l0 a1 x5_1 x6_1 (Go.bits .xor .u8 x7_2 t197) (wrap64 (x8_2+1)))=some r:=H
            have A12:=Aside0.mk A120
            clear A120
            have H':=Aside0.mk H
            clear H
            go_wp2_with (first|(go_at_call 70;(with_reducible refine(sluicegateref02_Factor.calls k2 a1 x8_2 t195 _ A6.out).mono ?_);rintro e w' ⟨rfl,⟨nd,rfl⟩⟩;(try first|exact⟨rfl,_,World.drewN_drewN _ _ _⟩|exact⟨rfl,_,Eq.trans (World.drewN_drewN _ _ _) (congrArg (World.drewN _) (Nat.add_assoc _ _ _))⟩);have p196:0≤(x8_2:Int):=of_decide_eq_true (by first|(with_reducible assumption)|assumption);have q196:x8_2<(l0.length:Int):=of_decide_eq_true (by first|(with_reducible assumption)|assumption);obtain⟨ad196,e196,hx196_0⟩:=Kd.at_string HR0.out x8_2 p196 q196;obtain rfl:ad194=ad196:=(by injection e196);replace hx196_0:=(HB.out.cell (World.block_lt_of_cell? w _ hx196_0)).trans hx196_0;replace p196:=eq_true p196;replace q196:=eq_true q196;have p11:0≤(x6_1:Int):=of_decide_eq_true (by first|(with_reducible assumption)|assumption);have q11:x6_1<((rdOf ByteArray.empty l0 x8_2).size:Int):=of_decide_eq_true (by first|(with_reducible assumption)|assumption);have hx11:=bt_at (rdOf ByteArray.empty l0 x8_2) x6_1;replace p11:=eq_true p11;replace q11:=eq_true q11)|(go_at_call 69;(with_reducible refine(sluicegateref01_Times.calls k2 t195 (bt (rdOf ByteArray.empty l0 x8_2) x6_1) t197 _ A12.out).mono ?_);rintro e w' ⟨rfl,⟨nd,rfl⟩⟩;(try first|exact⟨rfl,_,World.drewN_drewN _ _ _⟩|exact⟨rfl,_,Eq.trans (World.drewN_drewN _ _ _) (congrArg (World.drewN _) (Nat.add_assoc _ _ _))⟩)))
            repeat (go_quiet (first|(go_at_call 70;(with_reducible refine(sluicegateref02_Factor.calls k2 a1 x8_2 t195 _ A6.out).mono ?_);rintro e w' ⟨rfl,⟨nd,rfl⟩⟩;(try first|exact⟨rfl,_,World.drewN_drewN _ _ _⟩|exact⟨rfl,_,Eq.trans (World.drewN_drewN _ _ _) (congrArg (World.drewN _) (Nat.add_assoc _ _ _))⟩);have p196:0≤(x8_2:Int):=of_decide_eq_true (by first|(with_reducible assumption)|assumption);have q196:x8_2<(l0.length:Int):=of_decide_eq_true (by first|(with_reducible assumption)|assumption);obtain⟨ad196,e196,hx196_0⟩:=Kd.at_string HR0.out x8_2 p196 q196;obtain rfl:ad194=ad196:=(by injection e196);replace hx196_0:=(HB.out.cell (World.block_lt_of_cell? w _ hx196_0)).trans hx196_0;replace p196:=eq_true p196;replace q196:=eq_true q196;have p11:0≤(x6_1:Int):=of_decide_eq_true (by first|(with_reducible assumption)|assumption);have q11:x6_1<((rdOf ByteArray.empty l0 x8_2).size:Int):=of_decide_eq_true (by first|(with_reducible assumption)|assumption);have hx11:=bt_at (rdOf ByteArray.empty l0 x8_2) x6_1;replace p11:=eq_true p11;replace q11:=eq_true q11)|(go_at_call 69;(with_reducible refine(sluicegateref01_Times.calls k2 t195 (bt (rdOf ByteArray.empty l0 x8_2) x6_1) t197 _ A12.out).mono ?_);rintro e w' ⟨rfl,⟨nd,rfl⟩⟩;(try first|exact⟨rfl,_,World.drewN_drewN _ _ _⟩|exact⟨rfl,_,Eq.trans (World.drewN_drewN _ _ _) (congrArg (World.drewN _) (Nat.add_assoc _ _ _))⟩)));try go_wp2_with (first|(go_at_call 70;(with_reducible refine(sluicegateref02_Factor.calls k2 a1 x8_2 t195 _ A6.out).mono ?_);rintro e w' ⟨rfl,⟨nd,rfl⟩⟩;(try first|exact⟨rfl,_,World.drewN_drewN _ _ _⟩|exact⟨rfl,_,Eq.trans (World.drewN_drewN _ _ _) (congrArg (World.drewN _) (Nat.add_assoc _ _ _))⟩);have p196:0≤(x8_2:Int):=of_decide_eq_true (by first|(with_reducible assumption)|assumption);have q196:x8_2<(l0.length:Int):=of_decide_eq_true (by first|(with_reducible assumption)|assumption);obtain⟨ad196,e196,hx196_0⟩:=Kd.at_string HR0.out x8_2 p196 q196;obtain rfl:ad194=ad196:=(by injection e196);replace hx196_0:=(HB.out.cell (World.block_lt_of_cell? w _ hx196_0)).trans hx196_0;replace p196:=eq_true p196;replace q196:=eq_true q196;have p11:0≤(x6_1:Int):=of_decide_eq_true (by first|(with_reducible assumption)|assumption);have q11:x6_1<((rdOf ByteArray.empty l0 x8_2).size:Int):=of_decide_eq_true (by first|(with_reducible assumption)|assumption);have hx11:=bt_at (rdOf ByteArray.empty l0 x8_2) x6_1;replace p11:=eq_true p11;replace q11:=eq_true q11)|(go_at_call 69;(with_reducible refine(sluicegateref01_Times.calls k2 t195 (bt (rdOf ByteArray.empty l0 x8_2) x6_1) t197 _ A12.out).mono ?_);rintro e w' ⟨rfl,⟨nd,rfl⟩⟩;(try first|exact⟨rfl,_,World.drewN_drewN _ _ _⟩|exact⟨rfl,_,Eq.trans (World.drewN_drewN _ _ _) (congrArg (World.drewN _) (Nat.add_assoc _ _ _))⟩))))
            go_roundg k2
            case measure=>have:=HK1.out;have:=HK2.out;omega
            case rel=>exact⟨(Go.bits .xor .u8 x7_2 t197),(wrap64 (x8_2+1)),(by first|rfl|(simp;done)|(simp[*];done)),(by first|rfl|(simp;done)|(simp[*];done)),H',⟨by have:=HK1.out;have:=HK2.out;omega⟩,⟨by (with_reducible repeat (first|apply Kd.R_alloc|apply Kd.R_drewN|apply Kd.R_drew));exact HO_5.out⟩,⟨by repeat (first|(with_reducible first|exact HB.out|apply below_alloc|apply pw_below_drewN|apply below_drew1)|exact HB.out)⟩⟩
           ·rw[if_neg c10]at H
            exact absurd H (by simp)
          ·rw[if_neg c9]at H
           exact absurd H (by simp)
         ·rw[if_neg c8]at H
          exact absurd H (by simp)
        ·rw[if_neg c7]at H
         exact absurd H (by simp)
       ·rw[if_neg c5]at H
        have c5b0:decide (x8_2<6)=false:=decide_eq_false c5
        clear c5
        by_cases c13:x5_1.length<140737488355328
        ·rw[if_pos c13]at H
         have LMc13:=Aside0.mk c13
         clear c13
         obtain⟨y198,hy198⟩ : ∃ y_:List Int,y_=(x5_1++[x7_2]):=⟨_,rfl⟩
         replace H:(sluicegateref02_shard.l0 k2 l0 a1 y198 (wrap64 (x6_1+1)))=some r:=by first|(rw[hy198];with_reducible exact H)|(have H2_:=(Option.bind_some _ _).symm.trans H;rw[hy198];with_reducible exact H2_)|(have H2_:=(Option.bind_some _ _).symm.trans H;with_reducible exact H2_)|with_reducible exact H|(rw[hy198];exact H)|exact H
         have Ny198:=Aside0.mk hy198
         clear hy198
         have H':=Aside0.mk H
         clear H
         go_wp2_with (first|((with_reducible refine gate_builtin (b:=.append) (xs:= #[.tmp 33,.tmp 35]) rfl ?_);at_builtin;refine Kd.R_append (Kd.int .u8) (w0:=w) w.heap.size rfl (.tmp 33) (.tmp 35) 80 5 (.int .u8 0) 1 rfl Tryz.underlying80 info5 rfl (by decide) (by omega) u5 x5_1 x7_2 [.int .u8 x7_2] (fun _=>True) (fun _=>False) rfl rfl ?aP (fun _ hk=>hk.elim) ?aF ?aO ?aB ?aS ?aL ?_;(case aP=>exact rfl);(case aB=>exact(by repeat (first|(with_reducible first|exact HB.out|apply below_alloc|apply pw_below_drewN|apply below_drew1)|exact HB.out)));(case aF=>exact(fun _ _=>trivial));(case aO=>exact(by (with_reducible repeat (first|apply Kd.R_alloc|apply Kd.R_drewN|apply Kd.R_drew));exact HO_5.out));(case aS=>exact(below_size (by repeat (first|(with_reducible first|exact HB.out|apply below_alloc|apply pw_below_drewN|apply below_drew1)|exact HB.out))));(case aL=>have:=LMc13.out;omega);intro v199 w14 ho hb hg hat;rw[←Ny198.out]at ho;have n0_:=Aside0.mk (hb);have n1_:=Aside0.mk (ho);clear HB;clear HO_5;have HB:=n0_;have HO200:=n1_;clear n0_ n1_;clear ho hb hg hat))
         repeat (go_quiet (first|((with_reducible refine gate_builtin (b:=.append) (xs:= #[.tmp 33,.tmp 35]) rfl ?_);at_builtin;refine Kd.R_append (Kd.int .u8) (w0:=w) w.heap.size rfl (.tmp 33) (.tmp 35) 80 5 (.int .u8 0) 1 rfl Tryz.underlying80 info5 rfl (by decide) (by omega) u5 x5_1 x7_2 [.int .u8 x7_2] (fun _=>True) (fun _=>False) rfl rfl ?aP (fun _ hk=>hk.elim) ?aF ?aO ?aB ?aS ?aL ?_;(case aP=>exact rfl);(case aB=>exact(by repeat (first|(with_reducible first|exact HB.out|apply below_alloc|apply pw_below_drewN|apply below_drew1)|exact HB.out)));(case aF=>exact(fun _ _=>trivial));(case aO=>exact(by (with_reducible repeat (first|apply Kd.R_alloc|apply Kd.R_drewN|apply Kd.R_drew));exact HO_5.out));(case aS=>exact(below_size (by repeat (first|(with_reducible first|exact HB.out|apply below_alloc|apply pw_below_drewN|apply below_drew1)|exact HB.out))));(case aL=>have:=LMc13.out;omega);intro v199 w14 ho hb hg hat;rw[←Ny198.out]at ho;have n0_:=Aside0.mk (hb);have n1_:=Aside0.mk (ho);clear HB;clear HO_5;have HB:=n0_;have HO200:=n1_;clear n0_ n1_;clear ho hb hg hat));try go_wp2_with (first|((with_reducible refine gate_builtin (b:=.append) (xs:= #[.tmp 33,.tmp 35]) rfl ?_);at_builtin;refine Kd.R_append (Kd.int .u8) (w0:=w) w.heap.size rfl (.tmp 33) (.tmp 35) 80 5 (.int .u8 0) 1 rfl Tryz.underlying80 info5 rfl (by decide) (by omega) u5 x5_1 x7_2 [.int .u8 x7_2] (fun _=>True) (fun _=>False) rfl rfl ?aP (fun _ hk=>hk.elim) ?aF ?aO ?aB ?aS ?aL ?_;(case aP=>exact rfl);(case aB=>exact(by repeat (first|(with_reducible first|exact HB.out|apply below_alloc|apply pw_below_drewN|apply below_drew1)|exact HB.out)));(case aF=>exact(fun _ _=>trivial));(case aO=>exact(by (with_reducible repeat (first|apply Kd.R_alloc|apply Kd.R_drewN|apply Kd.R_drew));exact HO_5.out));(case aS=>exact(below_size (by repeat (first|(with_reducible first|exact HB.out|apply below_alloc|apply pw_below_drewN|apply below_drew1)|exact HB.out))));(case aL=>have:=LMc13.out;omega);intro v199 w14 ho hb hg hat;rw[←Ny198.out]at ho;have n0_:=Aside0.mk (hb);have n1_:=Aside0.mk (ho);clear HB;clear HO_5;have HB:=n0_;have HO200:=n1_;clear n0_ n1_;clear ho hb hg hat)))
         go_roundg k2
         case measure=>have:=HK1.out;have:=HK2.out;omega
         case rel=>exact⟨(y198),(wrap64 (x6_1+1)),(by first|rfl|(simp;done)|(simp[*];done)),H',⟨by have:=HK1.out;have:=HK2.out;omega⟩,⟨by (with_reducible repeat (first|apply Kd.R_alloc|apply Kd.R_drewN|apply Kd.R_drew));exact HO200.out⟩,⟨by repeat (first|(with_reducible first|exact HB.out|apply below_alloc|apply pw_below_drewN|apply below_drew1)|exact HB.out)⟩⟩
        ·rw[if_neg c13]at H
         exact absurd H (by simp)
    ·rw[if_neg c4]at H
     have c4b0:decide (x6_1<((rdOf ByteArray.empty l0 0).size:Int))=false:=decide_eq_false c4
     clear c4
     obtain rfl:=Option.some.inj H
     have p194:0≤(0:Int):=(by omega)
     have q194:0<(l0.length:Int):=of_decide_eq_true (by first|(with_reducible assumption)|assumption)
     obtain⟨ad194,e194,hx194_0⟩:=Kd.at_string HR0.out 0 p194 q194
     cases e194
     have qi194:(0<l0.length)=True:=eq_true (by omega)
     (try rw[show ((0:Int)).toNat=0 from rfl]at hx194_0)
     (try rw[Addr.add_zero']at hx194_0)
     replace hx194_0:=(HB.out.cell (World.block_lt_of_cell? w _ hx194_0)).trans hx194_0
     replace p194:=eq_true p194
     replace q194:=eq_true q194
     have hcv15:=own_string (P:=Tryz.prog) Tryz.underlying80 Tryz.underlying5 Tryz.underlying9 (Kd.own_of_R HO_5.out)
     go_wp2
     repeat (go_quiet (fail);try go_wp2)
     go_ret
     exact⟨by first|rfl|(simp[errW_none,errW_some]<;>rfl)|(simp[*,errW_none,errW_some]<;>rfl),by repeat (first|(with_reducible first|exact HB.out|apply below_alloc|apply pw_below_drewN|apply below_drew1)|exact HB.out)⟩
   ·rw[if_neg c3]at H
    exact absurd H (by simp)
end Go.Proofs.YtdcfonmjbelgbaaGreatDoor.Q
end
section
namespace Go.Proofs.YtdcfonmjbelgbaaGreatDoor.Q
open Go.RowKit YtdcfonmjbelgbaaGreatDoorW.PrintWords YtdcfonmjbelgbaaGreatDoorW.PrintLast YtdcfonmjbelgbaaGreatDoorW.PrintMore
attribute [local go_sem] max2_int min2_int max_two min_two max_three min_three max_four min_four
mutual
def sluicegateref02_Encode.j0:Nat→List ByteArray→Bool→Option (List ByteArray×Int)
 | 0,_,_=>none
 | k+1,x0,x13=>if x13=true then (some (([]:List ByteArray),1))else (sluicegateref02_Encode.l0 k x0 ([]:List ByteArray) 0)
def sluicegateref02_Encode.l0:Nat→List ByteArray→List ByteArray→Int→Option (List ByteArray×Int)
 | 0,_,_,_=>none
 | k+1,x0,x4,x5=>if x5<9 then ((sluicegateref02_shard.f k x0 x5).bind fun t202=>(if x4.length<8796093022208 then (sluicegateref02_Encode.l0 k x0 (x4++[t202]) (wrap64 (x5+1)))else (none)))else (some (x4,0))
end
def sluicegateref02_Encode.f (k:Nat) (l0:List ByteArray):Option (List ByteArray×Int):=if (l0.length:Int)=6 then ((sluicegateref02_one.f k l0).bind fun t201=>(sluicegateref02_Encode.j0 k l0 (!t201)))else (sluicegateref02_Encode.j0 k l0 true)
theorem sluicegateref02_Encode.calls (k:Nat) (A0:Option Addr) (c0:Nat) (l0:List ByteArray) (r1:List ByteArray) (r2:Int) (w:World) (hr0:Kd.C Kd.string w A0 l0.length l0) (hc0:l0.length≤c0) (h:sluicegateref02_Encode.f k l0=some (r1,r2)) :
  Calls Tryz.prog 31 #[.slice A0 l0.length c0] w fun e w'=> ∃ v0_:Value,e = .returned (.tuple #[v0_,.int .i64 r2])∧Kd.R Kd.string 9 w' w.heap.size (fun _=>True) v0_ r1∧Below w.heap.size w w':=by
 have HR0:=Aside0.mk hr0
 have HC0:=Aside0.mk hc0
 clear hr0 hc0
 have HB:=Aside0.mk (Below.refl w.heap.size w)
 have H:(if (l0.length:Int)=6 then ((sluicegateref02_one.f k l0).bind fun t201=>(sluicegateref02_Encode.j0 k l0 (!t201)))else (sluicegateref02_Encode.j0 k l0 true))=some (r1,r2):=h
 clear h
 have HC2:=Aside0.mk H
 clear H
 go_enter Tryz.func31,Tryz.ntmps31
 go_upto_region 1 with (fail)
 go_cut [13] (fun v13 wc=> ∃ (kq:Nat) (x13_1:Bool),v13 = .bool x13_1∧Aside0 (sluicegateref02_Encode.j0 kq l0 x13_1=some (r1,r2))∧Aside0 (kq≤k)∧Aside0 (Below w.heap.size w wc))
 case first=>
  have H:=HC2.out
  clear HC2
  by_cases c3:(l0.length:Int)=6
  ·rw[if_pos c3]at H
   have c3b0:((l0.length:Int)==6)=true:=beq_iff_eq.mpr c3
   have c3b1:((l0.length:Int) != 6)=false:=bne_eq_false_iff_eq.mpr c3
   clear c3
   (first|rw[c3b0]|(simp only[i64_w,i32_w];rw[c3b0])|skip)
   replace H:=Option.bind_eq_some_iff.mp H
   obtain⟨t201,A40,H⟩:=H
   replace H:(sluicegateref02_Encode.j0 k l0 (!t201))=some (r1,r2):=H
   have A4:=Aside0.mk A40
   clear A40
   have H':=Aside0.mk H
   clear H
   go_wp2_with (first|(go_at_call 48;(with_reducible refine(sluicegateref02_one.calls k _ _ l0 t201 _ ?side1 ?side2 A4.out).mono ?_);(case side1=>repeat (first|exact(Kd.C_below HR0.out HB.out)|(with_reducible refine Kd.C_alloc ?_ _)|(with_reducible refine Kd.C_drewN ?_ _)|(with_reducible refine Kd.C_drew ?_)));(case side2=>exact HC0.out);rintro e w' ⟨rfl,⟨nd,rfl⟩⟩))
   go_meet
   case rel=>exact⟨_,(!t201),(by first|rfl|(simp;done)|(simp[*];done)),H',⟨by first|omega|exact Nat.le_refl _⟩,⟨by repeat (first|(with_reducible first|exact HB.out|apply below_alloc|apply pw_below_drewN|apply below_drew1)|exact HB.out)⟩⟩
  ·rw[if_neg c3]at H
   have c3b0:((l0.length:Int)==6)=false:=beq_eq_false_iff_ne.mpr c3
   have c3b1:((l0.length:Int) != 6)=true:=bne_iff_ne.mpr c3
   (first|rw[c3b0]|(simp only[i64_w,i32_w];rw[c3b0])|skip)
   have H':=Aside0.mk H
   clear H
   go_wp2
   go_meet
   case rel=>exact⟨_,(true),(by first|rfl|(simp;done)|(simp[*];done)),H',⟨by first|omega|exact Nat.le_refl _⟩,⟨by repeat (first|(with_reducible first|exact HB.out|apply below_alloc|apply pw_below_drewN|apply below_drew1)|exact HB.out)⟩⟩
 case rest=>
  clear HC2
  try clear p2
  try clear c3
  try clear c3b0
  try clear c3b1
  obtain⟨kq,x13_1,rfl,HA,HJ1,HB⟩:=hcut
  cases kq with
  | zero=>exact absurd HA.out (by simp[sluicegateref02_Encode.j0])
  | succ kj1=>
   have H:=HA.out
   clear HA
   simp only[sluicegateref02_Encode.j0]at H
   by_cases c5:x13_1=true
   ·subst c5
    have H1:(some (([]:List ByteArray),1))=some (r1,r2):=by rw[if_pos rfl]at H;exact H
    clear H
    have H:=H1
    clear H1
    simp only[Option.some.injEq,Prod.mk.injEq]at H
    obtain⟨rfl,rfl⟩:=H
    go_wp2
    go_ret2
    exact⟨_,by first|rfl|(simp[errW_none,errW_some]<;>rfl)|(simp[*,errW_none,errW_some]<;>rfl),by first|exact Kd.R_nil _ _ _ _ _|exact Kd.N_nil _ _ _ _ _|exact Kd.V_nil _ _ _ _ _|exact Kd.Q_nil _ _ _ _ _|exact Kd.S_nil _ _ _ _ _,by repeat (first|(with_reducible first|exact HB.out|apply below_alloc|apply pw_below_drewN|apply below_drew1)|exact HB.out)⟩
   ·replace c5:=Bool.eq_false_iff.mpr c5
    subst c5
    have H1:(sluicegateref02_Encode.l0 kj1 l0 ([]:List ByteArray) 0)=some (r1,r2):=by rw[if_neg (show ¬ (false=true)by decide)]at H;exact H
    clear H
    have H:=H1
    clear H1
    have H':=Aside0.mk H
    clear H
    go_wp2
    go_loopg [4,5] kj1 (fun kq v4 v5 w'=> ∃ (x4_2:List ByteArray) (x5_2:Int),v5 = .int .i64 x5_2∧Aside0 (sluicegateref02_Encode.l0 kq l0 x4_2 x5_2=some (r1,r2))∧Aside0 (kq≤kj1)∧Aside0 (Kd.R Kd.string 9 w' w.heap.size (fun _=>True) v4 x4_2)∧Aside0 (Below w.heap.size w w'))
    case atStart=>exact⟨(([]:List ByteArray)),(0),(by first|rfl|(simp;done)|(simp[*];done)),H',⟨Nat.le_refl _⟩,⟨by first|exact Kd.R_nil _ _ _ _ _|exact Kd.N_nil _ _ _ _ _|exact Kd.V_nil _ _ _ _ _|exact Kd.Q_nil _ _ _ _ _|exact Kd.S_nil _ _ _ _ _⟩,⟨by repeat (first|(with_reducible first|exact HB.out|apply below_alloc|apply pw_below_drewN|apply below_drew1)|exact HB.out)⟩⟩
    case round=>
     clear H'
     try clear p2
     try clear c3
     try clear c3b0
     try clear c3b1
     try clear c5
     try clear p2
     obtain⟨x4_2,x5_2,rfl,HA,HK2,HO_4,HB⟩:=hrel
     cases gk with
     | zero=>exact absurd HA.out (by simp[sluicegateref02_Encode.l0])
     | succ k2=>
      have H:=HA.out
      clear HA
      simp only[sluicegateref02_Encode.l0]at H
      by_cases c6:x5_2<9
      ·rw[if_pos c6]at H
       have c6b0:decide (x5_2<9)=true:=decide_eq_true c6
       clear c6
       replace H:=Option.bind_eq_some_iff.mp H
       obtain⟨t202,A70,H⟩:=H
       replace H:(if x4_2.length<8796093022208 then (sluicegateref02_Encode.l0 k2 l0 (x4_2++[t202]) (wrap64 (x5_2+1)))else (none))=some (r1,r2):=H
       have A7:=Aside0.mk A70
       clear A70
       by_cases c8:x4_2.length<8796093022208
       ·rw[if_pos c8]at H
        have LMc8:=Aside0.mk c8
        clear c8
        obtain⟨y203,hy203⟩ : ∃ y_:List ByteArray,y_=(x4_2++[t202]):=⟨_,rfl⟩
        replace H:(sluicegateref02_Encode.l0 k2 l0 y203 (wrap64 (x5_2+1)))=some (r1,r2):=by first|(rw[hy203];with_reducible exact H)|(have H2_:=(Option.bind_some _ _).symm.trans H;rw[hy203];with_reducible exact H2_)|(have H2_:=(Option.bind_some _ _).symm.trans H;with_reducible exact H2_)|with_reducible exact H|(rw[hy203];exact H)|exact H
        have Ny203:=Aside0.mk hy203
        clear hy203
        have H':=Aside0.mk H
        clear H
        go_wp2_with (first|((with_reducible refine gate_callee (f:=49) rfl ?_);refine goesL_ (some 21) rfl rfl Tryz.func49 (by kernel_rfl) rfl #[.slice A0 l0.length c0,.int .i64 x5_2] rfl (by (try simp only[List.map_toArray,List.map_cons,List.map_nil]);first|done|rfl|(simp only[List.length_drop,List.length_take];rfl)) ?_;(with_reducible refine(sluicegateref02_shard.calls k2 _ _ l0 x5_2 t202 _ ?side1 ?side2 A7.out).mono ?_);(case side1=>repeat (first|exact(Kd.C_below HR0.out HB.out)|(with_reducible refine Kd.C_alloc ?_ _)|(with_reducible refine Kd.C_drewN ?_ _)|(with_reducible refine Kd.C_drew ?_)));(case side2=>exact HC0.out);rintro e w9 ⟨rfl,hb⟩;refine⟨_,rfl,?_⟩;have n0_:=Aside0.mk (Kd.R_below (by (with_reducible repeat (first|apply Kd.R_alloc|apply Kd.R_drewN|apply Kd.R_drew));exact HO_4.out) hb);have n1_:=Aside0.mk (below_step (by repeat (first|(with_reducible first|exact HB.out|apply below_alloc|apply pw_below_drewN|apply below_drew1)|exact HB.out)) hb);clear HO_4;clear HB;have HO_4:=n0_;have HB:=n1_;clear n0_ n1_;(try clear hb);(try clear hb2);(try clear hk);(try clear hi))|((with_reducible refine gate_builtin (b:=.append) (xs:= #[.tmp 18,.tmp 22]) rfl ?_);at_builtin;refine Kd.R_append Kd.string (w0:=w) w.heap.size rfl (.tmp 18) (.tmp 22) 27 9 (.string ⟨#[]⟩) 16 rfl Tryz.underlying27 info9 rfl (by decide) (by omega) u4 x4_2 t202 [.string t202] (fun _=>True) (fun _=>False) rfl rfl ?aP (fun _ hk=>hk.elim) ?aF ?aO ?aB ?aS ?aL ?_;(case aP=>exact rfl);(case aB=>exact(by repeat (first|(with_reducible first|exact HB.out|apply below_alloc|apply pw_below_drewN|apply below_drew1)|exact HB.out)));(case aF=>exact(fun _ _=>trivial));(case aO=>exact(by (with_reducible repeat (first|apply Kd.R_alloc|apply Kd.R_drewN|apply Kd.R_drew));exact HO_4.out));(case aS=>exact(below_size (by repeat (first|(with_reducible first|exact HB.out|apply below_alloc|apply pw_below_drewN|apply below_drew1)|exact HB.out))));(case aL=>have:=LMc8.out;omega);intro v204 w10 ho hb hg hat;rw[←Ny203.out]at ho;have n0_:=Aside0.mk (hb);have n1_:=Aside0.mk (ho);clear HB;clear HO_4;have HB:=n0_;have HO205:=n1_;clear n0_ n1_;clear ho hb hg hat))
        go_roundg k2
        case measure=>have:=HJ1.out;have:=HK2.out;omega
        case rel=>exact⟨(y203),(wrap64 (x5_2+1)),(by first|rfl|(simp;done)|(simp[*];done)),H',⟨by have:=HJ1.out;have:=HK2.out;omega⟩,⟨by (with_reducible repeat (first|apply Kd.R_alloc|apply Kd.R_drewN|apply Kd.R_drew));exact HO205.out⟩,⟨by repeat (first|(with_reducible first|exact HB.out|apply below_alloc|apply pw_below_drewN|apply below_drew1)|exact HB.out)⟩⟩
       ·rw[if_neg c8]at H
        exact absurd H (by simp)
      ·rw[if_neg c6]at H
       have c6b0:decide (x5_2<9)=false:=decide_eq_false c6
       clear c6
       simp only[Option.some.injEq,Prod.mk.injEq]at H
       obtain⟨rfl,rfl⟩:=H
       go_wp2
       go_ret2
       exact⟨_,by first|rfl|(simp[errW_none,errW_some]<;>rfl)|(simp[*,errW_none,errW_some]<;>rfl),by (with_reducible repeat (first|apply Kd.R_alloc|apply Kd.R_drewN|apply Kd.R_drew));exact HO_4.out,by repeat (first|(with_reducible first|exact HB.out|apply below_alloc|apply pw_below_drewN|apply below_drew1)|exact HB.out)⟩
def sluicegateref07_Check.j0:Nat→Bool→Int→Int→Int→Int→Int→ByteArray→Option (Int)
 | 0,_,_,_,_,_,_,_=>none
 | k+1,x57,x207000,x207001,x207002,x207003,x207004,x207005=>if x57=true then (some 1)else (if (x207005.size:Int)>64 then (some 12)else (some 0))
def sluicegateref07_Check.f (k:Nat) (a0_0:Int) (a0_1:Int) (a0_2:Int) (a0_3:Int) (a0_4:Int) (a0_5:ByteArray):Option (Int):=if a0_0<0 then (sluicegateref07_Check.j0 k true a0_0 a0_1 a0_2 a0_3 a0_4 a0_5)else (if a0_0>1099511627776 then (sluicegateref07_Check.j0 k true a0_0 a0_1 a0_2 a0_3 a0_4 a0_5)else (if a0_1<0 then (sluicegateref07_Check.j0 k true a0_0 a0_1 a0_2 a0_3 a0_4 a0_5)else (if a0_1>1099511627776 then (sluicegateref07_Check.j0 k true a0_0 a0_1 a0_2 a0_3 a0_4 a0_5)else (if a0_2<0 then (sluicegateref07_Check.j0 k true a0_0 a0_1 a0_2 a0_3 a0_4 a0_5)else (if a0_2>8 then (sluicegateref07_Check.j0 k true a0_0 a0_1 a0_2 a0_3 a0_4 a0_5)else (if a0_3<0 then (sluicegateref07_Check.j0 k true a0_0 a0_1 a0_2 a0_3 a0_4 a0_5)else (if a0_3>11 then (sluicegateref07_Check.j0 k true a0_0 a0_1 a0_2 a0_3 a0_4 a0_5)else (if a0_4<0 then (sluicegateref07_Check.j0 k true a0_0 a0_1 a0_2 a0_3 a0_4 a0_5)else (sluicegateref07_Check.j0 k (decide (a0_4>47)) a0_0 a0_1 a0_2 a0_3 a0_4 a0_5)))))))))
theorem sluicegateref07_Check.calls (k:Nat) (a0_0:Int) (a0_1:Int) (a0_2:Int) (a0_3:Int) (a0_4:Int) (a0_5:ByteArray) (r:Int) (w:World) (h:sluicegateref07_Check.f k a0_0 a0_1 a0_2 a0_3 a0_4 a0_5=some r) :
  Calls Tryz.prog 50 #[.agg #[.int .i64 a0_0,.int .i64 a0_1,.int .i64 a0_2,.int .i64 a0_3,.int .i64 a0_4,.string a0_5]] w fun e w'=>e = .returned (.int .i64 r)∧Below w.heap.size w w':=by
 have hu64:=Tryz.underlying64
 have HB:=Aside0.mk (Below.refl w.heap.size w)
 have H:(if a0_0<0 then (sluicegateref07_Check.j0 k true a0_0 a0_1 a0_2 a0_3 a0_4 a0_5)else (if a0_0>1099511627776 then (sluicegateref07_Check.j0 k true a0_0 a0_1 a0_2 a0_3 a0_4 a0_5)else (if a0_1<0 then (sluicegateref07_Check.j0 k true a0_0 a0_1 a0_2 a0_3 a0_4 a0_5)else (if a0_1>1099511627776 then (sluicegateref07_Check.j0 k true a0_0 a0_1 a0_2 a0_3 a0_4 a0_5)else (if a0_2<0 then (sluicegateref07_Check.j0 k true a0_0 a0_1 a0_2 a0_3 a0_4 a0_5)else (if a0_2>8 then (sluicegateref07_Check.j0 k true a0_0 a0_1 a0_2 a0_3 a0_4 a0_5)else (if a0_3<0 then (sluicegateref07_Check.j0 k true a0_0 a0_1 a0_2 a0_3 a0_4 a0_5)else (if a0_3>11 then (sluicegateref07_Check.j0 k true a0_0 a0_1 a0_2 a0_3 a0_4 a0_5)else (if a0_4<0 then (sluicegateref07_Check.j0 k true a0_0 a0_1 a0_2 a0_3 a0_4 a0_5)else (sluicegateref07_Check.j0 k (decide (a0_4>47)) a0_0 a0_1 a0_2 a0_3 a0_4 a0_5))))))))))=some r:=h
 clear h
 have HC2:=Aside0.mk H
 clear H
 go_enter Tryz.func50,Tryz.ntmps50
 go_upto_region 2 with (first|((with_reducible refine gate_dst (N:=1) rfl ?_);refine box_event ?hg (N:=1) ?hd (cs:= #[.int .i64 a0_0,.int .i64 a0_1,.int .i64 a0_2,.int .i64 a0_3,.int .i64 a0_4,.string a0_5]) (t:=64) ?hr ?_;(case hd=>rfl);(case hg=>rfl);(case hr=>first|(go_simp;done)|(go_simp;rfl));intro gb206 hg w3 hbox hb;have n0_:=Aside0.mk (below_step (by repeat (first|(with_reducible first|exact HB.out|apply below_alloc|apply pw_below_drewN|apply below_drew1)|exact HB.out)) hb);have n1_:=Aside0.mk (hbox);have n2_:=Aside0.mk ((by rw[hg];exact(below_size (by repeat (first|(with_reducible first|exact HB.out|apply below_alloc|apply pw_below_drewN|apply below_drew1)|exact HB.out))):w.heap.size≤gb206));have n3_:=Aside0.mk ((by rw[hg];exact(below_size (by repeat (first|(with_reducible first|exact HB.out|apply below_alloc|apply pw_below_drewN|apply below_drew1)|exact HB.out))):w.heap.size≤gb206));clear HB;have HB:=n0_;have BK206:=n1_;have GW206:=n2_;have GE206:=n3_;clear n0_ n1_ n2_ n3_;clear hb hbox hg))
 (try simp only[Act.put,zA,zB,zC])
 go_cut [57] (fun v57 wc=> ∃ (kq:Nat) (x57_1:Bool),v57 = .bool x57_1∧Aside0 (sluicegateref07_Check.j0 kq x57_1 a0_0 a0_1 a0_2 a0_3 a0_4 a0_5=some r)∧Aside0 (kq≤k)∧Aside0 (wc.heap[gb206]? = some (.cells #[.int .i64 a0_0,.int .i64 a0_1,.int .i64 a0_2,.int .i64 a0_3,.int .i64 a0_4,.string a0_5] 64 (0,0)))∧Aside0 (Below w.heap.size w wc))
 case first=>
  have H:=HC2.out
  clear HC2
  by_cases c4:a0_0<0
  ·rw[if_pos c4]at H
   have c4b0:decide (a0_0<0)=true:=decide_eq_true c4
   clear c4
   (first|rw[c4b0]|(simp only[i64_w,i32_w];rw[c4b0])|skip)
   have H':=Aside0.mk H
   clear H
   have hcz5_0:w3.cell? ⟨gb206,0,none⟩=some (.int .i64 a0_0):=(blk_cell BK206.out 0).trans rfl
   have hcz5_1:w3.cell? ⟨gb206,1,none⟩=some (.int .i64 a0_1):=(blk_cell BK206.out 1).trans rfl
   have hcz5_2:w3.cell? ⟨gb206,2,none⟩=some (.int .i64 a0_2):=(blk_cell BK206.out 2).trans rfl
   have hcz5_3:w3.cell? ⟨gb206,3,none⟩=some (.int .i64 a0_3):=(blk_cell BK206.out 3).trans rfl
   have hcz5_4:w3.cell? ⟨gb206,4,none⟩=some (.int .i64 a0_4):=(blk_cell BK206.out 4).trans rfl
   have hcz5_5:w3.cell? ⟨gb206,5,none⟩=some (.string a0_5):=(blk_cell BK206.out 5).trans rfl
   have hfz5_0:=blk_frozen BK206.out 0
   have hfz5_1:=blk_frozen BK206.out 1
   have hfz5_2:=blk_frozen BK206.out 2
   have hfz5_3:=blk_frozen BK206.out 3
   have hfz5_4:=blk_frozen BK206.out 4
   have hfz5_5:=blk_frozen BK206.out 5
   go_wp2
   go_meet
   case rel=>exact⟨_,(true),(by first|rfl|(simp;done)|(simp[*];done)),H',⟨by first|omega|exact Nat.le_refl _⟩,⟨by (with_reducible repeat (first|refine blk_drewN ?_ _|refine blk_drew ?_|refine blk_alloc ?_ _));exact BK206.out⟩,⟨by repeat (first|(with_reducible first|exact HB.out|apply below_alloc|apply pw_below_drewN|apply below_drew1|refine below_set ?_ GE206.out)|exact HB.out)⟩⟩
  ·rw[if_neg c4]at H
   have c4b0:decide (a0_0<0)=false:=decide_eq_false c4
   clear c4
   (first|rw[c4b0]|(simp only[i64_w,i32_w];rw[c4b0])|skip)
   by_cases c6:a0_0>1099511627776
   ·rw[if_pos c6]at H
    have c6b0:decide (1099511627776<a0_0)=true:=decide_eq_true c6
    clear c6
    have H':=Aside0.mk H
    clear H
    have hcz7_0:w3.cell? ⟨gb206,0,none⟩=some (.int .i64 a0_0):=(blk_cell BK206.out 0).trans rfl
    have hcz7_1:w3.cell? ⟨gb206,1,none⟩=some (.int .i64 a0_1):=(blk_cell BK206.out 1).trans rfl
    have hcz7_2:w3.cell? ⟨gb206,2,none⟩=some (.int .i64 a0_2):=(blk_cell BK206.out 2).trans rfl
    have hcz7_3:w3.cell? ⟨gb206,3,none⟩=some (.int .i64 a0_3):=(blk_cell BK206.out 3).trans rfl
    have hcz7_4:w3.cell? ⟨gb206,4,none⟩=some (.int .i64 a0_4):=(blk_cell BK206.out 4).trans rfl
    have hcz7_5:w3.cell? ⟨gb206,5,none⟩=some (.string a0_5):=(blk_cell BK206.out 5).trans rfl
    have hfz7_0:=blk_frozen BK206.out 0
    have hfz7_1:=blk_frozen BK206.out 1
    have hfz7_2:=blk_frozen BK206.out 2
    have hfz7_3:=blk_frozen BK206.out 3
    have hfz7_4:=blk_frozen BK206.out 4
    have hfz7_5:=blk_frozen BK206.out 5
    go_wp2
    go_meet
    case rel=>exact⟨_,(true),(by first|rfl|(simp;done)|(simp[*];done)),H',⟨by first|omega|exact Nat.le_refl _⟩,⟨by (with_reducible repeat (first|refine blk_drewN ?_ _|refine blk_drew ?_|refine blk_alloc ?_ _));exact BK206.out⟩,⟨by repeat (first|(with_reducible first|exact HB.out|apply below_alloc|apply pw_below_drewN|apply below_drew1|refine below_set ?_ GE206.out)|exact HB.out)⟩⟩
   ·rw[if_neg c6]at H
    have c6b0:decide (1099511627776<a0_0)=false:=decide_eq_false c6
    clear c6
    by_cases c8:a0_1<0
    ·rw[if_pos c8]at H
     have c8b0:decide (a0_1<0)=true:=decide_eq_true c8
     clear c8
     have H':=Aside0.mk H
     clear H
     have hcz9_0:w3.cell? ⟨gb206,0,none⟩=some (.int .i64 a0_0):=(blk_cell BK206.out 0).trans rfl
     have hcz9_1:w3.cell? ⟨gb206,1,none⟩=some (.int .i64 a0_1):=(blk_cell BK206.out 1).trans rfl
     have hcz9_2:w3.cell? ⟨gb206,2,none⟩=some (.int .i64 a0_2):=(blk_cell BK206.out 2).trans rfl
     have hcz9_3:w3.cell? ⟨gb206,3,none⟩=some (.int .i64 a0_3):=(blk_cell BK206.out 3).trans rfl
     have hcz9_4:w3.cell? ⟨gb206,4,none⟩=some (.int .i64 a0_4):=(blk_cell BK206.out 4).trans rfl
     have hcz9_5:w3.cell? ⟨gb206,5,none⟩=some (.string a0_5):=(blk_cell BK206.out 5).trans rfl
     have hfz9_0:=blk_frozen BK206.out 0
     have hfz9_1:=blk_frozen BK206.out 1
     have hfz9_2:=blk_frozen BK206.out 2
     have hfz9_3:=blk_frozen BK206.out 3
     have hfz9_4:=blk_frozen BK206.out 4
     have hfz9_5:=blk_frozen BK206.out 5
     go_wp2
     go_meet
     case rel=>exact⟨_,(true),(by first|rfl|(simp;done)|(simp[*];done)),H',⟨by first|omega|exact Nat.le_refl _⟩,⟨by (with_reducible repeat (first|refine blk_drewN ?_ _|refine blk_drew ?_|refine blk_alloc ?_ _));exact BK206.out⟩,⟨by repeat (first|(with_reducible first|exact HB.out|apply below_alloc|apply pw_below_drewN|apply below_drew1|refine below_set ?_ GE206.out)|exact HB.out)⟩⟩
    ·rw[if_neg c8]at H
     have c8b0:decide (a0_1<0)=false:=decide_eq_false c8
     clear c8
     by_cases c10:a0_1>1099511627776
     ·rw[if_pos c10]at H
      have c10b0:decide (1099511627776<a0_1)=true:=decide_eq_true c10
      clear c10
      have H':=Aside0.mk H
      clear H
      have hcz11_0:w3.cell? ⟨gb206,0,none⟩=some (.int .i64 a0_0):=(blk_cell BK206.out 0).trans rfl
      have hcz11_1:w3.cell? ⟨gb206,1,none⟩=some (.int .i64 a0_1):=(blk_cell BK206.out 1).trans rfl
      have hcz11_2:w3.cell? ⟨gb206,2,none⟩=some (.int .i64 a0_2):=(blk_cell BK206.out 2).trans rfl
      have hcz11_3:w3.cell? ⟨gb206,3,none⟩=some (.int .i64 a0_3):=(blk_cell BK206.out 3).trans rfl
      have hcz11_4:w3.cell? ⟨gb206,4,none⟩=some (.int .i64 a0_4):=(blk_cell BK206.out 4).trans rfl
      have hcz11_5:w3.cell? ⟨gb206,5,none⟩=some (.string a0_5):=(blk_cell BK206.out 5).trans rfl
      have hfz11_0:=blk_frozen BK206.out 0
      have hfz11_1:=blk_frozen BK206.out 1
      have hfz11_2:=blk_frozen BK206.out 2
      have hfz11_3:=blk_frozen BK206.out 3
      have hfz11_4:=blk_frozen BK206.out 4
      have hfz11_5:=blk_frozen BK206.out 5
      go_wp2
      go_meet
      case rel=>exact⟨_,(true),(by first|rfl|(simp;done)|(simp[*];done)),H',⟨by first|omega|exact Nat.le_refl _⟩,⟨by (with_reducible repeat (first|refine blk_drewN ?_ _|refine blk_drew ?_|refine blk_alloc ?_ _));exact BK206.out⟩,⟨by repeat (first|(with_reducible first|exact HB.out|apply below_alloc|apply pw_below_drewN|apply below_drew1|refine below_set ?_ GE206.out)|exact HB.out)⟩⟩
     ·rw[if_neg c10]at H
      have c10b0:decide (1099511627776<a0_1)=false:=decide_eq_false c10
      clear c10
      by_cases c12:a0_2<0
      ·rw[if_pos c12]at H
       have c12b0:decide (a0_2<0)=true:=decide_eq_true c12
       clear c12
       have H':=Aside0.mk H
       clear H
       have hcz13_0:w3.cell? ⟨gb206,0,none⟩=some (.int .i64 a0_0):=(blk_cell BK206.out 0).trans rfl
       have hcz13_1:w3.cell? ⟨gb206,1,none⟩=some (.int .i64 a0_1):=(blk_cell BK206.out 1).trans rfl
       have hcz13_2:w3.cell? ⟨gb206,2,none⟩=some (.int .i64 a0_2):=(blk_cell BK206.out 2).trans rfl
       have hcz13_3:w3.cell? ⟨gb206,3,none⟩=some (.int .i64 a0_3):=(blk_cell BK206.out 3).trans rfl
       have hcz13_4:w3.cell? ⟨gb206,4,none⟩=some (.int .i64 a0_4):=(blk_cell BK206.out 4).trans rfl
       have hcz13_5:w3.cell? ⟨gb206,5,none⟩=some (.string a0_5):=(blk_cell BK206.out 5).trans rfl
       have hfz13_0:=blk_frozen BK206.out 0
       have hfz13_1:=blk_frozen BK206.out 1
       have hfz13_2:=blk_frozen BK206.out 2
       have hfz13_3:=blk_frozen BK206.out 3
       have hfz13_4:=blk_frozen BK206.out 4
       have hfz13_5:=blk_frozen BK206.out 5
       go_wp2
       go_meet
       case rel=>exact⟨_,(true),(by first|rfl|(simp;done)|(simp[*];done)),H',⟨by first|omega|exact Nat.le_refl _⟩,⟨by (with_reducible repeat (first|refine blk_drewN ?_ _|refine blk_drew ?_|refine blk_alloc ?_ _));exact BK206.out⟩,⟨by repeat (first|(with_reducible first|exact HB.out|apply below_alloc|apply pw_below_drewN|apply below_drew1|refine below_set ?_ GE206.out)|exact HB.out)⟩⟩
      ·rw[if_neg c12]at H
       have c12b0:decide (a0_2<0)=false:=decide_eq_false c12
       clear c12
       by_cases c14:a0_2>8
       ·rw[if_pos c14]at H
        have c14b0:decide (8<a0_2)=true:=decide_eq_true c14
        clear c14
        have H':=Aside0.mk H
        clear H
        have hcz15_0:w3.cell? ⟨gb206,0,none⟩=some (.int .i64 a0_0):=(blk_cell BK206.out 0).trans rfl
        have hcz15_1:w3.cell? ⟨gb206,1,none⟩=some (.int .i64 a0_1):=(blk_cell BK206.out 1).trans rfl
        have hcz15_2:w3.cell? ⟨gb206,2,none⟩=some (.int .i64 a0_2):=(blk_cell BK206.out 2).trans rfl
        have hcz15_3:w3.cell? ⟨gb206,3,none⟩=some (.int .i64 a0_3):=(blk_cell BK206.out 3).trans rfl
        have hcz15_4:w3.cell? ⟨gb206,4,none⟩=some (.int .i64 a0_4):=(blk_cell BK206.out 4).trans rfl
        have hcz15_5:w3.cell? ⟨gb206,5,none⟩=some (.string a0_5):=(blk_cell BK206.out 5).trans rfl
        have hfz15_0:=blk_frozen BK206.out 0
        have hfz15_1:=blk_frozen BK206.out 1
        have hfz15_2:=blk_frozen BK206.out 2
        have hfz15_3:=blk_frozen BK206.out 3
        have hfz15_4:=blk_frozen BK206.out 4
        have hfz15_5:=blk_frozen BK206.out 5
        go_wp2
        go_meet
        case rel=>exact⟨_,(true),(by first|rfl|(simp;done)|(simp[*];done)),H',⟨by first|omega|exact Nat.le_refl _⟩,⟨by (with_reducible repeat (first|refine blk_drewN ?_ _|refine blk_drew ?_|refine blk_alloc ?_ _));exact BK206.out⟩,⟨by repeat (first|(with_reducible first|exact HB.out|apply below_alloc|apply pw_below_drewN|apply below_drew1|refine below_set ?_ GE206.out)|exact HB.out)⟩⟩
       ·rw[if_neg c14]at H
        have c14b0:decide (8<a0_2)=false:=decide_eq_false c14
        clear c14
        by_cases c16:a0_3<0
        ·rw[if_pos c16]at H
         have c16b0:decide (a0_3<0)=true:=decide_eq_true c16
         clear c16
         have H':=Aside0.mk H
         clear H
         have hcz17_0:w3.cell? ⟨gb206,0,none⟩=some (.int .i64 a0_0):=(blk_cell BK206.out 0).trans rfl
         have hcz17_1:w3.cell? ⟨gb206,1,none⟩=some (.int .i64 a0_1):=(blk_cell BK206.out 1).trans rfl
         have hcz17_2:w3.cell? ⟨gb206,2,none⟩=some (.int .i64 a0_2):=(blk_cell BK206.out 2).trans rfl
         have hcz17_3:w3.cell? ⟨gb206,3,none⟩=some (.int .i64 a0_3):=(blk_cell BK206.out 3).trans rfl
         have hcz17_4:w3.cell? ⟨gb206,4,none⟩=some (.int .i64 a0_4):=(blk_cell BK206.out 4).trans rfl
         have hcz17_5:w3.cell? ⟨gb206,5,none⟩=some (.string a0_5):=(blk_cell BK206.out 5).trans rfl
         have hfz17_0:=blk_frozen BK206.out 0
         have hfz17_1:=blk_frozen BK206.out 1
         have hfz17_2:=blk_frozen BK206.out 2
         have hfz17_3:=blk_frozen BK206.out 3
         have hfz17_4:=blk_frozen BK206.out 4
         have hfz17_5:=blk_frozen BK206.out 5
         go_wp2
         go_meet
         case rel=>exact⟨_,(true),(by first|rfl|(simp;done)|(simp[*];done)),H',⟨by first|omega|exact Nat.le_refl _⟩,⟨by (with_reducible repeat (first|refine blk_drewN ?_ _|refine blk_drew ?_|refine blk_alloc ?_ _));exact BK206.out⟩,⟨by repeat (first|(with_reducible first|exact HB.out|apply below_alloc|apply pw_below_drewN|apply below_drew1|refine below_set ?_ GE206.out)|exact HB.out)⟩⟩
        ·rw[if_neg c16]at H
         have c16b0:decide (a0_3<0)=false:=decide_eq_false c16
         clear c16
         by_cases c18:a0_3>11
         ·rw[if_pos c18]at H
          have c18b0:decide (11<a0_3)=true:=decide_eq_true c18
          clear c18
          have H':=Aside0.mk H
          clear H
          have hcz19_0:w3.cell? ⟨gb206,0,none⟩=some (.int .i64 a0_0):=(blk_cell BK206.out 0).trans rfl
          have hcz19_1:w3.cell? ⟨gb206,1,none⟩=some (.int .i64 a0_1):=(blk_cell BK206.out 1).trans rfl
          have hcz19_2:w3.cell? ⟨gb206,2,none⟩=some (.int .i64 a0_2):=(blk_cell BK206.out 2).trans rfl
          have hcz19_3:w3.cell? ⟨gb206,3,none⟩=some (.int .i64 a0_3):=(blk_cell BK206.out 3).trans rfl
          have hcz19_4:w3.cell? ⟨gb206,4,none⟩=some (.int .i64 a0_4):=(blk_cell BK206.out 4).trans rfl
          have hcz19_5:w3.cell? ⟨gb206,5,none⟩=some (.string a0_5):=(blk_cell BK206.out 5).trans rfl
          have hfz19_0:=blk_frozen BK206.out 0
          have hfz19_1:=blk_frozen BK206.out 1
          have hfz19_2:=blk_frozen BK206.out 2
          have hfz19_3:=blk_frozen BK206.out 3
          have hfz19_4:=blk_frozen BK206.out 4
          have hfz19_5:=blk_frozen BK206.out 5
          go_wp2
          go_meet
          case rel=>exact⟨_,(true),(by first|rfl|(simp;done)|(simp[*];done)),H',⟨by first|omega|exact Nat.le_refl _⟩,⟨by (with_reducible repeat (first|refine blk_drewN ?_ _|refine blk_drew ?_|refine blk_alloc ?_ _));exact BK206.out⟩,⟨by repeat (first|(with_reducible first|exact HB.out|apply below_alloc|apply pw_below_drewN|apply below_drew1|refine below_set ?_ GE206.out)|exact HB.out)⟩⟩
         ·rw[if_neg c18]at H
          have c18b0:decide (11<a0_3)=false:=decide_eq_false c18
          clear c18
          by_cases c20:a0_4<0
          ·rw[if_pos c20]at H
           have c20b0:decide (a0_4<0)=true:=decide_eq_true c20
           clear c20
           have H':=Aside0.mk H
           clear H
           have hcz21_0:w3.cell? ⟨gb206,0,none⟩=some (.int .i64 a0_0):=(blk_cell BK206.out 0).trans rfl
           have hcz21_1:w3.cell? ⟨gb206,1,none⟩=some (.int .i64 a0_1):=(blk_cell BK206.out 1).trans rfl
           have hcz21_2:w3.cell? ⟨gb206,2,none⟩=some (.int .i64 a0_2):=(blk_cell BK206.out 2).trans rfl
           have hcz21_3:w3.cell? ⟨gb206,3,none⟩=some (.int .i64 a0_3):=(blk_cell BK206.out 3).trans rfl
           have hcz21_4:w3.cell? ⟨gb206,4,none⟩=some (.int .i64 a0_4):=(blk_cell BK206.out 4).trans rfl
           have hcz21_5:w3.cell? ⟨gb206,5,none⟩=some (.string a0_5):=(blk_cell BK206.out 5).trans rfl
           have hfz21_0:=blk_frozen BK206.out 0
           have hfz21_1:=blk_frozen BK206.out 1
           have hfz21_2:=blk_frozen BK206.out 2
           have hfz21_3:=blk_frozen BK206.out 3
           have hfz21_4:=blk_frozen BK206.out 4
           have hfz21_5:=blk_frozen BK206.out 5
           go_wp2
           go_meet
           case rel=>exact⟨_,(true),(by first|rfl|(simp;done)|(simp[*];done)),H',⟨by first|omega|exact Nat.le_refl _⟩,⟨by (with_reducible repeat (first|refine blk_drewN ?_ _|refine blk_drew ?_|refine blk_alloc ?_ _));exact BK206.out⟩,⟨by repeat (first|(with_reducible first|exact HB.out|apply below_alloc|apply pw_below_drewN|apply below_drew1|refine below_set ?_ GE206.out)|exact HB.out)⟩⟩
          ·rw[if_neg c20]at H
           have c20b0:decide (a0_4<0)=false:=decide_eq_false c20
           clear c20
           have H':=Aside0.mk H
           clear H
           have hcz22_0:w3.cell? ⟨gb206,0,none⟩=some (.int .i64 a0_0):=(blk_cell BK206.out 0).trans rfl
           have hcz22_1:w3.cell? ⟨gb206,1,none⟩=some (.int .i64 a0_1):=(blk_cell BK206.out 1).trans rfl
           have hcz22_2:w3.cell? ⟨gb206,2,none⟩=some (.int .i64 a0_2):=(blk_cell BK206.out 2).trans rfl
           have hcz22_3:w3.cell? ⟨gb206,3,none⟩=some (.int .i64 a0_3):=(blk_cell BK206.out 3).trans rfl
           have hcz22_4:w3.cell? ⟨gb206,4,none⟩=some (.int .i64 a0_4):=(blk_cell BK206.out 4).trans rfl
           have hcz22_5:w3.cell? ⟨gb206,5,none⟩=some (.string a0_5):=(blk_cell BK206.out 5).trans rfl
           have hfz22_0:=blk_frozen BK206.out 0
           have hfz22_1:=blk_frozen BK206.out 1
           have hfz22_2:=blk_frozen BK206.out 2
           have hfz22_3:=blk_frozen BK206.out 3
           have hfz22_4:=blk_frozen BK206.out 4
           have hfz22_5:=blk_frozen BK206.out 5
           go_wp2
           go_meet
           case rel=>exact⟨_,(decide (a0_4>47)),(by first|rfl|(simp;done)|(simp[*];done)),H',⟨by first|omega|exact Nat.le_refl _⟩,⟨by (with_reducible repeat (first|refine blk_drewN ?_ _|refine blk_drew ?_|refine blk_alloc ?_ _));exact BK206.out⟩,⟨by repeat (first|(with_reducible first|exact HB.out|apply below_alloc|apply pw_below_drewN|apply below_drew1|refine below_set ?_ GE206.out)|exact HB.out)⟩⟩
 case rest=>
  clear HC2
  try clear c1
  try clear c2
  try clear p2
  try clear c4
  try clear c4b0
  try clear c5
  try clear c6
  try clear c6b0
  try clear c8
  try clear c8b0
  try clear c10
  try clear c10b0
  try clear c12
  try clear c12b0
  try clear c14
  try clear c14b0
  try clear c16
  try clear c16b0
  try clear c18
  try clear c18b0
  try clear c20
  try clear c20b0
  try clear hcz11_0
  try clear hcz11_1
  try clear hcz11_2
  try clear hcz11_3
  try clear hcz11_4
  try clear hcz11_5
  try clear hcz13_0
  try clear hcz13_1
  try clear hcz13_2
  try clear hcz13_3
  try clear hcz13_4
  try clear hcz13_5
  try clear hcz15_0
  try clear hcz15_1
  try clear hcz15_2
  try clear hcz15_3
  try clear hcz15_4
  try clear hcz15_5
  try clear hcz17_0
  try clear hcz17_1
  try clear hcz17_2
  try clear hcz17_3
  try clear hcz17_4
  try clear hcz17_5
  try clear hcz19_0
  try clear hcz19_1
  try clear hcz19_2
  try clear hcz19_3
  try clear hcz19_4
  try clear hcz19_5
  try clear hcz21_0
  try clear hcz21_1
  try clear hcz21_2
  try clear hcz21_3
  try clear hcz21_4
  try clear hcz21_5
  try clear hcz22_0
  try clear hcz22_1
  try clear hcz22_2
  try clear hcz22_3
  try clear hcz22_4
  try clear hcz22_5
  try clear hcz5_0
  try clear hcz5_1
  try clear hcz5_2
  try clear hcz5_3
  try clear hcz5_4
  try clear hcz5_5
  try clear hcz7_0
  try clear hcz7_1
  try clear hcz7_2
  try clear hcz7_3
  try clear hcz7_4
  try clear hcz7_5
  try clear hcz9_0
  try clear hcz9_1
  try clear hcz9_2
  try clear hcz9_3
  try clear hcz9_4
  try clear hcz9_5
  try clear hfz11_0
  try clear hfz11_1
  try clear hfz11_2
  try clear hfz11_3
  try clear hfz11_4
  try clear hfz11_5
  try clear hfz13_0
  try clear hfz13_1
  try clear hfz13_2
  try clear hfz13_3
  try clear hfz13_4
  try clear hfz13_5
  try clear hfz15_0
  try clear hfz15_1
  try clear hfz15_2
  try clear hfz15_3
  try clear hfz15_4
  try clear hfz15_5
  try clear hfz17_0
  try clear hfz17_1
  try clear hfz17_2
  try clear hfz17_3
  try clear hfz17_4
  try clear hfz17_5
  try clear hfz19_0
  try clear hfz19_1
  try clear hfz19_2
  try clear hfz19_3
  try clear hfz19_4
  try clear hfz19_5
  try clear hfz21_0
  try clear hfz21_1
  try clear hfz21_2
  try clear hfz21_3
  try clear hfz21_4
  try clear hfz21_5
  try clear hfz22_0
  try clear hfz22_1
  try clear hfz22_2
  try clear hfz22_3
  try clear hfz22_4
  try clear hfz22_5
  try clear hfz5_0
  try clear hfz5_1
  try clear hfz5_2
  try clear hfz5_3
  try clear hfz5_4
  try clear hfz5_5
  try clear hfz7_0
  try clear hfz7_1
  try clear hfz7_2
  try clear hfz7_3
  try clear hfz7_4
  try clear hfz7_5
  try clear hfz9_0
  try clear hfz9_1
  try clear hfz9_2
  try clear hfz9_3
  try clear hfz9_4
  try clear hfz9_5
  obtain⟨kq,x57_1,rfl,HA,HJ1,BK206,HB⟩:=hcut
  cases kq with
  | zero=>exact absurd HA.out (by simp[sluicegateref07_Check.j0])
  | succ kj1=>
   have H:=HA.out
   clear HA
   simp only[sluicegateref07_Check.j0]at H
   by_cases c23:x57_1=true
   ·subst c23
    have H1:(some 1)=some r:=by rw[if_pos rfl]at H;exact H
    clear H
    have H:=H1
    clear H1
    obtain rfl:=Option.some.inj H
    go_wp2
    go_ret
    exact⟨by first|rfl|(simp[errW_none,errW_some]<;>rfl)|(simp[*,errW_none,errW_some]<;>rfl),by repeat (first|(with_reducible first|exact HB.out|apply below_alloc|apply pw_below_drewN|apply below_drew1|refine below_set ?_ GE206.out)|exact HB.out)⟩
   ·replace c23:=Bool.eq_false_iff.mpr c23
    subst c23
    have H1:(if (a0_5.size:Int)>64 then (some 12)else (some 0))=some r:=by rw[if_neg (show ¬ (false=true)by decide)]at H;exact H
    clear H
    have H:=H1
    clear H1
    by_cases c24:(a0_5.size:Int)>64
    ·rw[if_pos c24]at H
     have c24b0:decide (64<(a0_5.size:Int))=true:=decide_eq_true c24
     have c24b1:decide (64<a0_5.size)=true:=decide_eq_true (by omega)
     clear c24
     obtain rfl:=Option.some.inj H
     have hcz25_0:wc.cell? ⟨gb206,0,none⟩=some (.int .i64 a0_0):=(blk_cell BK206.out 0).trans rfl
     have hcz25_1:wc.cell? ⟨gb206,1,none⟩=some (.int .i64 a0_1):=(blk_cell BK206.out 1).trans rfl
     have hcz25_2:wc.cell? ⟨gb206,2,none⟩=some (.int .i64 a0_2):=(blk_cell BK206.out 2).trans rfl
     have hcz25_3:wc.cell? ⟨gb206,3,none⟩=some (.int .i64 a0_3):=(blk_cell BK206.out 3).trans rfl
     have hcz25_4:wc.cell? ⟨gb206,4,none⟩=some (.int .i64 a0_4):=(blk_cell BK206.out 4).trans rfl
     have hcz25_5:wc.cell? ⟨gb206,5,none⟩=some (.string a0_5):=(blk_cell BK206.out 5).trans rfl
     have hfz25_0:=blk_frozen BK206.out 0
     have hfz25_1:=blk_frozen BK206.out 1
     have hfz25_2:=blk_frozen BK206.out 2
     have hfz25_3:=blk_frozen BK206.out 3
     have hfz25_4:=blk_frozen BK206.out 4
     have hfz25_5:=blk_frozen BK206.out 5
     go_wp2
     go_ret
     exact⟨by first|rfl|(simp[errW_none,errW_some]<;>rfl)|(simp[*,errW_none,errW_some]<;>rfl),by repeat (first|(with_reducible first|exact HB.out|apply below_alloc|apply pw_below_drewN|apply below_drew1|refine below_set ?_ GE206.out)|exact HB.out)⟩
    ·rw[if_neg c24]at H
     have c24b0:decide (64<(a0_5.size:Int))=false:=decide_eq_false c24
     have c24b1:decide (64<a0_5.size)=false:=decide_eq_false (by omega)
     clear c24
     obtain rfl:=Option.some.inj H
     have hcz26_0:wc.cell? ⟨gb206,0,none⟩=some (.int .i64 a0_0):=(blk_cell BK206.out 0).trans rfl
     have hcz26_1:wc.cell? ⟨gb206,1,none⟩=some (.int .i64 a0_1):=(blk_cell BK206.out 1).trans rfl
     have hcz26_2:wc.cell? ⟨gb206,2,none⟩=some (.int .i64 a0_2):=(blk_cell BK206.out 2).trans rfl
     have hcz26_3:wc.cell? ⟨gb206,3,none⟩=some (.int .i64 a0_3):=(blk_cell BK206.out 3).trans rfl
     have hcz26_4:wc.cell? ⟨gb206,4,none⟩=some (.int .i64 a0_4):=(blk_cell BK206.out 4).trans rfl
     have hcz26_5:wc.cell? ⟨gb206,5,none⟩=some (.string a0_5):=(blk_cell BK206.out 5).trans rfl
     have hfz26_0:=blk_frozen BK206.out 0
     have hfz26_1:=blk_frozen BK206.out 1
     have hfz26_2:=blk_frozen BK206.out 2
     have hfz26_3:=blk_frozen BK206.out 3
     have hfz26_4:=blk_frozen BK206.out 4
     have hfz26_5:=blk_frozen BK206.out 5
     go_wp2
     go_ret
     exact⟨by first|rfl|(simp[errW_none,errW_some]<;>rfl)|(simp[*,errW_none,errW_some]<;>rfl),by repeat (first|(with_reducible first|exact HB.out|apply below_alloc|apply pw_below_drewN|apply below_drew1|refine below_set ?_ GE206.out)|exact HB.out)⟩
def sluicegateref05_Most.f  : Option (Int):=some 72057594037927935
theorem sluicegateref05_Most.calls  (r:Int) (w:World) (h:sluicegateref05_Most.f  = some r) :
  Calls Tryz.prog 71 #[] w fun e w'=>e = .returned (.int .i64 r)∧Drawn0 w w':=by
 have H:(some 72057594037927935)=some r:=h
 clear h
 obtain rfl:=Option.some.inj H
 go_enter Tryz.func71,Tryz.ntmps71
 go_wp2
 go_ret
 exact⟨by first|rfl|(simp;done)|(simp[*];done),by repeat (first|exact Drawn0.refl _|apply Drawn0.step)⟩
end Go.Proofs.YtdcfonmjbelgbaaGreatDoor.Q
end
section
namespace Go.Proofs.YtdcfonmjbelgbaaGreatDoor.Q
open Go.RowKit YtdcfonmjbelgbaaGreatDoorW.PrintWords YtdcfonmjbelgbaaGreatDoorW.PrintLast YtdcfonmjbelgbaaGreatDoorW.PrintMore
attribute [local go_sem] max2_int min2_int max_two min_two max_three min_three max_four min_four
mutual
def sluicegateref05_Number.j0:Nat→Int→Bool→Option (ByteArray)
 | 0,_,_=>none
 | k+1,x0,x9=>if x9=true then (some (⟨#[]⟩:ByteArray))else (if x0<128 then (some (strOfNums (([(x0)%256]:List Int))))else ((some (([(wrap64 (128+(Int.tmod x0 128)))%256]:List Int):List Int)).bind fun y211=>((sluicegateref05_Number.f k (wrap64 (Int.tdiv x0 128))).bind fun t214=>(if (strOfNums y211).size+t214.size≤9223372036854775807 then (some ((strOfNums y211)++t214))else (none)))))
def sluicegateref05_Number.f:Nat→Int→Option (ByteArray)
 | 0,_=>none
 | k+1,a0=>if a0<0 then (sluicegateref05_Number.j0 k a0 true)else ((sluicegateref05_Most.f).bind fun t207=>(sluicegateref05_Number.j0 k a0 (decide (a0>t207))))
end
def sluicegateref05_Number.T5:Bool×List (List Nat×List Nat):=(true,[([],[]),([0],[0]),([1],[1]),([2],[2]),([3],[3]),([4],[4]),([],[]),([6],[6]),([7],[7]),([5,8],[5,8]),([9,8,0,1,2,3,4,5,6,7,8,9],[9])])
def sluicegateref05_Number.B5:List Nat:=[0,1,3,7,15,31,0,64,192,511,1023]
theorem sluicegateref05_Number.tab5:rtab .any (opsOf Tryz.f51 5)=sluicegateref05_Number.T5:=by kernel_rfl
theorem sluicegateref05_Number.bits5:waitsOk sluicegateref05_Number.T5.2 sluicegateref05_Number.B5=true:=by kernel_rfl
theorem sluicegateref05_Number.calls (k:Nat) : ∀ (a0:Int) (r:ByteArray) (w:World) (h:sluicegateref05_Number.f k a0=some r),
  Calls Tryz.prog 51 #[.int .i64 a0] w fun e w'=>e = .returned (.string r)∧Below w.heap.size w w':=by
 induction k using Nat.strongRecOn with
 | _ k ih=>
 intro a0 r w h
 cases k with
 | zero=>exact absurd h (by simp[sluicegateref05_Number.f])
 | succ k=>
 simp only[sluicegateref05_Number.f]at h
 have HB:=Aside0.mk (Below.refl w.heap.size w)
 have H:(if a0<0 then (sluicegateref05_Number.j0 k a0 true)else ((sluicegateref05_Most.f).bind fun t207=>(sluicegateref05_Number.j0 k a0 (decide (a0>t207)))))=some r:=h
 clear h
 have HC2:=Aside0.mk H
 clear H
 go_enter Tryz.func51,Tryz.ntmps51
 go_upto_region 1 with (fail)
 go_cut [9] (fun v9 wc=> ∃ (kq:Nat) (x9_1:Bool),v9 = .bool x9_1∧Aside0 (sluicegateref05_Number.j0 kq a0 x9_1=some r)∧Aside0 (kq≤k)∧Aside0 (Below w.heap.size w wc))
 case first=>
  have H:=HC2.out
  clear HC2
  by_cases c3:a0<0
  ·rw[if_pos c3]at H
   have c3b0:decide (a0<0)=true:=decide_eq_true c3
   clear c3
   (first|rw[c3b0]|(simp only[i64_w,i32_w];rw[c3b0])|skip)
   have H':=Aside0.mk H
   clear H
   go_wp2
   go_meet
   case rel=>exact⟨_,(true),(by first|rfl|(simp;done)|(simp[*];done)),H',⟨by first|omega|exact Nat.le_refl _⟩,⟨by repeat (first|(with_reducible first|exact HB.out|apply below_alloc|apply pw_below_drewN|apply below_drew1)|exact HB.out)⟩⟩
  ·rw[if_neg c3]at H
   have c3b0:decide (a0<0)=false:=decide_eq_false c3
   clear c3
   (first|rw[c3b0]|(simp only[i64_w,i32_w];rw[c3b0])|skip)
   replace H:=Option.bind_eq_some_iff.mp H
   obtain⟨t207,A40,H⟩:=H
   replace H:(sluicegateref05_Number.j0 k a0 (decide (a0>t207)))=some r:=H
   have A4:=Aside0.mk A40
   clear A40
   have H':=Aside0.mk H
   clear H
   go_wp2_with (first|(go_at_call 71;(with_reducible refine(sluicegateref05_Most.calls  t207 _ A4.out).mono ?_);rintro e w' ⟨rfl,⟨nd,rfl⟩⟩))
   go_meet
   case rel=>exact⟨_,(decide (a0>t207)),(by first|rfl|(simp;done)|(simp[*];done)),H',⟨by first|omega|exact Nat.le_refl _⟩,⟨by repeat (first|(with_reducible first|exact HB.out|apply below_alloc|apply pw_below_drewN|apply below_drew1)|exact HB.out)⟩⟩
 case rest=>
  clear HC2
  try clear p2
  try clear c3
  try clear c3b0
  obtain⟨kq,x9_1,rfl,HA,HJ1,HB⟩:=hcut
  cases kq with
  | zero=>exact absurd HA.out (by simp[sluicegateref05_Number.j0])
  | succ kj1=>
   have H:=HA.out
   clear HA
   simp only[sluicegateref05_Number.j0]at H
   by_cases c5:x9_1=true
   ·subst c5
    have H1:(some (⟨#[]⟩:ByteArray))=some r:=by rw[if_pos rfl]at H;exact H
    clear H
    have H:=H1
    clear H1
    obtain rfl:=Option.some.inj H
    go_wp2
    go_ret
    exact⟨by first|rfl|(simp[errW_none,errW_some]<;>rfl)|(simp[*,errW_none,errW_some]<;>rfl),by repeat (first|(with_reducible first|exact HB.out|apply below_alloc|apply pw_below_drewN|apply below_drew1)|exact HB.out)⟩
   ·replace c5:=Bool.eq_false_iff.mpr c5
    subst c5
    have H1:(if a0<128 then (some (strOfNums (([(a0)%256]:List Int))))else ((some (([(wrap64 (128+(Int.tmod a0 128)))%256]:List Int):List Int)).bind fun y211=>((sluicegateref05_Number.f kj1 (wrap64 (Int.tdiv a0 128))).bind fun t214=>(if (strOfNums y211).size+t214.size≤9223372036854775807 then (some ((strOfNums y211)++t214))else (none)))))=some r:=by rw[if_neg (show ¬ (false=true)by decide)]at H;exact H
    clear H
    have H:=H1
    clear H1
    by_cases c6:a0<128
    ·rw[if_pos c6]at H
     have c6b0:decide (a0<128)=true:=decide_eq_true c6
     clear c6
     obtain⟨y208,hy208⟩ : ∃ y_:List Int,y_=(([(a0)%256]:List Int)):=⟨_,rfl⟩
     replace H:(some (strOfNums y208))=some r:=by first|(rw[hy208];with_reducible exact H)|(have H2_:=(Option.bind_some _ _).symm.trans H;rw[hy208];with_reducible exact H2_)|(have H2_:=(Option.bind_some _ _).symm.trans H;with_reducible exact H2_)|with_reducible exact H|(rw[hy208];exact H)|exact H
     have Ny208:=Aside0.mk hy208
     clear hy208
     obtain rfl:=Option.some.inj H
     go_wp2_with (first|((with_reducible refine gate_dst (N:=14) rfl ?_);refine Kd.R_lit (Kd.int .u8) _ 5 ?hg (N:=14) ?hd (xs:=([(a0)%256]:List Int)) (inner:=[.int .u8 ((a0)%256)]) (ok:=fun _=>True) (okp:=fun _=>True) ?hr ?hp (fun _ hk=>hk) trivial (Below.refl _ _) (Nat.le_refl _) (by simp) ?_;(case hd=>rfl);(case hg=>rfl);(case hr=>first|(go_simp;done)|(go_simp;rfl));(case hp=>exact(Reps.one (show Kd.M (Kd.int .u8) _ _ _ ((a0)%256) [.int .u8 ((a0)%256)]from rfl) (Reps.none _ _)));intro v209 w7 ho8 hb hg_ hnew_;clear hg_ hnew_;(first|rw[←Ny208.out]at ho8|(simp only[Int.reduceToNat]at ho8;rw[←Ny208.out]at ho8));have n0_:=Aside0.mk (Kd.R_lower ho8 (below_size (by repeat (first|(with_reducible first|exact HB.out|apply below_alloc|apply pw_below_drewN|apply below_drew1)|exact HB.out))));have n1_:=Aside0.mk (below_step (by repeat (first|(with_reducible first|exact HB.out|apply below_alloc|apply pw_below_drewN|apply below_drew1)|exact HB.out)) hb);clear HB;have HO210:=n0_;have HB:=n1_;clear n0_ n1_;clear hb ho8;have hcv9:=own_string (P:=Tryz.prog) Tryz.underlying80 Tryz.underlying5 Tryz.underlying9 (Kd.own_of_R HO210.out)))
     go_ret
     exact⟨by first|rfl|(simp[errW_none,errW_some]<;>rfl)|(simp[*,errW_none,errW_some]<;>rfl),by repeat (first|(with_reducible first|exact HB.out|apply below_alloc|apply pw_below_drewN|apply below_drew1)|exact HB.out)⟩
    ·rw[if_neg c6]at H
     have c6b0:decide (a0<128)=false:=decide_eq_false c6
     clear c6
     obtain⟨y211,hy211⟩ : ∃ y_:List Int,y_=(([(wrap64 (128+(Int.tmod a0 128)))%256]:List Int)):=⟨_,rfl⟩
     replace H:((sluicegateref05_Number.f kj1 (wrap64 (Int.tdiv a0 128))).bind fun t214=>(if (strOfNums y211).size+t214.size≤9223372036854775807 then (some ((strOfNums y211)++t214))else (none)))=some r:=by first|(rw[hy211];with_reducible exact H)|(have H2_:=(Option.bind_some _ _).symm.trans H;rw[hy211];with_reducible exact H2_)|(have H2_:=(Option.bind_some _ _).symm.trans H;with_reducible exact H2_)|with_reducible exact H|(rw[hy211];exact H)|exact H
     have Ny211:=Aside0.mk hy211
     clear hy211
     replace H:=Option.bind_eq_some_iff.mp H
     obtain⟨t214,A100,H⟩:=H
     replace H:(if (strOfNums y211).size+t214.size≤9223372036854775807 then (some ((strOfNums y211)++t214))else (none))=some r:=H
     have A10:=Aside0.mk A100
     clear A100
     by_cases c11:(strOfNums y211).size+t214.size≤9223372036854775807
     ·rw[if_pos c11]at H
      have c11b0:=eq_true c11
      have c11b1:decide ((strOfNums y211).size+t214.size≤9223372036854775807)=true:=decide_eq_true c11
      try have c11b2:(9223372036854775807<(strOfNums y211).size+t214.size)=False:=eq_false (Nat.not_lt.2 c11)
      obtain rfl:=Option.some.inj H
      try go_wp2
      have n0_:=Aside0.mk (below_drew1 HB.out)
      clear HB
      have HB:=n0_
      clear n0_
      refine start_ (n:=11) (S:=fun w'=>True) (ds:=[]) #[false,false,false,false,false,false,false,false,false,false,false] (by kernel_rfl) rfl rfl trivial (fun hHeld=> ?_);refine with_tabW sluicegateref05_Number.tab5 sluicegateref05_Number.bits5 (fun HT_ HW_=> ?_)
      generalize wc.drew=w12 at HB hHeld ⊢
      refine pure_ (i:=0) (N:=some 16) (v:= ?_) (a':= ?_) #[true,false,false,false,false,false,false,false,false,false,false] rfl rfl (any_of HT_.out (by kernel_rfl)) (fun _ _ _ h=>h) (Or.inl ⟨by rfl,?_⟩) ?_ ?_
      rotate_left
      ·intro w'
       go_simp
       with_reducible rfl
      rotate_left
      ·simp only[Act.put,zA,zB,zC,i64_w,i32_w]
       rfl
      refine pure_ (i:=1) (N:=some 17) (v:= ?_) (a':= ?_) #[true,true,false,false,false,false,false,false,false,false,false] rfl rfl (any_of HT_.out (by kernel_rfl)) (fun _ _ _ h=>h) (Or.inl ⟨by rfl,?_⟩) ?_ ?_
      rotate_left
      ·intro w'
       go_simp
       with_reducible rfl
      rotate_left
      ·simp only[Act.put,zA,zB,zC,i64_w,i32_w]
       rfl
      refine pure_ (i:=2) (N:=some 18) (v:= ?_) (a':= ?_) #[true,true,true,false,false,false,false,false,false,false,false] rfl rfl (any_of HT_.out (by kernel_rfl)) (fun _ _ _ h=>h) (Or.inl ⟨by rfl,?_⟩) ?_ ?_
      rotate_left
      ·intro w'
       go_simp
       with_reducible rfl
      rotate_left
      ·simp only[Act.put,zA,zB,zC,i64_w,i32_w]
       rfl
      refine pure_ (i:=3) (N:=some 19) (v:= ?_) (a':= ?_) #[true,true,true,true,false,false,false,false,false,false,false] rfl rfl (any_of HT_.out (by kernel_rfl)) (fun _ _ _ h=>h) (Or.inl ⟨by rfl,?_⟩) ?_ ?_
      rotate_left
      ·intro w'
       go_simp
       with_reducible rfl
      rotate_left
      ·simp only[Act.put,zA,zB,zC,i64_w,i32_w]
       rfl
      refine pure_ (i:=6) (N:=some 22) (v:= ?_) (a':= ?_) #[true,true,true,true,false,false,true,false,false,false,false] rfl rfl (any_of HT_.out (by kernel_rfl)) (fun _ _ _ h=>h) (Or.inl ⟨by rfl,?_⟩) ?_ ?_
      rotate_left
      ·intro w'
       go_simp
       with_reducible rfl
      rotate_left
      ·simp only[Act.put,zA,zB,zC,i64_w,i32_w]
       rfl
      refine pure_ (i:=7) (N:=some 23) (v:= ?_) (a':= ?_) #[true,true,true,true,false,false,true,true,false,false,false] rfl rfl (any_of HT_.out (by kernel_rfl)) (fun _ _ _ h=>h) (Or.inl ⟨by rfl,?_⟩) ?_ ?_
      rotate_left
      ·intro w'
       go_simp
       with_reducible rfl
      rotate_left
      ·simp only[Act.put,zA,zB,zC,i64_w,i32_w]
       rfl
      refine join_ (σ:=Value) 2 #[true,true,true,true,true,true,true,true,true,false,false] (fun s_=>[(20,s_),(21,.string (strOfNums y211)),(24,.string t214)]) (fun s_ w'=>(Kd.R (Kd.int .u8) 5 w' w.heap.size (fun _=>True) s_ y211)∧(Below w.heap.size w w')) ?_ ?_
      rotate_left
      ·intro hCont
       refine two_ (i:=4) (j:=8) (Ni:=some 20) (Nj:=some 24) #[true,true,true,true,true,false,true,true,false,false,false] #[true,true,true,true,false,false,true,true,true,false,false] rfl rfl rfl rfl (two_of HT_.out (by kernel_rfl)) (by decide) (by decide) (fun K hK=> ?_) (fun K hK=> ?_)
       ·skip
        refine Kd.R_lit_step (Kd.int .u8) _ 5 ?hg (N:=20) ?hd (xs:=([(wrap64 (128+(Int.tmod a0 128)))%256]:List Int)) (inner:=[.int .u8 ((wrap64 (128+(Int.tmod a0 128)))%256)]) (ok:=fun _=>True) (okp:=fun _=>True) ?hr ?hp (fun _ hk=>hk) trivial (Below.refl _ _) (Nat.le_refl _) (by simp) ?_;(case hd=>rfl);(case hg=>rfl);(case hr=>first|(go_simp;done)|(go_simp;rfl));(case hp=>exact(Reps.one (show Kd.M (Kd.int .u8) _ _ _ ((wrap64 (128+(Int.tmod a0 128)))%256) [.int .u8 ((wrap64 (128+(Int.tmod a0 128)))%256)]from rfl) (Reps.none _ _)))
        intro v212 w13 ho14 hb hg_ hnew_
        clear hg_ hnew_
        (first|rw[←Ny211.out]at ho14|(simp only[Int.reduceToNat]at ho14;rw[←Ny211.out]at ho14))
        have n0_:=Aside0.mk (Kd.R_lower ho14 (below_size (by repeat (first|(with_reducible first|exact HB.out|apply below_alloc|apply pw_below_drewN|apply below_drew1)|exact HB.out))))
        have n1_:=Aside0.mk (below_step (by repeat (first|(with_reducible first|exact HB.out|apply below_alloc|apply pw_below_drewN|apply below_drew1)|exact HB.out)) hb)
        clear HB
        have HO213:=n0_
        have HB:=n1_
        clear n0_ n1_
        clear hb ho14
        refine hK.out _ _ trivial (fun hHeld=> ?_)
        clear hK K
        refine norm_ (a':= ?_) ?_ ?_
        rotate_left
        ·show Act.put _ (some 20) _=_
         simp only[Act.put,zA,zB,zC,i64_w,i32_w]
         rfl
        refine two_ (i:=5) (j:=8) (Ni:=some 21) (Nj:=some 24) #[true,true,true,true,true,true,true,true,false,false,false] #[true,true,true,true,true,false,true,true,true,false,false] rfl rfl rfl rfl (two_of HT_.out (by kernel_rfl)) (by decide) (by decide) (fun K hK=> ?_) (fun K hK=> ?_)
        ·skip
         have hcv15:=own_string (P:=Tryz.prog) Tryz.underlying80 Tryz.underlying5 Tryz.underlying9 (Kd.own_of_R HO213.out)
         refine value_ (w1:= ?_) (v:= ?_) (by rfl) rfl ?_ ?_
         rotate_left 2
         ·go_simp
          constructor
          ·rfl
          ·rfl
         clear hcv15
         refine hK.out _ _ trivial (fun hHeld=> ?_)
         clear hK K
         refine norm_ (a':= ?_) ?_ ?_
         rotate_left
         ·show Act.put _ (some 21) _=_
          simp only[Act.put,zA,zB,zC,i64_w,i32_w]
          rfl
         refine one_ (i:=8) (N:=some 24) #[true,true,true,true,true,true,true,true,true,false,false] rfl rfl (one_of HT_.out (by kernel_rfl)) (by decide) (fun K hK=> ?_)
         refine goes_ Tryz.func51 (by kernel_rfl) rfl #[.int .i64 (wrap64 (Int.tdiv a0 128))] (by rfl) rfl rfl (by (try simp only[List.map_toArray,List.map_cons,List.map_nil]);first|done|rfl|(simp only[List.length_drop,List.length_take];rfl)) ?_
         with_reducible refine(ih kj1 (by have:=HJ1.out;omega) (wrap64 (Int.tdiv a0 128)) t214 _ A10.out).mono ?_
         rintro e w16 ⟨rfl,hb⟩
         refine⟨_,rfl,?_⟩
         have n0_:=Aside0.mk (Kd.R_below (by (with_reducible repeat (first|apply Kd.R_alloc|apply Kd.R_drewN|apply Kd.R_drew));exact HO213.out) hb)
         have n1_:=Aside0.mk (below_step (by repeat (first|(with_reducible first|exact HB.out|apply below_alloc|apply pw_below_drewN|apply below_drew1)|exact HB.out)) hb)
         clear HO213
         clear HB
         have HO213:=n0_
         have HB:=n1_
         clear n0_ n1_
         (try clear hb)
         (try clear hb2)
         (try clear hk)
         (try clear hi)
         refine hK.out _ _ trivial (fun hHeld=> ?_)
         clear hK K
         refine norm_ (a':= ?_) ?_ ?_
         rotate_left
         ·show Act.put _ (some 24) _=_
          simp only[Act.put,zA,zB,zC,i64_w,i32_w]
          rfl
         exact norm_ (by simp only[putAll,Act.put,zA,zB,zC]) (hCont (v212) _ ⟨(by (with_reducible repeat (first|apply Kd.R_alloc|apply Kd.R_drewN|apply Kd.R_drew));exact HO213.out),(by repeat (first|(with_reducible first|exact HB.out|apply below_alloc|apply pw_below_drewN|apply below_drew1)|exact HB.out))⟩)
        ·skip
         refine goes_ Tryz.func51 (by kernel_rfl) rfl #[.int .i64 (wrap64 (Int.tdiv a0 128))] (by rfl) rfl rfl (by (try simp only[List.map_toArray,List.map_cons,List.map_nil]);first|done|rfl|(simp only[List.length_drop,List.length_take];rfl)) ?_
         with_reducible refine(ih kj1 (by have:=HJ1.out;omega) (wrap64 (Int.tdiv a0 128)) t214 _ A10.out).mono ?_
         rintro e w15 ⟨rfl,hb⟩
         refine⟨_,rfl,?_⟩
         have n0_:=Aside0.mk (Kd.R_below (by (with_reducible repeat (first|apply Kd.R_alloc|apply Kd.R_drewN|apply Kd.R_drew));exact HO213.out) hb)
         have n1_:=Aside0.mk (below_step (by repeat (first|(with_reducible first|exact HB.out|apply below_alloc|apply pw_below_drewN|apply below_drew1)|exact HB.out)) hb)
         clear HO213
         clear HB
         have HO213:=n0_
         have HB:=n1_
         clear n0_ n1_
         (try clear hb)
         (try clear hb2)
         (try clear hk)
         (try clear hi)
         refine hK.out _ _ trivial (fun hHeld=> ?_)
         clear hK K
         refine norm_ (a':= ?_) ?_ ?_
         rotate_left
         ·show Act.put _ (some 24) _=_
          simp only[Act.put,zA,zB,zC,i64_w,i32_w]
          rfl
         refine one_ (i:=5) (N:=some 21) #[true,true,true,true,true,true,true,true,true,false,false] rfl rfl (one_of HT_.out (by kernel_rfl)) (by decide) (fun K hK=> ?_)
         have hcv16:=own_string (P:=Tryz.prog) Tryz.underlying80 Tryz.underlying5 Tryz.underlying9 (Kd.own_of_R HO213.out)
         refine value_ (w1:= ?_) (v:= ?_) (by rfl) rfl ?_ ?_
         rotate_left 2
         ·go_simp
          constructor
          ·rfl
          ·rfl
         clear hcv16
         refine hK.out _ _ trivial (fun hHeld=> ?_)
         clear hK K
         refine norm_ (a':= ?_) ?_ ?_
         rotate_left
         ·show Act.put _ (some 21) _=_
          simp only[Act.put,zA,zB,zC,i64_w,i32_w]
          rfl
         exact norm_ (by simp only[putAll,Act.put,zA,zB,zC]) (hCont (v212) _ ⟨(by (with_reducible repeat (first|apply Kd.R_alloc|apply Kd.R_drewN|apply Kd.R_drew));exact HO213.out),(by repeat (first|(with_reducible first|exact HB.out|apply below_alloc|apply pw_below_drewN|apply below_drew1)|exact HB.out))⟩)
       ·skip
        refine goes_ Tryz.func51 (by kernel_rfl) rfl #[.int .i64 (wrap64 (Int.tdiv a0 128))] (by rfl) rfl rfl (by (try simp only[List.map_toArray,List.map_cons,List.map_nil]);first|done|rfl|(simp only[List.length_drop,List.length_take];rfl)) ?_
        with_reducible refine(ih kj1 (by have:=HJ1.out;omega) (wrap64 (Int.tdiv a0 128)) t214 _ A10.out).mono ?_
        rintro e w13 ⟨rfl,hb⟩
        refine⟨_,rfl,?_⟩
        have n0_:=Aside0.mk (below_step (by repeat (first|(with_reducible first|exact HB.out|apply below_alloc|apply pw_below_drewN|apply below_drew1)|exact HB.out)) hb)
        clear HB
        have HB:=n0_
        clear n0_
        (try clear hb)
        (try clear hb2)
        (try clear hk)
        (try clear hi)
        refine hK.out _ _ trivial (fun hHeld=> ?_)
        clear hK K
        refine norm_ (a':= ?_) ?_ ?_
        rotate_left
        ·show Act.put _ (some 24) _=_
         simp only[Act.put,zA,zB,zC,i64_w,i32_w]
         rfl
        refine one_ (i:=4) (N:=some 20) #[true,true,true,true,true,false,true,true,true,false,false] rfl rfl (one_of HT_.out (by kernel_rfl)) (by decide) (fun K hK=> ?_)
        refine Kd.R_lit_step (Kd.int .u8) _ 5 ?hg (N:=20) ?hd (xs:=([(wrap64 (128+(Int.tmod a0 128)))%256]:List Int)) (inner:=[.int .u8 ((wrap64 (128+(Int.tmod a0 128)))%256)]) (ok:=fun _=>True) (okp:=fun _=>True) ?hr ?hp (fun _ hk=>hk) trivial (Below.refl _ _) (Nat.le_refl _) (by simp) ?_;(case hd=>rfl);(case hg=>rfl);(case hr=>first|(go_simp;done)|(go_simp;rfl));(case hp=>exact(Reps.one (show Kd.M (Kd.int .u8) _ _ _ ((wrap64 (128+(Int.tmod a0 128)))%256) [.int .u8 ((wrap64 (128+(Int.tmod a0 128)))%256)]from rfl) (Reps.none _ _)))
        intro v212 w14 ho15 hb hg_ hnew_
        clear hg_ hnew_
        (first|rw[←Ny211.out]at ho15|(simp only[Int.reduceToNat]at ho15;rw[←Ny211.out]at ho15))
        have n0_:=Aside0.mk (Kd.R_lower ho15 (below_size (by repeat (first|(with_reducible first|exact HB.out|apply below_alloc|apply pw_below_drewN|apply below_drew1)|exact HB.out))))
        have n1_:=Aside0.mk (below_step (by repeat (first|(with_reducible first|exact HB.out|apply below_alloc|apply pw_below_drewN|apply below_drew1)|exact HB.out)) hb)
        clear HB
        have HO213:=n0_
        have HB:=n1_
        clear n0_ n1_
        clear hb ho15
        refine hK.out _ _ trivial (fun hHeld=> ?_)
        clear hK K
        refine norm_ (a':= ?_) ?_ ?_
        rotate_left
        ·show Act.put _ (some 20) _=_
         simp only[Act.put,zA,zB,zC,i64_w,i32_w]
         rfl
        refine one_ (i:=5) (N:=some 21) #[true,true,true,true,true,true,true,true,true,false,false] rfl rfl (one_of HT_.out (by kernel_rfl)) (by decide) (fun K hK=> ?_)
        have hcv16:=own_string (P:=Tryz.prog) Tryz.underlying80 Tryz.underlying5 Tryz.underlying9 (Kd.own_of_R HO213.out)
        refine value_ (w1:= ?_) (v:= ?_) (by rfl) rfl ?_ ?_
        rotate_left 2
        ·go_simp
         constructor
         ·rfl
         ·rfl
        clear hcv16
        refine hK.out _ _ trivial (fun hHeld=> ?_)
        clear hK K
        refine norm_ (a':= ?_) ?_ ?_
        rotate_left
        ·show Act.put _ (some 21) _=_
         simp only[Act.put,zA,zB,zC,i64_w,i32_w]
         rfl
        exact norm_ (by simp only[putAll,Act.put,zA,zB,zC]) (hCont (v212) _ ⟨(by (with_reducible repeat (first|apply Kd.R_alloc|apply Kd.R_drewN|apply Kd.R_drew));exact HO213.out),(by repeat (first|(with_reducible first|exact HB.out|apply below_alloc|apply pw_below_drewN|apply below_drew1)|exact HB.out))⟩)
      rintro v212 w17 ⟨h0_,h1_⟩
      have n0_:Aside0 (Kd.R (Kd.int .u8) 5 w17 w.heap.size (fun _=>True) v212 y211):=⟨h0_⟩
      have n1_:Aside0 (Below w.heap.size w w17):=⟨h1_⟩
      clear HB
      clear h0_ h1_
      have HO213:=n0_
      have HB:=n1_
      clear n0_ n1_
      have hHeld:=trivial
      refine norm_ (a':= ?_) ?_ ?_
      rotate_left
      ·simp only[putAll,Act.put,zA,zB,zC]
       rfl
      refine pure_ (i:=9) (N:=some 25) (v:= ?_) (a':= ?_) #[true,true,true,true,true,true,true,true,true,true,false] rfl rfl (any_of HT_.out (by kernel_rfl)) (fun _ _ _ h=>h) (Or.inl ⟨by rfl,?_⟩) ?_ ?_
      rotate_left
      ·intro w'
       go_simp
       with_reducible rfl
      rotate_left
      ·simp only[Act.put,zA,zB,zC,i64_w,i32_w]
       rfl
      refine pure_ (i:=10) (N:=some 2) (v:= ?_) (a':= ?_) #[true,true,true,true,true,true,true,true,true,true,true] rfl rfl (any_of HT_.out (by kernel_rfl)) (fun _ _ _ h=>h) (Or.inl ⟨by rfl,?_⟩) ?_ ?_
      rotate_left
      ·intro w'
       go_simp
       with_reducible rfl
      rotate_left
      ·simp only[Act.put,zA,zB,zC,i64_w,i32_w]
       rfl
      refine done_ (done_of HT_.out (by kernel_rfl)) ?_
      try go_wp2
      go_ret
      exact⟨by first|rfl|(simp[errW_none,errW_some]<;>rfl)|(simp[*,errW_none,errW_some]<;>rfl),by repeat (first|(with_reducible first|exact HB.out|apply below_alloc|apply pw_below_drewN|apply below_drew1)|exact HB.out)⟩
     ·rw[if_neg c11]at H
      exact absurd H (by simp)
def sluicegateref05_Text.f (k:Nat) (a0:ByteArray):Option (ByteArray):=(sluicegateref05_Number.f k (a0.size:Int)).bind fun t215=>(if t215.size+a0.size≤9223372036854775807 then (some (t215++a0))else (none))
theorem sluicegateref05_Text.calls (k:Nat) (a0:ByteArray) (r:ByteArray) (w:World) (h:sluicegateref05_Text.f k a0=some r) :
  Calls Tryz.prog 52 #[.string a0] w fun e w'=>e = .returned (.string r)∧Below w.heap.size w w':=by
 have HB:=Aside0.mk (Below.refl w.heap.size w)
 have H:((sluicegateref05_Number.f k (a0.size:Int)).bind fun t215=>(if t215.size+a0.size≤9223372036854775807 then (some (t215++a0))else (none)))=some r:=h
 clear h
 replace H:=Option.bind_eq_some_iff.mp H
 obtain⟨t215,A20,H⟩:=H
 replace H:(if t215.size+a0.size≤9223372036854775807 then (some (t215++a0))else (none))=some r:=H
 have A2:=Aside0.mk A20
 clear A20
 by_cases c3:t215.size+a0.size≤9223372036854775807
 ·rw[if_pos c3]at H
  have c3b0:=eq_true c3
  have c3b1:decide (t215.size+a0.size≤9223372036854775807)=true:=decide_eq_true c3
  try have c3b2:(9223372036854775807<t215.size+a0.size)=False:=eq_false (Nat.not_lt.2 c3)
  obtain rfl:=Option.some.inj H
  go_enter Tryz.func52,Tryz.ntmps52
  go_wp2_with (first|((with_reducible refine gate_callee (f:=51) rfl ?_);refine goesL_ (some 5) rfl rfl Tryz.func51 (by kernel_rfl) rfl #[.int .i64 (a0.size:Int)] rfl (by (try simp only[List.map_toArray,List.map_cons,List.map_nil]);first|done|rfl|(simp only[List.length_drop,List.length_take];rfl)) ?_;(with_reducible refine(sluicegateref05_Number.calls k (a0.size:Int) t215 _ A2.out).mono ?_);rintro e w4 ⟨rfl,hb⟩;refine⟨_,rfl,?_⟩;have n0_:=Aside0.mk (below_step (by repeat (first|(with_reducible first|exact HB.out|apply below_alloc|apply pw_below_drewN|apply below_drew1)|exact HB.out)) hb);clear HB;have HB:=n0_;clear n0_;(try clear hb);(try clear hb2);(try clear hk);(try clear hi)))
  go_ret
  exact⟨by first|rfl|(simp[errW_none,errW_some]<;>rfl)|(simp[*,errW_none,errW_some]<;>rfl),by repeat (first|(with_reducible first|exact HB.out|apply below_alloc|apply pw_below_drewN|apply below_drew1)|exact HB.out)⟩
 ·rw[if_neg c3]at H
  exact absurd H (by simp)
def sluicegateref04_Seal.f (a0:ByteArray):Option (ByteArray):=(sluicegateref04_Of.f a0).bind fun t216=>((some (([(t216)%256,(t216/256)%256,(t216/65536)%256,(t216/16777216)%256]:List Int):List Int)).bind fun y217=>(if a0.size+(strOfNums y217).size≤9223372036854775807 then (some (a0++(strOfNums y217)))else (none)))
theorem sluicegateref04_Seal.calls (a0:ByteArray) (r:ByteArray) (w:World) (h:sluicegateref04_Seal.f a0=some r) :
  Calls Tryz.prog 53 #[.string a0] w fun e w'=>e = .returned (.string r)∧Below w.heap.size w w':=by
 have HB:=Aside0.mk (Below.refl w.heap.size w)
 have H:((sluicegateref04_Of.f a0).bind fun t216=>((some (([(t216)%256,(t216/256)%256,(t216/65536)%256,(t216/16777216)%256]:List Int):List Int)).bind fun y217=>(if a0.size+(strOfNums y217).size≤9223372036854775807 then (some (a0++(strOfNums y217)))else (none))))=some r:=h
 clear h
 replace H:=Option.bind_eq_some_iff.mp H
 obtain⟨t216,A20,H⟩:=H
 replace H:((some (([(t216)%256,(t216/256)%256,(t216/65536)%256,(t216/16777216)%256]:List Int):List Int)).bind fun y217=>(if a0.size+(strOfNums y217).size≤9223372036854775807 then (some (a0++(strOfNums y217)))else (none)))=some r:=H
 have A2:=Aside0.mk A20
 clear A20
 obtain⟨y217,hy217⟩ : ∃ y_:List Int,y_=(([(t216)%256,(t216/256)%256,(t216/65536)%256,(t216/16777216)%256]:List Int)):=⟨_,rfl⟩
 replace H:(if a0.size+(strOfNums y217).size≤9223372036854775807 then (some (a0++(strOfNums y217)))else (none))=some r:=by first|(rw[hy217];with_reducible exact H)|(have H2_:=(Option.bind_some _ _).symm.trans H;rw[hy217];with_reducible exact H2_)|(have H2_:=(Option.bind_some _ _).symm.trans H;with_reducible exact H2_)|with_reducible exact H|(rw[hy217];exact H)|exact H
 have Ny217:=Aside0.mk hy217
 clear hy217
 by_cases c3:a0.size+(strOfNums y217).size≤9223372036854775807
 ·rw[if_pos c3]at H
  have c3b0:=eq_true c3
  have c3b1:decide (a0.size+(strOfNums y217).size≤9223372036854775807)=true:=decide_eq_true c3
  try have c3b2:(9223372036854775807<a0.size+(strOfNums y217).size)=False:=eq_false (Nat.not_lt.2 c3)
  obtain rfl:=Option.some.inj H
  go_enter Tryz.func53,Tryz.ntmps53
  go_wp2_with (first|((with_reducible refine gate_callee (f:=72) rfl ?_);refine goesL_ (some 5) rfl rfl Tryz.func72 (by kernel_rfl) rfl #[.string a0] rfl (by (try simp only[List.map_toArray,List.map_cons,List.map_nil]);first|done|rfl|(simp only[List.length_drop,List.length_take];rfl)) ?_;(with_reducible refine(sluicegateref04_Of.calls a0 t216 _ A2.out).mono ?_);rintro e w4 ⟨rfl,hb⟩;refine⟨_,rfl,?_⟩;have n0_:=Aside0.mk (below_step (by repeat (first|(with_reducible first|exact HB.out|apply below_alloc|apply pw_below_drewN|apply below_drew1)|exact HB.out)) hb);clear HB;have HB:=n0_;clear n0_;(try clear hb);(try clear hb2);(try clear hk);(try clear hi))|((with_reducible refine gate_dst (N:=18) rfl ?_);refine Kd.R_lit (Kd.int .u8) _ 5 ?hg (N:=18) ?hd (xs:=([(t216)%256,(t216/256)%256,(t216/65536)%256,(t216/16777216)%256]:List Int)) (inner:=[.int .u8 ((t216)%256),.int .u8 ((t216/256)%256),.int .u8 ((t216/65536)%256),.int .u8 ((t216/16777216)%256)]) (ok:=fun _=>True) (okp:=fun _=>True) ?hr ?hp (fun _ hk=>hk) trivial (Below.refl _ _) (Nat.le_refl _) (by simp) ?_;(case hd=>rfl);(case hg=>rfl);(case hr=>first|(go_simp;done)|(go_simp;rfl));(case hp=>exact(Reps.one (show Kd.M (Kd.int .u8) _ _ _ ((t216)%256) [.int .u8 ((t216)%256)]from rfl) (Reps.one (show Kd.M (Kd.int .u8) _ _ _ ((t216/256)%256) [.int .u8 ((t216/256)%256)]from rfl) (Reps.one (show Kd.M (Kd.int .u8) _ _ _ ((t216/65536)%256) [.int .u8 ((t216/65536)%256)]from rfl) (Reps.one (show Kd.M (Kd.int .u8) _ _ _ ((t216/16777216)%256) [.int .u8 ((t216/16777216)%256)]from rfl) (Reps.none _ _))))));intro v218 w5 ho6 hb hg_ hnew_;clear hg_ hnew_;(first|rw[←Ny217.out]at ho6|(simp only[Int.reduceToNat]at ho6;rw[←Ny217.out]at ho6));have n0_:=Aside0.mk (Kd.R_lower ho6 (below_size (by repeat (first|(with_reducible first|exact HB.out|apply below_alloc|apply pw_below_drewN|apply below_drew1)|exact HB.out))));have n1_:=Aside0.mk (below_step (by repeat (first|(with_reducible first|exact HB.out|apply below_alloc|apply pw_below_drewN|apply below_drew1)|exact HB.out)) hb);clear HB;have HO219:=n0_;have HB:=n1_;clear n0_ n1_;clear hb ho6;have hcv7:=own_string (P:=Tryz.prog) Tryz.underlying80 Tryz.underlying5 Tryz.underlying9 (Kd.own_of_R HO219.out)))
  go_ret
  exact⟨by first|rfl|(simp[errW_none,errW_some]<;>rfl)|(simp[*,errW_none,errW_some]<;>rfl),by repeat (first|(with_reducible first|exact HB.out|apply below_alloc|apply pw_below_drewN|apply below_drew1)|exact HB.out)⟩
 ·rw[if_neg c3]at H
  exact absurd H (by simp)
def sluicegateref02_Small.l0:Nat→List ByteArray→Int→Int→Int→Option (Bool)
 | 0,_,_,_,_=>none
 | k+1,x0,x1,x2,x7=>if x7<(x0.length:Int)then (if 0≤x7 then (if ((rdOf ByteArray.empty x0 x7).size:Int)>x2 then (some false)else (sluicegateref02_Small.l0 k x0 x1 x2 (wrap64 (x7+1))))else (none))else (some (decide ((x0.length:Int)≤x1)))
def sluicegateref02_Small.f (k:Nat) (l0:List ByteArray) (a1:Int) (a2:Int):Option (Bool):=sluicegateref02_Small.l0 k l0 a1 a2 0
theorem sluicegateref02_Small.mono_l : ∀ k,(∀ y0 y1 y2 y3,LeO (sluicegateref02_Small.l0 k y0 y1 y2 y3) (sluicegateref02_Small.l0 (k+1) y0 y1 y2 y3))
 | 0=>fun _ _ _ _ r h=>by simp[sluicegateref02_Small.l0]at h
 | k+1=>by
  have ih0:=sluicegateref02_Small.mono_l k
  ·intro y0 y1 y2 y3
   unfold sluicegateref02_Small.l0
   repeat' first
   | (with_reducible exact ih0 _ _ _ _)
   | (with_reducible exact LeO.refl _)
   | (with_reducible exact LeO.none _)
   | (with_reducible refine LeO.ite ?_ ?_)
   | (with_reducible refine LeO.bind ?_ (fun _=> ?_))
   | exact ih0 _ _ _ _
   | exact LeO.none _
   | refine LeO.ite ?_ ?_
   | refine LeO.bind ?_ (fun _=> ?_)
theorem sluicegateref02_Small.mono : ∀ a0 a1 a2 k,LeO (sluicegateref02_Small.f k a0 a1 a2) (sluicegateref02_Small.f (k+1) a0 a1 a2):=by
 intro a0 a1 a2 k
 have ih0:=sluicegateref02_Small.mono_l k
 unfold sluicegateref02_Small.f
 repeat' first
   | (with_reducible exact ih0 _ _ _ _)
   | (with_reducible exact LeO.refl _)
   | (with_reducible exact LeO.none _)
   | (with_reducible refine LeO.ite ?_ ?_)
   | (with_reducible refine LeO.bind ?_ (fun _=> ?_))
   | exact ih0 _ _ _ _
   | exact LeO.none _
   | refine LeO.ite ?_ ?_
   | refine LeO.bind ?_ (fun _=> ?_)
theorem sluicegateref02_Small.calls (k:Nat) (A0:Option Addr) (c0:Nat) (l0:List ByteArray) (a1:Int) (a2:Int) (r:Bool) (w:World) (hr0:Kd.C Kd.string w A0 l0.length l0) (hc0:l0.length≤c0) (h:sluicegateref02_Small.f k l0 a1 a2=some r) :
  Calls Tryz.prog 11 #[.slice A0 l0.length c0,.int .i64 a1,.int .i64 a2] w fun e w'=>e = .returned (.bool r)∧Drawn0 w w':=by
 have HR0:=Aside0.mk hr0
 have HC0:=Aside0.mk hc0
 clear hr0 hc0
 have H:(sluicegateref02_Small.l0 k l0 a1 a2 0)=some r:=h
 clear h
 have H':=Aside0.mk H
 clear H
 go_enter Tryz.func11,Tryz.ntmps11
 go_wp2
 go_loopg [7] k (fun kq v7 w'=> ∃ (x7_1:Int),v7 = .int .i64 x7_1∧Aside0 (sluicegateref02_Small.l0 kq l0 a1 a2 x7_1=some r)∧Aside0 (kq≤k)∧Drawn0 w w')
 case atStart=>exact⟨(0),(by first|rfl|(simp;done)|(simp[*];done)),H',⟨Nat.le_refl _⟩,by repeat (first|exact Drawn0.refl _|apply Drawn0.step)⟩
 case round=>
  clear H'
  try clear c1
  try clear p2
  obtain⟨x7_1,rfl,HA,HK1,⟨m1,rfl⟩⟩:=hrel
  cases gk with
  | zero=>exact absurd HA.out (by simp[sluicegateref02_Small.l0])
  | succ k1=>
   have H:=HA.out
   clear HA
   simp only[sluicegateref02_Small.l0]at H
   by_cases c4:x7_1<(l0.length:Int)
   ·rw[if_pos c4]at H
    have c4b0:decide (x7_1<(l0.length:Int))=true:=decide_eq_true c4
    clear c4
    by_cases c5:0≤x7_1
    ·rw[if_pos c5]at H
     have c5b0:decide (0≤x7_1)=true:=decide_eq_true c5
     clear c5
     by_cases c6:((rdOf ByteArray.empty l0 x7_1).size:Int)>a2
     ·rw[if_pos c6]at H
      have c6b0:decide (a2<((rdOf ByteArray.empty l0 x7_1).size:Int))=true:=decide_eq_true c6
      clear c6
      obtain rfl:=Option.some.inj H
      have p252:0≤(x7_1:Int):=of_decide_eq_true (by first|(with_reducible assumption)|assumption)
      have q252:x7_1<(l0.length:Int):=of_decide_eq_true (by first|(with_reducible assumption)|assumption)
      obtain⟨ad252,e252,hx252_0⟩:=Kd.at_string HR0.out x7_1 p252 q252
      cases e252
      replace p252:=eq_true p252
      replace q252:=eq_true q252
      go_wp2
      go_ret
      exact⟨by first|rfl|(simp;done)|(simp[*];done),by repeat (first|exact Drawn0.refl _|apply Drawn0.step)⟩
     ·rw[if_neg c6]at H
      have c6b0:decide (a2<((rdOf ByteArray.empty l0 x7_1).size:Int))=false:=decide_eq_false c6
      clear c6
      have H':=Aside0.mk H
      clear H
      have p252:0≤(x7_1:Int):=of_decide_eq_true (by first|(with_reducible assumption)|assumption)
      have q252:x7_1<(l0.length:Int):=of_decide_eq_true (by first|(with_reducible assumption)|assumption)
      obtain⟨ad252,e252,hx252_0⟩:=Kd.at_string HR0.out x7_1 p252 q252
      cases e252
      replace p252:=eq_true p252
      replace q252:=eq_true q252
      go_wp2
      go_roundg k1
      case measure=>have:=HK1.out;omega
      case rel=>exact⟨(wrap64 (x7_1+1)),(by first|rfl|(simp;done)|(simp[*];done)),H',⟨by have:=HK1.out;omega⟩,by repeat (first|exact Drawn0.refl _|apply Drawn0.step)⟩
    ·rw[if_neg c5]at H
     exact absurd H (by simp)
   ·rw[if_neg c4]at H
    have c4b0:decide (x7_1<(l0.length:Int))=false:=decide_eq_false c4
    clear c4
    obtain rfl:=Option.some.inj H
    go_wp2
    go_ret
    exact⟨by first|rfl|(simp;done)|(simp[*];done),by repeat (first|exact Drawn0.refl _|apply Drawn0.step)⟩
def sluicegateref04_Open.f (a0:ByteArray):Option (ByteArray×Int):=if (a0.size:Int)<4 then (some ((⟨#[]⟩:ByteArray),3))else (if 0≤(wrap64 ((a0.size:Int)-4))then (if (wrap64 ((a0.size:Int)-4))≤(a0.size:Int)then ((sluicegateref04_Seal.f (a0.extract 0 ((wrap64 ((a0.size:Int)-4)):Int).toNat)).bind fun t253=>(if t253.toList=a0.toList then (some (a0.extract 0 ((wrap64 ((a0.size:Int)-4)):Int).toNat,0))else (some ((⟨#[]⟩:ByteArray),5))))else (none))else (none))
theorem sluicegateref04_Open.calls (a0:ByteArray) (r1:ByteArray) (r2:Int) (w:World) (h:sluicegateref04_Open.f a0=some (r1,r2)) :
  Calls Tryz.prog 79 #[.string a0] w fun e w'=>e = .returned (.tuple #[.string r1,.int .i64 r2])∧Below w.heap.size w w':=by
 have HB:=Aside0.mk (Below.refl w.heap.size w)
 have H:(if (a0.size:Int)<4 then (some ((⟨#[]⟩:ByteArray),3))else (if 0≤(wrap64 ((a0.size:Int)-4))then (if (wrap64 ((a0.size:Int)-4))≤(a0.size:Int)then ((sluicegateref04_Seal.f (a0.extract 0 ((wrap64 ((a0.size:Int)-4)):Int).toNat)).bind fun t253=>(if t253.toList=a0.toList then (some (a0.extract 0 ((wrap64 ((a0.size:Int)-4)):Int).toNat,0))else (some ((⟨#[]⟩:ByteArray),5))))else (none))else (none)))=some (r1,r2):=h
 clear h
 by_cases c2:(a0.size:Int)<4
 ·rw[if_pos c2]at H
  have c2b0:decide ((a0.size:Int)<4)=true:=decide_eq_true c2
  have c2b1:decide (a0.size<4)=true:=decide_eq_true (by omega)
  clear c2
  simp only[Option.some.injEq,Prod.mk.injEq]at H
  obtain⟨rfl,rfl⟩:=H
  go_enter Tryz.func79,Tryz.ntmps79
  go_wp2
  go_ret2
  exact⟨by first|rfl|(simp[errW_none,errW_some]<;>rfl)|(simp[*,errW_none,errW_some]<;>rfl),by repeat (first|(with_reducible first|exact HB.out|apply below_alloc|apply pw_below_drewN|apply below_drew1)|exact HB.out)⟩
 ·rw[if_neg c2]at H
  have c2b0:decide ((a0.size:Int)<4)=false:=decide_eq_false c2
  have c2b1:decide (a0.size<4)=false:=decide_eq_false (by omega)
  clear c2
  obtain⟨ji3,hji3⟩ : ∃ j_:Int,(wrap64 ((a0.size:Int)-4))=j_:=⟨_,rfl⟩
  replace H:(if 0≤(ji3)then (if (ji3)≤(a0.size:Int)then ((sluicegateref04_Seal.f (a0.extract 0 ((ji3):Int).toNat)).bind fun t253=>(if t253.toList=a0.toList then (some (a0.extract 0 ((ji3):Int).toNat,0))else (some ((⟨#[]⟩:ByteArray),5))))else (none))else (none))=some (r1,r2):=by first|(rw[hji3]at H;exact H)|(simp only[hji3]at H ⊢;exact H)
  have hji3w:(IntKind.i64.wrap ((a0.size:Int)-4))=ji3:=(i64_w _).trans hji3
  by_cases c4:0≤(ji3)
  ·rw[if_pos c4]at H
   have c4b0:=eq_true c4
   have c4b1:decide (0≤(ji3))=true:=decide_eq_true c4
   clear c4
   by_cases c5:(ji3)≤(a0.size:Int)
   ·rw[if_pos c5]at H
    have c5b0:=eq_true c5
    have c5b1:decide ((ji3)≤(a0.size:Int))=true:=decide_eq_true c5
    clear c5
    replace H:=Option.bind_eq_some_iff.mp H
    obtain⟨t253,A60,H⟩:=H
    replace H:(if t253.toList=a0.toList then (some (a0.extract 0 ((ji3):Int).toNat,0))else (some ((⟨#[]⟩:ByteArray),5)))=some (r1,r2):=H
    have A6:=Aside0.mk A60
    clear A60
    by_cases c7:t253.toList=a0.toList
    ·rw[if_pos c7]at H
     have c7b0:(t253.toList==a0.toList)=true:=beq_iff_eq.mpr c7
     have c7b1:(t253.toList != a0.toList)=false:=bne_eq_false_iff_eq.mpr c7
     clear c7
     simp only[Option.some.injEq,Prod.mk.injEq]at H
     obtain⟨rfl,rfl⟩:=H
     go_enter Tryz.func79,Tryz.ntmps79
     go_wp2_with (first|((with_reducible refine gate_callee (f:=53) rfl ?_);refine goesL_ (some 14) rfl rfl Tryz.func53 (by kernel_rfl) rfl #[.string (a0.extract 0 ((ji3):Int).toNat)] rfl (by (try simp only[List.map_toArray,List.map_cons,List.map_nil]);first|done|(simp only[hji3];rfl)|rfl|(simp only[List.length_drop,List.length_take];rfl)) ?_;(with_reducible refine(sluicegateref04_Seal.calls (a0.extract 0 ((ji3):Int).toNat) t253 _ A6.out).mono ?_);rintro e w8 ⟨rfl,hb⟩;refine⟨_,rfl,?_⟩;have n0_:=Aside0.mk (below_step (by repeat (first|(with_reducible first|exact HB.out|apply below_alloc|apply pw_below_drewN|apply below_drew1)|exact HB.out)) hb);clear HB;have HB:=n0_;clear n0_;(try clear hb);(try clear hb2);(try clear hk);(try clear hi)))
     go_ret2
     exact⟨by first|rfl|(simp[errW_none,errW_some]<;>rfl)|(simp only[←hji3];first|rfl|(simp[errW_none,errW_some]<;>rfl))|(simp[*,errW_none,errW_some]<;>rfl),by repeat (first|(with_reducible first|exact HB.out|apply below_alloc|apply pw_below_drewN|apply below_drew1)|exact HB.out)⟩
    ·rw[if_neg c7]at H
     have c7b0:(t253.toList==a0.toList)=false:=beq_eq_false_iff_ne.mpr c7
     have c7b1:(t253.toList != a0.toList)=true:=bne_iff_ne.mpr c7
     simp only[Option.some.injEq,Prod.mk.injEq]at H
     obtain⟨rfl,rfl⟩:=H
     go_enter Tryz.func79,Tryz.ntmps79
     go_wp2_with (first|((with_reducible refine gate_callee (f:=53) rfl ?_);refine goesL_ (some 14) rfl rfl Tryz.func53 (by kernel_rfl) rfl #[.string (a0.extract 0 ((ji3):Int).toNat)] rfl (by (try simp only[List.map_toArray,List.map_cons,List.map_nil]);first|done|(simp only[hji3];rfl)|rfl|(simp only[List.length_drop,List.length_take];rfl)) ?_;(with_reducible refine(sluicegateref04_Seal.calls (a0.extract 0 ((ji3):Int).toNat) t253 _ A6.out).mono ?_);rintro e w9 ⟨rfl,hb⟩;refine⟨_,rfl,?_⟩;have n0_:=Aside0.mk (below_step (by repeat (first|(with_reducible first|exact HB.out|apply below_alloc|apply pw_below_drewN|apply below_drew1)|exact HB.out)) hb);clear HB;have HB:=n0_;clear n0_;(try clear hb);(try clear hb2);(try clear hk);(try clear hi)))
     go_ret2
     exact⟨by first|rfl|(simp[errW_none,errW_some]<;>rfl)|(simp only[←hji3];first|rfl|(simp[errW_none,errW_some]<;>rfl))|(simp[*,errW_none,errW_some]<;>rfl),by repeat (first|(with_reducible first|exact HB.out|apply below_alloc|apply pw_below_drewN|apply below_drew1)|exact HB.out)⟩
   ·rw[if_neg c5]at H
    exact absurd H (by simp)
  ·rw[if_neg c4]at H
   exact absurd H (by simp)
end Go.Proofs.YtdcfonmjbelgbaaGreatDoor.Q
end
