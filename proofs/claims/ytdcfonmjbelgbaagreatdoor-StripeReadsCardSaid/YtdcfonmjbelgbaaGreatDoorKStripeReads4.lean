/- Lemmas for the law StripeReads, merged out of several texts and cut down to what it names, by a program of this session (some of the first ones are of the words that print.sh wrote for this claim). -/
import Derived.RangeFuncBox
import Derived.Laws.BitsLemmas
import Derived.RangeFuncNested
import Derived.Test.YtdcfonmjbelgbaaGreatDoorProg
import Derived.OrdersIn
import Derived.RangeFuncCalls
import Derived.RangeFuncLeaves
import Derived.Shelf.Abstract
import Derived.OwnWalkIn
import Derived.TacticsInMore
import Derived.LoopNIn
import Derived.LoopIn
import Derived.Below
import Derived.WalkKit
import Derived.Lib.Builder
import Derived.Laws.Tables
import Derived.Test.YtdcfonmjbelgbaaGreatDoorKStripeReads1
import Derived.Test.YtdcfonmjbelgbaaGreatDoorKStripeReads2
import Derived.Test.YtdcfonmjbelgbaaGreatDoorKStripeReads3
set_option maxRecDepth 100000
set_option maxHeartbeats 8000000
set_option linter.unusedVariables false
set_option linter.unusedSimpArgs false
section
namespace Go.Proofs.YtdcfonmjbelgbaaGreatDoor.Q
open Go.RowKit YtdcfonmjbelgbaaGreatDoorW.PrintWords YtdcfonmjbelgbaaGreatDoorW.PrintLast YtdcfonmjbelgbaaGreatDoorW.PrintMore
attribute [local go_sem] max2_int min2_int max_two min_two max_three min_three max_four min_four
mutual
def sluicegateref05_Take.l0:Nat→ByteArray→Int→Int→Option (Int×ByteArray×Int)
 | 0,_,_,_=>none
 | k+1,x0,x5,x6=>if x6<(x0.size:Int)then (if x6=7 then (if 0≤x6 then (sluicegateref05_Take.j1 k x0 x5 x6 (decide ((bt x0 x6)≥128)))else (none))else (sluicegateref05_Take.j1 k x0 x5 x6 false))else (some (0,(⟨#[]⟩:ByteArray),3))
def sluicegateref05_Take.j1:Nat→ByteArray→Int→Int→Bool→Option (Int×ByteArray×Int)
 | 0,_,_,_,_=>none
 | k+1,x0,x5,x6,x20=>if x20=true then (some (0,(⟨#[]⟩:ByteArray),4))else (if 0≤x6 then (if x6<(x0.size:Int)then (if 0≤(IntKind.u64.wrap (wrap64 (7*x6)))then (if (bt x0 x6)<128 then (if (bt x0 x6)=0 then (if x6>0 then (some (0,(⟨#[]⟩:ByteArray),4))else (if 0≤(wrap64 (x6+1))then (if (wrap64 (x6+1))≤(x0.size:Int)then (some (wrap64 (x5+(shl .i64 (wrap64 (Int.tmod (bt x0 x6) 128)) (IntKind.u64.wrap (wrap64 (7*x6))))),x0.extract ((wrap64 (x6+1)):Int).toNat x0.size,0))else (none))else (none)))else (if 0≤(wrap64 (x6+1))then (if (wrap64 (x6+1))≤(x0.size:Int)then (some (wrap64 (x5+(shl .i64 (wrap64 (Int.tmod (bt x0 x6) 128)) (IntKind.u64.wrap (wrap64 (7*x6))))),x0.extract ((wrap64 (x6+1)):Int).toNat x0.size,0))else (none))else (none)))else (sluicegateref05_Take.l0 k x0 (wrap64 (x5+(shl .i64 (wrap64 (Int.tmod (bt x0 x6) 128)) (IntKind.u64.wrap (wrap64 (7*x6)))))) (wrap64 (x6+1))))else (none))else (none))else (none))
end
def sluicegateref05_Take.f (k:Nat) (a0:ByteArray):Option (Int×ByteArray×Int):=sluicegateref05_Take.l0 k a0 0 0
theorem sluicegateref05_Take.calls (k:Nat) (a0:ByteArray) (r1:Int) (r2:ByteArray) (r3:Int) (w:World) (h:sluicegateref05_Take.f k a0=some (r1,r2,r3)) :
  Calls Tryz.prog 105 #[.string a0] w fun e w'=>e = .returned (.tuple #[.int .i64 r1,.string r2,.int .i64 r3])∧Drawn0 w w':=by
 have H:(sluicegateref05_Take.l0 k a0 0 0)=some (r1,r2,r3):=h
 clear h
 have H':=Aside0.mk H
 clear H
 go_enter Tryz.func105,Tryz.ntmps105
 go_wp2
 repeat (go_quiet (fail);try go_wp2)
 go_loopg [5,6] k (fun kq v5 v6 w'=> ∃ (x5_1:Int) (x6_1:Int),v5 = .int .i64 x5_1∧v6 = .int .i64 x6_1∧Aside0 (sluicegateref05_Take.l0 kq a0 x5_1 x6_1=some (r1,r2,r3))∧Aside0 (kq≤k)∧Drawn0 w w')
 case atStart=>exact⟨(0),(0),(by first|rfl|(simp;done)|(simp[*];done)),(by first|rfl|(simp;done)|(simp[*];done)),H',⟨Nat.le_refl _⟩,by repeat (first|exact Drawn0.refl _|apply Drawn0.step)⟩
 case round=>
  clear H'
  try clear c1
  obtain⟨x5_1,x6_1,rfl,rfl,HA,HK1,⟨m1,rfl⟩⟩:=hrel
  cases gk with
  | zero=>exact absurd HA.out (by simp[sluicegateref05_Take.l0])
  | succ k1=>
   have H:=HA.out
   clear HA
   simp only[sluicegateref05_Take.l0]at H
   by_cases c2:x6_1<(a0.size:Int)
   ·rw[if_pos c2]at H
    have c2b0:decide (x6_1<(a0.size:Int))=true:=decide_eq_true c2
    clear c2
    have HC3:=Aside0.mk H
    clear H
    go_upto_region 5 with (fail)
    repeat (go_quiet (fail);go_upto_region 5 with (fail))
    go_cut [20] (fun v20 wc=> ∃ (kq:Nat) (x20_2:Bool),v20 = .bool x20_2∧Aside0 (sluicegateref05_Take.j1 kq a0 x5_1 x6_1 x20_2=some (r1,r2,r3))∧Aside0 (kq≤k1)∧Drawn0 w wc)
    case first=>
     have H:=HC3.out
     clear HC3
     by_cases c4:x6_1=7
     ·rw[if_pos c4]at H
      have c4b0:(x6_1==7)=true:=beq_iff_eq.mpr c4
      have c4b1:(x6_1 != 7)=false:=bne_eq_false_iff_eq.mpr c4
      clear c4
      (first|rw[c4b0]|(simp only[i64_w,i32_w];rw[c4b0])|skip)
      by_cases c5:0≤x6_1
      ·rw[if_pos c5]at H
       have c5b0:decide (0≤x6_1)=true:=decide_eq_true c5
       clear c5
       have H':=Aside0.mk H
       clear H
       have p6:0≤(x6_1:Int):=of_decide_eq_true (by first|(with_reducible assumption)|assumption)
       have q6:x6_1<(a0.size:Int):=of_decide_eq_true (by first|(with_reducible assumption)|assumption)
       have hx6:=bt_at a0 x6_1
       replace p6:=eq_true p6
       replace q6:=eq_true q6
       go_wp2
       repeat (go_quiet (fail);try go_wp2)
       go_meet
       case rel=>exact⟨_,(decide ((bt a0 x6_1)≥128)),(by first|rfl|(simp;done)|(simp[*];done)),H',⟨by have:=HK1.out;first|omega|exact Nat.le_refl _⟩,by repeat (first|exact Drawn0.refl _|apply Drawn0.step)⟩
      ·rw[if_neg c5]at H
       exact absurd H (by simp)
     ·rw[if_neg c4]at H
      have c4b0:(x6_1==7)=false:=beq_eq_false_iff_ne.mpr c4
      have c4b1:(x6_1 != 7)=true:=bne_iff_ne.mpr c4
      (first|rw[c4b0]|(simp only[i64_w,i32_w];rw[c4b0])|skip)
      have H':=Aside0.mk H
      clear H
      go_wp2
      repeat (go_quiet (fail);try go_wp2)
      go_meet
      case rel=>exact⟨_,(false),(by first|rfl|(simp;done)|(simp[*];done)),H',⟨by have:=HK1.out;first|omega|exact Nat.le_refl _⟩,by repeat (first|exact Drawn0.refl _|apply Drawn0.step)⟩
    case rest=>
     clear HC3
     try clear c1
     try clear c2
     try clear c2b0
     try clear p2
     try clear c4
     try clear c4b0
     try clear c4b1
     try clear c5
     try clear c5b0
     try clear p6
     try clear q6
     try clear hx6
     try clear p6
     try clear q6
     obtain⟨kq,x20_2,rfl,HA,HJ2,⟨mc2,rfl⟩⟩:=hcut
     cases kq with
     | zero=>exact absurd HA.out (by simp[sluicegateref05_Take.j1])
     | succ kj2=>
      have H:=HA.out
      clear HA
      simp only[sluicegateref05_Take.j1]at H
      by_cases c7:x20_2=true
      ·subst c7
       have H1:(some (0,(⟨#[]⟩:ByteArray),4))=some (r1,r2,r3):=by rw[if_pos rfl]at H;exact H
       clear H
       have H:=H1
       clear H1
       simp only[Option.some.injEq,Prod.mk.injEq]at H
       obtain⟨rfl,rfl,rfl⟩:=H
       go_wp2
       repeat (go_quiet (fail);try go_wp2)
       go_ret3
       exact⟨by first|rfl|(simp;done)|(simp[*];done),by repeat (first|exact Drawn0.refl _|apply Drawn0.step)⟩
      ·replace c7:=Bool.eq_false_iff.mpr c7
       subst c7
       have H1:(if 0≤x6_1 then (if x6_1<(a0.size:Int)then (if 0≤(IntKind.u64.wrap (wrap64 (7*x6_1)))then (if (bt a0 x6_1)<128 then (if (bt a0 x6_1)=0 then (if x6_1>0 then (some (0,(⟨#[]⟩:ByteArray),4))else (if 0≤(wrap64 (x6_1+1))then (if (wrap64 (x6_1+1))≤(a0.size:Int)then (some (wrap64 (x5_1+(shl .i64 (wrap64 (Int.tmod (bt a0 x6_1) 128)) (IntKind.u64.wrap (wrap64 (7*x6_1))))),a0.extract ((wrap64 (x6_1+1)):Int).toNat a0.size,0))else (none))else (none)))else (if 0≤(wrap64 (x6_1+1))then (if (wrap64 (x6_1+1))≤(a0.size:Int)then (some (wrap64 (x5_1+(shl .i64 (wrap64 (Int.tmod (bt a0 x6_1) 128)) (IntKind.u64.wrap (wrap64 (7*x6_1))))),a0.extract ((wrap64 (x6_1+1)):Int).toNat a0.size,0))else (none))else (none)))else (sluicegateref05_Take.l0 kj2 a0 (wrap64 (x5_1+(shl .i64 (wrap64 (Int.tmod (bt a0 x6_1) 128)) (IntKind.u64.wrap (wrap64 (7*x6_1)))))) (wrap64 (x6_1+1))))else (none))else (none))else (none))=some (r1,r2,r3):=by rw[if_neg (show ¬ (false=true)by decide)]at H;exact H
       clear H
       have H:=H1
       clear H1
       by_cases c8:0≤x6_1
       ·rw[if_pos c8]at H
        have c8b0:decide (0≤x6_1)=true:=decide_eq_true c8
        clear c8
        by_cases c9:x6_1<(a0.size:Int)
        ·rw[if_pos c9]at H
         have c9b0:decide (x6_1<(a0.size:Int))=true:=decide_eq_true c9
         clear c9
         obtain⟨ji11,hji11⟩ : ∃ j_:Int,(IntKind.u64.wrap (wrap64 (7*x6_1)))=j_:=⟨_,rfl⟩
         replace H:(if 0≤(ji11)then (if (bt a0 x6_1)<128 then (if (bt a0 x6_1)=0 then (if x6_1>0 then (some (0,(⟨#[]⟩:ByteArray),4))else (if 0≤(wrap64 (x6_1+1))then (if (wrap64 (x6_1+1))≤(a0.size:Int)then (some (wrap64 (x5_1+(shl .i64 (wrap64 (Int.tmod (bt a0 x6_1) 128)) (ji11))),a0.extract ((wrap64 (x6_1+1)):Int).toNat a0.size,0))else (none))else (none)))else (if 0≤(wrap64 (x6_1+1))then (if (wrap64 (x6_1+1))≤(a0.size:Int)then (some (wrap64 (x5_1+(shl .i64 (wrap64 (Int.tmod (bt a0 x6_1) 128)) (ji11))),a0.extract ((wrap64 (x6_1+1)):Int).toNat a0.size,0))else (none))else (none)))else (sluicegateref05_Take.l0 kj2 a0 (wrap64 (x5_1+(shl .i64 (wrap64 (Int.tmod (bt a0 x6_1) 128)) (ji11)))) (wrap64 (x6_1+1))))else (none))=some (r1,r2,r3):=by first|(rw[hji11]at H;exact H)|(simp only[hji11]at H ⊢;exact H)
         by_cases c12:0≤(ji11)
         ·rw[if_pos c12]at H
          have c12b0:=eq_true c12
          have c12b1:decide (0≤(ji11))=true:=decide_eq_true c12
          clear c12
          obtain⟨ji13,hji13⟩ : ∃ j_:Int,(shl .i64 (wrap64 (Int.tmod (bt a0 x6_1) 128)) (ji11))=j_:=⟨_,rfl⟩
          replace H:(if (bt a0 x6_1)<128 then (if (bt a0 x6_1)=0 then (if x6_1>0 then (some (0,(⟨#[]⟩:ByteArray),4))else (if 0≤(wrap64 (x6_1+1))then (if (wrap64 (x6_1+1))≤(a0.size:Int)then (some (wrap64 (x5_1+(ji13)),a0.extract ((wrap64 (x6_1+1)):Int).toNat a0.size,0))else (none))else (none)))else (if 0≤(wrap64 (x6_1+1))then (if (wrap64 (x6_1+1))≤(a0.size:Int)then (some (wrap64 (x5_1+(ji13)),a0.extract ((wrap64 (x6_1+1)):Int).toNat a0.size,0))else (none))else (none)))else (sluicegateref05_Take.l0 kj2 a0 (wrap64 (x5_1+(ji13))) (wrap64 (x6_1+1))))=some (r1,r2,r3):=by first|(rw[hji13]at H;exact H)|(simp only[hji13]at H ⊢;exact H)
          have hji13_:(IntKind.i64.wrap ((wrap64 (Int.tmod (bt a0 x6_1) 128))*2 ^ min (ji11).toNat 64))=ji13:=hji13
          have hji13z:(ji11)≤64→(IntKind.i64.wrap ((wrap64 (Int.tmod (bt a0 x6_1) 128))*2 ^ (ji11).toNat))=ji13:=shl_small hji13
          have hji13y:(wrap64 ((wrap64 (Int.tmod (bt a0 x6_1) 128))*2 ^ min (ji11).toNat 64))=ji13:=(i64_w _).symm.trans hji13_
          have hji13x:(ji11)≤64→(wrap64 ((wrap64 (Int.tmod (bt a0 x6_1) 128))*2 ^ (ji11).toNat))=ji13:=fun h_=>(i64_w _).symm.trans (hji13z h_)
          by_cases c15:(bt a0 x6_1)<128
          ·rw[if_pos c15]at H
           have c15b0:decide ((bt a0 x6_1)<128)=true:=decide_eq_true c15
           clear c15
           by_cases c17:(bt a0 x6_1)=0
           ·rw[if_pos c17]at H
            have c17b0:((bt a0 x6_1)==0)=true:=beq_iff_eq.mpr c17
            have c17b1:((bt a0 x6_1) != 0)=false:=bne_eq_false_iff_eq.mpr c17
            clear c17
            by_cases c18:x6_1>0
            ·rw[if_pos c18]at H
             have c18b0:decide (0<x6_1)=true:=decide_eq_true c18
             clear c18
             simp only[Option.some.injEq,Prod.mk.injEq]at H
             obtain⟨rfl,rfl,rfl⟩:=H
             have p10:0≤(x6_1:Int):=of_decide_eq_true (by first|(with_reducible assumption)|assumption)
             have q10:x6_1<(a0.size:Int):=of_decide_eq_true (by first|(with_reducible assumption)|assumption)
             have hx10:=bt_at a0 x6_1
             replace p10:=eq_true p10
             replace q10:=eq_true q10
             have p14:0≤(x6_1:Int):=of_decide_eq_true (by first|(with_reducible assumption)|assumption)
             have q14:x6_1<(a0.size:Int):=of_decide_eq_true (by first|(with_reducible assumption)|assumption)
             have hx14:=bt_at a0 x6_1
             replace p14:=eq_true p14
             replace q14:=eq_true q14
             have p16:0≤(x6_1:Int):=of_decide_eq_true (by first|(with_reducible assumption)|assumption)
             have q16:x6_1<(a0.size:Int):=of_decide_eq_true (by first|(with_reducible assumption)|assumption)
             have hx16:=bt_at a0 x6_1
             replace p16:=eq_true p16
             replace q16:=eq_true q16
             go_wp2
             repeat (go_quiet (fail);try go_wp2)
             go_ret3
             exact⟨by first|rfl|(simp;done)|(simp only[←hji11,←hji13]<;>(first|rfl|simp))|(simp[*];done),by repeat (first|exact Drawn0.refl _|apply Drawn0.step)⟩
            ·rw[if_neg c18]at H
             have c18b0:decide (0<x6_1)=false:=decide_eq_false c18
             clear c18
             obtain⟨ji19,hji19⟩ : ∃ j_:Int,(wrap64 (x6_1+1))=j_:=⟨_,rfl⟩
             replace H:(if 0≤(ji19)then (if (ji19)≤(a0.size:Int)then (some (wrap64 (x5_1+(ji13)),a0.extract ((ji19):Int).toNat a0.size,0))else (none))else (none))=some (r1,r2,r3):=by first|(rw[hji19]at H;exact H)|(simp only[hji19]at H ⊢;exact H)
             have hji19w:(IntKind.i64.wrap (x6_1+1))=ji19:=(i64_w _).trans hji19
             by_cases c20:0≤(ji19)
             ·rw[if_pos c20]at H
              have c20b0:=eq_true c20
              have c20b1:decide (0≤(ji19))=true:=decide_eq_true c20
              clear c20
              by_cases c21:(ji19)≤(a0.size:Int)
              ·rw[if_pos c21]at H
               have c21b0:=eq_true c21
               have c21b1:decide ((ji19)≤(a0.size:Int))=true:=decide_eq_true c21
               clear c21
               simp only[Option.some.injEq,Prod.mk.injEq]at H
               obtain⟨rfl,rfl,rfl⟩:=H
               have p10:0≤(x6_1:Int):=of_decide_eq_true (by first|(with_reducible assumption)|assumption)
               have q10:x6_1<(a0.size:Int):=of_decide_eq_true (by first|(with_reducible assumption)|assumption)
               have hx10:=bt_at a0 x6_1
               replace p10:=eq_true p10
               replace q10:=eq_true q10
               have p14:0≤(x6_1:Int):=of_decide_eq_true (by first|(with_reducible assumption)|assumption)
               have q14:x6_1<(a0.size:Int):=of_decide_eq_true (by first|(with_reducible assumption)|assumption)
               have hx14:=bt_at a0 x6_1
               replace p14:=eq_true p14
               replace q14:=eq_true q14
               have p16:0≤(x6_1:Int):=of_decide_eq_true (by first|(with_reducible assumption)|assumption)
               have q16:x6_1<(a0.size:Int):=of_decide_eq_true (by first|(with_reducible assumption)|assumption)
               have hx16:=bt_at a0 x6_1
               replace p16:=eq_true p16
               replace q16:=eq_true q16
               go_wp2
               repeat (go_quiet (fail);try go_wp2)
               go_ret3
               exact⟨by first|rfl|(simp;done)|(simp only[←hji11,←hji13,←hji19]<;>(first|rfl|simp))|(simp[*];done),by repeat (first|exact Drawn0.refl _|apply Drawn0.step)⟩
              ·rw[if_neg c21]at H
               exact absurd H (by simp)
             ·rw[if_neg c20]at H
              exact absurd H (by simp)
           ·rw[if_neg c17]at H
            have c17b0:((bt a0 x6_1)==0)=false:=beq_eq_false_iff_ne.mpr c17
            have c17b1:((bt a0 x6_1) != 0)=true:=bne_iff_ne.mpr c17
            obtain⟨ji22,hji22⟩ : ∃ j_:Int,(wrap64 (x6_1+1))=j_:=⟨_,rfl⟩
            replace H:(if 0≤(ji22)then (if (ji22)≤(a0.size:Int)then (some (wrap64 (x5_1+(ji13)),a0.extract ((ji22):Int).toNat a0.size,0))else (none))else (none))=some (r1,r2,r3):=by first|(rw[hji22]at H;exact H)|(simp only[hji22]at H ⊢;exact H)
            have hji22w:(IntKind.i64.wrap (x6_1+1))=ji22:=(i64_w _).trans hji22
            by_cases c23:0≤(ji22)
            ·rw[if_pos c23]at H
             have c23b0:=eq_true c23
             have c23b1:decide (0≤(ji22))=true:=decide_eq_true c23
             clear c23
             by_cases c24:(ji22)≤(a0.size:Int)
             ·rw[if_pos c24]at H
              have c24b0:=eq_true c24
              have c24b1:decide ((ji22)≤(a0.size:Int))=true:=decide_eq_true c24
              clear c24
              simp only[Option.some.injEq,Prod.mk.injEq]at H
              obtain⟨rfl,rfl,rfl⟩:=H
              have p10:0≤(x6_1:Int):=of_decide_eq_true (by first|(with_reducible assumption)|assumption)
              have q10:x6_1<(a0.size:Int):=of_decide_eq_true (by first|(with_reducible assumption)|assumption)
              have hx10:=bt_at a0 x6_1
              replace p10:=eq_true p10
              replace q10:=eq_true q10
              have p14:0≤(x6_1:Int):=of_decide_eq_true (by first|(with_reducible assumption)|assumption)
              have q14:x6_1<(a0.size:Int):=of_decide_eq_true (by first|(with_reducible assumption)|assumption)
              have hx14:=bt_at a0 x6_1
              replace p14:=eq_true p14
              replace q14:=eq_true q14
              have p16:0≤(x6_1:Int):=of_decide_eq_true (by first|(with_reducible assumption)|assumption)
              have q16:x6_1<(a0.size:Int):=of_decide_eq_true (by first|(with_reducible assumption)|assumption)
              have hx16:=bt_at a0 x6_1
              replace p16:=eq_true p16
              replace q16:=eq_true q16
              go_wp2
              repeat (go_quiet (fail);try go_wp2)
              go_ret3
              exact⟨by first|rfl|(simp;done)|(simp only[←hji11,←hji13,←hji22]<;>(first|rfl|simp))|(simp[*];done),by repeat (first|exact Drawn0.refl _|apply Drawn0.step)⟩
             ·rw[if_neg c24]at H
              exact absurd H (by simp)
            ·rw[if_neg c23]at H
             exact absurd H (by simp)
          ·rw[if_neg c15]at H
           have c15b0:decide ((bt a0 x6_1)<128)=false:=decide_eq_false c15
           clear c15
           have H':=Aside0.mk H
           clear H
           have p10:0≤(x6_1:Int):=of_decide_eq_true (by first|(with_reducible assumption)|assumption)
           have q10:x6_1<(a0.size:Int):=of_decide_eq_true (by first|(with_reducible assumption)|assumption)
           have hx10:=bt_at a0 x6_1
           replace p10:=eq_true p10
           replace q10:=eq_true q10
           have p14:0≤(x6_1:Int):=of_decide_eq_true (by first|(with_reducible assumption)|assumption)
           have q14:x6_1<(a0.size:Int):=of_decide_eq_true (by first|(with_reducible assumption)|assumption)
           have hx14:=bt_at a0 x6_1
           replace p14:=eq_true p14
           replace q14:=eq_true q14
           go_wp2
           repeat (go_quiet (fail);try go_wp2)
           go_roundg kj2
           case measure=>have:=HK1.out;have:=HJ2.out;omega
           case rel=>exact⟨(wrap64 (x5_1+(ji13))),(wrap64 (x6_1+1)),(by first|rfl|(simp;done)|(simp only[←hji13]<;>(first|rfl|simp))|(simp[*];done)),(by first|rfl|(simp;done)|(simp[*];done)),H',⟨by have:=HK1.out;have:=HJ2.out;omega⟩,by repeat (first|exact Drawn0.refl _|apply Drawn0.step)⟩
         ·rw[if_neg c12]at H
          exact absurd H (by simp)
        ·rw[if_neg c9]at H
         exact absurd H (by simp)
       ·rw[if_neg c8]at H
        exact absurd H (by simp)
   ·rw[if_neg c2]at H
    have c2b0:decide (x6_1<(a0.size:Int))=false:=decide_eq_false c2
    clear c2
    simp only[Option.some.injEq,Prod.mk.injEq]at H
    obtain⟨rfl,rfl,rfl⟩:=H
    go_wp2
    repeat (go_quiet (fail);try go_wp2)
    go_ret3
    exact⟨by first|rfl|(simp;done)|(simp[*];done),by repeat (first|exact Drawn0.refl _|apply Drawn0.step)⟩
def IsS132 (w0 W:World) (g:Nat) (f0:ByteArray) (f1:Int):Prop:=W.heap[g]? = some (.cells #[.string f0,.int .i64 f1] 132 (0,0))∧w0.heap.size≤g
theorem IsS132.grown {w0 W:World} {g:Nat} {f0:ByteArray} {f1:Int} {W1:World} {row:Option Nat} (h:IsS132 w0 W g f0 f1) (hw:W.grownBy W1 row) (hne:some g≠row):IsS132 w0 W1 g f0 f1:=by
 obtain⟨hb,hg⟩:=h
 exact⟨blk_grown hb hw hne,hg⟩
theorem IsS132.below {w0 W:World} {g:Nat} {f0:ByteArray} {f1:Int} {W1:World} (h:IsS132 w0 W g f0 f1) (hw:Below W.heap.size W W1):IsS132 w0 W1 g f0 f1:=h.grown (grown_of_below hw none) (by simp)
theorem IsS132.alloc {w0 W:World} {g:Nat} {f0:ByteArray} {f1:Int} (h:IsS132 w0 W g f0 f1) (o:Obj):IsS132 w0 (W.alloc o) g f0 f1:=h.below (below_alloc (Below.refl _ _) o)
theorem IsS132.drewN {w0 W:World} {g:Nat} {f0:ByteArray} {f1:Int} (h:IsS132 w0 W g f0 f1) (m:Nat):IsS132 w0 (W.drewN m) g f0 f1:=h
theorem IsS132.drew {w0 W:World} {g:Nat} {f0:ByteArray} {f1:Int} (h:IsS132 w0 W g f0 f1):IsS132 w0 W.drew g f0 f1:=h
theorem IsS132.ge {w0 W:World} {g:Nat} {f0:ByteArray} {f1:Int} (h:IsS132 w0 W g f0 f1):w0.heap.size≤g:=by
 obtain⟨hb,hg⟩:=h
 exact hg
theorem cellS132_0 {W:World} {g:Nat} {f0:ByteArray} {f1:Int} (h:W.heap[g]? = some (.cells #[.string f0,.int .i64 f1] 132 (0,0))):W.cell? ⟨g,0,none⟩=some (.string f0):=(blk_cell h 0).trans rfl
theorem IsS132.set_0 {w0 W:World} {g:Nat} {f0:ByteArray} {f1:Int} (h:IsS132 w0 W g f0 f1) (x:ByteArray):IsS132 w0 (W.setCell ⟨g,0,none⟩ (.string x)) g x f1:=by
 obtain⟨hb,hg⟩:=h
 exact⟨by simpa using blk_set hb 0 (.string x),hg⟩
theorem cellS132_1 {W:World} {g:Nat} {f0:ByteArray} {f1:Int} (h:W.heap[g]? = some (.cells #[.string f0,.int .i64 f1] 132 (0,0))):W.cell? ⟨g,1,none⟩=some (.int .i64 f1):=(blk_cell h 1).trans rfl
theorem IsS132.set_1 {w0 W:World} {g:Nat} {f0:ByteArray} {f1:Int} (h:IsS132 w0 W g f0 f1) (x:Int):IsS132 w0 (W.setCell ⟨g,1,none⟩ (.int .i64 x)) g f0 x:=by
 obtain⟨hb,hg⟩:=h
 exact⟨by simpa using blk_set hb 1 (.int .i64 x),hg⟩
def sluicegateref05_Reader_End.f (s0_0:ByteArray) (s0_1:Int):Option (Int×ByteArray×Int):=if s0_1=0 then (if s0_0.toList=([]:List UInt8)then (some (s0_1,s0_0,s0_1))else (some (4,s0_0,4)))else (some (s0_1,s0_0,s0_1))
theorem sluicegateref05_Reader_End.calls (g:Nat) (s0_0:ByteArray) (s0_1:Int) (r1:Int) (r2:ByteArray) (r3:Int) (w0 w:World) (hI:IsS132 w0 w g s0_0 s0_1) (hB:Below w0.heap.size w0 w) (h:sluicegateref05_Reader_End.f s0_0 s0_1=some (r1,r2,r3)) :
  Calls Tryz.prog 82 #[.pointer (some ⟨g,0,none⟩)] w fun e w'=>e = .returned (.int .i64 r1)∧IsS132 w0 w' g r2 r3∧Below w0.heap.size w0 w'∧KeepBut w w' g none:=by
 have HI0:=Aside0.mk hI
 have HK:=Aside0.mk (KeepBut.refl w g none)
 have HL:=Aside0.mk hB.size
 clear hI
 have HW0:=Aside0.mk hB.size
 have HB:=Aside0.mk hB
 clear hB
 have H:(if s0_1=0 then (if s0_0.toList=([]:List UInt8)then (some (s0_1,s0_0,s0_1))else (some (4,s0_0,4)))else (some (s0_1,s0_0,s0_1)))=some (r1,r2,r3):=h
 clear h
 by_cases c2:s0_1=0
 ·rw[if_pos c2]at H
  have c2b0:(s0_1==0)=true:=beq_iff_eq.mpr c2
  have c2b1:(s0_1 != 0)=false:=bne_eq_false_iff_eq.mpr c2
  clear c2
  by_cases c3:s0_0.toList=([]:List UInt8)
  ·rw[if_pos c3]at H
   have c3b0:(s0_0.toList==([]:List UInt8))=true:=beq_iff_eq.mpr c3
   have c3b1:(s0_0.toList != ([]:List UInt8))=false:=bne_eq_false_iff_eq.mpr c3
   clear c3
   simp only[Option.some.injEq,Prod.mk.injEq]at H
   obtain⟨rfl,rfl,rfl⟩:=H
   obtain⟨HGz4,hgz4⟩:=HI0.out
   have hcz4_0:=cellS132_0 HGz4
   have hcz4_1:=cellS132_1 HGz4
   have hfz4_0:=blk_frozen HGz4 0
   have hfz4_1:=blk_frozen HGz4 1
   clear HGz4 hgz4
   go_enter Tryz.func82,Tryz.ntmps82
   go_wp2
   go_ret
   exact⟨by first|rfl|(simp[errW_none,errW_some]<;>rfl)|(simp[*,errW_none,errW_some]<;>rfl),by repeat (first|(with_reducible first|exact HI0.out|apply IsS132.alloc|apply IsS132.drewN|apply IsS132.drew|apply IsS132.set_0|apply IsS132.set_1)|exact HI0.out),by repeat (first|(with_reducible first|exact HB.out|apply below_alloc|apply pw_below_drewN|apply below_drew1|refine below_set ?_ (IsS132.ge HI0.out))|exact HB.out),by repeat (first|(with_reducible first|exact HK.out|apply KeepBut.set_|apply keep_drewN|apply keep_drew|apply keep_alloc)|exact HK.out)⟩
  ·rw[if_neg c3]at H
   have c3b0:(s0_0.toList==([]:List UInt8))=false:=beq_eq_false_iff_ne.mpr c3
   have c3b1:(s0_0.toList != ([]:List UInt8))=true:=bne_iff_ne.mpr c3
   simp only[Option.some.injEq,Prod.mk.injEq]at H
   obtain⟨rfl,rfl,rfl⟩:=H
   obtain⟨HGz5,hgz5⟩:=HI0.out
   have hcz5_0:=cellS132_0 HGz5
   have hcz5_1:=cellS132_1 HGz5
   have hfz5_0:=blk_frozen HGz5 0
   have hfz5_1:=blk_frozen HGz5 1
   clear HGz5 hgz5
   go_enter Tryz.func82,Tryz.ntmps82
   go_wp2
   go_ret
   exact⟨by first|rfl|(simp[errW_none,errW_some]<;>rfl)|(simp[*,errW_none,errW_some]<;>rfl),by repeat (first|(with_reducible first|exact HI0.out|apply IsS132.alloc|apply IsS132.drewN|apply IsS132.drew|apply IsS132.set_0|apply IsS132.set_1)|exact HI0.out),by repeat (first|(with_reducible first|exact HB.out|apply below_alloc|apply pw_below_drewN|apply below_drew1|refine below_set ?_ (IsS132.ge HI0.out))|exact HB.out),by repeat (first|(with_reducible first|exact HK.out|apply KeepBut.set_|apply keep_drewN|apply keep_drew|apply keep_alloc)|exact HK.out)⟩
 ·rw[if_neg c2]at H
  have c2b0:(s0_1==0)=false:=beq_eq_false_iff_ne.mpr c2
  have c2b1:(s0_1 != 0)=true:=bne_iff_ne.mpr c2
  simp only[Option.some.injEq,Prod.mk.injEq]at H
  obtain⟨rfl,rfl,rfl⟩:=H
  obtain⟨HGz6,hgz6⟩:=HI0.out
  have hcz6_0:=cellS132_0 HGz6
  have hcz6_1:=cellS132_1 HGz6
  have hfz6_0:=blk_frozen HGz6 0
  have hfz6_1:=blk_frozen HGz6 1
  clear HGz6 hgz6
  go_enter Tryz.func82,Tryz.ntmps82
  go_wp2
  go_ret
  exact⟨by first|rfl|(simp[errW_none,errW_some]<;>rfl)|(simp[*,errW_none,errW_some]<;>rfl),by repeat (first|(with_reducible first|exact HI0.out|apply IsS132.alloc|apply IsS132.drewN|apply IsS132.drew|apply IsS132.set_0|apply IsS132.set_1)|exact HI0.out),by repeat (first|(with_reducible first|exact HB.out|apply below_alloc|apply pw_below_drewN|apply below_drew1|refine below_set ?_ (IsS132.ge HI0.out))|exact HB.out),by repeat (first|(with_reducible first|exact HK.out|apply KeepBut.set_|apply keep_drewN|apply keep_drew|apply keep_alloc)|exact HK.out)⟩
end Go.Proofs.YtdcfonmjbelgbaaGreatDoor.Q
end
section
namespace Go.Proofs.YtdcfonmjbelgbaaGreatDoor
open Go.RowKit Q YtdcfonmjbelgbaaGreatDoorW.PrintWords YtdcfonmjbelgbaaGreatDoorW.PrintLast YtdcfonmjbelgbaaGreatDoorW.PrintMore
theorem infoStr:(Tryz.prog.info? 9).map (fun i=>(i.zero,i.size,i.bytes))=some (some (.string ⟨#[]⟩),1,16):=by kernel_rfl
abbrev RS (base:Nat) (v:Value) (l:List ByteArray) (w:World):Prop:=Kd.R Kd.string 9 w base (fun k=>base≤k) v l
theorem RS.keep {base:Nat} {v:Value} {l:List ByteArray} {w w':World} (h:RS base v l w) (b:Below w.heap.size w w'):RS base v l w':=Kd.R_below h b
def encR (l:List ByteArray):List ByteArray×Int:=if l.length=6∧evenB l=true then (encL l,0)else ([],1)
def Told (base:Nat) (r:List ByteArray×Int) (w:World) (e:Ending) (w':World):Prop:=
 ∃ A c,e = .returned (.tuple #[.slice A r.1.length c,.int .i64 r.2])∧RS base (.slice A r.1.length c) r.1 w'∧Below base w w'
theorem frow_le (i:Nat) : ∀ x∈frow i,x≤255:=by
 intro x hx
 obtain⟨j,_,rfl⟩:=List.mem_map.1 hx
 exact fac_le i j
theorem frow_len (i:Nat):(frow i).length=6:=by simp[frow]
def encKc (l:List ByteArray) (k:Nat):List ByteArray:=(List.range k).map fun i=>mixS (frow i) l
theorem encKc_succ (l:List ByteArray) (k:Nat):encKc l k++[mixS (frow k) l]=encKc l (k+1):=by
 unfold encKc
 rw[List.range_succ,List.map_append]
 rfl
theorem encKc_len (l:List ByteArray) (k:Nat):(encKc l k).length=k:=by simp[encKc]
theorem row_told (g i:Nat) (hi:i≤8) (w:World) (hI:IsTab w g):Calls Tryz.prog 43 #[.pointer (some ⟨g,0,none⟩),.int .i64 (i:Int)] w fun e w'=> ∃ b,e = .returned (.slice (some ⟨b,0,none⟩) 6 6)∧RowN w' b (frow i)∧w.heap.size≤b∧Below w.heap.size w w':=by
 refine(row_calls g i hi w hI).mono ?_
 rintro e w' ⟨rfl,h1,h2⟩
 exact⟨_,rfl,h1,Nat.le_refl _,h2⟩
theorem mix_row (g b:Nat) (i:Nat) (A:Option Addr) (c:Nat) (l:List ByteArray) (w:World) (hI:IsTab w g) (hF:RowN w b (frow i)) (hC:Kd.C Kd.string w A l.length l) (hc:l.length≤c) (h6:l.length=6) (he:evenB l=true) (hz : ∀ s∈l,s.size≤140737488355328) :
  Calls Tryz.prog 42 #[.pointer (some ⟨g,0,none⟩),.slice (some ⟨b,0,none⟩) 6 6,.slice A l.length c] w fun e w'=>e = .returned (.string (mixS (frow i) l))∧Below w.heap.size w w':=by
 have h0:0<l.length:=by omega
 have:=mix_calls g b 6 (frow i) A c l (wid l) w hI hF (frow_le i) (by rw[frow_len];omega) (by rw[frow_len];omega) hC hc h0 (fun s hs=>evenB_size he hs) (by unfold wid;rw[strAt_eq h0];exact hz _ (List.getElem_mem h0))
 rw[frow_len]at this
 exact this
theorem encode_calls (g:Nat) (A:Option Addr) (c:Nat) (l:List ByteArray) (w:World) (hI:IsTab w g) (hC:Kd.C Kd.string w A l.length l) (hc:l.length≤c) (hz : ∀ s∈l,s.size≤140737488355328) :
  Calls Tryz.prog 27 #[.pointer (some ⟨g,0,none⟩),.slice A l.length c] w (Told w.heap.size (encR l) w):=by
 have HI:=Aside0.mk hI
 have HC:=Aside0.mk hC
 have HZ:=Aside0.mk hz
 have HL:=Lib.hid hc
 have hmx:l.length≤9223372036854775807:=Kd.C_max hC
 have HE:=even_calls A c l w hC hc
 clear hI hC hz hc
 go_enter Tryz.func27,Tryz.ntmps27
 by_cases h6:l.length=6
 ·have h6n:((l.length:Int) != 6)=false:=by rw[h6];rfl
  have H6:=Lib.hid h6
  clear h6
  cases he:evenB l with
  | false=>
   rw[he]at HE
   have HR:=Lib.hid (show encR l=([],1)by unfold encR;rw[if_neg (by rw[he];simp)])
   clear he
   go_wp2_with (go_at_call 41;refine HE.mono ?_;rintro e w' ⟨rfl,hb⟩)
   go_ret2
   exact⟨none,0,by rw[HR.out];rfl,by rw[HR.out];exact Kd.R_nil _ _ _ _ _,hb⟩
  | true=>
   rw[he]at HE
   have HV:=Lib.hid he
   have HR:=Lib.hid (show encR l=(encL l,0)by unfold encR;rw[if_pos ⟨H6.out,he⟩])
   clear he
   go_wp2_with (go_at_call 41;refine HE.mono ?_;rintro e w' ⟨rfl,hb⟩)
   have G2:=Aside0.mk hb
   clear hb h6n
   have G1:Aside0 (RS w.heap.size (.slice none 0 0) (encKc l 0) w'):=⟨Kd.R_nil _ _ _ _ _⟩
   go_loopw [6,20] (fun v i wr=> ∃ k:Nat,k≤9∧i = .int .i64 k∧Aside0 (RS w.heap.size v (encKc l k) wr)∧Aside0 (Below w.heap.size w wr)) (fun _ i _=>9-(intOf i).toNat)
   case atStart=>exact⟨0,by omega,rfl,G1,G2⟩
   case round=>
    clear G1 G2
    obtain⟨k,hk,rfl,G1,G2⟩:=hrel
    by_cases hlt:k<9
    ·have HK:=Lib.hid hlt
     go_wp2_with (first|(go_at_call 43;refine(row_told g k (by have:=HK.out;omega) _ (HI.out.below G2.out)).mono ?_;rintro e w1 ⟨b,rfl,hF,hbg,hb⟩;have HF:=Aside0.mk hF;have G1:=Aside0.mk (G1.out.keep hb);have G2:=Aside0.mk (below2 G2.out G2.out.size hb);clear hF hb hbg)|(go_at_call 42;refine(mix_row g b k A c l _ (HI.out.below G2.out) HF.out (Kd.C_below HC.out G2.out) HL.out H6.out HV.out HZ.out).mono ?_;rintro e w2 ⟨rfl,hb⟩;have G1:=Aside0.mk (G1.out.keep hb);have G2:=Aside0.mk (below2 G2.out G2.out.size hb);clear hb)|(at_builtin;refine Kd.R_append Kd.string (w0:=w) w.heap.size rfl (.tmp 23) (.tmp 30) 27 9 (.string ⟨#[]⟩) 16 rfl Tryz.underlying27 infoStr rfl (by decide) (by decide) u6 (encKc l k) (mixS (frow k) l) [.string (mixS (frow k) l)] (fun j=>w.heap.size≤j) (fun _=>False) rfl rfl rfl (fun _ hk=>hk.elim) (fun j hj=>Nat.le_trans G2.out.size hj) G1.out G2.out G2.out.size (by rw[encKc_len];have:=HK.out;omega) ?_;intro v1 w3 hR hB hg _;rw[encKc_succ]at hR;have G1:=Aside0.mk hR;have G2:=Aside0.mk hB;clear hR hB hg))
     go_roundw
     case rel=>exact⟨k+1,HK.out,by go_num,G1,G2⟩
     case measure=>have:=HK.out;simp[intOf];omega
    ·obtain rfl:k=9:=by omega
     have G1:=Aside0.mk (show RS w.heap.size u6 (encL l) wr from G1.out)
     obtain⟨A',c',hv⟩:=Kd.R_slice G1.out
     subst hv
     rw[encL_len]at G1
     go_wp2_with fail
     go_ret2
     exact⟨A',c',by rw[HR.out];simp only[encL_len];rfl,by rw[HR.out];simp only[encL_len];exact G1.out,G2.out⟩
 ·have h6n:((l.length:Int) != 6)=true:=by rw[bne_iff_ne];omega
  have HR:=Lib.hid (show encR l=([],1)by unfold encR;rw[if_neg (fun h=>h6 h.1)])
  have h6:=Lib.hid h6
  go_wp2_with fail
  go_ret2
  exact⟨none,0,by rw[HR.out];rfl,by rw[HR.out];exact Kd.R_nil _ _ _ _ _,Below.refl _ _⟩
end Go.Proofs.YtdcfonmjbelgbaaGreatDoor
end
section
namespace Go.Proofs.YtdcfonmjbelgbaaGreatDoor
open Go.RowKit Q YtdcfonmjbelgbaaGreatDoorW.PrintWords YtdcfonmjbelgbaaGreatDoorW.PrintLast YtdcfonmjbelgbaaGreatDoorW.PrintMore
def Bys (w:World) (g:Nat) (xs:List Nat):Prop:=g<w.heap.size ∧ ∀ i,i<xs.length→w.cell? ⟨g,i,none⟩=some (.int .u8 (xs.getD i 0:Nat))
theorem RowN.bys {w:World} {g:Nat} {xs:List Nat} (h:RowN w g xs):Bys w g xs:=⟨h.lt,fun i hi=>h.cell i hi⟩
theorem Bys.at' {w w':World} {g:Nat} {xs:List Nat} (h:Bys w g xs) (hs:w.heap.size≤w'.heap.size) (hb:w'.heap[g]? = w.heap[g]?):Bys w' g xs:=⟨Nat.lt_of_lt_of_le h.1 hs,fun i hi=>by rw[←h.2 i hi];simp only[World.cell?];rw[hb]⟩
def addK (ts bs:List Nat) (x k:Nat):List Nat:=(List.range 6).map fun p=>if p<k then ts.getD p 0 ^^^ tim (bs.getD p 0) x else ts.getD p 0
theorem addK_len (ts bs:List Nat) (x k:Nat):(addK ts bs x k).length=6:=by simp[addK]
theorem list6 {ts:List Nat} (h:ts.length=6):(List.range 6).map (fun p=>ts.getD p 0)=ts:=by
 apply List.ext_getElem
 ·simp[h]
 ·intro i h1 h2
  simp[List.getD_eq_getElem?_getD,h2]
theorem addK_zero (ts bs:List Nat) (x:Nat) (h:ts.length=6):addK ts bs x 0=ts:=by
 refine Eq.trans ?_ (list6 h)
 unfold addK
 refine List.map_congr_left fun p _=> ?_
 rw[if_neg (Nat.not_lt_zero p)]
theorem addK_all (ts bs:List Nat) (x:Nat) (h:ts.length=6) (h':bs.length=6):addK ts bs x 6=addR ts bs x:=by
 apply List.ext_getElem
 ·simp[addK,addR,h,h']
 ·intro i h1 h2
  rw[addK_len]at h1
  have e1:ts.getD i 0=ts[i]:=by simp[List.getD_eq_getElem?_getD,h,h1]
  have e2:bs.getD i 0=bs[i]:=by simp[List.getD_eq_getElem?_getD,h',h1]
  simp only[addK,addR,List.getElem_map,List.getElem_range,List.getElem_zipWith,if_pos h1,e1,e2]
theorem addK_get (ts bs:List Nat) (x k:Nat) (hk:k<6):(addK ts bs x k).getD k 0=ts.getD k 0:=by
 rw[List.getD_eq_getElem?_getD]
 simp[addK,hk]
theorem addK_set (ts bs:List Nat) (x k:Nat) (_hk:k<6):(addK ts bs x k).set k (ts.getD k 0 ^^^ tim (bs.getD k 0) x)=addK ts bs x (k+1):=by
 apply List.ext_getElem
 ·simp[addK]
 ·intro i h1 h2
  rw[List.length_set,addK_len]at h1
  rw[List.getElem_set]
  by_cases hik:k=i
  ·subst hik
   simp[addK]
  ·rw[if_neg hik]
   by_cases h3:i<k
   ·simp[addK,h3,show i<k+1 by omega]
   ·simp[addK,h3,show ¬ i<k+1 by omega]
theorem RowN.grown {w w':World} {g:Nat} {xs:List Nat} {row:Option Nat} (h:RowN w g xs) (hg:w.grownBy w' row) (hne:some g≠row):RowN w' g xs:=(hg.block g h.lt hne).trans h
theorem grown_set (w:World) (g i:Nat) (v:Value):w.grownBy (w.setCell ⟨g,i,none⟩ v) (some g):=⟨rfl,rfl,rfl,by simp,fun k _ hk=>Below.heap_setCell w ⟨g,i,none⟩ v k (fun e=>hk (by rw[e]))⟩
theorem grown_below {w w':World} (b:Below w.heap.size w w') (r:Option Nat):w.grownBy w' r:=⟨b.os,b.tape,b.output,b.size,fun k hk _=>b.block k hk⟩
theorem add_calls (g Bt gt gb cb:Nat) (ts bs:List Nat) (x:Nat) (w:World) (hI:IsTab w g) (hB:w.cell? ⟨Bt,0,none⟩=some (.pointer (some ⟨g,0,none⟩))) (hne2:Bt≠gt) (hne3:g≠gt) (ht:RowN w gt ts) (hb:Bys w gb bs) (hne:gb≠gt) (h6:ts.length=6) (h6':bs.length=6) (hts : ∀ y∈ts,y≤255) (hbs : ∀ y∈bs,y≤255) (hx:x≤255) (hcb:6≤cb) :
  Calls Tryz.prog 95 #[.slice (some ⟨gt,0,none⟩) 6 6,.slice (some ⟨gb,0,none⟩) 6 cb,.int .u8 (x:Int),.pointer (some ⟨Bt,0,none⟩)] w fun e w'=>e = .returned (.tuple #[])∧RowN w' gt (addR ts bs x)∧w.grownBy w' (some gt):=by
 have HI:=Aside0.mk hI
 have HB:=Lib.hid hB
 have N2:=Lib.hid hne2
 have N3:=Lib.hid hne3
 have NE:=Lib.hid hne
 have G1:Aside0 (RowN w gt (addK ts bs x 0)):=⟨by rw[addK_zero _ _ _ h6];exact ht⟩
 have G2:Aside0 (w.grownBy w (some gt)):=⟨grown_below (Below.refl _ _) _⟩
 have HBY:=Aside0.mk hb
 have L1:=Lib.hid h6
 have L2:=Lib.hid h6'
 have T1:=Aside0.mk hts
 have T2:=Aside0.mk hbs
 clear hI hB hne2 hne3 hne ht hb h6 h6' hts hbs
 go_enter Tryz.func95,Tryz.ntmps95
 go_wp2_with fail
 go_loopw [10] (fun i wr=> ∃ k:Nat,k≤6∧i = .int .i64 k∧Aside0 (RowN wr gt (addK ts bs x k))∧Aside0 (w.grownBy wr (some gt))) (fun i _=>6-(intOf i).toNat)
 case atStart=>exact⟨0,by omega,rfl,G1,G2⟩
 case round=>
  clear G1 G2
  obtain⟨k,hk,rfl,G1,G2⟩:=hrel
  by_cases hlt:k<6
  ·have HT:Aside0 (IsTab wr g):=⟨⟨fun n a b=>by have:=HI.out.1 n a b;rw[←this];simp only[World.cell?];rw[G2.out.block g HI.out.2.2 (by simpa using N3.out)],fun n a b=>by have:=HI.out.2.1 n a b;rw[←this];simp only[World.cell?];rw[G2.out.block g HI.out.2.2 (by simpa using N3.out)],Nat.lt_of_lt_of_le HI.out.2.2 G2.out.size⟩⟩
   have hBl:Bt<w.heap.size:=World.block_lt_of_cell? _ _ HB.out
   have c0:wr.cell? ⟨Bt,0,none⟩=some (.pointer (some ⟨g,0,none⟩)):=by rw[←HB.out];simp only[World.cell?];rw[G2.out.block Bt hBl (by simpa using N2.out)]
   have hBl:Bt<wr.heap.size:=World.block_lt_of_cell? _ _ c0
   have HY:=HBY.out.at' G2.out.size (G2.out.block gb HBY.out.1 (by simpa using NE.out))
   have c2:=HY.2 k (by rw[L2.out];exact hlt)
   have hb2:=HY.1
   have c1:=G1.out.cell k (by rw[addK_len];exact hlt)
   have hb1:=G1.out.lt
   rw[addK_get _ _ _ _ hlt]at c1
   have hset:=Lib.hid (addK_set ts bs x k hlt)
   have hv0:ts.getD k 0≤255:=by
    rw[List.getD_eq_getElem?_getD,List.getElem?_eq_getElem (by rw[L1.out];exact hlt)]
    exact T1.out _ (List.getElem_mem _)
   have hf0:bs.getD k 0≤255:=by
    rw[List.getD_eq_getElem?_getD,List.getElem?_eq_getElem (by rw[L2.out];exact hlt)]
    exact T2.out _ (List.getElem_mem _)
   generalize ts.getD k 0=v0 at *
   generalize bs.getD k 0=f0 at *
   clear HY
   have hHL:=Lib.hid hlt
   have hbx:Go.bits .xor .u8 (v0:Int) (tim f0 x:Int)=((v0 ^^^ tim f0 x:Nat):Int):=bits_xor8c _ _ hv0 (tim_le _ _)
   obtain⟨v1,hv1⟩ : ∃ v,v0 ^^^ tim f0 x=v:=⟨_,rfl⟩
   rw[hv1]at hbx hset
   clear hv1
   have i0:(0:Int)≤(k:Int):=by omega
   have i1:(k:Int)<6:=by omega
   go_wp2_with fail
   refine region_below_tail 13 (by kernel_rfl) (by kernel_rfl) ?_
   simp only[List.take_succ_cons,List.take_zero,List.drop_succ_cons,List.drop_zero]
   repeat (first|go_big_quiet_step (fail)|(refine BigFrame.wpQuiet_want (by rfl) (fun K hK=> ?_);go_big_quiet_op;refine⟨_,fun _ _=>rfl,hK _ ?_⟩;clear hK K)|(refine q_ld 5 _ _ _ _ rfl rfl rfl rfl (ld_u8 _ _) (by assumption) (by assumption) ?_;simp only[Act.put,zA,zB,zC])|(refine q_ld 55 _ _ _ _ rfl rfl rfl rfl (fun w' h=>by go_simp) (by assumption) (by assumption) ?_;simp only[Act.put,zA,zB,zC])|(refine q_go (f:=61) Tryz.func61 (by kernel_rfl) rfl #[.pointer (some ⟨g,0,none⟩),.int .u8 _,.int .u8 _] _ _ rfl rfl rfl (by simp only[List.map_toArray,List.map_cons,List.map_nil];rfl) (fun w' hw'=>times_calls g _ _ w' (HT.out.below hw') hf0 hx) ?_;simp only[Act.put,zA,zB,zC]))
   refine wpQuiet_nil ?_
   intro w3 b3
   clear c0 c1 c2 hbx hb1 hb2 hBl
   have G1:=Aside0.mk (G1.out.keep b3)
   have G2:=Aside0.mk (World.grownBy.trans G2.out (grown_below b3 (some gt)))
   clear b3
   have c1:=G1.out.cell k (by rw[addK_len];exact hlt)
   have f1:=G1.out.frozen k
   generalize (addK ts bs x k).getD k 0=z0 at c1
   go_wp2
   go_roundw
   case rel=>exact⟨k+1,hHL.out,by go_num,⟨by rw[←hset.out];exact G1.out.set k _⟩,⟨World.grownBy.trans G2.out (grown_set _ _ _ _)⟩⟩
   case measure=>simp[intOf];omega
  ·obtain rfl:k=6:=by omega
   go_wp2
   refine bodyPost_end (results_none rfl _ _ _) rfl ?_
   exact⟨rfl,by rw[←addK_all _ _ _ L1.out L2.out];exact G1.out,G2.out⟩
theorem rowB_zero (w:World):RowB w.heap.size 5 (.slice (some ⟨w.heap.size,0,none⟩) 0 0) [] (w.alloc (.cells #[] 5)):=
 .inr ⟨w.heap.size,0,#[],(0,0),rfl,Nat.le_refl _,heap_alloc_new w _,fun _ _ _ _=>by omega,Nat.le_refl _,by unfold maxLen;omega,rfl,rfl⟩
theorem row_bytes {w:World} {g:Nat} {xs:List Nat} {m:List UInt8} (h:RowN w g xs) (hm:m.map (fun x:UInt8=>x.toNat)=xs) (j:Nat) (x:UInt8) (hj:m[j]? = some x):w.cell? ((⟨g,0,none⟩:Addr).add j)=some (.int .u8 (x.toNat:Int)):=by
 have hl:j<m.length:=(List.getElem?_eq_some_iff.1 hj).1
 have hadd:(⟨g,0,none⟩:Addr).add j=⟨g,j,none⟩:=by unfold Addr.add;split<;>simp_all
 rw[hadd,h.cell j (by rw[←hm];simpa using hl),←hm,List.getD_eq_getElem?_getD,List.getElem?_map,hj]
 rfl
theorem clone_calls (gs:Nat) (xs:List Nat) (w:World) (h:RowN w gs xs) (h6:xs.length=6) (h255 : ∀ y∈xs,y≤255):Calls Tryz.prog 96 #[.slice (some ⟨gs,0,none⟩) 6 6] w fun e w'=> ∃ gb cb,e = .returned (.slice (some ⟨gb,0,none⟩) 6 cb)∧Bys w' gb xs∧w.heap.size≤gb∧6≤cb∧Below w.heap.size w w':=by
 have hnil : ∀ w,(binOp .eql 80 (.slice (some ⟨gs,0,none⟩) 6 6) (.slice none 0 0)).run Tryz.prog w = .ok (.bool false) w:=fun _=>by kernel_rfl
 obtain⟨m,hm⟩ : ∃ m:List UInt8,m.map (fun x:UInt8=>x.toNat)=xs:=⟨xs.map UInt8.ofNat,by
  rw[List.map_map]
  refine(List.map_congr_left fun y hy=> ?_).trans (List.map_id _)
  have:=h255 y hy
  simp
  omega⟩
 have hml:m.length=6:=by rw[←hm]at h6;simpa using h6
 obtain⟨i0,hi,hz0,hz1,hz2⟩:=infoU8
 have HI:=Lib.hid hi
 have HM:=Lib.hid hm
 have HL:=Lib.hid hml
 have HR:=Aside0.mk h
 clear hi hm hml h h6 h255
 go_enter Tryz.func96,Tryz.ntmps96
 go_wp2_with (at_builtin;refine wpList_append_rowB rfl (.tmp 5) (.tmp 6) 80 rfl w.heap.size 5 i0 Tryz.underlying80 HI.out hz0 hz1 hz2 (.slice (some ⟨w.heap.size,0,none⟩) 0 0) [] m rfl (rowB_zero w) ⟨gs,0,none⟩ 6 (by rw[HL.out];rfl) (fun j x hj=>row_bytes (HR.out.keep ((Below.refl _ _).alloc (Nat.le_refl _) _)) HM.out j x hj) (by rw[HL.out];decide) (by simp) ?_;intro v1 w1 hO hg;have HO:=Aside0.mk hO;have HG:=Aside0.mk hg;clear hO hg)
 obtain⟨gb,cb,hv,hB,hlt,hle,_⟩:=HO.out.ne (by intro h0;have:=HL.out;rw[List.nil_append]at h0;rw[h0]at this;cases this)
 have hv2:v1 = .slice (some ⟨gb,0,none⟩) 6 cb:=by rw[hv,List.nil_append,HL.out]
 subst hv2
 rw[List.nil_append,HL.out]at hle
 clear hv
 go_ret
 refine⟨gb,cb,rfl,⟨hlt,fun i hi=> ?_⟩,hB,hle,?_⟩
 ·have h1:=HO.out.cells (g:=gb) rfl i
  rw[List.nil_append]at h1
  have hi2:i<m.length:=by rw[←HM.out]at hi;simpa using hi
  have h2:=h1 _ (List.getElem?_eq_getElem hi2)
  rw[h2,←HM.out,List.getD_eq_getElem?_getD,List.getElem?_map,List.getElem?_eq_getElem hi2]
  rfl
 ·exact((Below.refl _ _).alloc (Nat.le_refl _) _).grown HG.out (by simp) (fun k hk=>by simp[Value.ownBlock]at hk;omega)
end Go.Proofs.YtdcfonmjbelgbaaGreatDoor
end
section
namespace Go.Proofs.YtdcfonmjbelgbaaGreatDoor
open Go.RowKit Q YtdcfonmjbelgbaaGreatDoorW.PrintWords YtdcfonmjbelgbaaGreatDoorW.PrintLast YtdcfonmjbelgbaaGreatDoorW.PrintMore
def Wf (M:List (List Nat)):Prop:=M.length=6 ∧ ∀ i,i<6→(rowAt M i).length=6 ∧ ∀ y∈rowAt M i,y≤255
theorem getD_set {α:Type} (l:List α) (k i:Nat) (x z:α) (hk:k<l.length):(l.set k x).getD i z=if i=k then x else l.getD i z:=by
 rw[List.getD_eq_getElem?_getD,List.getD_eq_getElem?_getD,List.getElem?_set]
 by_cases h:i=k
 ·subst h
  rw[if_pos rfl,if_pos hk,if_pos rfl]
  rfl
 ·rw[if_neg (fun e=>h e.symm),if_neg h]
theorem rowAt_set (M:List (List Nat)) (k i:Nat) (r:List Nat) (hk:k<M.length):rowAt (M.set k r) i=if i=k then r else rowAt M i:=getD_set M k i r [] hk
theorem addR_len {a b:List Nat} (x:Nat) (ha:a.length=6) (hb:b.length=6):(addR a b x).length=6:=by simp[addR,ha,hb]
theorem addR_le {a b:List Nat} (x:Nat) (ha : ∀ y∈a,y≤255) : ∀ y∈addR a b x,y≤255:=by
 intro y hy
 obtain⟨i,hi,rfl⟩:=List.getElem_of_mem hy
 unfold addR at hi ⊢
 rw[List.getElem_zipWith]
 exact xor_le255 (ha _ (List.getElem_mem _)) (tim_le _ _)
theorem Wf.upd {M:List (List Nat)} (h:Wf M) {k:Nat} (hk:k<6) {b:List Nat} (hb:b.length=6) (x:Nat):Wf (upd M k b x):=by
 refine⟨by unfold Go.Proofs.YtdcfonmjbelgbaaGreatDoor.upd;rw[List.length_set];exact h.1,fun i hi=> ?_⟩
 unfold Go.Proofs.YtdcfonmjbelgbaaGreatDoor.upd
 rw[rowAt_set _ _ _ _ (by rw[h.1];exact hk)]
 split
 ·exact⟨addR_len x (h.2 k hk).1 hb,addR_le x (h.2 k hk).2⟩
 ·exact h.2 i hi
theorem rowAt_swp (M:List (List Nat)) (r c i:Nat) (hr:r<M.length) (hc:c<M.length):rowAt (swp M r c) i=if i=c then rowAt M r else if i=r then rowAt M c else rowAt M i:=by
 unfold swp
 rw[rowAt_set _ _ _ _ (by rw[List.length_set];exact hc),rowAt_set _ _ _ _ hr]
theorem Wf.swp {M:List (List Nat)} (h:Wf M) {r c:Nat} (hr:r<6) (hc:c<6):Wf (swp M r c):=by
 refine⟨by unfold Go.Proofs.YtdcfonmjbelgbaaGreatDoor.swp;rw[List.length_set,List.length_set];exact h.1,fun i hi=> ?_⟩
 rw[rowAt_swp _ _ _ _ (by rw[h.1];exact hr) (by rw[h.1];exact hc)]
 split
 ·exact h.2 r hr
 ·split
  ·exact h.2 c hc
  ·exact h.2 i hi
theorem Wf.units:Wf unitsN:=by
 refine⟨by simp[unitsN],fun i hi=> ?_⟩
 have:rowAt unitsN i=frow i:=by
  unfold rowAt unitsN
  rw[List.getD_eq_getElem?_getD,List.getElem?_map,List.getElem?_range hi]
  rfl
 rw[this]
 exact⟨frow_len i,frow_le i⟩
theorem Wf.row {M:List (List Nat)} (h:Wf M) {i:Nat} (hi:i<6):(rowAt M i).length=6 ∧ ∀ y∈rowAt M i,y≤255:=h.2 i hi
theorem elem_le {M:List (List Nat)} (h:Wf M) {r c:Nat} (hr:r<6) (hc:c<6):elem M r c≤255:=by
 unfold elem
 rw[List.getD_eq_getElem?_getD,List.getElem?_eq_getElem (by rw[(h.2 r hr).1];exact hc)]
 exact(h.2 r hr).2 _ (List.getElem_mem _)
def swpP (P:List Nat) (r c:Nat):List Nat:=(P.set r (P.getD c 0)).set c (P.getD r 0)
theorem swpP_get (P:List Nat) (r c i:Nat) (hr:r<P.length) (hc:c<P.length):(swpP P r c).getD i 0=if i=c then P.getD r 0 else if i=r then P.getD c 0 else P.getD i 0:=by
 unfold swpP
 rw[getD_set _ _ _ _ _ (by rw[List.length_set];exact hc),getD_set _ _ _ _ _ hr]
theorem swpP_perm (P:List Nat) (r c:Nat) (hr:r<P.length) (hc:c<P.length):(swpP P r c).Perm P:=by
 have:= @List.set_set_perm Nat P r c hr hc
 unfold swpP
 rw[List.getD_eq_getElem?_getD,List.getD_eq_getElem?_getD,List.getElem?_eq_getElem hr,List.getElem?_eq_getElem hc]
 exact this
theorem swpP_len (P:List Nat) (r c:Nat):(swpP P r c).length=P.length:=by simp[swpP]
def sl (b:Nat):Value:=.slice (some ⟨b,0,none⟩) 6 6
def Ptr (w:World) (g:Nat) (P:List Nat):Prop:= ∃ cur,w.heap[g]? = some (.cells cur 80 (0,0)) ∧ ∀ i,i<P.length→cur[i]? = some (sl (P.getD i 0))
theorem Ptr.lt {w:World} {g:Nat} {P:List Nat} (h:Ptr w g P):g<w.heap.size:=by
 obtain⟨cur,hg,_⟩:=h
 exact(Array.getElem?_eq_some_iff.1 hg).1
theorem Ptr.cell {w:World} {g:Nat} {P:List Nat} (h:Ptr w g P) (i:Nat) (hi:i<P.length):w.cell? ⟨g,i,none⟩=some (sl (P.getD i 0)):=by
 obtain⟨cur,hg,hc⟩:=h
 rw[Lib.cell_of_heap hg]
 exact hc i hi
theorem Ptr.frozen {w:World} {g:Nat} {P:List Nat} (h:Ptr w g P) (i:Nat):w.frozen? ⟨g,i,none⟩=false:=by
 obtain⟨cur,hg,_⟩:=h
 exact Lib.frozen_of_heap hg i
theorem Ptr.set {w:World} {g:Nat} {P:List Nat} (h:Ptr w g P) (k b:Nat) (hk:k<P.length):Ptr (w.setCell ⟨g,k,none⟩ (sl b)) g (P.set k b):=by
 obtain⟨cur,hg,hc⟩:=h
 refine⟨cur.setIfInBounds k (sl b),by rw[setCell_eq_setRow w g k cur _ _ _ hg];exact setRow_heap w g cur _ _ _ hg,fun i hi=> ?_⟩
 rw[List.length_set]at hi
 have hks:k<cur.size:=(Array.getElem?_eq_some_iff.1 (hc k hk)).1
 rw[getD_set _ _ _ _ _ hk,Array.getElem?_setIfInBounds]
 by_cases h:i=k
 ·subst h
  rw[if_pos rfl,if_pos rfl,if_pos hks]
 ·rw[if_neg (fun e=>h e.symm),if_neg h]
  exact hc i hi
theorem Ptr.at' {w w':World} {g:Nat} {P:List Nat} (h:Ptr w g P) (hb:w'.heap[g]? = w.heap[g]?):Ptr w' g P:=by
 obtain⟨cur,hg,hc⟩:=h
 exact⟨cur,hb.trans hg,hc⟩
theorem Ptr.ne_row {w:World} {g b:Nat} {P xs:List Nat} (h:Ptr w g P) (hr:RowN w b xs):g≠b:=by
 rintro rfl
 obtain⟨cur,hg,_⟩:=h
 have h2:w.heap[g]? = _:=hr
 rw[hg]at h2
 injection h2 with h2
 injection h2 with _ h2
 exact absurd h2 (by decide)
structure Fr (gR:Nat) (P0:List Nat) (w w':World):Prop where
 os:w'.os=w.os
 tape:w'.tape=w.tape
 output:w'.output=w.output
 size:w.heap.size≤w'.heap.size
 block : ∀ k,k<w.heap.size→k≠gR→k ∉ P0→w'.heap[k]? = w.heap[k]?
theorem Fr.refl (gR:Nat) (P0:List Nat) (w:World):Fr gR P0 w w:=⟨rfl,rfl,rfl,Nat.le_refl _,fun _ _ _ _=>rfl⟩
theorem Fr.below {gR:Nat} {P0:List Nat} {w w1 w2:World} (h:Fr gR P0 w w1) (b:Below w1.heap.size w1 w2):Fr gR P0 w w2:=
 ⟨b.os.trans h.os,b.tape.trans h.tape,b.output.trans h.output,Nat.le_trans h.size b.size,fun k h1 h2 h3=>(b.block k (Nat.lt_of_lt_of_le h1 h.size)).trans (h.block k h1 h2 h3)⟩
theorem Fr.grown {gR:Nat} {P0:List Nat} {w w1 w2:World} {g:Nat} (h:Fr gR P0 w w1) (b:w1.grownBy w2 (some g)) (hg:g=gR∨g∈P0∨w.heap.size≤g):Fr gR P0 w w2:=
 ⟨b.os.trans h.os,b.tape.trans h.tape,b.output.trans h.output,Nat.le_trans h.size b.size,fun k h1 h2 h3=>(b.block k (Nat.lt_of_lt_of_le h1 h.size) (fun e=>by
  injection e with e
  subst e
  rcases hg with hg|hg|hg
  ·exact h2 hg
  ·exact h3 hg
  ·omega)).trans (h.block k h1 h2 h3)⟩
structure St (g Bt gR gK:Nat) (P0:List Nat) (w0:World) (s:MM) (P Q:List Nat) (w:World):Prop where
 tb:IsTab w g
 bx:Boxed w Bt 55 (.pointer (some ⟨g,0,none⟩))
 pR:Ptr w gR P
 pK:Ptr w gK Q
 lP:P.length=6
 lQ:Q.length=6
 rR : ∀ i,i<6→RowN w (P.getD i 0) (rowAt s.1 i)
 rK : ∀ i,i<6→RowN w (Q.getD i 0) (rowAt s.2 i)
 nd:(P++Q).Nodup
 wR:Wf s.1
 wK:Wf s.2
 sP : ∀ x∈P,x∈P0
 sQ : ∀ x∈Q,w0.heap.size≤x
 ne:gR≠gK
 kn:w0.heap.size≤gK
 gt:g<w0.heap.size∧g≠gR∧g ∉ P0
 fr:Fr gR P0 w0 w
section
variable {g Bt gR gK:Nat} {P0:List Nat} {w0 w w':World} {s:MM} {P Q:List Nat}
theorem mem_get {P:List Nat} {i:Nat} (hi:i<P.length):P.getD i 0∈P:=by
 rw[List.getD_eq_getElem?_getD,List.getElem?_eq_getElem hi]
 exact List.getElem_mem hi
theorem nd_ne {P:List Nat} (h:P.Nodup) {i j:Nat} (hi:i<P.length) (hj:j<P.length) (hij:i≠j):P.getD i 0≠P.getD j 0:=by
 rw[List.getD_eq_getElem?_getD,List.getD_eq_getElem?_getD,List.getElem?_eq_getElem hi,List.getElem?_eq_getElem hj]
 have hp:=List.pairwise_iff_getElem.1 h
 rcases Nat.lt_or_gt_of_ne hij with hlt|hlt
 ·exact hp i j hi hj hlt
 ·exact fun e=>hp j i hj hi hlt e.symm
theorem St.neR (h:St g Bt gR gK P0 w0 s P Q w) {i j:Nat} (hi:i<6) (hj:j<6) (hij:i≠j):P.getD i 0≠P.getD j 0:=nd_ne (List.nodup_append.1 h.nd).1 (by rw[h.lP];exact hi) (by rw[h.lP];exact hj) hij
theorem St.neK (h:St g Bt gR gK P0 w0 s P Q w) {i j:Nat} (hi:i<6) (hj:j<6) (hij:i≠j):Q.getD i 0≠Q.getD j 0:=nd_ne (List.nodup_append.1 h.nd).2.1 (by rw[h.lQ];exact hi) (by rw[h.lQ];exact hj) hij
theorem St.nePQ (h:St g Bt gR gK P0 w0 s P Q w) {i j:Nat} (hi:i<6) (hj:j<6):P.getD i 0≠Q.getD j 0:=(List.nodup_append.1 h.nd).2.2 _ (mem_get (by rw[h.lP];exact hi)) _ (mem_get (by rw[h.lQ];exact hj))
theorem box_ne_row {b:Nat} {xs:List Nat} {v:Value} (hb:Boxed w Bt 55 v) (hr:RowN w b xs):Bt≠b:=by
 rintro rfl
 have h1:w.heap[Bt]? = _:=hb
 have h2:w.heap[Bt]? = _:=hr
 rw[h1]at h2
 injection h2 with h2
 injection h2 with _ h2
 exact absurd h2 (by decide)
theorem box_ne_ptr {b:Nat} {xs:List Nat} {v:Value} (hb:Boxed w Bt 55 v) (hr:Ptr w b xs):Bt≠b:=by
 rintro rfl
 have h1:w.heap[Bt]? = _:=hb
 obtain⟨cur,h2,_⟩:=hr
 rw[h1]at h2
 injection h2 with h2
 injection h2 with _ h2
 exact absurd h2 (by decide)
theorem tab_at (h:IsTab w g) (hs:w.heap.size≤w'.heap.size) (hb:w'.heap[g]? = w.heap[g]?):IsTab w' g:=
 ⟨fun n a b=>by rw[←h.1 n a b];simp only[World.cell?];rw[hb],fun n a b=>by rw[←h.2.1 n a b];simp only[World.cell?];rw[hb],Nat.lt_of_lt_of_le h.2.2 hs⟩
theorem St.below (h:St g Bt gR gK P0 w0 s P Q w) (b:Below w.heap.size w w'):St g Bt gR gK P0 w0 s P Q w':=
 {h with
  tb:=h.tb.below b
  bx:=h.bx.kept (grown_below b none) (by simp)
  pR:=h.pR.at' (b.block _ h.pR.lt)
  pK:=h.pK.at' (b.block _ h.pK.lt)
  rR:=fun i hi=>(h.rR i hi).keep b
  rK:=fun i hi=>(h.rK i hi).keep b
  fr:=h.fr.below b }
theorem St.addR (h:St g Bt gR gK P0 w0 s P Q w) {k:Nat} (hk:k<6) {b:List Nat} (hb:b.length=6) (x:Nat) (hr:RowN w' (P.getD k 0) (addR (rowAt s.1 k) b x)) (hg:w.grownBy w' (some (P.getD k 0))):St g Bt gR gK P0 w0 (upd s.1 k b x,s.2) P Q w':=by
 have hmem:=h.sP _ (mem_get (P:=P) (i:=k) (by rw[h.lP];exact hk))
 exact
 {h with
  tb:=tab_at h.tb hg.size (hg.block _ h.tb.2.2 (fun e=>h.gt.2.2 (by injection e with e;rw[e];exact hmem)))
  bx:=h.bx.kept hg (fun e=>box_ne_row h.bx (h.rR k hk) (by injection e))
  pR:=h.pR.at' (hg.block _ h.pR.lt (fun e=>h.pR.ne_row (h.rR k hk) (by injection e)))
  pK:=h.pK.at' (hg.block _ h.pK.lt (fun e=>h.pK.ne_row (h.rR k hk) (by injection e)))
  rR:=fun i hi=>by
   show RowN w' _ (rowAt (upd s.1 k b x) i)
   unfold upd
   rw[rowAt_set _ _ _ _ (by rw[h.wR.1];exact hk)]
   by_cases hik:i=k
   ·subst hik
    rw[if_pos rfl]
    exact hr
   ·rw[if_neg hik]
    exact(h.rR i hi).grown hg (fun e=>h.neR hi hk hik (by injection e))
  rK:=fun i hi=>(h.rK i hi).grown hg (fun e=>h.nePQ hk hi (by injection e with e;exact e.symm))
  wR:=h.wR.upd hk hb x
  fr:=h.fr.grown hg (.inr (.inl hmem)) }
theorem St.addK (h:St g Bt gR gK P0 w0 s P Q w) {k:Nat} (hk:k<6) {b:List Nat} (hb:b.length=6) (x:Nat) (hr:RowN w' (Q.getD k 0) (Go.Proofs.YtdcfonmjbelgbaaGreatDoor.addR (rowAt s.2 k) b x)) (hg:w.grownBy w' (some (Q.getD k 0))):St g Bt gR gK P0 w0 (s.1,upd s.2 k b x) P Q w':=by
 have hmem:=h.sQ _ (mem_get (P:=Q) (i:=k) (by rw[h.lQ];exact hk))
 exact
 {h with
  tb:=tab_at h.tb hg.size (hg.block _ h.tb.2.2 (fun e=>by injection e with e;have:=h.gt.1;omega))
  bx:=h.bx.kept hg (fun e=>box_ne_row h.bx (h.rK k hk) (by injection e))
  pR:=h.pR.at' (hg.block _ h.pR.lt (fun e=>h.pR.ne_row (h.rK k hk) (by injection e)))
  pK:=h.pK.at' (hg.block _ h.pK.lt (fun e=>h.pK.ne_row (h.rK k hk) (by injection e)))
  rR:=fun i hi=>(h.rR i hi).grown hg (fun e=>h.nePQ hi hk (by injection e))
  rK:=fun i hi=>by
   show RowN w' _ (rowAt (upd s.2 k b x) i)
   unfold upd
   rw[rowAt_set _ _ _ _ (by rw[h.wK.1];exact hk)]
   by_cases hik:i=k
   ·subst hik
    rw[if_pos rfl]
    exact hr
   ·rw[if_neg hik]
    exact(h.rK i hi).grown hg (fun e=>h.neK hi hk hik (by injection e))
  wK:=h.wK.upd hk hb x
  fr:=h.fr.grown hg (.inr (.inr hmem)) }
theorem St.swap (h:St g Bt gR gK P0 w0 s P Q w) {r c:Nat} (hr:r<6) (hc:c<6) :
  St g Bt gR gK P0 w0 (swp s.1 r c,swp s.2 r c) (swpP P r c) (swpP Q r c) ((((w.setCell ⟨gR,r,none⟩ (sl (P.getD c 0))).setCell ⟨gR,c,none⟩ (sl (P.getD r 0))).setCell ⟨gK,r,none⟩ (sl (Q.getD c 0))).setCell ⟨gK,c,none⟩ (sl (Q.getD r 0))):=by
 have rP:r<P.length:=by rw[h.lP];exact hr
 have cP:c<P.length:=by rw[h.lP];exact hc
 have rQ:r<Q.length:=by rw[h.lQ];exact hr
 have cQ:c<Q.length:=by rw[h.lQ];exact hc
 have far : ∀ k,k≠gR→k≠gK→((((w.setCell ⟨gR,r,none⟩ (sl (P.getD c 0))).setCell ⟨gR,c,none⟩ (sl (P.getD r 0))).setCell ⟨gK,r,none⟩ (sl (Q.getD c 0))).setCell ⟨gK,c,none⟩ (sl (Q.getD r 0))).heap[k]? = w.heap[k]? :=fun k h1 h2=>by
  rw[Below.heap_setCell _ ⟨gK,c,none⟩ _ k h2,Below.heap_setCell _ ⟨gK,r,none⟩ _ k h2,Below.heap_setCell _ ⟨gR,c,none⟩ _ k h1,Below.heap_setCell _ ⟨gR,r,none⟩ _ k h1]
 have hsz:((((w.setCell ⟨gR,r,none⟩ (sl (P.getD c 0))).setCell ⟨gR,c,none⟩ (sl (P.getD r 0))).setCell ⟨gK,r,none⟩ (sl (Q.getD c 0))).setCell ⟨gK,c,none⟩ (sl (Q.getD r 0))).heap.size=w.heap.size:=by simp
 have rowR : ∀ i,i<6 → ∀ xs,RowN w (P.getD i 0) xs→RowN ((((w.setCell ⟨gR,r,none⟩ (sl (P.getD c 0))).setCell ⟨gR,c,none⟩ (sl (P.getD r 0))).setCell ⟨gK,r,none⟩ (sl (Q.getD c 0))).setCell ⟨gK,c,none⟩ (sl (Q.getD r 0))) (P.getD i 0) xs:=fun i hi xs hx=>hx.at' (far _ (fun e=>h.pR.ne_row hx e.symm) (fun e=>h.pK.ne_row hx e.symm))
 have rowK : ∀ i,i<6 → ∀ xs,RowN w (Q.getD i 0) xs→RowN ((((w.setCell ⟨gR,r,none⟩ (sl (P.getD c 0))).setCell ⟨gR,c,none⟩ (sl (P.getD r 0))).setCell ⟨gK,r,none⟩ (sl (Q.getD c 0))).setCell ⟨gK,c,none⟩ (sl (Q.getD r 0))) (Q.getD i 0) xs:=fun i hi xs hx=>hx.at' (far _ (fun e=>h.pR.ne_row hx e.symm) (fun e=>h.pK.ne_row hx e.symm))
 have ppP:=swpP_perm P r c rP cP
 have ppQ:=swpP_perm Q r c rQ cQ
 exact
 {h with
  tb:=tab_at h.tb (Nat.le_of_eq hsz.symm) (far g h.gt.2.1 (fun e=>by have:=h.gt.1;have:=h.kn;omega))
  bx:=(far Bt (box_ne_ptr h.bx h.pR) (box_ne_ptr h.bx h.pK)).trans h.bx
  pR:=by
   have h1:=(h.pR.set r (P.getD c 0) rP).set c (P.getD r 0) (by rw[List.length_set];exact cP)
   exact Ptr.at' h1 (by rw[Below.heap_setCell _ ⟨gK,c,none⟩ _ gR h.ne,Below.heap_setCell _ ⟨gK,r,none⟩ _ gR h.ne])
  pK:=by
   have h0:Ptr ((w.setCell ⟨gR,r,none⟩ (sl (P.getD c 0))).setCell ⟨gR,c,none⟩ (sl (P.getD r 0))) gK Q:=h.pK.at' (by rw[Below.heap_setCell _ ⟨gR,c,none⟩ _ gK (Ne.symm h.ne),Below.heap_setCell _ ⟨gR,r,none⟩ _ gK (Ne.symm h.ne)])
   exact(h0.set r (Q.getD c 0) rQ).set c (Q.getD r 0) (by rw[List.length_set];exact cQ)
  lP:=by rw[swpP_len];exact h.lP
  lQ:=by rw[swpP_len];exact h.lQ
  rR:=fun i hi=>by
   show RowN _ _ (rowAt (swp s.1 r c) i)
   rw[swpP_get _ _ _ _ rP cP,rowAt_swp _ _ _ _ (by rw[h.wR.1];exact hr) (by rw[h.wR.1];exact hc)]
   split
   ·exact rowR r hr _ (h.rR r hr)
   ·split
    ·exact rowR c hc _ (h.rR c hc)
    ·exact rowR i hi _ (h.rR i hi)
  rK:=fun i hi=>by
   show RowN _ _ (rowAt (swp s.2 r c) i)
   rw[swpP_get _ _ _ _ rQ cQ,rowAt_swp _ _ _ _ (by rw[h.wK.1];exact hr) (by rw[h.wK.1];exact hc)]
   split
   ·exact rowK r hr _ (h.rK r hr)
   ·split
    ·exact rowK c hc _ (h.rK c hc)
    ·exact rowK i hi _ (h.rK i hi)
  nd:=(ppP.append ppQ).nodup_iff.2 h.nd
  wR:=h.wR.swp hr hc
  wK:=h.wK.swp hr hc
  sP:=fun x hx=>h.sP x (ppP.mem_iff.1 hx)
  sQ:=fun x hx=>h.sQ x (ppQ.mem_iff.1 hx)
  fr:=⟨h.fr.os,h.fr.tape,h.fr.output,by rw[hsz];exact h.fr.size,fun k h1 h2 h3=>(far k h2 (fun e=>by have:=h.kn;omega)).trans (h.fr.block k h1 h2 h3)⟩ }
end
end Go.Proofs.YtdcfonmjbelgbaaGreatDoor
end
section
namespace Go.Proofs.YtdcfonmjbelgbaaGreatDoor
open Go.RowKit Q YtdcfonmjbelgbaaGreatDoorW.PrintWords YtdcfonmjbelgbaaGreatDoorW.PrintLast YtdcfonmjbelgbaaGreatDoorW.PrintMore
def cellsK (Q:List Nat):Array Value:=(Q.map sl++List.replicate (6-Q.length) (Value.slice none 0 0)).toArray
theorem cellsK_set (Q:List Nat) (b:Nat) (h:Q.length<6):(cellsK Q).setIfInBounds Q.length (sl b)=cellsK (Q++[b]):=by
 unfold cellsK
 rw[List.setIfInBounds_toArray,List.length_append,List.length_singleton,List.map_append,List.map_singleton,List.set_append_right _ _ (by simp)]
 obtain⟨m,hm⟩ : ∃ m,6-Q.length=m+1:=⟨5-Q.length,by omega⟩
 rw[hm,List.replicate_succ,List.length_map,Nat.sub_self,List.set_cons_zero,List.append_assoc,show 6-(Q.length+1)=m by omega]
 rfl
theorem makeK (w:World):(Instr.makeSlice 122 (.int .i64 6) (.int .i64 6)).run Tryz.prog w = .ok (.slice (some ⟨w.heap.size,0,none⟩) 6 6) (w.alloc (.cells (cellsK []) 80)):=by kernel_rfl
structure Mk (g Bt gK:Nat) (w0:World) (Q:List Nat) (w:World):Prop where
 tb:IsTab w g
 bx:Boxed w Bt 55 (.pointer (some ⟨g,0,none⟩))
 hb:w.heap[gK]? = some (.cells (cellsK Q) 80 (0,0))
 rk : ∀ i,i<Q.length→RowN w (Q.getD i 0) (frow i)
 nd:Q.Nodup
 sq : ∀ x∈Q,w0.heap.size≤x∧x<w.heap.size
 kn:w0.heap.size≤gK
 bl:Below w0.heap.size w0 w
theorem Mk.below {g Bt gK:Nat} {w0 w w':World} {Q:List Nat} (h:Mk g Bt gK w0 Q w) (b:Below w.heap.size w w'):Mk g Bt gK w0 Q w':=
 {h with
  tb:=h.tb.below b
  bx:=h.bx.kept (grown_below b none) (by simp)
  hb:=(b.block _ (Array.getElem?_eq_some_iff.1 h.hb).1).trans h.hb
  rk:=fun i hi=>(h.rk i hi).keep b
  sq:=fun x hx=>⟨(h.sq x hx).1,Nat.lt_of_lt_of_le (h.sq x hx).2 b.size⟩
  bl:=below2 h.bl h.bl.size b }
theorem row_neK {w:World} {gK b:Nat} {cs:Array Value} {xs:List Nat} (hb:w.heap[gK]? = some (.cells cs 80 (0,0))) (hr:RowN w b xs):b≠gK:=by
 rintro rfl
 have h2:w.heap[b]? = _:=hr
 rw[hb]at h2
 injection h2 with h2
 injection h2 with _ h2
 exact absurd h2 (by decide)
theorem Mk.push {g Bt gK:Nat} {w0 w w':World} {Q:List Nat} {b:Nat} (h:Mk g Bt gK w0 Q w) (hl:Q.length<6) (hB:Below w.heap.size w w') (hr:RowN w' b (frow Q.length)) (hb:w.heap.size≤b):Mk g Bt gK w0 (Q++[b]) (w'.setCell ⟨gK,Q.length,none⟩ (sl b)):=by
 have h1:=h.below hB
 have far : ∀ k,k≠gK→(w'.setCell ⟨gK,Q.length,none⟩ (sl b)).heap[k]? = w'.heap[k]? :=fun k hk=>Below.heap_setCell _ ⟨gK,Q.length,none⟩ _ k hk
 have hgt:g≠gK:=by
  rintro rfl
  obtain⟨c,hc⟩ : ∃ c,w'.cell? ⟨g,(0:Int).toNat,none⟩=some (.int .u8 c):=⟨_,h1.tb.1 0 (by omega) (by omega)⟩
  rw[Lib.cell_of_heap h1.hb]at hc
  have:(cellsK Q)[0]? = some (.int .u8 c):=hc
  unfold cellsK at this
  cases Q with
  | nil=>simp at this
  | cons q Q=>simp[sl]at this
 refine
 {tb:=tab_at h1.tb (by simp) (far _ hgt)
  bx:=(far Bt ?_).trans h1.bx
  hb:= ?_
  rk:= ?_
  nd:= ?_
  sq:= ?_
  kn:=h.kn
  bl:=h1.bl.setCell (p:=⟨gK,Q.length,none⟩) h.kn _ }
 ·rintro rfl
  have h2:w'.heap[Bt]? = _:=h1.bx
  rw[h1.hb]at h2
  injection h2 with h2
  injection h2 with _ h2
  exact absurd h2 (by decide)
 ·rw[setCell_eq_setRow w' gK Q.length _ _ _ _ h1.hb,cellsK_set Q b hl]
  exact setRow_heap _ _ _ _ _ _ h1.hb
 ·intro i hi
  rw[List.length_append,List.length_singleton]at hi
  by_cases hiq:i<Q.length
  ·have e:(Q++[b]).getD i 0=Q.getD i 0:=by simp[List.getD_eq_getElem?_getD,List.getElem?_append_left hiq]
   rw[e]
   have hx:=h1.rk i hiq
   exact hx.at' (far _ (row_neK h1.hb hx))
  ·obtain rfl:i=Q.length:=by omega
   have e:(Q++[b]).getD Q.length 0=b:=by simp[List.getD_eq_getElem?_getD]
   rw[e]
   exact hr.at' (far _ (row_neK h1.hb hr))
 ·rw[List.nodup_append]
  refine⟨h.nd,by simp,fun a ha c hc=> ?_⟩
  rw[List.mem_singleton]at hc
  have:=(h.sq a ha).2
  omega
 ·intro x hx
  rcases List.mem_append.1 hx with hx|hx
  ·exact⟨(h1.sq x hx).1,by simpa using (h1.sq x hx).2⟩
  ·rw[List.mem_singleton]at hx
   subst hx
   exact⟨Nat.le_trans h.bl.size hb,by simpa using hr.lt⟩
theorem Mk.start {g:Nat} {w:World} (hI:IsTab w g):Mk g w.heap.size (w.heap.size+1) w [] ((w.alloc (.cells #[.pointer (some ⟨g,0,none⟩)] 55)).alloc (.cells (cellsK []) 80)):=by
 have b1:Below w.heap.size w (w.alloc (.cells #[.pointer (some ⟨g,0,none⟩)] 55)):=(Below.refl _ _).alloc (Nat.le_refl _) _
 have b2:=below_alloc b1 (.cells (cellsK []) 80)
 have hz:(w.alloc (.cells #[.pointer (some ⟨g,0,none⟩)] 55)).heap.size=w.heap.size+1:=by simp
 refine⟨hI.below b2,(Boxed.new w _ _).alloc _,?_,fun i hi=>absurd hi (Nat.not_lt_zero i),by simp,fun x hx=>absurd hx (by simp),by omega,b2⟩
 rw[←hz]
 exact heap_alloc_new _ _
theorem cellK_at {w:World} {gK:Nat} {Q:List Nat} {k:Nat} (h:w.heap[gK]? = some (.cells (cellsK Q) 80 (0,0))) (hq:Q.length=k) (hk:k<6):w.cell? ⟨gK,k,none⟩=some (.slice none 0 0):=by
 rw[Lib.cell_of_heap h]
 subst hq
 have hm:0<6-Q.length:=by omega
 simp[cellsK,hm]
theorem Mk.st {g Bt gR gK:Nat} {P0 Q:List Nat} {M0:List (List Nat)} {w0 w:World} (h:Mk g Bt gK w0 Q w) (hq:Q.length=6) (hP:Ptr w0 gR P0) (h6:P0.length=6) (hnd:P0.Nodup) (hW:Wf M0) (hR : ∀ i,i<6→RowN w0 (P0.getD i 0) (rowAt M0 i)) (hI:IsTab w0 g) (hg:g≠gR∧g ∉ P0):St g Bt gR gK P0 w0 (M0,unitsN) P0 Q w where
 tb:=h.tb
 bx:=h.bx
 pR:=hP.at' (h.bl.block _ hP.lt)
 pK:=⟨_,h.hb,fun i hi=>by
  rw[hq]at hi
  have hi2:i<Q.length:=by omega
  simp[cellsK,hq,List.getD_eq_getElem?_getD,List.getElem?_eq_getElem hi2]⟩
 lP:=h6
 lQ:=hq
 rR:=fun i hi=>(hR i hi).keep h.bl
 rK:=fun i hi=>by
  have e:rowAt unitsN i=frow i:=by
   unfold rowAt unitsN
   rw[List.getD_eq_getElem?_getD,List.getElem?_map,List.getElem?_range hi]
   rfl
  show RowN w _ (rowAt unitsN i)
  rw[e]
  exact h.rk i (by rw[hq];exact hi)
 nd:=by
  rw[List.nodup_append]
  refine⟨hnd,h.nd,fun a ha b hb=> ?_⟩
  obtain⟨i,hi,rfl⟩:=List.getElem_of_mem ha
  have h1:=(hR i (by omega)).lt
  rw[List.getD_eq_getElem?_getD,List.getElem?_eq_getElem hi]at h1
  have h2:=(h.sq b hb).1
  have h1:P0[i]<w0.heap.size:=h1
  omega
 wR:=hW
 wK:=Wf.units
 sP:=fun _ hx=>hx
 sQ:=fun x hx=>(h.sq x hx).1
 ne:=by have:=hP.lt;have:=h.kn;omega
 kn:=h.kn
 gt:=⟨hI.2.2,hg⟩
 fr:=(Fr.refl gR P0 w0).below h.bl
theorem findP_next {M:List (List Nat)} {c n r:Nat} (h:elem M r c=0):findP M c (n+1) r=findP M c n (r+1):=by rw[findP,if_pos h]
theorem findP_hit {M:List (List Nat)} {c n r:Nat} (h : ¬ elem M r c=0):findP M c (n+1) r=some r:=by rw[findP,if_neg h]
theorem colN_some {s:MM} {c r:Nat} (h:findP s.1 c (6-c) c=some r):colN s c=pivot c r s:=by unfold colN;rw[h]
theorem colN_none {s:MM} {c:Nat} (h:findP s.1 c (6-c) c=none):colN s c=s:=by unfold colN;rw[h]
theorem fold_succ (s:MM) (k:Nat) (f:MM→Nat→MM):(List.range (k+1)).foldl f s=f ((List.range k).foldl f s) k:=by rw[List.range_succ,List.foldl_append];rfl
theorem stp_run {w:World} (ev:Operand→Value) (x y:Operand) {g k b:Nat} {P:List Nat} {o:Oper} (h:Ptr w g P) (hk:k<P.length) (ho:o.op = .store 80 x y) (hx:ev x = .pointer (some ⟨g,k,none⟩)) (hy:ev y = .slice (some ⟨b,0,none⟩) 6 6):(execOp ev o).run Tryz.prog w = .ok .skip (w.setCell ⟨g,k,none⟩ (sl b)):=by
 have hc:=h.cell k hk
 have hf:=h.frozen k
 unfold execOp
 simp only[ho,hx,hy]
 go_simp
 rfl
section
variable {P:Program} {ops:Array Oper} {Q:Exit→Act→World→Prop}
theorem goesC_ {oi:Oper} {N:Option Tmp} {a:Act} {w:World} {K:Act→World→Prop} {f:FuncId} {fn:Func} {os1:Array Operand} {ts:Array TypeId} (hf:P.funcs[f]? = some fn) (hname:(fn.name == "runtime.NumGoroutine")=false) (hb:fn.body.isSome=true) (args lb all:Array Value) (cl:Operand)
  (hw:Region.wanted oi (yielded ops a.tmps)=true) (hN:oi.dst=N) (hop:oi.op = .call { callee:=.value cl,args:=os1,argTypes:=ts }) (hcl:a.eval cl = .func (.func f) #[] lb) (hargs:os1.map a.eval=args) (hall:args++lb=all)
  (h:Calls P f all w fun e w'=> ∃ v,e = .returned v∧K (a.put N v) w'):if Region.wanted oi (yielded ops a.tmps)=true then Oper.wp P oi a w K Q else K (a.put N undef) w:=by
 refine call_ f all hw hN ?_ h
 have he:=enters_ hf hname hb all w
 unfold execOp
 simp[hop,resolve,Deferred.ofValue,invoke,hcl,hargs,hall,he]
theorem goesCL_ {rest:List Oper} {oi:Oper} {a:Act} {w:World} (N:Option Tmp) (hd:oi.dst=N) (hg:oi.guard=none) {f:FuncId} {fn:Func} {os1:Array Operand} {ts:Array TypeId} (hf:P.funcs[f]? = some fn) (hname:(fn.name == "runtime.NumGoroutine")=false) (hb:fn.body.isSome=true) (args lb all:Array Value) (cl:Operand)
  (hop:oi.op = .call { callee:=.value cl,args:=os1,argTypes:=ts }) (hcl:a.eval cl = .func (.func f) #[] lb) (hargs:os1.map a.eval=args) (hall:args++lb=all)
  (h:Calls P f all w fun e w'=> ∃ v,e = .returned v∧wpList P ops Q rest (a.put N v) w'):wpList P ops Q (oi::rest) a w:=by
 refine wpList_plain hg fun K hK=> ?_
 have he:=enters_ hf hname hb all w
 have hrun:(execOp a.eval oi).run P w = .ok (.enter f all) w:=by
  unfold execOp
  simp[hop,resolve,Deferred.ofValue,invoke,hcl,hargs,hall,he]
 unfold Oper.wp
 rw[hrun,Oper.upon_enter]
 refine h.mono fun e w'' hh=> ?_
 obtain⟨v,rfl,hk⟩:=hh
 subst hd
 exact hK _ _ hk
end
theorem st_far2 {g Bt gR gK:Nat} {P0:List Nat} {w0 w:World} {s:MM} {P Q:List Nat} (h:St g Bt gR gK P0 w0 s P Q w) (a b r c:Nat):Ptr ((w.setCell ⟨gR,r,none⟩ (sl a)).setCell ⟨gR,c,none⟩ (sl b)) gK Q:=
 h.pK.at' (by rw[Below.heap_setCell _ ⟨gR,c,none⟩ _ gK (Ne.symm h.ne),Below.heap_setCell _ ⟨gR,r,none⟩ _ gK (Ne.symm h.ne)])
section
variable {g Bt gR gK:Nat} {P0:List Nat} {w0 w:World} {s:MM} {P Q:List Nat}
theorem St.cR (h:St g Bt gR gK P0 w0 s P Q w) {i p:Nat} (hi:i<6) (hp:P.getD i 0=p):w.cell? ⟨gR,i,none⟩=some (.slice (some ⟨p,0,none⟩) 6 6):=by
 subst hp
 exact h.pR.cell i (by rw[h.lP];exact hi)
theorem St.cK (h:St g Bt gR gK P0 w0 s P Q w) {i p:Nat} (hi:i<6) (hp:Q.getD i 0=p):w.cell? ⟨gK,i,none⟩=some (.slice (some ⟨p,0,none⟩) 6 6):=by
 subst hp
 exact h.pK.cell i (by rw[h.lQ];exact hi)
theorem St.rowR (h:St g Bt gR gK P0 w0 s P Q w) {i p:Nat} (hi:i<6) (hp:P.getD i 0=p):RowN w p (rowAt s.1 i):=by
 subst hp
 exact h.rR i hi
theorem St.rowK (h:St g Bt gR gK P0 w0 s P Q w) {i p:Nat} (hi:i<6) (hp:Q.getD i 0=p):RowN w p (rowAt s.2 i):=by
 subst hp
 exact h.rK i hi
theorem St.eR (h:St g Bt gR gK P0 w0 s P Q w) {i j p:Nat} (hi:i<6) (hj:j<6) (hp:P.getD i 0=p):w.cell? ⟨p,j,none⟩=some (.int .u8 (elem s.1 i j:Nat)):=(h.rowR hi hp).cell j (by rw[(h.wR.2 i hi).1];exact hj)
theorem St.callR (h:St g Bt gR gK P0 w0 s P Q w) {k p gb cb x:Nat} {bs:List Nat} (hk:k<6) (hp:P.getD k 0=p) (hb:Bys w gb bs) (hne:gb≠p) (h6:bs.length=6) (hbs : ∀ y∈bs,y≤255) (hx:x≤255) (hcb:6≤cb) :
  Calls Tryz.prog 95 #[.slice (some ⟨p,0,none⟩) 6 6,.slice (some ⟨gb,0,none⟩) 6 cb,.int .u8 (x:Int),.pointer (some ⟨Bt,0,none⟩)] w fun e w'=>e = .returned (.tuple #[])∧St g Bt gR gK P0 w0 (upd s.1 k bs x,s.2) P Q w':=by
 have hr:=h.rowR hk hp
 refine(add_calls g Bt p gb cb (rowAt s.1 k) bs x w h.tb h.bx.cell (box_ne_row h.bx hr) ?_ hr hb hne (h.wR.2 k hk).1 h6 (h.wR.2 k hk).2 hbs hx hcb).mono ?_
 ·rintro rfl
  exact h.gt.2.2 (hp ▸ h.sP _ (mem_get (by rw[h.lP];exact hk)))
 ·rintro e w' ⟨rfl,h1,h2⟩
  subst hp
  exact⟨rfl,h.addR hk h6 x h1 h2⟩
theorem St.callK (h:St g Bt gR gK P0 w0 s P Q w) {k p gb cb x:Nat} {bs:List Nat} (hk:k<6) (hp:Q.getD k 0=p) (hb:Bys w gb bs) (hne:gb≠p) (h6:bs.length=6) (hbs : ∀ y∈bs,y≤255) (hx:x≤255) (hcb:6≤cb) :
  Calls Tryz.prog 95 #[.slice (some ⟨p,0,none⟩) 6 6,.slice (some ⟨gb,0,none⟩) 6 cb,.int .u8 (x:Int),.pointer (some ⟨Bt,0,none⟩)] w fun e w'=>e = .returned (.tuple #[])∧St g Bt gR gK P0 w0 (s.1,upd s.2 k bs x) P Q w':=by
 have hr:=h.rowK hk hp
 refine(add_calls g Bt p gb cb (rowAt s.2 k) bs x w h.tb h.bx.cell (box_ne_row h.bx hr) ?_ hr hb hne (h.wK.2 k hk).1 h6 (h.wK.2 k hk).2 hbs hx hcb).mono ?_
 ·rintro rfl
  have h1:=h.sQ _ (mem_get (P:=Q) (i:=k) (by rw[h.lQ];exact hk))
  rw[hp]at h1
  have:=h.gt.1
  omega
 ·rintro e w' ⟨rfl,h1,h2⟩
  subst hp
  exact⟨rfl,h.addK hk h6 x h1 h2⟩
end
end Go.Proofs.YtdcfonmjbelgbaaGreatDoor
end
section
namespace Go.Proofs.YtdcfonmjbelgbaaGreatDoor
open Go.RowKit Q YtdcfonmjbelgbaaGreatDoorW.PrintWords YtdcfonmjbelgbaaGreatDoorW.PrintLast YtdcfonmjbelgbaaGreatDoorW.PrintMore
def SolveEnd (gR:Nat) (P0:List Nat) (g:Nat) (R:List (List Nat)) (w:World) (e:Ending) (w':World):Prop:=
 ∃ gK Q,e = .returned (.slice (some ⟨gK,0,none⟩) 6 6)∧Ptr w' gK Q∧Q.length=6∧(∀ i,i<6→RowN w' (Q.getD i 0) (rowAt R i))∧Wf R∧w.heap.size≤gK∧IsTab w' g∧Fr gR P0 w w'
theorem solve_calls (g gR cR:Nat) (P0:List Nat) (M0:List (List Nat)) (w:World) (hI:IsTab w g) (hP:Ptr w gR P0) (h6:P0.length=6) (hnd:P0.Nodup) (hW:Wf M0) (hR : ∀ i,i<6→RowN w (P0.getD i 0) (rowAt M0 i)) (hg:g≠gR∧g ∉ P0) (hc:6≤cR) :
  Calls Tryz.prog 75 #[.pointer (some ⟨g,0,none⟩),.slice (some ⟨gR,0,none⟩) 6 cR] w (SolveEnd gR P0 g (solveN M0) w):=by
 have hmk:=makeK
 have HI:=Aside0.mk hI
 have HP:=Aside0.mk hP
 have H6:=Lib.hid h6
 have HD:=Aside0.mk hnd
 have HW:=Aside0.mk hW
 have HR:=Aside0.mk hR
 have HG:=Aside0.mk hg
 clear hI hP h6 hnd hW hR hg
 go_enter Tryz.func75,Tryz.ntmps75
 go_wp2
 go_step3
 go_wp2
 have G1:=Aside0.mk (Mk.start HI.out)
 generalize (w.alloc (.cells #[.pointer (some ⟨g,0,none⟩)] 55)).alloc (.cells (cellsK []) 80)=wa at G1 ⊢
 clear hmk
 go_loopw [19] (fun i wr=> ∃ (k:Nat) (Q:List Nat),k≤6∧i = .int .i64 k∧Aside0 (Q.length=k)∧Aside0 (Mk g w.heap.size (w.heap.size+1) w Q wr)) (fun i _=>6-(intOf i).toNat)
 case atStart=>exact⟨0,[],by omega,rfl,⟨rfl⟩,G1⟩
 case round=>
  clear G1
  obtain⟨k,Q,hk,rfl,HQ,G1⟩:=hrel
  by_cases hlt:k<6
  ·have hHL:=Lib.hid hlt
   have c0:=G1.out.bx.cell
   go_wp2_with (go_at_call 43;refine(row_told g k (by have:=hHL.out;omega) _ G1.out.tb).mono ?_;rintro e w1 ⟨b,rfl,hF,hbg,hB⟩;have G2:=Aside0.mk (G1.out.push (by rw[HQ.out];exact hHL.out) hB (by rw[HQ.out];exact hF) hbg);have h3:=(G1.out.below hB).hb;have f1:w1.frozen? ⟨w.heap.size+1,k,none⟩=false:=Lib.frozen_of_heap h3 k;have c1:w1.cell? ⟨w.heap.size+1,k,none⟩=some (.slice none 0 0):=cellK_at h3 HQ.out hHL.out;clear hF hbg hB h3 c0)
   rw[HQ.out]at G2
   go_roundw
   case rel=>exact⟨k+1,Q++[b],hHL.out,by go_num,⟨by rw[List.length_append,HQ.out];rfl⟩,G2⟩
   case measure=>simp[intOf];omega
  ·obtain rfl:k=6:=by omega
   go_wp2
   go_step3
   go_wp2
   have HS0:=Aside0.mk (G1.out.st (gR:=gR) HQ.out HP.out H6.out HD.out HW.out HR.out HI.out HG.out)
   clear G1 HP H6 HD HW HR HI
   obtain⟨s0,hs0⟩ : ∃ s:MM,(M0,unitsN)=s:=⟨_,rfl⟩
   rw[hs0]at HS0
   have HSE:=Lib.hid hs0
   clear hs0
   go_loopg [32] 6 (fun g1 s32 wx=> ∃ c:Nat,c+g1=6∧s32 = .int .i64 c∧Aside0 (∃ P Q,St g w.heap.size gR (w.heap.size+1) P0 w ((List.range c).foldl colN s0) P Q wx))
   case atStart=>exact⟨0,by omega,rfl,⟨_,_,HS0.out⟩⟩
   case round=>
    clear HS0
    obtain⟨c,hcg,rfl,HS⟩:=hrel
    obtain⟨P,Q2,HS⟩:=HS.out
    cases gk with
    | zero=>
     obtain rfl:c=6:=by omega
     go_wp2
     go_ret
     refine⟨w.heap.size+1,Q2,rfl,HS.pK,HS.lQ,fun i hi=> ?_,?_,by omega,HS.tb,HS.fr⟩
     ·have h:=HS.rK i hi
      rw[←HSE.out]at h
      exact h
     ·have h:=HS.wK
      rw[←HSE.out]at h
      exact h
    | succ g1=>
     have hc6:c<6:=by omega
     have hc6i:(c:Int)<6:=by omega
     have HF:=Lib.hid (fold_succ s0 c colN)
     generalize (List.range c).foldl colN s0=s at *
     have HS:=Aside0.mk HS
     go_wp2
     go_loopg [9] (6-c) (fun g2 s9 wy=> ∃ r:Nat,r+g2=6∧c≤r∧s9 = .int .i64 r∧Aside0 (findP s.1 c (6-c) c=findP s.1 c g2 r)∧wr=wy)
     case atStart=>exact⟨c,by omega,Nat.le_refl _,rfl,⟨rfl⟩,rfl⟩
     case round=>
      obtain⟨r,hrg,hcr,rfl,HP,rfl⟩:=hrel
      cases gk with
      | zero=>
       have hr6 : ¬ (r:Int)<6:=by omega
       have HN:=Lib.hid (colN_none (s:=s) (c:=c) HP.out)
       go_wp2
       go_roundg g1
       case measure=>omega
       case rel=>exact⟨c+1,by omega,by first|rfl|simp,⟨P,Q2,by rw[HF.out,HN.out];exact HS.out⟩⟩
      | succ g2=>
       have hr6:(r:Int)<6:=by omega
       have hr6':r<6:=by omega
       obtain⟨pr,hpr⟩ : ∃ p,P.getD r 0=p:=⟨_,rfl⟩
       have cRr:=HS.out.cR hr6' hpr
       have e0:=HS.out.eR hr6' hc6 hpr
       by_cases hz:elem s.1 r c=0
       ·have HZ:=Lib.hid hz
        have hz2:((elem s.1 r c:Nat):Int)=0:=by omega
        rw[hz2]at e0
        have hpr:=Lib.hid hpr
        clear hz hz2
        go_wp2
        go_roundg g2
        case measure=>omega
        case rel=>exact⟨r+1,by omega,by omega,by first|rfl|simp,⟨by rw[HP.out,findP_next HZ.out]⟩,rfl⟩
       ·have HZ:=Lib.hid hz
        have HN:=Lib.hid (colN_some (s:=s) (c:=c) (r:=r) (by rw[HP.out,findP_hit hz]))
        have hz2:(((elem s.1 r c:Nat):Int)==0)=false:=by rw[beq_eq_false_iff_ne];omega
        generalize elem s.1 r c=ez at e0 hz2
        obtain⟨pc,hpc⟩ : ∃ p,P.getD c 0=p:=⟨_,rfl⟩
        obtain⟨qc,hqc⟩ : ∃ p,Q2.getD c 0=p:=⟨_,rfl⟩
        obtain⟨qr,hqr⟩ : ∃ p,Q2.getD r 0=p:=⟨_,rfl⟩
        have cRc:=HS.out.cR hc6 hpc
        have cKc:=HS.out.cK hc6 hqc
        have cKr:=HS.out.cK hr6' hqr
        have HSW:=fun (wd:World) (hd:St g w.heap.size gR (w.heap.size+1) P0 w s P Q2 wd)=>hd.swap hr6' hc6
        rw[hpr,hpc,hqr,hqc]at HSW
        have HSW:=Aside0.mk HSW
        have hpr:=Lib.hid hpr
        have hpc:=Lib.hid hpc
        have hqc:=Lib.hid hqc
        have hqr:=Lib.hid hqr
        clear hz
        go_wp2
        refine start_ (n:=32) (S:=fun w'=>w'.cell? ⟨gR,c,none⟩=some (.slice (some ⟨pc,0,none⟩) 6 6)∧w'.cell? ⟨gR,r,none⟩=some (.slice (some ⟨pr,0,none⟩) 6 6)∧w'.cell? ⟨w.heap.size+1,c,none⟩=some (.slice (some ⟨qc,0,none⟩) 6 6)∧w'.cell? ⟨w.heap.size+1,r,none⟩=some (.slice (some ⟨qr,0,none⟩) 6 6)∧Aside0 (St g w.heap.size gR (w.heap.size+1) P0 w s P Q2 w')) (ds:=[25,27,29,31]) #[false,false,false,false,false,false,false,false,false,false,false,false,false,false,false,false,false,false,false,false,false,false,false,false,false,false,false,false,false,false,false,false] (by kernel_rfl) rfl rfl ⟨cRc,cRr,cKc,cKr,⟨HS.out.below (Below.drew (Below.refl _ _))⟩⟩ (fun hHeld=> ?_)
        refine pure_ (i:=0) (N:=some 50) (v:= ?_) (a':= ?_) #[true,false,false,false,false,false,false,false,false,false,false,false,false,false,false,false,false,false,false,false,false,false,false,false,false,false,false,false,false,false,false,false] rfl rfl (by kernel_rfl) (fun _ _ _ h=>h) (Or.inl ⟨by rfl,?_⟩) ?_ ?_
        rotate_left
        ·intro w'
         go_simp
         with_reducible rfl
        rotate_left
        ·simp only[Act.put,zA,zB,zC]
         rfl
        refine pure_ (i:=1) (N:=some 51) (v:= ?_) (a':= ?_) #[true,true,false,false,false,false,false,false,false,false,false,false,false,false,false,false,false,false,false,false,false,false,false,false,false,false,false,false,false,false,false,false] rfl rfl (by kernel_rfl) (fun _ _ _ h=>h) (Or.inl ⟨by rfl,?_⟩) ?_ ?_
        rotate_left
        ·intro w'
         go_simp
         with_reducible rfl
        rotate_left
        ·simp only[Act.put,zA,zB,zC]
         rfl
        refine pure_ (i:=2) (N:=some 52) (v:= ?_) (a':= ?_) #[true,true,true,false,false,false,false,false,false,false,false,false,false,false,false,false,false,false,false,false,false,false,false,false,false,false,false,false,false,false,false,false] rfl rfl (by kernel_rfl) (fun _ _ _ h=>h) (Or.inl ⟨by rfl,?_⟩) ?_ ?_
        rotate_left
        ·intro w'
         go_simp
         with_reducible rfl
        rotate_left
        ·simp only[Act.put,zA,zB,zC]
         rfl
        refine pure_ (i:=3) (N:=some 53) (v:= ?_) (a':= ?_) #[true,true,true,true,false,false,false,false,false,false,false,false,false,false,false,false,false,false,false,false,false,false,false,false,false,false,false,false,false,false,false,false] rfl rfl (by kernel_rfl) (fun _ _ _ h=>h) (Or.inl ⟨by rfl,?_⟩) ?_ ?_
        rotate_left
        ·intro w'
         go_simp
         with_reducible rfl
        rotate_left
        ·simp only[Act.put,zA,zB,zC]
         rfl
        refine pure_ (i:=4) (N:=some 54) (v:= ?_) (a':= ?_) #[true,true,true,true,true,false,false,false,false,false,false,false,false,false,false,false,false,false,false,false,false,false,false,false,false,false,false,false,false,false,false,false] rfl rfl (by kernel_rfl) (fun _ _ _ h=>h) (Or.inl ⟨by rfl,?_⟩) ?_ ?_
        rotate_left
        ·intro w'
         go_simp
         with_reducible rfl
        rotate_left
        ·simp only[Act.put,zA,zB,zC]
         rfl
        refine pure_ (i:=5) (N:=some 55) (v:= ?_) (a':= ?_) #[true,true,true,true,true,true,false,false,false,false,false,false,false,false,false,false,false,false,false,false,false,false,false,false,false,false,false,false,false,false,false,false] rfl rfl (by kernel_rfl) (fun _ _ _ h=>h) (Or.inl ⟨by rfl,?_⟩) ?_ ?_
        rotate_left
        ·intro w'
         go_simp
         with_reducible rfl
        rotate_left
        ·simp only[Act.put,zA,zB,zC]
         rfl
        refine pure_ (i:=6) (N:=some 56) (v:= ?_) (a':= ?_) #[true,true,true,true,true,true,true,false,false,false,false,false,false,false,false,false,false,false,false,false,false,false,false,false,false,false,false,false,false,false,false,false] rfl rfl (by kernel_rfl) (fun _ _ _ h=>h) (Or.inl ⟨by rfl,?_⟩) ?_ ?_
        rotate_left
        ·intro w'
         go_simp
         with_reducible rfl
        rotate_left
        ·simp only[Act.put,zA,zB,zC]
         rfl
        refine pure_ (i:=7) (N:=some 57) (v:= ?_) (a':= ?_) #[true,true,true,true,true,true,true,true,false,false,false,false,false,false,false,false,false,false,false,false,false,false,false,false,false,false,false,false,false,false,false,false] rfl rfl (by kernel_rfl) (fun _ _ _ h=>h) (Or.inl ⟨by rfl,?_⟩) ?_ ?_
        rotate_left
        ·intro w'
         go_simp
         with_reducible rfl
        rotate_left
        ·simp only[Act.put,zA,zB,zC]
         rfl
        refine pure_ (i:=8) (N:=some 58) (v:= ?_) (a':= ?_) #[true,true,true,true,true,true,true,true,true,false,false,false,false,false,false,false,false,false,false,false,false,false,false,false,false,false,false,false,false,false,false,false] rfl rfl (by kernel_rfl) (fun _ _ _ h=>h) (Or.inl ⟨by rfl,?_⟩) ?_ ?_
        rotate_left
        ·intro w'
         go_simp
         with_reducible rfl
        rotate_left
        ·simp only[Act.put,zA,zB,zC]
         rfl
        refine pure_ (i:=9) (N:=some 59) (v:= ?_) (a':= ?_) #[true,true,true,true,true,true,true,true,true,true,false,false,false,false,false,false,false,false,false,false,false,false,false,false,false,false,false,false,false,false,false,false] rfl rfl (by kernel_rfl) (fun _ _ _ h=>h) (Or.inl ⟨by rfl,?_⟩) ?_ ?_
        rotate_left
        ·intro w'
         go_simp
         with_reducible rfl
        rotate_left
        ·simp only[Act.put,zA,zB,zC]
         rfl
        refine pure_ (i:=10) (N:=some 60) (v:= ?_) (a':= ?_) #[true,true,true,true,true,true,true,true,true,true,true,false,false,false,false,false,false,false,false,false,false,false,false,false,false,false,false,false,false,false,false,false] rfl rfl (by kernel_rfl) (fun _ _ _ h=>h) (Or.inl ⟨by rfl,?_⟩) ?_ ?_
        rotate_left
        ·intro w'
         go_simp
         with_reducible rfl
        rotate_left
        ·simp only[Act.put,zA,zB,zC]
         rfl
        refine pure_ (i:=12) (N:=some 62) (v:= ?_) (a':= ?_) #[true,true,true,true,true,true,true,true,true,true,true,false,true,false,false,false,false,false,false,false,false,false,false,false,false,false,false,false,false,false,false,false] rfl rfl (by kernel_rfl) (fun _ _ _ h=>h) (Or.inl ⟨by rfl,?_⟩) ?_ ?_
        rotate_left
        ·intro w'
         go_simp
         with_reducible rfl
        rotate_left
        ·simp only[Act.put,zA,zB,zC]
         rfl
        refine pure_ (i:=13) (N:=some 63) (v:= ?_) (a':= ?_) #[true,true,true,true,true,true,true,true,true,true,true,false,true,true,false,false,false,false,false,false,false,false,false,false,false,false,false,false,false,false,false,false] rfl rfl (by kernel_rfl) (fun _ _ _ h=>h) (Or.inl ⟨by rfl,?_⟩) ?_ ?_
        rotate_left
        ·intro w'
         go_simp
         with_reducible rfl
        rotate_left
        ·simp only[Act.put,zA,zB,zC]
         rfl
        refine pure_ (i:=14) (N:=some 64) (v:= ?_) (a':= ?_) #[true,true,true,true,true,true,true,true,true,true,true,false,true,true,true,false,false,false,false,false,false,false,false,false,false,false,false,false,false,false,false,false] rfl rfl (by kernel_rfl) (fun _ _ _ h=>h) (Or.inl ⟨by rfl,?_⟩) ?_ ?_
        rotate_left
        ·intro w'
         go_simp
         with_reducible rfl
        rotate_left
        ·simp only[Act.put,zA,zB,zC]
         rfl
        refine pure_ (i:=16) (N:=some 66) (v:= ?_) (a':= ?_) #[true,true,true,true,true,true,true,true,true,true,true,false,true,true,true,false,true,false,false,false,false,false,false,false,false,false,false,false,false,false,false,false] rfl rfl (by kernel_rfl) (fun _ _ _ h=>h) (Or.inl ⟨by rfl,?_⟩) ?_ ?_
        rotate_left
        ·intro w'
         go_simp
         with_reducible rfl
        rotate_left
        ·simp only[Act.put,zA,zB,zC]
         rfl
        refine pure_ (i:=17) (N:=some 67) (v:= ?_) (a':= ?_) #[true,true,true,true,true,true,true,true,true,true,true,false,true,true,true,false,true,true,false,false,false,false,false,false,false,false,false,false,false,false,false,false] rfl rfl (by kernel_rfl) (fun _ _ _ h=>h) (Or.inl ⟨by rfl,?_⟩) ?_ ?_
        rotate_left
        ·intro w'
         go_simp
         with_reducible rfl
        rotate_left
        ·simp only[Act.put,zA,zB,zC]
         rfl
        refine pure_ (i:=18) (N:=some 68) (v:= ?_) (a':= ?_) #[true,true,true,true,true,true,true,true,true,true,true,false,true,true,true,false,true,true,true,false,false,false,false,false,false,false,false,false,false,false,false,false] rfl rfl (by kernel_rfl) (fun _ _ _ h=>h) (Or.inl ⟨by rfl,?_⟩) ?_ ?_
        rotate_left
        ·intro w'
         go_simp
         with_reducible rfl
        rotate_left
        ·simp only[Act.put,zA,zB,zC]
         rfl
        refine pure_ (i:=20) (N:=some 70) (v:= ?_) (a':= ?_) #[true,true,true,true,true,true,true,true,true,true,true,false,true,true,true,false,true,true,true,false,true,false,false,false,false,false,false,false,false,false,false,false] rfl rfl (by kernel_rfl) (fun _ _ _ h=>h) (Or.inl ⟨by rfl,?_⟩) ?_ ?_
        rotate_left
        ·intro w'
         go_simp
         with_reducible rfl
        rotate_left
        ·simp only[Act.put,zA,zB,zC]
         rfl
        refine pure_ (i:=21) (N:=some 71) (v:= ?_) (a':= ?_) #[true,true,true,true,true,true,true,true,true,true,true,false,true,true,true,false,true,true,true,false,true,true,false,false,false,false,false,false,false,false,false,false] rfl rfl (by kernel_rfl) (fun _ _ _ h=>h) (Or.inl ⟨by rfl,?_⟩) ?_ ?_
        rotate_left
        ·intro w'
         go_simp
         with_reducible rfl
        rotate_left
        ·simp only[Act.put,zA,zB,zC]
         rfl
        refine pure_ (i:=22) (N:=some 72) (v:= ?_) (a':= ?_) #[true,true,true,true,true,true,true,true,true,true,true,false,true,true,true,false,true,true,true,false,true,true,true,false,false,false,false,false,false,false,false,false] rfl rfl (by kernel_rfl) (fun _ _ _ h=>h) (Or.inl ⟨by rfl,?_⟩) ?_ ?_
        rotate_left
        ·intro w'
         go_simp
         with_reducible rfl
        rotate_left
        ·simp only[Act.put,zA,zB,zC]
         rfl
        refine take_ (i:=11) (N:=some 61) (v:= ?_) (a':= ?_) #[true,true,true,true,true,true,true,true,true,true,true,true,true,true,true,false,true,true,true,false,true,true,true,false,false,false,false,false,false,false,false,false] rfl rfl (by kernel_rfl) (fun _ _ _ h=>h) (Or.inl ⟨by rfl,?_⟩) hHeld ?_ ?_
        rotate_left
        ·rintro w' ⟨s0,s1,s2,s3,s4⟩
         go_simp
         with_reducible rfl
        rotate_left
        ·simp only[Act.put,zA,zB,zC]
         rfl
        refine take_ (i:=15) (N:=some 65) (v:= ?_) (a':= ?_) #[true,true,true,true,true,true,true,true,true,true,true,true,true,true,true,true,true,true,true,false,true,true,true,false,false,false,false,false,false,false,false,false] rfl rfl (by kernel_rfl) (fun _ _ _ h=>h) (Or.inl ⟨by rfl,?_⟩) hHeld ?_ ?_
        rotate_left
        ·rintro w' ⟨s0,s1,s2,s3,s4⟩
         go_simp
         with_reducible rfl
        rotate_left
        ·simp only[Act.put,zA,zB,zC]
         rfl
        refine take_ (i:=19) (N:=some 69) (v:= ?_) (a':= ?_) #[true,true,true,true,true,true,true,true,true,true,true,true,true,true,true,true,true,true,true,true,true,true,true,false,false,false,false,false,false,false,false,false] rfl rfl (by kernel_rfl) (fun _ _ _ h=>h) (Or.inl ⟨by rfl,?_⟩) hHeld ?_ ?_
        rotate_left
        ·rintro w' ⟨s0,s1,s2,s3,s4⟩
         go_simp
         with_reducible rfl
        rotate_left
        ·simp only[Act.put,zA,zB,zC]
         rfl
        refine take_ (i:=23) (N:=some 73) (v:= ?_) (a':= ?_) #[true,true,true,true,true,true,true,true,true,true,true,true,true,true,true,true,true,true,true,true,true,true,true,true,false,false,false,false,false,false,false,false] rfl rfl (by kernel_rfl) (fun _ _ _ h=>h) (Or.inl ⟨by rfl,?_⟩) hHeld ?_ ?_
        rotate_left
        ·rintro w' ⟨s0,s1,s2,s3,s4⟩
         go_simp
         with_reducible rfl
        rotate_left
        ·simp only[Act.put,zA,zB,zC]
         rfl
        refine pure_ (i:=24) (N:=some 74) (v:= ?_) (a':= ?_) #[true,true,true,true,true,true,true,true,true,true,true,true,true,true,true,true,true,true,true,true,true,true,true,true,true,false,false,false,false,false,false,false] rfl rfl (by kernel_rfl) (fun _ _ _ h=>h) (Or.inl ⟨by rfl,?_⟩) ?_ ?_
        rotate_left
        ·intro w'
         go_simp
         with_reducible rfl
        rotate_left
        ·simp only[Act.put,zA,zB,zC]
         rfl
        refine last_ (i:=25) (N:=none) #[true,true,true,true,true,true,true,true,true,true,true,true,true,true,true,true,true,true,true,true,true,true,true,true,true,true,false,false,false,false,false,false] rfl rfl (by kernel_rfl) (by decide) (fun K hK=> ?_)
        refine skip_ (by rfl) rfl (stp_run _ (.tmp 74) (.tmp 61) hHeld.2.2.2.2.out.pR (k:=r) (by rw[hHeld.2.2.2.2.out.lP];omega) rfl rfl rfl) ?_
        refine hK.out _ _ ?_
        clear hK K
        refine pure_ (i:=26) (N:=some 75) (v:= ?_) (a':= ?_) #[true,true,true,true,true,true,true,true,true,true,true,true,true,true,true,true,true,true,true,true,true,true,true,true,true,true,true,false,false,false,false,false] rfl rfl (by kernel_rfl) (fun _ _ _ h=>h) (Or.inl ⟨by rfl,?_⟩) ?_ ?_
        rotate_left
        ·intro w'
         go_simp
         with_reducible rfl
        rotate_left
        ·simp only[Act.put,zA,zB,zC]
         rfl
        refine last_ (i:=27) (N:=none) #[true,true,true,true,true,true,true,true,true,true,true,true,true,true,true,true,true,true,true,true,true,true,true,true,true,true,true,true,false,false,false,false] rfl rfl (by kernel_rfl) (by decide) (fun K hK=> ?_)
        refine skip_ (by rfl) rfl (stp_run _ (.tmp 75) (.tmp 65) (hHeld.2.2.2.2.out.pR.set r pc (by rw[hHeld.2.2.2.2.out.lP];omega)) (k:=c) (by rw[List.length_set,hHeld.2.2.2.2.out.lP];omega) rfl rfl rfl) ?_
        refine hK.out _ _ ?_
        clear hK K
        refine pure_ (i:=28) (N:=some 76) (v:= ?_) (a':= ?_) #[true,true,true,true,true,true,true,true,true,true,true,true,true,true,true,true,true,true,true,true,true,true,true,true,true,true,true,true,true,false,false,false] rfl rfl (by kernel_rfl) (fun _ _ _ h=>h) (Or.inl ⟨by rfl,?_⟩) ?_ ?_
        rotate_left
        ·intro w'
         go_simp
         with_reducible rfl
        rotate_left
        ·simp only[Act.put,zA,zB,zC]
         rfl
        refine last_ (i:=29) (N:=none) #[true,true,true,true,true,true,true,true,true,true,true,true,true,true,true,true,true,true,true,true,true,true,true,true,true,true,true,true,true,true,false,false] rfl rfl (by kernel_rfl) (by decide) (fun K hK=> ?_)
        refine skip_ (by rfl) rfl (stp_run _ (.tmp 76) (.tmp 69) (st_far2 hHeld.2.2.2.2.out pc pr r c) (k:=r) (by rw[hHeld.2.2.2.2.out.lQ];omega) rfl rfl rfl) ?_
        refine hK.out _ _ ?_
        clear hK K
        refine pure_ (i:=30) (N:=some 77) (v:= ?_) (a':= ?_) #[true,true,true,true,true,true,true,true,true,true,true,true,true,true,true,true,true,true,true,true,true,true,true,true,true,true,true,true,true,true,true,false] rfl rfl (by kernel_rfl) (fun _ _ _ h=>h) (Or.inl ⟨by rfl,?_⟩) ?_ ?_
        rotate_left
        ·intro w'
         go_simp
         with_reducible rfl
        rotate_left
        ·simp only[Act.put,zA,zB,zC]
         rfl
        refine last_ (i:=31) (N:=none) #[true,true,true,true,true,true,true,true,true,true,true,true,true,true,true,true,true,true,true,true,true,true,true,true,true,true,true,true,true,true,true,true] rfl rfl (by kernel_rfl) (by decide) (fun K hK=> ?_)
        refine skip_ (by rfl) rfl (stp_run _ (.tmp 77) (.tmp 73) ((st_far2 hHeld.2.2.2.2.out pc pr r c).set r qc (by rw[hHeld.2.2.2.2.out.lQ];omega)) (k:=c) (by rw[List.length_set,hHeld.2.2.2.2.out.lQ];omega) rfl rfl rfl) ?_
        refine hK.out _ _ ?_
        clear hK K
        refine done_ (by kernel_rfl) ?_
        have HS2:=Aside0.mk (HSW.out _ hHeld.2.2.2.2.out)
        have he2:elem (swp s.1 r c) c c=elem s.1 r c:=by unfold elem;rw[rowAt_swp _ _ _ _ (by rw[HS.out.wR.1];exact hr6') (by rw[HS.out.wR.1];exact hc6),if_pos rfl]
        have hx0:Hid (¬ elem (swp s.1 r c) c c=0):=Lib.hid (by rw[he2];exact HZ.out)
        clear hHeld HSW cRc cRr cKc cKr he2 e0 hz2 hpr hpc hqc hqr HP
        generalize (((wr.drew.setCell ⟨gR,r,none⟩ (sl pc)).setCell ⟨gR,c,none⟩ (sl pr)).setCell ⟨w.heap.size+1,r,none⟩ (sl qc)).setCell ⟨w.heap.size+1,c,none⟩ (sl qr)=wn at HS2 ⊢
        obtain⟨s2,hs2⟩ : ∃ x:MM,(swp s.1 r c,swp s.2 r c)=x:=⟨_,rfl⟩
        obtain⟨P2,hP2⟩ : ∃ x,swpP P r c=x:=⟨_,rfl⟩
        obtain⟨Q3,hQ3⟩ : ∃ x,swpP Q2 r c=x:=⟨_,rfl⟩
        rw[hs2,hP2,hQ3]at HS2
        rw[show elem (swp s.1 r c) c c=elem s2.1 c c by rw[←hs2]]at hx0
        have hs2:=Lib.hid hs2
        clear hP2 hQ3 HS
        obtain⟨pc2,hpc2⟩ : ∃ p,P2.getD c 0=p:=⟨_,rfl⟩
        obtain⟨qc2,hqc2⟩ : ∃ p,Q3.getD c 0=p:=⟨_,rfl⟩
        have cRc:=HS2.out.cR hc6 hpc2
        have e0:=HS2.out.eR hc6 hc6 hpc2
        have c0:=HS2.out.bx.cell
        have l0:=HS2.out.bx.lt
        have l1:=HS2.out.pR.lt
        have l2:=(HS2.out.rowR hc6 hpc2).lt
        have hx255:=elem_le HS2.out.wR hc6 hc6
        have hpc2:=Lib.hid hpc2
        have hqc2:=Lib.hid hqc2
        obtain⟨x0,hx⟩ : ∃ x,elem s2.1 c c=x:=⟨_,rfl⟩
        rw[hx]at e0 hx0 hx255
        have hx:=Lib.hid hx
        have i0:(0:Int)≤(c:Int):=by omega
        go_wp2
        refine region_below_tail 13 (by kernel_rfl) (by kernel_rfl) ?_
        simp only[List.take_succ_cons,List.take_zero,List.drop_succ_cons,List.drop_zero]
        repeat (first|go_big_quiet_step (fail)|(refine BigFrame.wpQuiet_want (by rfl) (fun K hK=> ?_);go_big_quiet_op;refine⟨_,fun _ _=>rfl,hK _ ?_⟩;clear hK K)|(refine q_ld 5 _ _ _ _ rfl rfl rfl rfl (ld_u8 _ _) (by assumption) (by assumption) ?_;simp only[Act.put,zA,zB,zC])|(refine q_ld 55 _ _ _ _ rfl rfl rfl rfl (fun w' h=>by go_simp) (by assumption) (by assumption) ?_;simp only[Act.put,zA,zB,zC])|(refine q_ld 80 _ _ _ _ rfl rfl rfl rfl (fun w' h=>by go_simp) (by assumption) (by assumption) ?_;simp only[Act.put,zA,zB,zC])|(refine q_go (f:=84) Tryz.func84 (by kernel_rfl) rfl #[.pointer (some ⟨g,0,none⟩),.int .u8 1,.int .u8 (x0:Int)] _ _ rfl rfl rfl (by simp only[List.map_toArray,List.map_cons,List.map_nil];rfl) (fun w' hw'=>over_one g x0 w' (HS2.out.tb.below hw') hx0.out hx255) ?_;simp only[Act.put,zA,zB,zC]))
        refine wpQuiet_nil ?_
        intro w3 b3
        have HS2:=Aside0.mk (HS2.out.below b3)
        clear cRc e0 c0 l0 l1 l2 b3
        have hox:Go.bits .xor .u8 (ovr 1 x0:Int) 1=((ovr 1 x0 ^^^ 1:Nat):Int):=bits_xor8c (ovr 1 x0) 1 (ovr_le _ _) (by omega)
        have ho1:=xor_le255 (ovr_le 1 x0) (show 1≤255 by omega)
        obtain⟨o1,ho⟩ : ∃ o,ovr 1 x0 ^^^ 1=o:=⟨_,rfl⟩
        rw[ho]at hox ho1
        have ho:=Lib.hid ho
        have cRc:=HS2.out.cR hc6 hpc2.out
        obtain⟨ov,hov⟩ : ∃ o,ovr 1 x0=o:=⟨_,rfl⟩
        rw[hov]at hox
        go_wp2
        rw[hov]
        have hov:=Lib.hid hov
        refine start_ (n:=13) (S:=fun w'=>w'.cell? ⟨gR,c,none⟩=some (.slice (some ⟨pc2,0,none⟩) 6 6)∧Aside0 (St g w.heap.size gR (w.heap.size+1) P0 w s2 P2 Q3 w')) (ds:=[12]) #[false,false,false,false,false,false,false,false,false,false,false,false,false] (by kernel_rfl) rfl rfl ⟨cRc,⟨HS2.out.below (Below.drew (Below.refl _ _))⟩⟩ (fun hHeld=> ?_)
        refine pure_ (i:=0) (N:=some 90) (v:= ?_) (a':= ?_) #[true,false,false,false,false,false,false,false,false,false,false,false,false] rfl rfl (by kernel_rfl) (fun _ _ _ h=>h) (Or.inl ⟨by rfl,?_⟩) ?_ ?_
        rotate_left
        ·intro w'
         go_simp
         with_reducible rfl
        rotate_left
        ·simp only[Act.put,zA,zB,zC]
         rfl
        refine pure_ (i:=1) (N:=some 91) (v:= ?_) (a':= ?_) #[true,true,false,false,false,false,false,false,false,false,false,false,false] rfl rfl (by kernel_rfl) (fun _ _ _ h=>h) (Or.inl ⟨by rfl,?_⟩) ?_ ?_
        rotate_left
        ·intro w'
         go_simp
         with_reducible rfl
        rotate_left
        ·simp only[Act.put,zA,zB,zC]
         rfl
        refine pure_ (i:=2) (N:=some 92) (v:= ?_) (a':= ?_) #[true,true,true,false,false,false,false,false,false,false,false,false,false] rfl rfl (by kernel_rfl) (fun _ _ _ h=>h) (Or.inl ⟨by rfl,?_⟩) ?_ ?_
        rotate_left
        ·intro w'
         go_simp
         with_reducible rfl
        rotate_left
        ·simp only[Act.put,zA,zB,zC]
         rfl
        refine pure_ (i:=3) (N:=some 93) (v:= ?_) (a':= ?_) #[true,true,true,true,false,false,false,false,false,false,false,false,false] rfl rfl (by kernel_rfl) (fun _ _ _ h=>h) (Or.inl ⟨by rfl,?_⟩) ?_ ?_
        rotate_left
        ·intro w'
         go_simp
         with_reducible rfl
        rotate_left
        ·simp only[Act.put,zA,zB,zC]
         rfl
        refine pure_ (i:=5) (N:=some 95) (v:= ?_) (a':= ?_) #[true,true,true,true,false,true,false,false,false,false,false,false,false] rfl rfl (by kernel_rfl) (fun _ _ _ h=>h) (Or.inl ⟨by rfl,?_⟩) ?_ ?_
        rotate_left
        ·intro w'
         go_simp
         with_reducible rfl
        rotate_left
        ·simp only[Act.put,zA,zB,zC]
         rfl
        refine pure_ (i:=6) (N:=some 96) (v:= ?_) (a':= ?_) #[true,true,true,true,false,true,true,false,false,false,false,false,false] rfl rfl (by kernel_rfl) (fun _ _ _ h=>h) (Or.inl ⟨by rfl,?_⟩) ?_ ?_
        rotate_left
        ·intro w'
         go_simp
         with_reducible rfl
        rotate_left
        ·simp only[Act.put,zA,zB,zC]
         rfl
        refine pure_ (i:=7) (N:=some 97) (v:= ?_) (a':= ?_) #[true,true,true,true,false,true,true,true,false,false,false,false,false] rfl rfl (by kernel_rfl) (fun _ _ _ h=>h) (Or.inl ⟨by rfl,?_⟩) ?_ ?_
        rotate_left
        ·intro w'
         go_simp
         with_reducible rfl
        rotate_left
        ·simp only[Act.put,zA,zB,zC]
         rfl
        refine pure_ (i:=10) (N:=some 100) (v:= ?_) (a':= ?_) #[true,true,true,true,false,true,true,true,false,false,true,false,false] rfl rfl (by kernel_rfl) (fun _ _ _ h=>h) (Or.inl ⟨by rfl,?_⟩) ?_ ?_
        rotate_left
        ·intro w'
         go_simp
         with_reducible rfl
        rotate_left
        ·simp only[Act.put,zA,zB,zC]
         rfl
        refine pure_ (i:=11) (N:=some 101) (v:= ?_) (a':= ?_) #[true,true,true,true,false,true,true,true,false,false,true,true,false] rfl rfl (by kernel_rfl) (fun _ _ _ h=>h) (Or.inl ⟨by rfl,?_⟩) ?_ ?_
        rotate_left
        ·intro w'
         go_simp
         with_reducible rfl
        rotate_left
        ·simp only[Act.put,zA,zB,zC]
         rfl
        refine take_ (i:=4) (N:=some 94) (v:= ?_) (a':= ?_) #[true,true,true,true,true,true,true,true,false,false,true,true,false] rfl rfl (by kernel_rfl) (fun _ _ _ h=>h) (Or.inl ⟨by rfl,?_⟩) hHeld ?_ ?_
        rotate_left
        ·rintro w' ⟨s0,s1⟩
         go_simp
         with_reducible rfl
        rotate_left
        ·simp only[Act.put,zA,zB,zC]
         rfl
        refine take_ (i:=8) (N:=some 98) (v:= ?_) (a':= ?_) #[true,true,true,true,true,true,true,true,true,false,true,true,false] rfl rfl (by kernel_rfl) (fun _ _ _ h=>h) (Or.inl ⟨by rfl,?_⟩) hHeld ?_ ?_
        rotate_left
        ·rintro w' ⟨s0,s1⟩
         go_simp
         with_reducible rfl
        rotate_left
        ·simp only[Act.put,zA,zB,zC]
         rfl
        refine one_ (i:=9) (N:=some 99) #[true,true,true,true,true,true,true,true,true,true,true,true,false] rfl rfl (by kernel_rfl) (by decide) (fun K hK=> ?_)
        refine goes_ Tryz.func96 (by kernel_rfl) rfl #[.slice (some ⟨pc2,0,none⟩) 6 6] (by rfl) rfl rfl (by simp only[List.map_toArray,List.map_cons,List.map_nil];rfl) ?_
        with_reducible refine(clone_calls pc2 (rowAt s2.1 c) _ (hHeld.2.out.rowR hc6 hpc2.out) (hHeld.2.out.wR.row hc6).1 (hHeld.2.out.wR.row hc6).2).mono ?_
        rintro e w3 ⟨gb,cb,rfl,hby,hgb,hcb,hb⟩
        refine⟨_,rfl,?_⟩
        have HS3:=hHeld.2.out.below hb
        have hgp:gb≠pc2:=by have:=(hHeld.2.out.rowR hc6 hpc2.out).lt;omega
        refine hK.out _ _ ⟨(HS3.cR hc6 hpc2.out),⟨HS3⟩⟩ (fun hHeld=> ?_)
        clear hK K
        refine norm_ (a':= ?_) ?_ ?_
        rotate_left
        ·show Act.put _ (some 99) _=_
         simp only[Act.put,zA,zB,zC]
         rfl
        refine last_ (i:=12) (N:=some 102) #[true,true,true,true,true,true,true,true,true,true,true,true,true] rfl rfl (by kernel_rfl) (by decide) (fun K hK=> ?_)
        refine goesC_ Tryz.func95 (by kernel_rfl) rfl #[.slice (some ⟨pc2,0,none⟩) 6 6,.slice (some ⟨gb,0,none⟩) 6 cb,.int .u8 ((o1:Nat):Int)] #[.pointer (some ⟨w.heap.size,0,none⟩)] #[.slice (some ⟨pc2,0,none⟩) 6 6,.slice (some ⟨gb,0,none⟩) 6 cb,.int .u8 ((o1:Nat):Int),.pointer (some ⟨w.heap.size,0,none⟩)] (.tmp 90) (by rfl) rfl rfl rfl (by simp only[List.map_toArray,List.map_cons,List.map_nil];rfl) rfl ?_
        with_reducible refine(HS3.callR hc6 hpc2.out hby hgp (HS3.wR.row hc6).1 (HS3.wR.row hc6).2 ho1 hcb).mono ?_
        rintro e w4 ⟨rfl,h4⟩
        refine⟨_,rfl,?_⟩
        refine hK.out _ _ ?_
        clear hK K
        refine norm_ (a':= ?_) ?_ ?_
        rotate_left
        ·show Act.put _ (some 102) _=_
         simp only[Act.put,zA,zB,zC]
         rfl
        refine done_ (by kernel_rfl) ?_
        have HS3:=Aside0.mk h4
        clear hHeld cRc hby hb h4 hgp hgb hcb
        obtain⟨s3,hs3⟩ : ∃ x:MM,(upd s2.1 c (rowAt s2.1 c) o1,s2.2)=x:=⟨_,rfl⟩
        rw[hs3]at HS3
        have hs3:=Lib.hid hs3
        have cKc:=HS3.out.cK hc6 hqc2.out
        go_wp2
        refine start_ (n:=13) (S:=fun w'=>w'.cell? ⟨w.heap.size+1,c,none⟩=some (.slice (some ⟨qc2,0,none⟩) 6 6)∧Aside0 (St g w.heap.size gR (w.heap.size+1) P0 w s3 P2 Q3 w')) (ds:=[12]) #[false,false,false,false,false,false,false,false,false,false,false,false,false] (by kernel_rfl) rfl rfl ⟨cKc,⟨HS3.out.below (Below.drew (Below.refl _ _))⟩⟩ (fun hHeld=> ?_)
        refine pure_ (i:=0) (N:=some 103) (v:= ?_) (a':= ?_) #[true,false,false,false,false,false,false,false,false,false,false,false,false] rfl rfl (by kernel_rfl) (fun _ _ _ h=>h) (Or.inl ⟨by rfl,?_⟩) ?_ ?_
        rotate_left
        ·intro w'
         go_simp
         with_reducible rfl
        rotate_left
        ·simp only[Act.put,zA,zB,zC]
         rfl
        refine pure_ (i:=1) (N:=some 104) (v:= ?_) (a':= ?_) #[true,true,false,false,false,false,false,false,false,false,false,false,false] rfl rfl (by kernel_rfl) (fun _ _ _ h=>h) (Or.inl ⟨by rfl,?_⟩) ?_ ?_
        rotate_left
        ·intro w'
         go_simp
         with_reducible rfl
        rotate_left
        ·simp only[Act.put,zA,zB,zC]
         rfl
        refine pure_ (i:=2) (N:=some 105) (v:= ?_) (a':= ?_) #[true,true,true,false,false,false,false,false,false,false,false,false,false] rfl rfl (by kernel_rfl) (fun _ _ _ h=>h) (Or.inl ⟨by rfl,?_⟩) ?_ ?_
        rotate_left
        ·intro w'
         go_simp
         with_reducible rfl
        rotate_left
        ·simp only[Act.put,zA,zB,zC]
         rfl
        refine pure_ (i:=3) (N:=some 106) (v:= ?_) (a':= ?_) #[true,true,true,true,false,false,false,false,false,false,false,false,false] rfl rfl (by kernel_rfl) (fun _ _ _ h=>h) (Or.inl ⟨by rfl,?_⟩) ?_ ?_
        rotate_left
        ·intro w'
         go_simp
         with_reducible rfl
        rotate_left
        ·simp only[Act.put,zA,zB,zC]
         rfl
        refine pure_ (i:=5) (N:=some 108) (v:= ?_) (a':= ?_) #[true,true,true,true,false,true,false,false,false,false,false,false,false] rfl rfl (by kernel_rfl) (fun _ _ _ h=>h) (Or.inl ⟨by rfl,?_⟩) ?_ ?_
        rotate_left
        ·intro w'
         go_simp
         with_reducible rfl
        rotate_left
        ·simp only[Act.put,zA,zB,zC]
         rfl
        refine pure_ (i:=6) (N:=some 109) (v:= ?_) (a':= ?_) #[true,true,true,true,false,true,true,false,false,false,false,false,false] rfl rfl (by kernel_rfl) (fun _ _ _ h=>h) (Or.inl ⟨by rfl,?_⟩) ?_ ?_
        rotate_left
        ·intro w'
         go_simp
         with_reducible rfl
        rotate_left
        ·simp only[Act.put,zA,zB,zC]
         rfl
        refine pure_ (i:=7) (N:=some 110) (v:= ?_) (a':= ?_) #[true,true,true,true,false,true,true,true,false,false,false,false,false] rfl rfl (by kernel_rfl) (fun _ _ _ h=>h) (Or.inl ⟨by rfl,?_⟩) ?_ ?_
        rotate_left
        ·intro w'
         go_simp
         with_reducible rfl
        rotate_left
        ·simp only[Act.put,zA,zB,zC]
         rfl
        refine pure_ (i:=10) (N:=some 113) (v:= ?_) (a':= ?_) #[true,true,true,true,false,true,true,true,false,false,true,false,false] rfl rfl (by kernel_rfl) (fun _ _ _ h=>h) (Or.inl ⟨by rfl,?_⟩) ?_ ?_
        rotate_left
        ·intro w'
         go_simp
         with_reducible rfl
        rotate_left
        ·simp only[Act.put,zA,zB,zC]
         rfl
        refine pure_ (i:=11) (N:=some 114) (v:= ?_) (a':= ?_) #[true,true,true,true,false,true,true,true,false,false,true,true,false] rfl rfl (by kernel_rfl) (fun _ _ _ h=>h) (Or.inl ⟨by rfl,?_⟩) ?_ ?_
        rotate_left
        ·intro w'
         go_simp
         with_reducible rfl
        rotate_left
        ·simp only[Act.put,zA,zB,zC]
         rfl
        refine take_ (i:=4) (N:=some 107) (v:= ?_) (a':= ?_) #[true,true,true,true,true,true,true,true,false,false,true,true,false] rfl rfl (by kernel_rfl) (fun _ _ _ h=>h) (Or.inl ⟨by rfl,?_⟩) hHeld ?_ ?_
        rotate_left
        ·rintro w' ⟨s0,s1⟩
         go_simp
         with_reducible rfl
        rotate_left
        ·simp only[Act.put,zA,zB,zC]
         rfl
        refine take_ (i:=8) (N:=some 111) (v:= ?_) (a':= ?_) #[true,true,true,true,true,true,true,true,true,false,true,true,false] rfl rfl (by kernel_rfl) (fun _ _ _ h=>h) (Or.inl ⟨by rfl,?_⟩) hHeld ?_ ?_
        rotate_left
        ·rintro w' ⟨s0,s1⟩
         go_simp
         with_reducible rfl
        rotate_left
        ·simp only[Act.put,zA,zB,zC]
         rfl
        refine one_ (i:=9) (N:=some 112) #[true,true,true,true,true,true,true,true,true,true,true,true,false] rfl rfl (by kernel_rfl) (by decide) (fun K hK=> ?_)
        refine goes_ Tryz.func96 (by kernel_rfl) rfl #[.slice (some ⟨qc2,0,none⟩) 6 6] (by rfl) rfl rfl (by simp only[List.map_toArray,List.map_cons,List.map_nil];rfl) ?_
        with_reducible refine(clone_calls qc2 (rowAt s3.2 c) _ (hHeld.2.out.rowK hc6 hqc2.out) (hHeld.2.out.wK.row hc6).1 (hHeld.2.out.wK.row hc6).2).mono ?_
        rintro e w3 ⟨gb,cb,rfl,hby,hgb,hcb,hb⟩
        refine⟨_,rfl,?_⟩
        have HSy:=hHeld.2.out.below hb
        have hgp:gb≠qc2:=by have:=(hHeld.2.out.rowK hc6 hqc2.out).lt;omega
        refine hK.out _ _ ⟨(HSy.cK hc6 hqc2.out),⟨HSy⟩⟩ (fun hHeld=> ?_)
        clear hK K
        refine norm_ (a':= ?_) ?_ ?_
        rotate_left
        ·show Act.put _ (some 112) _=_
         simp only[Act.put,zA,zB,zC]
         rfl
        refine last_ (i:=12) (N:=some 115) #[true,true,true,true,true,true,true,true,true,true,true,true,true] rfl rfl (by kernel_rfl) (by decide) (fun K hK=> ?_)
        refine goesC_ Tryz.func95 (by kernel_rfl) rfl #[.slice (some ⟨qc2,0,none⟩) 6 6,.slice (some ⟨gb,0,none⟩) 6 cb,.int .u8 ((o1:Nat):Int)] #[.pointer (some ⟨w.heap.size,0,none⟩)] #[.slice (some ⟨qc2,0,none⟩) 6 6,.slice (some ⟨gb,0,none⟩) 6 cb,.int .u8 ((o1:Nat):Int),.pointer (some ⟨w.heap.size,0,none⟩)] (.tmp 103) (by rfl) rfl rfl rfl (by simp only[List.map_toArray,List.map_cons,List.map_nil];rfl) rfl ?_
        with_reducible refine(HSy.callK hc6 hqc2.out hby hgp (HSy.wK.row hc6).1 (HSy.wK.row hc6).2 ho1 hcb).mono ?_
        rintro e w4 ⟨rfl,h4⟩
        refine⟨_,rfl,?_⟩
        refine hK.out _ _ ?_
        clear hK K
        refine norm_ (a':= ?_) ?_ ?_
        rotate_left
        ·show Act.put _ (some 115) _=_
         simp only[Act.put,zA,zB,zC]
         rfl
        refine done_ (by kernel_rfl) ?_
        have HS4:=Aside0.mk h4
        clear hHeld cKc hby hb h4 hgp hgb hcb hox
        have hs4:Hid ((s3.1,upd s3.2 c (rowAt s3.2 c) o1)=norm c s2):=Lib.hid (by unfold norm;rw[hx.out,ho.out,←hs3.out])
        rw[hs4.out]at HS4
        obtain⟨s4,hs5⟩ : ∃ x:MM,norm c s2=x:=⟨_,rfl⟩
        rw[hs5]at HS4
        have hs5:=Lib.hid hs5
        go_wp2
        go_loopw [118] (fun i wz=> ∃ k:Nat,k≤6∧i = .int .i64 k∧Aside0 (St g w.heap.size gR (w.heap.size+1) P0 w ((List.range k).foldl (clear1 c) s4) P2 Q3 wz)) (fun i _=>6-(intOf i).toNat)
        case atStart=>exact⟨0,by omega,rfl,HS4⟩
        case round=>
         clear HS4
         obtain⟨k,hk,rfl,HS4⟩:=hrel
         have HF2:=Lib.hid (fold_succ s4 k (clear1 c))
         by_cases hk6:k<6
         ·obtain⟨sk,hsk⟩ : ∃ x:MM,(List.range k).foldl (clear1 c) s4=x:=⟨_,rfl⟩
          rw[hsk]at HS4 HF2
          clear hsk
          obtain⟨pk,hpk⟩ : ∃ p,P2.getD k 0=p:=⟨_,rfl⟩
          have cRk:=HS4.out.cR hk6 hpk
          have e0:=HS4.out.eR hk6 hc6 hpk
          have hex:=elem_le HS4.out.wR hk6 hc6
          obtain⟨ex,hex2⟩ : ∃ x,elem sk.1 k c=x:=⟨_,rfl⟩
          rw[hex2]at e0 hex
          have hex2:=Lib.hid hex2
          have hk6i:(k:Int)<6:=by omega
          by_cases hkc:k=c
          ·have t1:((k:Int) != (c:Int))=false:=by rw[hkc];simp
           have hcl:Hid (clear1 c sk k=sk):=Lib.hid (by unfold clear1;rw[if_neg (fun h=>h.1 hkc)])
           have hpk:=Lib.hid hpk
           clear hkc
           go_wp2
           go_roundw
           case rel=>exact⟨k+1,hk6,by go_num,⟨by rw[HF2.out,hcl.out];exact HS4.out⟩⟩
           case measure=>simp[intOf];omega
          ·have t1:((k:Int) != (c:Int))=true:=by rw[bne_iff_ne];omega
           by_cases hx2:ex=0
           ·have hcl:Hid (clear1 c sk k=sk):=Lib.hid (by unfold clear1;rw[if_neg (fun h=>h.2 (by rw[hex2.out];exact hx2))])
            have t2:((ex:Int) != 0)=false:=by rw[hx2];rfl
            have hpk:=Lib.hid hpk
            have hkc:=Lib.hid hkc
            have hx2:=Lib.hid hx2
            go_wp2
            go_roundw
            case rel=>exact⟨k+1,hk6,by go_num,⟨by rw[HF2.out,hcl.out];exact HS4.out⟩⟩
            case measure=>simp[intOf];omega
           ·have hcl:Hid (clear1 c sk k=(upd sk.1 k (rowAt sk.1 c) ex,upd sk.2 k (rowAt sk.2 c) ex)):=Lib.hid (by unfold clear1;rw[if_pos ⟨hkc,by rw[hex2.out];exact hx2⟩,hex2.out])
            have t2:((ex:Int) != 0)=true:=by rw[bne_iff_ne];omega
            obtain⟨qk,hqk⟩ : ∃ p,Q3.getD k 0=p:=⟨_,rfl⟩
            have cRc:=HS4.out.cR hc6 hpc2.out
            have l1:=HS4.out.pR.lt
            have hne1:pc2≠pk:=by rw[←hpc2.out,←hpk];exact HS4.out.neR hc6 hk6 (fun e=>hkc e.symm)
            have hne2:qc2≠qk:=by rw[←hqc2.out,←hqk];exact HS4.out.neK hc6 hk6 (fun e=>hkc e.symm)
            have hne1:=Lib.hid hne1
            have hne2:=Lib.hid hne2
            have hpk:=Lib.hid hpk
            have hqk:=Lib.hid hqk
            have hkc:=Lib.hid hkc
            have hx2:=Lib.hid hx2
            have i0:(0:Int)≤(c:Int):=by omega
            have i1:(0:Int)≤(k:Int):=by omega
            go_wp2
            refine region_below_tail 10 (by kernel_rfl) (by kernel_rfl) ?_
            simp only[List.take_succ_cons,List.take_zero,List.drop_succ_cons,List.drop_zero]
            repeat (first|go_big_quiet_step (fail)|(refine BigFrame.wpQuiet_want (by rfl) (fun K hK=> ?_);go_big_quiet_op;refine⟨_,fun _ _=>rfl,hK _ ?_⟩;clear hK K)|(refine q_ld 80 _ _ _ _ rfl rfl rfl rfl (fun w' h=>by go_simp) (by assumption) (by assumption) ?_;simp only[Act.put,zA,zB,zC]))
            refine wpQuiet_nil ?_
            intro w5 b5
            have HS5:=Aside0.mk (HS4.out.below b5)
            clear cRc cRk e0 l1 b5
            refine goesCL_ (some 145) rfl rfl Tryz.func95 (by kernel_rfl) rfl #[.slice (some ⟨pk,0,none⟩) 6 6,.slice (some ⟨pc2,0,none⟩) 6 6,.int .u8 (ex:Int)] #[.pointer (some ⟨w.heap.size,0,none⟩)] #[.slice (some ⟨pk,0,none⟩) 6 6,.slice (some ⟨pc2,0,none⟩) 6 6,.int .u8 (ex:Int),.pointer (some ⟨w.heap.size,0,none⟩)] (.tmp 135) rfl rfl (by simp only[List.map_toArray,List.map_cons,List.map_nil];rfl) rfl ?_
            with_reducible refine(HS5.out.callR hk6 hpk.out (HS5.out.rowR hc6 hpc2.out).bys hne1.out (HS5.out.wR.row hc6).1 (HS5.out.wR.row hc6).2 hex (by decide)).mono ?_
            rintro e w6 ⟨rfl,h6⟩
            refine⟨_,rfl,?_⟩
            simp only[Act.put,zA,zB,zC]
            have HS6:=Aside0.mk h6
            clear h6 HS5
            have cKk:=HS6.out.cK hk6 hqk.out
            have cKc:=HS6.out.cK hc6 hqc2.out
            have l1:=HS6.out.pK.lt
            go_wp2
            refine region_below_tail 10 (by kernel_rfl) (by kernel_rfl) ?_
            simp only[List.take_succ_cons,List.take_zero,List.drop_succ_cons,List.drop_zero]
            repeat (first|go_big_quiet_step (fail)|(refine BigFrame.wpQuiet_want (by rfl) (fun K hK=> ?_);go_big_quiet_op;refine⟨_,fun _ _=>rfl,hK _ ?_⟩;clear hK K)|(refine q_ld 80 _ _ _ _ rfl rfl rfl rfl (fun w' h=>by go_simp) (by assumption) (by assumption) ?_;simp only[Act.put,zA,zB,zC]))
            refine wpQuiet_nil ?_
            intro w7 b7
            have HS7:=Aside0.mk (HS6.out.below b7)
            clear cKc cKk l1 b7
            refine goesCL_ (some 156) rfl rfl Tryz.func95 (by kernel_rfl) rfl #[.slice (some ⟨qk,0,none⟩) 6 6,.slice (some ⟨qc2,0,none⟩) 6 6,.int .u8 (ex:Int)] #[.pointer (some ⟨w.heap.size,0,none⟩)] #[.slice (some ⟨qk,0,none⟩) 6 6,.slice (some ⟨qc2,0,none⟩) 6 6,.int .u8 (ex:Int),.pointer (some ⟨w.heap.size,0,none⟩)] (.tmp 146) rfl rfl (by simp only[List.map_toArray,List.map_cons,List.map_nil];rfl) rfl ?_
            with_reducible refine(HS7.out.callK hk6 hqk.out (HS7.out.rowK hc6 hqc2.out).bys hne2.out (HS7.out.wK.row hc6).1 (HS7.out.wK.row hc6).2 hex (by decide)).mono ?_
            rintro e w8 ⟨rfl,h8⟩
            refine⟨_,rfl,?_⟩
            simp only[Act.put,zA,zB,zC]
            go_wp2
            go_roundw
            case rel=>exact⟨k+1,hk6,by go_num,⟨by rw[HF2.out,hcl.out];exact h8⟩⟩
            case measure=>simp[intOf];omega
         ·obtain rfl:k=6:=by omega
          go_wp2
          go_roundg g1
          case measure=>omega
          case rel=>
           refine⟨c+1,by omega,by first|rfl|simp,⟨P2,Q3,?_⟩⟩
           have h:=HS4.out
           rw[←hs5.out,←hs2.out]at h
           rw[HF.out,HN.out]
           exact h
end Go.Proofs.YtdcfonmjbelgbaaGreatDoor
end
section
namespace Go.Proofs.YtdcfonmjbelgbaaGreatDoor
open Go.RowKit Q YtdcfonmjbelgbaaGreatDoorW.PrintWords YtdcfonmjbelgbaaGreatDoorW.PrintLast YtdcfonmjbelgbaaGreatDoorW.PrintMore
theorem wrap64_nat (n:Nat) (h:n<2 ^ 63):wrap64 (n:Int)=n:=by unfold wrap64;omega
theorem wrapu_nat (n:Nat) (h:n<2 ^ 64):IntKind.u64.wrap (n:Int)=n:=by
 simp[IntKind.wrap,IntKind.bits,IntKind.signed];omega
theorem wraps_i64' (n:Int) (h₀:0≤n) (h₁:n<2 ^ 63):IntKind.i64.wrap n=n:=by rw[IntKind.wrap_i64];omega
theorem bits_xor64 (a b:Nat) (ha:a<2 ^ 63) (hb:b<2 ^ 63):Go.bits .xor .i64 (a:Int) (b:Int)=((a ^^^ b:Nat):Int):=by
 have hx:a ^^^ b<2 ^ 63:=Nat.xor_lt_two_pow ha hb
 show IntKind.i64.wrap ((BitVec.ofInt 64 (a:Int) ^^^ BitVec.ofInt 64 (b:Int)).toNat:Int)=_
 rw[BitVec.ofInt_natCast,BitVec.ofInt_natCast,BitVec.toNat_xor,BitVec.toNat_ofNat,BitVec.toNat_ofNat,Nat.mod_eq_of_lt (a:=a) (by omega),Nat.mod_eq_of_lt (a:=b) (by omega)]
 exact wraps_i64' _ (by omega) (by omega)
theorem shr_nat (x i:Nat) (hi:i≤64):shr .i64 (x:Int) (i:Int)=((x/2 ^ i:Nat):Int):=by
 unfold shr
 rw[Int.toNat_natCast,Nat.min_eq_left (by exact hi)]
 simp
theorem shl_nat (x i:Nat) (hi:i≤64) (h:x*2 ^ i<2 ^ 63):shl .i64 (x:Int) (i:Int)=((x*2 ^ i:Nat):Int):=by
 unfold shl
 rw[Int.toNat_natCast,Nat.min_eq_left (by exact hi)]
 have e:(x:Int)*2 ^ i=((x*2 ^ i:Nat):Int):=by simp
 rw[e]
 exact wraps_i64' _ (by omega) (by omega)
theorem tmod2 (x:Nat):Int.tmod (x:Int) 2=((x%2:Nat):Int):=by rw[Int.tmod_eq_emod_of_nonneg (by omega)];omega
theorem rtimes_l1 (n:Nat) : ∀ (k p:Nat),n≤7→p<2 ^ 15→n<k→sluicegateref01_Times.l1 k (p:Int) ((n+7:Nat):Int)=some ((rdc n p:Nat):Int):=by
 induction n with
 | zero=>
  intro k p _ hp hk
  obtain⟨k,rfl⟩ : ∃ m,k=m+1:=⟨k-1,by omega⟩
  simp only[sluicegateref01_Times.l1,rdc]
  rw[if_neg (by omega)]
  congr 1
 | succ n ih=>
  intro k p hn hp hk
  obtain⟨k,rfl⟩ : ∃ m,k=m+1:=⟨k-1,by omega⟩
  simp only[sluicegateref01_Times.l1,rdc]
  rw[if_pos (by omega),wrapu_nat (n+1+7) (by omega),if_pos (by omega),shr_nat p (n+1+7) (by omega),tmod2]
  have e1:wrap64 (((n+1+7:Nat):Int)-1)=((n+7:Nat):Int):=by unfold wrap64;omega
  have e2:wrap64 (((n+1+7:Nat):Int)-8)=((n:Nat):Int):=by unfold wrap64;omega
  rw[e1,e2,wrapu_nat n (by omega),show n+1+7=n+8 by omega]
  by_cases h1:p/2 ^ (n+8)%2=1
  ·have hp2:2 ^ n≤2 ^ 6:=Nat.pow_le_pow_right (by omega) (by omega)
   have e3:=shl_nat 285 n (by omega) (by omega)
   rw[if_pos (by omega),if_pos (by omega),if_pos h1,show ((285:Int))=((285:Nat):Int)from rfl,e3,bits_xor64 _ _ (by omega) (by omega)]
   exact ih k _ (by omega) (Nat.xor_lt_two_pow hp (by omega)) (by omega)
  ·rw[if_neg (by omega),if_neg h1]
   exact ih k p (by omega) hp (by omega)
theorem rtimes_l0 (a b:Nat) (ha:a≤255) (hb:b≤255) (n:Nat) : ∀ (k p:Nat),n≤8→p<2 ^ 15→n+8<k→sluicegateref01_Times.l0 k (a:Int) (b:Int) (p:Int) ((8-n:Nat):Int)=some ((rdc 7 (clm a b n p):Nat):Int):=by
 induction n with
 | zero=>
  intro k p _ hp hk
  obtain⟨k,rfl⟩ : ∃ m,k=m+1:=⟨k-1,by omega⟩
  simp only[sluicegateref01_Times.l0,clm]
  rw[if_neg (by omega)]
  exact rtimes_l1 7 k p (by omega) hp (by omega)
 | succ n ih=>
  intro k p hn hp hk
  obtain⟨k,rfl⟩ : ∃ m,k=m+1:=⟨k-1,by omega⟩
  simp only[sluicegateref01_Times.l0,clm]
  have e0:8-(n+1)=7-n:=by omega
  rw[if_pos (by omega),wrapu_nat _ (by omega),if_pos (by omega),wrap64_nat b (by omega),wrap64_nat a (by omega),shr_nat b _ (by omega),tmod2]
  have e1:wrap64 (((8-(n+1):Nat):Int)+1)=((8-n:Nat):Int):=by unfold wrap64;omega
  rw[e1,e0]
  have hp2:2 ^ (7-n)≤2 ^ 7:=Nat.pow_le_pow_right (by omega) (by omega)
  have hm:a*2 ^ (7-n)≤255*2 ^ 7:=Nat.mul_le_mul ha hp2
  by_cases h1:b/2 ^ (7-n)%2=1
  ·rw[if_pos (by omega),if_pos h1,shl_nat a _ (by omega) (by omega),bits_xor64 _ _ (by omega) (by omega)]
   exact ih k _ (by omega) (Nat.xor_lt_two_pow hp (by omega)) (by omega)
  ·rw[if_neg (by omega),if_neg h1]
   exact ih k p (by omega) hp (by omega)
theorem rtimes_f (a b k:Nat) (ha:a≤255) (hb:b≤255) (hk:17≤k):sluicegateref01_Times.f k (a:Int) (b:Int)=some (tim a b:Int):=by
 unfold sluicegateref01_Times.f
 have:=rtimes_l0 a b ha hb 8 k 0 (by omega) (by omega) (by omega)
 rw[←mul_tim ha hb]
 exact this
theorem rover_l0 (a b:Nat) (ha:a≤255) (hb0:1≤b) (hb:b≤255) (d:Nat) : ∀ (k i:Nat),i≤256→256-i=d→d+20<k→(∀ j,j<i→tim j b≠a)→sluicegateref01_Over.l0 k (a:Int) (b:Int) (i:Int)=some ((ovr a b:Int),0):=by
 induction d with
 | zero=>
  intro k i hi hd hk hno
  exact absurd (tim_ovr a b ha hb0 hb) (hno _ (by have:=ovr_le a b;omega))
 | succ d ih=>
  intro k i hi hd hk hno
  obtain⟨k,rfl⟩ : ∃ m,k=m+1:=⟨k-1,by omega⟩
  simp only[sluicegateref01_Over.l0]
  rw[if_pos (by omega),show (i:Int)%256=(i:Int)from Int.emod_eq_of_lt (by omega) (by omega),rtimes_f i b k (by omega) hb (by omega)]
  simp only[Option.bind_some]
  by_cases h1:tim i b=a
  ·rw[if_pos (by omega),←h1,ovr_tim i b (by omega) hb0 hb]
  ·rw[if_neg (by omega),show wrap64 ((i:Int)+1)=((i+1:Nat):Int)by unfold wrap64;omega]
   refine ih k (i+1) (by omega) (by omega) (by omega) (fun j hj=> ?_)
   by_cases h3:j=i
   ·subst h3;exact h1
   ·exact hno j (by omega)
theorem rover_f (a b k:Nat) (ha:a≤255) (hb:b≤255) (hk:300≤k):sluicegateref01_Over.f k (a:Int) (b:Int)=some (if b=0 then (0,1)else ((ovr a b:Int),0)):=by
 unfold sluicegateref01_Over.f
 by_cases h0:b=0
 ·subst h0;rfl
 ·rw[if_neg (by omega),if_neg h0]
  exact rover_l0 a b ha (by omega) hb 256 k 0 (by omega) (by omega) (by omega) (fun j hj=>by omega)
end Go.Proofs.YtdcfonmjbelgbaaGreatDoor
end
section
namespace Go.Proofs.YtdcfonmjbelgbaaGreatDoor
open Go.RowKit Q YtdcfonmjbelgbaaGreatDoorW.PrintWords YtdcfonmjbelgbaaGreatDoorW.PrintLast YtdcfonmjbelgbaaGreatDoorW.PrintMore
theorem rdB {l:List ByteArray} {k:Nat} (h:k<l.length):rdOf ByteArray.empty l (k:Int)=strAt l k:=by
 rw[strAt_eq h]
 simp[rdOf,h]
theorem drop_str {l:List ByteArray} {k:Nat} (h:k<l.length):l.drop k=strAt l k::l.drop (k+1):=by
 rw[strAt_eq h]
 exact List.drop_eq_getElem_cons h
theorem wrap_succc (i:Nat) (h:i<2 ^ 62):wrap64 ((i:Int)+1)=((i+1:Nat):Int):=by unfold wrap64;omega
theorem one_l0 (l:List ByteArray) (hb:l.length<2 ^ 62) (n:Nat) : ∀ (k i:Nat),i+n=l.length→n<k→sluicegateref02_one.l0 k l (i:Int)=some ((l.drop i).all fun s=>s.size==wid l):=by
 induction n with
 | zero=>
  intro k i hi hk
  obtain⟨k,rfl⟩ : ∃ m,k=m+1:=⟨k-1,by omega⟩
  simp only[sluicegateref02_one.l0]
  rw[if_neg (by omega),List.drop_eq_nil_of_le (by omega)]
  rfl
 | succ n ih=>
  intro k i hi hk
  obtain⟨k,rfl⟩ : ∃ m,k=m+1:=⟨k-1,by omega⟩
  simp only[sluicegateref02_one.l0]
  have ha:i<l.length:=by omega
  have h0:=rdB (l:=l) (k:=0) (by omega)
  rw[Int.natCast_zero]at h0
  rw[if_pos (by omega),if_pos (by omega),if_pos (by omega),rdB ha,h0,drop_str ha,wrap_succc i (by omega),ih k (i+1) (by omega) (by omega),List.all_cons]
  show (if ((strAt l i).size:Int)=(wid l:Int)then _ else _)=_
  by_cases h:(strAt l i).size=wid l
  ·rw[if_pos (by omega),h]
   simp
  ·rw[if_neg (by omega)]
   simp[h]
theorem one_f (l:List ByteArray) (hb:l.length<2 ^ 62) (k:Nat) (hk:l.length<k):sluicegateref02_one.f k l=some (evenB l):=by
 unfold sluicegateref02_one.f
 have:=one_l0 l hb l.length k 0 (by omega) hk
 rw[List.drop_zero]at this
 exact this
theorem factor_f (i j:Nat) (hi:i≤8) (hj:j≤5) (k:Nat) (hk:300≤k):sluicegateref02_Factor.f k (i:Int) (j:Int)=some (fac i j:Int):=by
 unfold sluicegateref02_Factor.f fac
 by_cases h6:6≤i
 ·have hx:=xor_lt16 ⟨i,by omega⟩ ⟨j,by omega⟩
  simp only at hx
  have h1:=rover_f 1 (i ^^^ j) k (by omega) (by omega) hk
  rw[if_neg (by omega),if_pos h6,bits_xor64 i j (by omega) (by omega),Int.emod_eq_of_lt (by omega) (by omega)]
  rw[if_neg (by have:=hx.2 h6;omega)]at h1
  have h1:sluicegateref01_Over.f k 1 ((i ^^^ j:Nat):Int)=_:=h1
  rw[h1]
  rfl
 ·rw[if_pos (by omega),if_neg h6]
  by_cases he:i=j
  ·rw[if_pos (by omega),if_pos he];rfl
  ·rw[if_neg (by omega),if_neg he];rfl
theorem frow_get (i j:Nat) (hj:j<6):(frow i).getD j 0=fac i j:=by
 unfold frow
 rw[List.getD_eq_getElem?_getD,List.getElem?_map,List.getElem?_range hj]
 rfl
theorem bt_byt (s:ByteArray) (p:Nat) (h:p<s.size):bt s (p:Int)=(byt s p:Int):=by
 rw[byt_eq s p h]
 simp[bt,h]
theorem shard_l1 (l:List ByteArray) (h6:l.length=6) (i:Nat) (hi:i≤8) (xs:List Int) (p:Nat) (hx:xs.length<140737488355328) (hp : ∀ j,j<6→p<(strAt l j).size) (hp2:p<2 ^ 62) (n:Nat) : ∀ (k j:Nat),j+n=6→n+310<k→sluicegateref02_shard.l1 k l (i:Int) xs (p:Int) (accAt (frow i) l j p:Int) (j:Int)=sluicegateref02_shard.l0 (k-(n+1)) l (i:Int) (xs++[(accAt (frow i) l 6 p:Int)]) ((p+1:Nat):Int):=by
 induction n with
 | zero=>
  intro k j hj hk
  obtain⟨k,rfl⟩ : ∃ m,k=m+1:=⟨k-1,by omega⟩
  obtain rfl:j=6:=by omega
  simp only[sluicegateref02_shard.l1]
  rw[if_neg (by omega),if_pos (by omega),wrap_succc p hp2]
  rfl
 | succ n ih=>
  intro k j hj hk
  obtain⟨k,rfl⟩ : ∃ m,k=m+1:=⟨k-1,by omega⟩
  have hj6:j<6:=by omega
  simp only[sluicegateref02_shard.l1]
  rw[if_pos (by omega),factor_f i j hi (by omega) k (by omega)]
  simp only[Option.bind_some]
  rw[if_pos (by omega),if_pos (by omega),if_pos (by omega),rdB (by omega),if_pos (by have:=hp j hj6;omega),bt_byt _ _ (hp j hj6),rtimes_f _ _ k (fac_le i j) (byt_le _ _) (by omega)]
  simp only[Option.bind_some]
  rw[bits_xor8c _ _ (accAt_le _ _ _ _) (tim_le _ _),wrap_succc j (by omega)]
  have e:accAt (frow i) l j p ^^^ tim (fac i j) (byt (strAt l j) p)=accAt (frow i) l (j+1) p:=by rw[accAt_succ,frow_get i j hj6]
  rw[e,ih k (j+1) (by omega) (by omega)]
  congr 1
  omega
def shN (l:List ByteArray) (i p:Nat):List Int:=(List.range p).map fun q=>(accAt (frow i) l 6 q:Int)
theorem shN_succ (l:List ByteArray) (i p:Nat):shN l i p++[(accAt (frow i) l 6 p:Int)]=shN l i (p+1):=by
 unfold shN
 rw[List.range_succ,List.map_append]
 rfl
theorem strOf_sh (l:List ByteArray) (h6:l.length=6) (i:Nat):strOfNums (shN l i (wid l))=mixS (frow i) l:=by
 unfold strOfNums mixS mixL shN B
 rw[List.map_map,h6]
 congr 2
theorem shard_l0 (l:List ByteArray) (h6:l.length=6) (he:evenB l=true) (hw:wid l≤140737488355328) (i:Nat) (hi:i≤8) (n:Nat) : ∀ (k p:Nat),p+n=wid l→8*n+400<k→sluicegateref02_shard.l0 k l (i:Int) (shN l i p) (p:Int)=some (mixS (frow i) l):=by
 have h0:=rdB (l:=l) (k:=0) (by omega)
 rw[Int.natCast_zero]at h0
 induction n with
 | zero=>
  intro k p hp hk
  obtain⟨k,rfl⟩ : ∃ m,k=m+1:=⟨k-1,by omega⟩
  obtain rfl:p=wid l:=by omega
  simp only[sluicegateref02_shard.l0]
  rw[if_pos (by omega),h0,if_neg (by show ¬ ((wid l:Int)<(wid l:Int));omega),strOf_sh l h6]
 | succ n ih=>
  intro k p hp hk
  obtain⟨k,rfl⟩ : ∃ m,k=m+1:=⟨k-1,by omega⟩
  simp only[sluicegateref02_shard.l0]
  have h1:=shard_l1 l h6 i hi (shN l i p) p (by simp[shN];omega) (fun j hj=>by
   rw[evenB_size he (by rw[strAt_eq (by omega)];exact List.getElem_mem _)];omega) (by omega) 6 k 0 (by omega) (by omega)
  rw[if_pos (by omega),h0,if_pos (by show ((p:Int)<(wid l:Int));omega)]
  have h1:sluicegateref02_shard.l1 k l (i:Int) (shN l i p) (p:Int) 0 0=_:=h1
  rw[h1,shN_succ]
  exact ih _ (p+1) (by omega) (by omega)
theorem shard_f (l:List ByteArray) (h6:l.length=6) (he:evenB l=true) (hw:wid l≤140737488355328) (i:Nat) (hi:i≤8) (k:Nat) (hk:8*wid l+400<k):sluicegateref02_shard.f k l (i:Int)=some (mixS (frow i) l):=by
 unfold sluicegateref02_shard.f
 exact shard_l0 l h6 he hw i hi (wid l) k 0 (by omega) hk
theorem enc_l0 (l:List ByteArray) (h6:l.length=6) (he:evenB l=true) (hw:wid l≤140737488355328) (n:Nat) : ∀ (k i:Nat),i+n=9→8*wid l+410+n<k→sluicegateref02_Encode.l0 k l (encKc l i) (i:Int)=some (encL l,0):=by
 induction n with
 | zero=>
  intro k i hi hk
  obtain⟨k,rfl⟩ : ∃ m,k=m+1:=⟨k-1,by omega⟩
  obtain rfl:i=9:=by omega
  simp only[sluicegateref02_Encode.l0]
  rw[if_neg (by omega)]
  rfl
 | succ n ih=>
  intro k i hi hk
  obtain⟨k,rfl⟩ : ∃ m,k=m+1:=⟨k-1,by omega⟩
  simp only[sluicegateref02_Encode.l0]
  rw[if_pos (by omega),shard_f l h6 he hw i (by omega) k (by omega)]
  simp only[Option.bind_some]
  rw[if_pos (by rw[encKc_len];omega),encKc_succ,wrap_succc i (by omega)]
  exact ih k (i+1) (by omega) (by omega)
theorem enc_f (l:List ByteArray) (hl:l.length<2 ^ 62) (hw:wid l≤140737488355328) (k:Nat) (hk:8*wid l+l.length+430<k):sluicegateref02_Encode.f k l=some (encR l):=by
 obtain⟨k,rfl⟩ : ∃ m,k=m+1:=⟨k-1,by omega⟩
 unfold sluicegateref02_Encode.f encR
 by_cases h6:l.length=6
 ·rw[if_pos (by omega),one_f l hl _ (by omega)]
  simp only[Option.bind_some,sluicegateref02_Encode.j0]
  cases he:evenB l with
  | false=>simp
  | true=>
   rw[if_neg (by simp),if_pos ⟨h6,rfl⟩]
   exact enc_l0 l h6 he hw 9 k 0 (by omega) (by omega)
 ·rw[if_neg (by omega),if_neg (fun h=>h6 h.1)]
  simp[sluicegateref02_Encode.j0]
theorem take_wid (l:List ByteArray) (k:Nat) (hk:0<k):wid (l.take k)=wid l:=by
 unfold wid strAt
 rw[List.getD_eq_getElem?_getD,List.getD_eq_getElem?_getD,List.getElem?_take,if_pos hk]
end Go.Proofs.YtdcfonmjbelgbaaGreatDoor
end
section
namespace Go.Proofs.YtdcfonmjbelgbaaGreatDoor
open Go.RowKit Q YtdcfonmjbelgbaaGreatDoorW.PrintWords YtdcfonmjbelgbaaGreatDoorW.PrintLast YtdcfonmjbelgbaaGreatDoorW.PrintMore
theorem strs_take {w:World} {A:Option Addr} {l:List ByteArray} (h:Kd.C Kd.string w A l.length l) (k:Nat) (hk:k≤l.length):Kd.C Kd.string w A (l.take k).length (l.take k):=by
 have hl:(l.take k).length=k:=by rw[List.length_take];omega
 refine⟨rfl,by have:=h.2.1;omega,fun hp=> ?_⟩
 obtain⟨ad,e,hc⟩:=h.2.2 (by omega)
 refine⟨ad,e,fun j p hj=>hc j p ?_⟩
 rw[List.getElem?_take]at hj
 by_cases hjk:j<k
 ·rw[if_pos hjk]at hj
  exact hj
 ·rw[if_neg hjk]at hj
  exact absurd hj (by simp)
end Go.Proofs.YtdcfonmjbelgbaaGreatDoor
end
section
namespace Go.Proofs.YtdcfonmjbelgbaaGreatDoor
open Go.RowKit Q YtdcfonmjbelgbaaGreatDoorW.PrintWords YtdcfonmjbelgbaaGreatDoorW.PrintLast YtdcfonmjbelgbaaGreatDoorW.PrintMore
def idx (h:List Bool):List Nat:=(List.range h.length).filter fun i=>h.getD i false
def idxK (h:List Bool) (k:Nat):List Nat:=(List.range k).filter fun i=>h.getD i false
theorem idxK_succ (h:List Bool) (k:Nat):idxK h (k+1)=idxK h k++if h.getD k false=true then [k]else []:=by
 unfold idxK
 rw[List.range_succ,List.filter_append]
 congr 1
 simp[List.filter_cons]
theorem idxK_len (h:List Bool) (k:Nat):(idxK h k).length≤k:=by
 have:=List.length_filter_le (fun i=>h.getD i false) (List.range k)
 simpa [idxK] using this
def leftL (l:List ByteArray) (h:List Bool):List ByteArray:=(idx h).map (strAt l)
def dataK (R:List (List Nat)) (l:List ByteArray) (k:Nat):List ByteArray:=(List.range k).map fun i=>mixS (rowAt R i) l
theorem dataK_succ (R:List (List Nat)) (l:List ByteArray) (k:Nat):dataK R l k++[mixS (rowAt R k) l]=dataK R l (k+1):=by
 unfold dataK
 rw[List.range_succ,List.map_append]
 rfl
theorem dataK_len (R:List (List Nat)) (l:List ByteArray) (k:Nat):(dataK R l k).length=k:=by simp[dataK]
def dataL (l:List ByteArray) (h:List Bool):List ByteArray:=dataK (solveN (((idx h).take 6).map frow)) ((leftL l h).take 6) 6
def fillR (l:List ByteArray) (h:List Bool):List ByteArray×Int:=
 if l.length=9∧h.length=9 then
  if evenB (leftL l h)=true then if (idx h).length<6 then ([],2)else encR (dataL l h)else ([],1)
 else ([],1)
def kPtr:Kd Nat:=Kd.scalar sl (fun _=>rfl)
theorem infoPtr:(Tryz.prog.info? 80).map (fun i=>(i.zero,i.size,i.bytes))=some (some (.slice none 0 0),1,24):=by kernel_rfl
theorem R_step_typed {α:Type} {d:Kd α} {e base:Nat} {W W1:World} {ok:Nat→Prop} {v:Value} {xs:List α} {row:Option Nat} (h:d.R e W base ok v xs) (hg:W.grownBy W1 row) (t:TypeId) (hrow : ∀ k,row=some k → ∃ cells,W.heap[k]? = some (.cells cells t (0,0))) (ht : ∀ q,q∈e::d.E→q≠t):d.R e W1 base ok v xs:=
 Kd.R_mono (Kd.R_move (Kd.R_bound h) (fun k hk=>hg.block k hk.2.2.1 (fun e'=>by
  obtain⟨_,_,_,q,hq,cells,hc⟩:=hk
  obtain⟨cells2,hc2⟩:=hrow k e'.symm
  rw[hc]at hc2
  injection hc2 with hc2
  injection hc2 with _ hc2
  exact ht q hq hc2))) (fun _ hk=>hk.1)
theorem box_step_typed {W W1:World} {B:Nat} {T:TypeId} {v:Value} {row:Option Nat} (h:Boxed W B T v) (hg:W.grownBy W1 row) (t:TypeId) (hrow : ∀ k,row=some k → ∃ cells,W.heap[k]? = some (.cells cells t (0,0))) (ht:T≠t):Boxed W1 B T v:=
 h.kept hg (fun e=>by
  obtain⟨cells2,hc2⟩:=hrow B e.symm
  rw[show W.heap[B]? = _ from h]at hc2
  injection hc2 with hc2
  injection hc2 with _ hc2
  exact ht hc2)
theorem row_step_typed {W W1:World} {b:Nat} {xs:List Nat} {row:Option Nat} (h:RowN W b xs) (hg:W.grownBy W1 row) (t:TypeId) (hrow : ∀ k,row=some k → ∃ cells,W.heap[k]? = some (.cells cells t (0,0))) (ht:5≠t):RowN W1 b xs:=
 h.grown hg (fun e=>by
  obtain⟨cells2,hc2⟩:=hrow b e.symm
  rw[show W.heap[b]? = _ from h]at hc2
  injection hc2 with hc2
  injection hc2 with _ hc2
  exact ht hc2)
structure Fi (g Bt Bs BL BR:Nat) (S:Value) (w0:World) (uL uR vL vR:Value) (LL:List ByteArray) (IX P:List Nat) (W:World):Prop where
 bt:Boxed W Bt 55 (.pointer (some ⟨g,0,none⟩))
 bs:Boxed W Bs 27 S
 bl:Boxed W BL 27 uL
 br:Boxed W BR 122 uR
 oL:Kd.R Kd.string 9 W w0.heap.size (fun k=>w0.heap.size≤k) vL LL
 oR:Kd.R kPtr 80 W w0.heap.size (fun k=>w0.heap.size≤k) vR P
 lP:P.length=IX.length
 rw : ∀ i,i<P.length→RowN W (P.getD i 0) (frow (IX.getD i 0))
 nd:P.Nodup
 sP : ∀ x∈P,w0.heap.size≤x∧x<W.heap.size
 bw:Below w0.heap.size w0 W
 ns:Bs≠BL
 nl:w0.heap.size≤BL
 nr:w0.heap.size≤BR
section
variable {g Bt Bs BL BR:Nat} {S:Value} {w0 W W1:World} {uL uR vL vR:Value} {LL:List ByteArray} {IX P:List Nat}
theorem Fi.step (h:Fi g Bt Bs BL BR S w0 uL uR vL vR LL IX P W) {row:Option Nat} (hg:W.grownBy W1 row) (t:TypeId) (hrow : ∀ k,row=some k→w0.heap.size≤k ∧ ∃ cells,W.heap[k]? = some (.cells cells t (0,0))) (ht:t≠55∧t≠27∧t≠122∧t≠9∧t≠80∧t≠5):Fi g Bt Bs BL BR S w0 uL uR vL vR LL IX P W1:=
 have hr:=fun k e=>(hrow k e).2
 {h with
  bt:=box_step_typed h.bt hg t hr (Ne.symm ht.1)
  bs:=box_step_typed h.bs hg t hr (Ne.symm ht.2.1)
  bl:=box_step_typed h.bl hg t hr (Ne.symm ht.2.1)
  br:=box_step_typed h.br hg t hr (Ne.symm ht.2.2.1)
  oL:=R_step_typed h.oL hg t hr (fun q hq=>by rcases List.mem_cons.1 hq with rfl|hq;exact Ne.symm ht.2.2.2.1;cases hq)
  oR:=R_step_typed h.oR hg t hr (fun q hq=>by rcases List.mem_cons.1 hq with rfl|hq;exact Ne.symm ht.2.2.2.2.1;cases hq)
  rw:=fun i hi=>row_step_typed (h.rw i hi) hg t hr (Ne.symm ht.2.2.2.2.2)
  sP:=fun x hx=>⟨(h.sP x hx).1,Nat.lt_of_lt_of_le (h.sP x hx).2 hg.size⟩
  bw:=h.bw.grown hg h.bw.size (fun k e=>(hrow k e).1) }
theorem Fi.below (h:Fi g Bt Bs BL BR S w0 uL uR vL vR LL IX P W) (b:Below W.heap.size W W1):Fi g Bt Bs BL BR S w0 uL uR vL vR LL IX P W1:=
 h.step (grown_below b none) 0 (fun k e=>by cases e) (by decide)
theorem Fi.calm (h:Fi g Bt Bs BL BR S w0 uL uR vL vR LL IX P W) {row:Option Nat} (hg:W.grownBy W1 row) (hr : ∀ r,row=some r→w0.heap.size≤r ∧ ∃ o:Obj,W.heap[r]? = some o∧o.isCells=false):Fi g Bt Bs BL BR S w0 uL uR vL vR LL IX P W1:=by
 have ne : ∀ (k:Nat) (cells:Array Value) (t:TypeId),W.heap[k]? = some (.cells cells t (0,0))→some k≠row:=fun k cells t hc e=>by
  obtain⟨_,o,ho,hn⟩:=hr k e.symm
  rw[hc]at ho
  cases ho
  cases hn
 have Rk : ∀ {α:Type} {d:Kd α} {e:Nat} {v:Value} {xs:List α},d.R e W w0.heap.size (fun k=>w0.heap.size≤k) v xs→d.R e W1 w0.heap.size (fun k=>w0.heap.size≤k) v xs:=fun hR=>
  Kd.R_mono (Kd.R_move (Kd.R_bound hR) (fun k hk=>hg.block k hk.2.2.1 (by
   obtain⟨_,_,_,q,_,cells,hc⟩:=hk
   exact ne k cells q hc))) (fun _ hk=>hk.1)
 exact
 {h with
  bt:=h.bt.kept hg (ne _ _ _ h.bt)
  bs:=h.bs.kept hg (ne _ _ _ h.bs)
  bl:=h.bl.kept hg (ne _ _ _ h.bl)
  br:=h.br.kept hg (ne _ _ _ h.br)
  oL:=Rk h.oL
  oR:=Rk h.oR
  rw:=fun i hi=>(h.rw i hi).grown hg (ne _ _ _ (h.rw i hi))
  sP:=fun x hx=>⟨(h.sP x hx).1,Nat.lt_of_lt_of_le (h.sP x hx).2 hg.size⟩
  bw:=h.bw.grown hg h.bw.size (fun k e=>(hr k e).1) }
theorem Fi.left (h:Fi g Bt Bs BL BR S w0 uL uR vL vR LL IX P W) {v1:Value} {s:ByteArray} (hR:Kd.R Kd.string 9 W1 w0.heap.size (fun k=>w0.heap.size≤k) v1 (LL++[s])) (hg:W.grownBy W1 vL.ownBlock):Fi g Bt Bs BL BR S w0 uL uR v1 vR (LL++[s]) IX P W1:=
 have hr : ∀ k,vL.ownBlock=some k → ∃ cells,W.heap[k]? = some (.cells cells 9 (0,0)):=fun k e=>Kd.R_typed h.oL k e
 {h with
  bt:=box_step_typed h.bt hg _ hr (by decide)
  bs:=box_step_typed h.bs hg _ hr (by decide)
  bl:=box_step_typed h.bl hg _ hr (by decide)
  br:=box_step_typed h.br hg _ hr (by decide)
  oL:=hR
  oR:=R_step_typed h.oR hg _ hr (fun q hq=>by rcases List.mem_cons.1 hq with rfl|hq;decide;cases hq)
  rw:=fun i hi=>row_step_typed (h.rw i hi) hg _ hr (by decide)
  sP:=fun x hx=>⟨(h.sP x hx).1,Nat.lt_of_lt_of_le (h.sP x hx).2 hg.size⟩
  bw:=h.bw.grown hg h.bw.size (fun k e=>h.oL.1 k e) }
theorem Fi.row (h:Fi g Bt Bs BL BR S w0 uL uR vL vR LL IX P W) {v1:Value} {b i:Nat} (hR:Kd.R kPtr 80 W1 w0.heap.size (fun k=>w0.heap.size≤k) v1 (P++[b])) (hg:W.grownBy W1 vR.ownBlock) (hb:RowN W b (frow i)) (hn : ∀ x∈P,x<b) (hs:w0.heap.size≤b):Fi g Bt Bs BL BR S w0 uL uR vL v1 LL (IX++[i]) (P++[b]) W1:=
 have hr : ∀ k,vR.ownBlock=some k → ∃ cells,W.heap[k]? = some (.cells cells 80 (0,0)):=fun k e=>Kd.R_typed h.oR k e
 have hb1:=row_step_typed hb hg _ hr (by decide)
 {h with
  bt:=box_step_typed h.bt hg _ hr (by decide)
  bs:=box_step_typed h.bs hg _ hr (by decide)
  bl:=box_step_typed h.bl hg _ hr (by decide)
  br:=box_step_typed h.br hg _ hr (by decide)
  oL:=R_step_typed h.oL hg _ hr (fun q hq=>by rcases List.mem_cons.1 hq with rfl|hq;decide;cases hq)
  oR:=hR
  lP:=by rw[List.length_append,List.length_append,h.lP];rfl
  rw:=fun j hj=>by
   rw[List.length_append,List.length_singleton]at hj
   by_cases hjp:j<P.length
   ·have e1:(P++[b]).getD j 0=P.getD j 0:=by simp[List.getD_eq_getElem?_getD,List.getElem?_append_left hjp]
    have e2:(IX++[i]).getD j 0=IX.getD j 0:=by simp[List.getD_eq_getElem?_getD,List.getElem?_append_left (show j<IX.length by rw[←h.lP];exact hjp)]
    rw[e1,e2]
    exact row_step_typed (h.rw j hjp) hg _ hr (by decide)
   ·obtain rfl:j=P.length:=by omega
    have e1:(P++[b]).getD P.length 0=b:=by simp[List.getD_eq_getElem?_getD]
    have e2:(IX++[i]).getD P.length 0=i:=by rw[h.lP];simp[List.getD_eq_getElem?_getD]
    rw[e1,e2]
    exact hb1
  nd:=by
   rw[List.nodup_append]
   refine⟨h.nd,by simp,fun x hx y hy=> ?_⟩
   rw[List.mem_singleton]at hy
   have:=hn x hx
   omega
  sP:=fun x hx=>by
   rcases List.mem_append.1 hx with hx|hx
   ·exact⟨(h.sP x hx).1,Nat.lt_of_lt_of_le (h.sP x hx).2 hg.size⟩
   ·rw[List.mem_singleton]at hx
    subst hx
    exact⟨hs,hb1.lt⟩
  bw:=h.bw.grown hg h.bw.size (fun k e=>h.oR.1 k e) }
theorem Fi.put (h:Fi g Bt Bs BL BR S w0 uL uR vL vR LL IX P W) (xL xR:Value):Fi g Bt Bs BL BR S w0 xL xR vL vR LL IX P ((W.setCell ⟨BL,0,none⟩ xL).setCell ⟨BR,0,none⟩ xR):=by
 have g1:=grown_set W BL 0 xL
 have g2:=grown_set (W.setCell ⟨BL,0,none⟩ xL) BR 0 xR
 have r1 : ∀ k,some BL=some k → ∃ cells,W.heap[k]? = some (.cells cells 27 (0,0)):=fun k e=>by injection e with e;subst e;exact⟨_,h.bl⟩
 have hbr:Boxed (W.setCell ⟨BL,0,none⟩ xL) BR 122 uR:=box_step_typed h.br g1 _ r1 (by decide)
 have r2 : ∀ k,some BR=some k → ∃ cells,(W.setCell ⟨BL,0,none⟩ xL).heap[k]? = some (.cells cells 122 (0,0)):=fun k e=>by injection e with e;subst e;exact⟨_,hbr⟩
 exact
 {h with
  bt:=box_step_typed (box_step_typed h.bt g1 _ r1 (by decide)) g2 _ r2 (by decide)
  bs:=box_step_typed (h.bs.kept g1 (fun e=>h.ns (by injection e))) g2 _ r2 (by decide)
  bl:=box_step_typed (h.bl.set xL) g2 _ r2 (by decide)
  br:=hbr.set xR
  oL:=R_step_typed (R_step_typed h.oL g1 _ r1 (fun q hq=>by rcases List.mem_cons.1 hq with rfl|hq;decide;cases hq)) g2 _ r2 (fun q hq=>by rcases List.mem_cons.1 hq with rfl|hq;decide;cases hq)
  oR:=R_step_typed (R_step_typed h.oR g1 _ r1 (fun q hq=>by rcases List.mem_cons.1 hq with rfl|hq;decide;cases hq)) g2 _ r2 (fun q hq=>by rcases List.mem_cons.1 hq with rfl|hq;decide;cases hq)
  rw:=fun i hi=>row_step_typed (row_step_typed (h.rw i hi) g1 _ r1 (by decide)) g2 _ r2 (by decide)
  sP:=fun x hx=>⟨(h.sP x hx).1,by have:=(h.sP x hx).2;simpa using this⟩
  bw:=(h.bw.setCell (p:=⟨BL,0,none⟩) h.nl _).setCell (p:=⟨BR,0,none⟩) h.nr _ }
theorem Fi.ptr (h:Fi g Bt Bs BL BR S w0 uL uR vL vR LL IX P W) (h0:0<P.length) : ∃ gR cR,vR = .slice (some ⟨gR,0,none⟩) P.length cR∧w0.heap.size≤gR∧Ptr W gR P∧P.length≤cR:=by
 have ho:=Kd.own_of_R (h1:=fun _=>rfl) h.oR
 rcases ho.2 with ⟨_,e⟩|⟨g1,cap,cur,hv,hb,hg,hnc,hcm,hcs,htk⟩
 ·omega
 ·refine⟨g1,cap,hv,hb,⟨cur,hg,fun i hi=> ?_⟩,hnc⟩
  have e:(encs sl P)[i]? = some (sl (P.getD i 0)):=by simp[encs,List.getD_eq_getElem?_getD,List.getElem?_eq_getElem hi]
  rw[←htk,List.getElem?_take]at e
  split at e
  ·simpa using e
  ·cases e
theorem rowAt_map (IX:List Nat) (i:Nat) (hi:i<IX.length):rowAt (IX.map frow) i=frow (IX.getD i 0):=by
 unfold rowAt
 rw[List.getD_eq_getElem?_getD,List.getElem?_map,List.getElem?_eq_getElem hi,List.getD_eq_getElem?_getD,List.getElem?_eq_getElem hi]
 rfl
theorem getD_take (L:List Nat) (k i:Nat) (hi:i<k):(L.take k).getD i 0=L.getD i 0:=by
 rw[List.getD_eq_getElem?_getD,List.getD_eq_getElem?_getD,List.getElem?_take,if_pos hi]
theorem Ptr.take {w:World} {g:Nat} {P:List Nat} (h:Ptr w g P) (k:Nat):Ptr w g (P.take k):=by
 obtain⟨cur,hg,hc⟩:=h
 refine⟨cur,hg,fun i hi=> ?_⟩
 rw[List.length_take]at hi
 rw[getD_take _ _ _ (by omega)]
 exact hc i (by omega)
theorem Wf.frows (IX:List Nat) (h:IX.length=6):Wf (IX.map frow):=by
 refine⟨by simp[h],fun i hi=> ?_⟩
 rw[rowAt_map _ _ (by omega)]
 exact⟨frow_len _,frow_le _⟩
theorem Fi.solved (h:Fi g Bt Bs BL BR S w0 uL uR vL vR LL IX P W) {gR k:Nat} (hp:Ptr W gR P) (hF:Fr gR (P.take k) W W1) (hgR:w0.heap.size≤gR) :
  Boxed W1 Bt 55 (.pointer (some ⟨g,0,none⟩))∧Boxed W1 BL 27 uL∧Kd.R Kd.string 9 W1 w0.heap.size (fun k=>w0.heap.size≤k) vL LL∧Below w0.heap.size w0 W1∧(∀ (D:Nat) (o:Obj),W.heap[D]? = some o→o.isCells=false→W1.heap[D]? = some o):=by
 have ne : ∀ (D:Nat) (o:Obj),W.heap[D]? = some o→(∀ cells,o ≠ .cells cells 80 (0,0))→(∀ cells,o ≠ .cells cells 5 (0,0))→W1.heap[D]? = some o:=fun D o ho h1 h2=>by
  refine(hF.block D (Array.getElem?_eq_some_iff.1 ho).1 ?_ ?_).trans ho
  ·rintro rfl
   obtain⟨cur,hg,_⟩:=hp
   rw[hg]at ho
   injection ho with ho
   exact h1 cur ho.symm
  ·intro hm
   obtain⟨i,hi,rfl⟩:=List.getElem_of_mem (List.mem_of_mem_take hm)
   have hr:W.heap[P.getD i 0]? = _:=h.rw i hi
   rw[List.getD_eq_getElem?_getD,List.getElem?_eq_getElem hi]at hr
   have hr:W.heap[P[i]]? = _:=hr
   rw[hr]at ho
   injection ho with ho
   exact h2 _ ho.symm
 refine⟨ne _ _ h.bt (by intro c e;injection e with _ e;exact absurd e (by decide)) (by intro c e;injection e with _ e;exact absurd e (by decide)),ne _ _ h.bl (by intro c e;injection e with _ e;exact absurd e (by decide)) (by intro c e;injection e with _ e;exact absurd e (by decide)),?_,?_,?_⟩
 ·refine Kd.R_mono (Kd.R_move (Kd.R_bound h.oL) (fun k hk=> ?_)) (fun _ hk=>hk.1)
  obtain⟨_,_,_,q,hq,cells,hc⟩:=hk
  rcases List.mem_cons.1 hq with rfl|hq
  ·rw[hc]
   exact ne _ _ hc (by intro c e;injection e with _ e;exact absurd e (by decide)) (by intro c e;injection e with _ e;exact absurd e (by decide))
  ·cases hq
 ·refine⟨hF.os.trans h.bw.os,hF.tape.trans h.bw.tape,hF.output.trans h.bw.output,Nat.le_trans h.bw.size hF.size,fun k hk=>(hF.block k (Nat.lt_of_lt_of_le hk h.bw.size) (by omega) (fun hm=> ?_)).trans (h.bw.block k hk)⟩
  have:=(h.sP k (List.mem_of_mem_take hm)).1
  omega
 ·intro D o ho hn
  exact ne D o ho (by rintro c rfl;cases hn) (by rintro c rfl;cases hn)
end
end Go.Proofs.YtdcfonmjbelgbaaGreatDoor
end
section
namespace Go.Proofs.YtdcfonmjbelgbaaGreatDoor
open Go.RowKit
theorem wpIn_range_told {F:Fence} {n:Nat} {P:Program} {α:Type} {g:Operand} {ps:Array Tmp} {assign body:Code} {Q:Exit→Act→World→Prop} {a:Act} {w:World} (hro:F.round=none) (h1:1≤n) {gf:Nat} {lb:Array Value} (hg:a.eval g = .func (.func gf) #[] lb) (hFg:F.fn gf) (eg : ∀ args w,(callFunc gf args).run P w = .ok (.enter gf args) w)
  {encs:α→Array Value} (V:α→World→Prop) (S:List α→Prop) (N n₀:Nat) (hn₀:n₀≤w.heap.size) (hps : ∀ x,(encs x).size=ps.size)
  (hseq : ∀ (l:Nat) (J:List α→World→Prop) (W:World),Below w.heap.size w W→(∀ s A B,J s A→A.grownBy B none→J s B) →
   (∀ pre x W1,J pre W1→V x W1→pre.length<N→YieldAt F (n-1-1) P l (encs x) W1 fun e W'=>e = .returned (.bool true)∧J (pre++[x]) W'∧Below n₀ W1 W')→J [] W →
   CallsIn F (n-1) P gf (#[.func (.yield l) #[] #[]]++lb) W fun e W'=>(∃ v,e = .returned v) ∧ ∃ xs,S xs∧J xs W')
  (I:List α→World→Prop) (hI:OwnFrom w.heap.size I) (h0:I [] w) (Ax:List α→α→Act→World→Prop) (hAx : ∀ pre x a',OwnFrom w.heap.size (fun (_:Unit) W=>Ax pre x a' W))
  (hassign : ∀ (l:Nat) (pre:List α) (x:α) (W:World) (K:Act→World→Prop),I pre W→V x W→pre.length<N→(∀ a' W',KeepsFrom w.heap.size W W'→Below n₀ W W'→Ax pre x a' W'→K a' W') →
   assign.wpIn (F.inRound l) (n-1-1) P (Exit.then K (fun _ _ _=>False)) { tmps:=(ps.zip (encs x)).foldl (fun t (p,v)=>t.setIfInBounds p v) a.tmps,defers:=[] } W)
  (hbody : ∀ (l:Nat) (pre:List α) (x:α) (a':Act) (W:World),Ax pre x a' W→body.wpIn (F.inRound l) (n-1-1) P (fun e _ W'=>e = .normal∧KeepsFrom w.heap.size W W'∧Below n₀ W W'∧I (pre++[x]) W') a' W)
  (hdone : ∀ (D:Nat) (xs:List α) (W:World),w.heap.size≤D→S xs→I xs W→W.heap[D]? = some (.deferred (some []))→Q .normal { a with defers:={ target:=.collected D,args:= #[] }::a.defers } W) :
  (Code.rangeFunc g ps assign body).wpIn F n P Q a w:=by
 refine wpIn_rangeFunc fun fn hfn=> ?_
 rw[hro]
 obtain⟨mk,hmk⟩ : ∃ mk:LoopState→Option Code→Loop,mk=fun st pe=>{ state:=st,pending:=pe,fn,tmps:=a.tmps,params:=ps,assign,body,defers:=w.heap.size }:=⟨_,rfl⟩
 obtain⟨W1,hW1⟩ : ∃ W1,(w.alloc (.deferred (some []))).alloc (.loop (mk .ready none))=W1:=⟨_,rfl⟩
 have hL1:W1.heap[w.heap.size+1]? = some (.loop (mk .ready none)):=by
  have:=World.alloc_heap_new (w.alloc (.deferred (some []))) (.loop (mk .ready none))
  rwa [World.size_alloc,hW1]at this
 have hD1:W1.heap[w.heap.size]? = some (.deferred (some [])):=by
  rw[←hW1]
  exact(Below.heap_alloc _ _ _ (by simp)).trans (World.alloc_heap_new w _)
 have hI1:I [] W1:=by rw[←hW1];exact hI.alloc _ (hI.alloc _ h0)
 have hB1:Below w.heap.size w W1:=by rw[←hW1];exact((Below.refl _ w).alloc (Nat.le_refl _) _).alloc (by simp) _
 refine⟨w.heap.size+1,[{ target:=.collected w.heap.size,args:= #[] }],W1,{ target:=.fn (.func gf) lb,args:= #[.func (.yield (w.heap.size+1)) #[] #[]] },W1,gf,#[.func (.yield (w.heap.size+1)) #[] #[]]++lb,W1,?_,?_,?_,?_,fun _=>h1,?_⟩
 ·rw[←hW1,hmk]
  exact run_enterLoop_outer _ _ _ _ _
 ·simp only[resolve,hg]
  simp[go_sem]
 ·intro f' hf'
  simp[Target.leads]at hf'
  subst hf'
  exact hFg
 ·simp[invoke,go_sem,eg]
 ·refine(hseq (w.heap.size+1) (fun pre W=>I pre W∧W.heap[w.heap.size+1]? = some (.loop (mk .ready none))∧W.heap[w.heap.size]? = some (.deferred (some []))) W1 hB1 ?_ ?_ ⟨hI1,hL1,hD1⟩).mono ?_
  ·rintro s A B ⟨hi,hl,hd⟩ hgr
   exact⟨hI s A B none hi hgr (fun r e=>by cases e),(hgr.block _ (Array.getElem?_eq_some_iff.1 hl).1 (by simp)).trans hl,(hgr.block _ (Array.getElem?_eq_some_iff.1 hd).1 (by simp)).trans hd⟩
  ·rintro pre x W ⟨hi,hl,hd⟩ hv hN
   have hy:=run_yield (P:=P) (args:=encs x) hl (by rw[hmk];exact hps x)
   rw[hmk]at hy
   refine⟨fn,_,assign,body,hy,roundIn_of_wpIn hfn (hassign _ pre x W _ hi hv hN ?_)⟩
   clear hy
   intro a' Wa hk hb hax
   have hla:=hk.same _ _ (by omega) hl rfl
   have hda:=hk.same _ _ (Nat.le_refl _) hd rfl
   have hlt:w.heap.size+1<Wa.heap.size:=(Array.getElem?_eq_some_iff.1 hla).1
   refine⟨_,run_beginRound hla (by rw[hmk]),?_⟩
   have hl2:(Wa.putObj (w.heap.size+1) (.loop { mk .ready none with state:=.busy })).heap[w.heap.size+1]? = some (.loop { mk .ready none with state:=.busy }):=World.putObj_heap_same hlt
   have hd2:(Wa.putObj (w.heap.size+1) (.loop { mk .ready none with state:=.busy })).heap[w.heap.size]? = some (.deferred (some [])):=(World.putObj_heap_other (by omega)).trans hda
   have hb2:=belowK_b (w:=w) hn₀ Wa (w.heap.size+1) _ (.loop { mk .ready none with state:=.busy }) (by omega) hla rfl rfl
   refine wpIn_mono (hbody _ pre x a' _ ((hAx pre x a').putObj (s:=()) _ hax (by omega) hla rfl)) ?_
   rintro e a3 W3 ⟨rfl,hk3,hb3,hi3⟩
   have hl3:=hk3.same _ _ (by omega) hl2 rfl
   have hd3:=hk3.same _ _ (Nat.le_refl _) hd2 rfl
   have hr:=run_endRound (P:=P) none hl3
   rw[hmk]at hr hl3
   refine⟨_,_,hr,rfl,⟨hI.putObj _ hi3 (by omega) hl3 rfl,?_,(World.putObj_heap_other (by omega)).trans hd3⟩,?_⟩
   ·rw[hmk]
    exact World.putObj_heap_same (Array.getElem?_eq_some_iff.1 hl3).1
   ·exact(hb.trans (hb2.trans hb3)).trans (belowK_b (w:=w) hn₀ W3 (w.heap.size+1) _ _ (by omega) hl3 rfl rfl)
  ·rintro e W2 ⟨⟨v,rfl⟩,xs,hS,hi,hl,hd⟩
   have hr:=run_endLoop (P:=P) hl (by rw[hmk];simp)
   rw[hmk]at hr
   exact⟨none,_,hr,hdone _ xs _ (Nat.le_refl _) hS (hI.putObj _ hi (by omega) hl rfl) ((World.putObj_heap_other (by omega)).trans hd)⟩
end Go.Proofs.YtdcfonmjbelgbaaGreatDoor
end
section
namespace Go.Proofs.YtdcfonmjbelgbaaGreatDoor
open Go.RowKit YtdcfonmjbelgbaaGreatDoorW.PrintLast
section
variable {P:Program} {ops:Array Oper} {Q:Exit→Act→World→Prop} {md:Region.Mode} {l n:Nat}
theorem rows_round {row:String} {args:Array Value} {w:World} {R:Value→World→Prop} (h:Rows P row args w R):RowsIn (Fence.wide.inRound l) n P row args w R:=by
 intro c cs _
 obtain⟨v,w',r,s⟩:=h c cs
 exact⟨v,w',r,stepsIn_wide.2 s⟩
theorem wp_round {o:Oper} (hd : ∀ c,o.op ≠ .defer c) {a:Act} {w:World} {K:Act→World→Prop} (h:o.wp P a w K Q):o.wpIn (Fence.wide.inRound l) n P a w K Q:=by
 refine⟨fun _ _=>trivial,?_⟩
 rw[Oper.semAt_eq _ _ _ hd]
 unfold Oper.wp at h
 cases hr:(execOp a.eval o).run P w with
 | ok x w'=>
  rw[hr]at h
  cases x with
  | value v=>exact h
  | skip=>exact h
  | defer d=>exact h
  | enter f args=>exact⟨(fun hh=>by cases hh),CallsIn.inRound l (callsIn_wide.2 h)⟩
  | row r args=>exact⟨(fun hh=>by cases hh),rows_round h⟩
  | round _ _ _ _ _=>exact h.elim
  | _=>exact h.elim
 | halt x w'=>
  rw[hr]at h
  cases x<;>exact h
theorem wpOp_round (hd : ∀ (i:Nat) (o:Oper) c,ops[i]? = some o→o.op ≠ .defer c) (hL : ¬ LetsOut Q) {i:Nat} {K:Act→World→Prop} {a:Act} {w:World} (h:wpOp P ops Q i K a w):wpOpIn (Fence.wide.inRound l) n P ops Q i K a w:=by
 unfold wpOp at h
 unfold wpOpIn
 cases ho:ops[i]? with
 | none=>
  rw[ho]at h
  exact h
 | some o=>
  rw[ho]at h
  simp only at h ⊢
  by_cases hw:Region.wanted o (yielded ops a.tmps)=true
  ·rw[if_pos hw]at h ⊢
   rcases h with h|h
   ·exact wp_round (fun c=>hd i o c ho) h
   ·exact absurd h.2 hL
  ·rw[if_neg hw]at h ⊢
   exact⟨fun _ _=>trivial,h⟩
theorem any_round (hd : ∀ (i:Nat) (o:Oper) c,ops[i]? = some o→o.op ≠ .defer c) (hL : ¬ LetsOut Q) : ∀ (fuel:Nat) (listed:Array Bool) (a:Act) (w:World),wpAny P md ops Q fuel listed a w→wpAnyIn (Fence.wide.inRound l) n P md ops Q fuel listed a w
 | 0,_,_,_,h=>h
 | fuel+1,_,_,_,h=>⟨h.1,fun i hi=>wpOpIn_mono (fun a' w' h'=>any_round hd hL fuel _ a' w' h') (wpOp_round hd hL (h.2 i hi))⟩
def noDefer (o:Oper):Bool:=match o.op with
 | .defer _=>false
 | _=>true
theorem startIn_ {S:World→Prop} {ds:List Nat} {id m:Nat} {a:Act} {w:World} (hd:ops.toList.all noDefer=true) (hL : ¬ LetsOut Q) (lit:Array Bool) (hm:P.follows .mixedOrders=true) (hn:ops.size=m) (hl:Array.replicate m false=lit) (hS:S w.drew)
  (h:S w.drew→wpAnyLast P .any ops Q S ds m lit a w.drew):(Code.region id ops true).wpIn (Fence.wide.inRound l) n P Q a w:=by
 subst hn
 subst hl
 refine wpIn_region_any hm (any_round (fun i o c hi hc=> ?_) hL _ _ _ _ (wpAny_of_last _ _ _ _ (h hS)))
 have h1:=List.all_eq_true.1 hd o (by
  rw[←Array.getElem?_toList]at hi
  exact List.mem_of_getElem? hi)
 unfold noDefer at h1
 rw[hc]at h1
 cases h1
end
end Go.Proofs.YtdcfonmjbelgbaaGreatDoor
end
section
namespace Go.Proofs.YtdcfonmjbelgbaaGreatDoor
open Go.RowKit Q YtdcfonmjbelgbaaGreatDoorW.PrintWords YtdcfonmjbelgbaaGreatDoorW.PrintLast YtdcfonmjbelgbaaGreatDoorW.PrintMore
attribute [local go_sem] Oper.semAt_some
theorem bool_at {w:World} {A:Option Addr} {h:List Bool} (hC:Kd.C Kd.bool w A h.length h) (k:Nat) (hk:k<h.length) : ∃ ad,A=some ad∧w.cell? (ad.add k)=some (.bool (h.getD k false)):=by
 obtain⟨ad,e,hc⟩:=Kd.at_bool hC (k:Int) (by omega) (by omega)
 exact⟨ad,e,hc⟩
theorem skip_none {F:Fence} {p:Prop} (h:p):(∀ f:FuncId,(none:Option FuncId)=some f→F.fn f)∧p:=⟨(fun _ hf=>by cases hf),h⟩
theorem there_in (n:Nat) (hn:1≤n) (l Bn:Nat) (A:Option Addr) (c:Nat) (h:List Bool) (w0:World) (hC:Kd.C Kd.bool w0 A h.length h) (hc:h.length≤c) (J:List Nat→World→Prop)
  (hY : ∀ pre x W1,J pre W1→x<h.length→pre.length<h.length→YieldAt Fence.wide (n-1) Tryz.prog l #[.int .i64 ((x:Nat):Int)] W1 fun e W'=>e = .returned (.bool true)∧J (pre++[x]) W'∧Below w0.heap.size W1 W')
  (W:World) (hb0:Below w0.heap.size w0 W) (hBn:W.cell? ⟨Bn,0,none⟩=some (.slice A h.length c)) (h0:J [] W) :
  CallsIn Fence.wide n Tryz.prog 94 #[.func (.yield l) #[] #[],.pointer (some ⟨Bn,0,none⟩)] W fun e W'=>(∃ v,e = .returned v) ∧ ∃ ys:List Nat,ys=idx h∧J ys W':=by
 have HJ:=Aside0.mk h0
 have HB:=Aside0.mk hb0
 have HY:=Aside0.mk hY
 have HC:=Aside0.mk hC
 have hmx:h.length≤9223372036854775807:=Kd.C_max hC
 clear h0 hb0 hY hC
 refine callsIn_of_wp Tryz.func94 rfl trivial ?_ rfl
 simp only[Tryz.ntmps94,List.size_toArray,List.length_cons,List.length_nil,Nat.reduceAdd,Nat.reduceSub,Array.replicate_succ,Array.replicate_zero,List.push_toArray,List.append_toArray,List.nil_append,List.cons_append]
 gi_wp2
 clear hBn
 gi_loopw [7] (fun i wr=> ∃ (k:Nat),k≤h.length∧i = .int .i64 k∧Aside0 (J (idxK h k) wr)∧Aside0 (Below w0.heap.size w0 wr)) (fun i _=>h.length-(intOf i).toNat)
 case atStart=>exact⟨0,Nat.zero_le _,rfl,HJ,HB⟩
 case round=>
  clear HJ HB
  obtain⟨k,hk,rfl,HJ,HB⟩:=hrel
  by_cases hlt:k<h.length
  ·obtain⟨ad,hA,hcell⟩:=bool_at HC.out k hlt
   replace hcell:=(HB.out.cell (World.block_lt_of_cell? _ _ hcell)).trans hcell
   have HS:=Lib.hid (idxK_succ h k)
   have hpl:Hid ((idxK h k).length<h.length):=Lib.hid (by have:=idxK_len h k;omega)
   have hHL:=Lib.hid hlt
   subst hA
   cases hq:h.getD k false with
   | false=>
    rw[hq]at hcell HS
    have HS2:=Lib.hid (show idxK h (k+1)=idxK h k by rw[HS.out];simp)
    clear HS hq
    gi_wp2_with (with_reducible refine skip_none ?_)
    go_roundw
    case rel=>exact⟨k+1,hHL.out,by go_num,by rw[HS2.out];exact HJ,HB⟩
    case measure=>have:=hHL.out;simp[intOf];omega
   | true=>
    rw[hq]at hcell HS
    have HS2:=Lib.hid (show idxK h (k+1)=idxK h k++[k]by rw[HS.out];simp)
    clear HS hq
    obtain⟨fn,tmps,assign,body,hy,hRd⟩:=HY.out (idxK h k) k wr HJ.out hlt hpl.out
    gi_wp2
    refine hRd.mono ?_
    rintro e3 W3 ⟨rfl,hJ3,hk3⟩
    gi_wp2
    go_roundw
    case rel=>exact⟨k+1,hHL.out,by go_num,by rw[HS2.out];exact⟨hJ3⟩,⟨HB.out.trans hk3⟩⟩
    case measure=>have:=hHL.out;simp[intOf];omega
  ·obtain rfl:k=h.length:=by omega
   gi_wp2
   go_end0
   exact⟨⟨_,rfl⟩,_,rfl,HJ.out⟩
end Go.Proofs.YtdcfonmjbelgbaaGreatDoor
end
section
namespace Go.Proofs.YtdcfonmjbelgbaaGreatDoor
open Go.RowKit Q YtdcfonmjbelgbaaGreatDoorW.PrintWords YtdcfonmjbelgbaaGreatDoorW.PrintLast YtdcfonmjbelgbaaGreatDoorW.PrintMore
attribute [local go_sem] Oper.semAt_some
theorem there_calls (A:Option Addr) (m c:Nat) (w:World) (n:Nat):CallsIn Fence.wide n Tryz.prog 74 #[.slice A m c] w fun e w'=>e = .returned (.func (.func 94) #[] #[.pointer (some ⟨w.heap.size,0,none⟩)])∧w'=w.alloc (.cells #[.slice A m c] 65):=by
 refine callsIn_of_wp Tryz.func74 rfl trivial ?_ rfl
 simp only[Tryz.ntmps74,List.size_toArray,List.length_cons,List.length_nil,Nat.reduceAdd,Nat.reduceSub,Array.replicate_succ,Array.replicate_zero,List.push_toArray,List.append_toArray,List.nil_append,List.cons_append]
 gi_wp2
 go_ret
 exact⟨rfl,rfl⟩
theorem Fi.start {g:Nat} {S:Value} {w:World} {x:Value}:Fi g w.heap.size (w.heap.size+1) (w.heap.size+1+1) (w.heap.size+1+1+1) S w (.slice none 0 0) (.slice none 0 0) (.slice none 0 0) (.slice none 0 0) [] [] [] (((((w.alloc (.cells #[.pointer (some ⟨g,0,none⟩)] 55)).alloc (.cells #[S] 27)).alloc (.cells #[.slice none 0 0] 27)).alloc (.cells #[.slice none 0 0] 122)).alloc (.cells #[x] 65)):=by
 have e1:(w.alloc (.cells #[.pointer (some ⟨g,0,none⟩)] 55)).heap.size=w.heap.size+1:=by simp
 have e2:((w.alloc (.cells #[.pointer (some ⟨g,0,none⟩)] 55)).alloc (.cells #[S] 27)).heap.size=w.heap.size+1+1:=by simp
 have e3:(((w.alloc (.cells #[.pointer (some ⟨g,0,none⟩)] 55)).alloc (.cells #[S] 27)).alloc (.cells #[.slice none 0 0] 27)).heap.size=w.heap.size+1+1+1:=by simp
 have b1:=Boxed.new w 55 (.pointer (some ⟨g,0,none⟩))
 have b2:=Boxed.new (w.alloc (.cells #[.pointer (some ⟨g,0,none⟩)] 55)) 27 S
 have b3:=Boxed.new ((w.alloc (.cells #[.pointer (some ⟨g,0,none⟩)] 55)).alloc (.cells #[S] 27)) 27 (.slice none 0 0)
 have b4:=Boxed.new (((w.alloc (.cells #[.pointer (some ⟨g,0,none⟩)] 55)).alloc (.cells #[S] 27)).alloc (.cells #[.slice none 0 0] 27)) 122 (.slice none 0 0)
 rw[e1]at b2
 rw[e2]at b3
 rw[e3]at b4
 refine⟨(((b1.alloc _).alloc _).alloc _).alloc _,((b2.alloc _).alloc _).alloc _,(b3.alloc _).alloc _,b4.alloc _,Kd.R_nil _ _ _ _ _,Kd.R_nil _ _ _ _ _,rfl,fun i hi=>absurd hi (Nat.not_lt_zero i),by simp,fun x hx=>absurd hx (by simp),below_alloc (below_alloc (below_alloc (below_alloc (below_alloc (Below.refl _ w) _) _) _) _) _,by omega,by omega,by omega⟩
theorem Fi.br1 {g Bt Bs BL BR:Nat} {S:Value} {w0 W:World} {uL uR vL vR:Value} {LL:List ByteArray} {IX P:List Nat} (h:Fi g Bt Bs BL BR S w0 uL uR vL vR LL IX P W) (v:Value):Boxed (W.setCell ⟨BL,0,none⟩ v) BR 122 uR:=
 box_step_typed h.br (grown_set W BL 0 v) 27 (fun k e=>by injection e with e;subst e;exact⟨_,h.bl⟩) (by decide)
theorem R_calm2 {α:Type} {d:Kd α} {e base:Nat} {ok:Nat→Prop} {X Y:World} {v:Value} {xs:List α} {row:Option Nat} (h:d.R e X base ok v xs) (hg:X.grownBy Y row) (hr : ∀ r,row=some r → ∃ o:Obj,X.heap[r]? = some o∧o.isCells=false):d.R e Y base ok v xs:=
 Kd.R_mono (Kd.R_move (Kd.R_bound h) (fun k hk=>hg.block k hk.2.2.1 (fun e'=>by
  obtain⟨_,_,_,q,_,cells,hc⟩:=hk
  obtain⟨o,ho,hn⟩:=hr k e'.symm
  rw[hc]at ho
  cases ho
  cases hn))) (fun _ hk=>hk.1)
theorem evenB_take {l:List ByteArray} (h:evenB l=true) (k:Nat) (hk:0<k):evenB (l.take k)=true:=by
 unfold evenB
 rw[List.all_eq_true]
 intro s hs
 rw[take_wid l k hk]
 have:=evenB_size h (List.mem_of_mem_take hs)
 simpa using this
theorem strAt_map (l:List ByteArray) (IX:List Nat) (i:Nat) (hi:i<IX.length):strAt (IX.map (strAt l)) i=strAt l (IX.getD i 0):=by
 unfold strAt
 rw[List.getD_eq_getElem?_getD,List.getElem?_map,List.getElem?_eq_getElem hi,List.getD_eq_getElem?_getD (l:=IX),List.getElem?_eq_getElem hi]
 rfl
theorem str_now {w W:World} {ad:Addr} {l:List ByteArray} {i:Nat} {s:ByteArray} (hC:Kd.C Kd.string w (some ad) l.length l) (b:Below w.heap.size w W) (hs:i<l.length∧strAt l i=s):W.cell? (ad.add i)=some (.string s):=by
 obtain⟨ad2,e,hc⟩:=strs_at hC i hs.1
 cases e
 rw[hs.2]at hc
 exact(b.cell (World.block_lt_of_cell? _ _ hc)).trans hc
theorem below_between {n:Nat} {w W W1:World} (b1:Below n w W) (b2:Below n w W1) (hs:W.heap.size≤W1.heap.size):Below n W W1:=
 ⟨b2.os.trans b1.os.symm,b2.tape.trans b1.tape.symm,b2.output.trans b1.output.symm,hs,fun k hk=>(b2.block k hk).trans (b1.block k hk).symm⟩
theorem keeps_typed {B:Nat} {W W1:World} {row:Option Nat} (hg:W.grownBy W1 row) (t:TypeId) (hrow : ∀ k,row=some k → ∃ cells,W.heap[k]? = some (.cells cells t (0,0))):KeepsFrom B W W1:=
 ⟨hg.size,fun k o _ hk ho=>(hg.block k (Array.getElem?_eq_some_iff.1 hk).1 (fun e=>by
  obtain⟨cells,hc⟩:=hrow k e.symm
  rw[hc]at hk
  cases hk
  cases ho)).trans hk⟩
theorem keeps_below {B:Nat} {W W1:World} (b:Below W.heap.size W W1):KeepsFrom B W W1:=keeps_typed (grown_below b none) 0 (fun k e=>by cases e)
theorem fill_calls (g:Nat) (A:Option Addr) (c:Nat) (l:List ByteArray) (D:Option Addr) (d:Nat) (h:List Bool) (w:World) (hI:IsTab w g) (hC:Kd.C Kd.string w A l.length l) (hc:l.length≤c) (hz : ∀ s∈l,s.size≤140737488355328) (hD:Kd.C Kd.bool w D h.length h) (hd:h.length≤d) :
  Calls Tryz.prog 55 #[.pointer (some ⟨g,0,none⟩),.slice A l.length c,.slice D h.length d] w (Told w.heap.size (fillR l h) w):=by
 refine(callsIn_wide (n:=5)).1 ?_
 have HI:=Aside0.mk hI
 have HC:=Aside0.mk hC
 have HZ:=Aside0.mk hz
 have HDD:=Aside0.mk hD
 have HL:=Lib.hid hc
 have HDL:=Lib.hid hd
 have hmx:l.length≤9223372036854775807:=Kd.C_max hC
 have hmd:h.length≤9223372036854775807:=Kd.C_max hD
 clear hI hC hz hc hD hd
 refine callsIn_of_wp_marks Tryz.func55 rfl trivial ?_ rfl
 simp only[Tryz.ntmps55,List.size_toArray,List.length_cons,List.length_nil,Nat.reduceAdd,Nat.reduceSub,Array.replicate_succ,Array.replicate_zero,List.push_toArray,List.append_toArray,List.nil_append,List.cons_append]
 have hF:Fence.wide.fn 74:=trivial
 by_cases h9:l.length=9
 ·have h9n:((l.length:Int) != 9)=false:=by rw[h9];rfl
  by_cases hh9:h.length=9
  ·have hh9n:((h.length:Int) != 9)=false:=by rw[hh9];rfl
   have H9:=Lib.hid h9
   have HH9:=Lib.hid hh9
   clear h9 hh9
   gi_wp2_with (first|(gi_at_call 74;refine(there_calls _ _ _ _ _).mono ?_;rintro e w' ⟨rfl,rfl⟩))
   have G:=Fi.start (g:=g) (S:=.slice A l.length c) (w:=w) (x:=.slice D h.length d)
   have bH:=Boxed.new ((((w.alloc (.cells #[.pointer (some ⟨g,0,none⟩)] 55)).alloc (.cells #[.slice A l.length c] 27)).alloc (.cells #[.slice none 0 0] 27)).alloc (.cells #[.slice none 0 0] 122)) 65 (.slice D h.length d)
   simp only[World.size_alloc]at bH
   generalize ((((w.alloc (.cells #[.pointer (some ⟨g,0,none⟩)] 55)).alloc (.cells #[.slice A l.length c] 27)).alloc (.cells #[.slice none 0 0] 27)).alloc (.cells #[.slice none 0 0] 122)).alloc (.cells #[.slice D h.length d] 65)=W0 at G bH ⊢
   have hn0:w.heap.size≤W0.heap.size:=G.bw.size
   generalize w.heap.size+1+1+1+1=BH at bH ⊢
   generalize w.heap.size+1+1+1=BR at G ⊢
   generalize w.heap.size+1+1=BL at G ⊢
   generalize w.heap.size+1=Bs at G ⊢
   refine wpIn_range_told rfl (by decide) (gf:=94) (lb:= #[.pointer (some ⟨BH,0,none⟩)]) rfl trivial (enters_of Tryz.func94 (by kernel_rfl) rfl) (encs:=fun x:Nat=> #[.int .i64 ((x:Nat):Int)]) (fun x _=>x<h.length) (fun ys=>ys=idx h) h.length w.heap.size hn0 (fun _=>rfl) ?seq (fun pre W=> ∃ vL vR P,Fi g w.heap.size Bs BL BR (.slice A l.length c) w vL vR vL vR (pre.map (strAt l)) pre P W) ?own ⟨_,_,_,G⟩ (fun pre x a' W=>x<h.length∧pre.length<h.length∧a'={ tmps:= #[.pointer (some ⟨g,0,none⟩),.slice A l.length c,.slice D h.length d,.pointer (some ⟨w.heap.size,0,none⟩),.pointer (some ⟨Bs,0,none⟩),undef,.slice none 0 0,.int .i64 0,.pointer (some ⟨BL,0,none⟩),.pointer (some ⟨BR,0,none⟩),.int .i64 ((x:Nat):Int),undef,undef,undef,.pointer (some ⟨g,0,none⟩),.bool false,.bool false,.slice A l.length c,.int .i64 l.length,.bool false,.bool false,.bool false,.slice D h.length d,.int .i64 h.length,.bool false,.bool false,.slice D h.length d,.func (.func 94) #[] #[.pointer (some ⟨BH,0,none⟩)],.int .i64 ((x:Nat):Int),undef,undef,undef,undef,undef,undef,undef,undef,undef,undef,undef,undef,undef,undef,undef,undef,undef,undef,undef,undef,undef,undef,undef,undef,undef,undef,undef,undef,undef,undef,undef,undef,undef,undef,undef,undef,undef,undef,undef,undef,undef,undef,undef,undef,undef,undef],defers:=[] } ∧ ∃ vL vR P,Fi g w.heap.size Bs BL BR (.slice A l.length c) w vL vR vL vR (pre.map (strAt l)) pre P W) ?ax ?assign ?body ?done
   case seq=>
    intro lq J W hW hJ hY h0
    exact there_in _ (by decide) lq BH D d h w HDD.out HDL.out J (fun pre x W1 h1 h2 h3=>hY pre x W1 h1 h2 h3) W (below2 G.bw hn0 hW) ((hW.cell (p:=⟨BH,0,none⟩) bH.lt).trans bH.cell) h0
   case own=>
    rintro pre X Y row ⟨vL,vR,P,hs⟩ hg hr
    exact⟨vL,vR,P,hs.calm hg (fun r e=>⟨Nat.le_trans hn0 (hr r e).1,(hr r e).2⟩)⟩
   case ax=>
    rintro pre x a' _ X Y row ⟨h1,h2,h3,vL,vR,P,hs⟩ hg hr
    exact⟨h1,h2,h3,vL,vR,P,hs.calm hg (fun r e=>⟨Nat.le_trans hn0 (hr r e).1,(hr r e).2⟩)⟩
   case assign=>
    rintro lq pre x W K ⟨vL,vR,P,hs⟩ hv hN hK
    gi_wp2
    exact hK _ _ ⟨Nat.le_refl _,fun _ _ _ hk _=>hk⟩ (Below.refl _ _) ⟨hv,hN,rfl,vL,vR,P,hs⟩
   case body=>
    rintro lq pre i a' W ⟨hi,hpl,rfl,vL,vR,P,HG⟩
    have hi9:i<l.length:=by have:=H9.out;have:=HH9.out;omega
    have hi8:i≤8:=by have:=HH9.out;omega
    have hpl9:pre.length<9:=by have:=HH9.out;omega
    obtain⟨ad,hA,_⟩:=strs_at HC.out i hi9
    subst hA
    obtain⟨s,hs⟩ : ∃ s,i<l.length∧strAt l i=s:=⟨_,hi9,rfl⟩
    have hs:=Lib.hid hs
    have HG0:=HG.below (Below.drew (Below.refl _ _))
    have hii:(i:Int)<(l.length:Int):=by omega
    gi_wp2
    refine startIn_ (m:=15) (by kernel_rfl) (by rintro⟨_,_,h1,_⟩;cases h1) (S:=fun w'=>w'.cell? ⟨BL,0,none⟩=some vL∧w'.cell? ⟨Bs,0,none⟩=some (.slice (some ad) l.length c)∧w'.cell? (ad.add i)=some (.string s)∧w'.cell? ⟨BR,0,none⟩=some vR∧w'.cell? ⟨w.heap.size,0,none⟩=some (.pointer (some ⟨g,0,none⟩))) (ds:=[13,14]) #[false,false,false,false,false,false,false,false,false,false,false,false,false,false,false] (by kernel_rfl) rfl rfl ⟨HG0.bl.cell,HG0.bs.cell,(str_now HC.out HG0.bw hs.out),HG0.br.cell,HG0.bt.cell⟩ (fun hHeld=> ?_)
    refine pure_ (i:=2) (N:=some 31) (v:= ?_) (a':= ?_) #[false,false,true,false,false,false,false,false,false,false,false,false,false,false,false] rfl rfl (by kernel_rfl) (fun _ _ _ h=>h) (Or.inl ⟨by rfl,?_⟩) ?_ ?_
    rotate_left
    ·intro w'
     go_simp
     with_reducible rfl
    rotate_left
    ·simp only[Act.put,zA,zB,zC]
     rfl
    refine pure_ (i:=9) (N:=some 38) (v:= ?_) (a':= ?_) #[false,false,true,false,false,false,false,false,false,true,false,false,false,false,false] rfl rfl (by kernel_rfl) (fun _ _ _ h=>h) (Or.inl ⟨by rfl,?_⟩) ?_ ?_
    rotate_left
    ·intro w'
     go_simp
     with_reducible rfl
    rotate_left
    ·simp only[Act.put,zA,zB,zC]
     rfl
    refine take_ (i:=0) (N:=some 29) (v:= ?_) (a':= ?_) #[true,false,true,false,false,false,false,false,false,true,false,false,false,false,false] rfl rfl (by kernel_rfl) (fun _ _ _ h=>h) (Or.inl ⟨by rfl,?_⟩) hHeld ?_ ?_
    rotate_left
    ·rintro w' ⟨s0,s1,s2,s3,s4⟩
     go_simp
     with_reducible rfl
    rotate_left
    ·simp only[Act.put,zA,zB,zC]
     rfl
    refine take_ (i:=1) (N:=some 30) (v:= ?_) (a':= ?_) #[true,true,true,false,false,false,false,false,false,true,false,false,false,false,false] rfl rfl (by kernel_rfl) (fun _ _ _ h=>h) (Or.inl ⟨by rfl,?_⟩) hHeld ?_ ?_
    rotate_left
    ·rintro w' ⟨s0,s1,s2,s3,s4⟩
     go_simp
     with_reducible rfl
    rotate_left
    ·simp only[Act.put,zA,zB,zC]
     rfl
    refine pure_ (i:=3) (N:=some 32) (v:= ?_) (a':= ?_) #[true,true,true,true,false,false,false,false,false,true,false,false,false,false,false] rfl rfl (by kernel_rfl) (fun _ _ _ h=>h) (Or.inl ⟨by rfl,?_⟩) ?_ ?_
    rotate_left
    ·intro w'
     go_simp
     with_reducible rfl
    rotate_left
    ·simp only[Act.put,zA,zB,zC]
     rfl
    refine take_ (i:=4) (N:=some 33) (v:= ?_) (a':= ?_) #[true,true,true,true,true,false,false,false,false,true,false,false,false,false,false] rfl rfl (by kernel_rfl) (fun _ _ _ h=>h) (Or.inl ⟨by rfl,?_⟩) hHeld ?_ ?_
    rotate_left
    ·rintro w' ⟨s0,s1,s2,s3,s4⟩
     go_simp
     with_reducible rfl
    rotate_left
    ·simp only[Act.put,zA,zB,zC]
     rfl
    refine take_ (i:=7) (N:=some 36) (v:= ?_) (a':= ?_) #[true,true,true,true,true,false,false,true,false,true,false,false,false,false,false] rfl rfl (by kernel_rfl) (fun _ _ _ h=>h) (Or.inl ⟨by rfl,?_⟩) hHeld ?_ ?_
    rotate_left
    ·rintro w' ⟨s0,s1,s2,s3,s4⟩
     go_simp
     with_reducible rfl
    rotate_left
    ·simp only[Act.put,zA,zB,zC]
     rfl
    refine take_ (i:=8) (N:=some 37) (v:= ?_) (a':= ?_) #[true,true,true,true,true,false,false,true,true,true,false,false,false,false,false] rfl rfl (by kernel_rfl) (fun _ _ _ h=>h) (Or.inl ⟨by rfl,?_⟩) hHeld ?_ ?_
    rotate_left
    ·rintro w' ⟨s0,s1,s2,s3,s4⟩
     go_simp
     with_reducible rfl
    rotate_left
    ·simp only[Act.put,zA,zB,zC]
     rfl
    refine one_ (i:=5) (N:=some 34) #[true,true,true,true,true,true,false,true,true,true,false,false,false,false,false] rfl rfl (by kernel_rfl) (by decide) (fun K hK=> ?_)
    refine value_ (w1:= ?_) (v:= ?_) (by rfl) rfl ?_ ?_
    rotate_left 2
    ·go_simp
     constructor
     ·rfl
     ·rfl
    have HG1:=HG0.below (below_alloc (Below.refl _ _) (.cells #[.string s] 9))
    refine hK.out _ _ ⟨HG1.bl.cell,HG1.bs.cell,(str_now HC.out HG1.bw hs.out),HG1.br.cell,HG1.bt.cell⟩ (fun hHeld=> ?_)
    clear hK K
    refine norm_ (a':= ?_) ?_ ?_
    rotate_left
    ·show Act.put _ (some 34) _=_
     simp only[Act.put,zA,zB,zC]
     rfl
    refine one_ (i:=6) (N:=some 35) #[true,true,true,true,true,true,true,true,true,true,false,false,false,false,false] rfl rfl (by kernel_rfl) (by decide) (fun K hK=> ?_)
    refine Kd.R_append_step Kd.string (w0:=w) w.heap.size (by rfl) (.tmp 29) (.tmp 34) 27 9 (.string ⟨#[]⟩) 16 rfl Tryz.underlying27 infoStr rfl (by decide) (by decide) vL (pre.map (strAt l)) s [.string s] (fun j=>w.heap.size≤j) (fun _=>False) rfl rfl rfl (fun _ hk=>hk.elim) (fun j hj=>Nat.le_trans HG0.bw.size hj) HG0.oL HG0.bw HG0.bw.size (by rw[List.length_map];omega) ?_
    intro v1 w3 hR hB hg _
    obtain⟨A1,n1,c1,rfl⟩ : ∃ A1 n1 c1,v1 = .slice A1 n1 c1:=by obtain⟨A1,c1,e⟩:=Kd.R_slice hR;exact⟨A1,_,c1,e⟩
    have HG2:=HG0.left hR hg
    refine hK.out _ _ ⟨HG2.bl.cell,HG2.bs.cell,(str_now HC.out HG2.bw hs.out),HG2.br.cell,HG2.bt.cell⟩ (fun hHeld=> ?_)
    clear hK K
    refine norm_ (a':= ?_) ?_ ?_
    rotate_left
    ·show Act.put _ (some 35) _=_
     simp only[Act.put,zA,zB,zC]
     rfl
    refine one_ (i:=10) (N:=some 39) #[true,true,true,true,true,true,true,true,true,true,true,false,false,false,false] rfl rfl (by kernel_rfl) (by decide) (fun K hK=> ?_)
    refine goes_ Tryz.func43 (by kernel_rfl) rfl #[.pointer (some ⟨g,0,none⟩),.int .i64 (i:Int)] (by rfl) rfl rfl (by simp only[List.map_toArray,List.map_cons,List.map_nil];rfl) ?_
    with_reducible refine(row_told g i hi8 _ (HI.out.below HG2.bw)).mono ?_
    rintro e w4 ⟨b,rfl,hF,hbg,hb⟩
    refine⟨_,rfl,?_⟩
    have HG4:=HG2.below hb
    refine hK.out _ _ ⟨HG4.bl.cell,HG4.bs.cell,(str_now HC.out HG4.bw hs.out),HG4.br.cell,HG4.bt.cell⟩ (fun hHeld=> ?_)
    clear hK K
    refine norm_ (a':= ?_) ?_ ?_
    rotate_left
    ·show Act.put _ (some 39) _=_
     simp only[Act.put,zA,zB,zC]
     rfl
    refine one_ (i:=11) (N:=some 40) #[true,true,true,true,true,true,true,true,true,true,true,true,false,false,false] rfl rfl (by kernel_rfl) (by decide) (fun K hK=> ?_)
    refine value_ (w1:= ?_) (v:= ?_) (by rfl) rfl ?_ ?_
    rotate_left 2
    ·go_simp
     constructor
     ·rfl
     ·rfl
    have HG5:=HG4.below (below_alloc (Below.refl _ _) (.cells #[.slice (some ⟨b,0,none⟩) 6 6] 80))
    refine hK.out _ _ ⟨HG5.bl.cell,HG5.bs.cell,(str_now HC.out HG5.bw hs.out),HG5.br.cell,HG5.bt.cell⟩ (fun hHeld=> ?_)
    clear hK K
    refine norm_ (a':= ?_) ?_ ?_
    rotate_left
    ·show Act.put _ (some 40) _=_
     simp only[Act.put,zA,zB,zC]
     rfl
    refine one_ (i:=12) (N:=some 41) #[true,true,true,true,true,true,true,true,true,true,true,true,true,false,false] rfl rfl (by kernel_rfl) (by decide) (fun K hK=> ?_)
    refine Kd.R_append_step kPtr (w0:=w) w.heap.size (by rfl) (.tmp 36) (.tmp 40) 122 80 (.slice none 0 0) 24 rfl Tryz.underlying122 infoPtr rfl (by decide) (by decide) vR P b [.slice (some ⟨b,0,none⟩) 6 6] (fun j=>w.heap.size≤j) (fun _=>False) rfl rfl rfl (fun _ hk=>hk.elim) (fun j hj=>Nat.le_trans HG4.bw.size hj) HG4.oR HG4.bw HG4.bw.size (by rw[HG0.lP];omega) ?_
    intro v2 w5 hR2 hB2 hg2 _
    obtain⟨A2,n2,c2,rfl⟩ : ∃ A2 n2 c2,v2 = .slice A2 n2 c2:=by obtain⟨A2,c2,e⟩:=Kd.R_slice hR2;exact⟨A2,_,c2,e⟩
    have HG6:=HG4.row hR2 hg2 hF (fun x hx=>Nat.lt_of_lt_of_le (HG2.sP x hx).2 hbg) (Nat.le_trans HG2.bw.size hbg)
    have c13:=HG6.bl.cell
    have f13:=HG6.bl.frozen
    have c14:=(HG6.br1 (.slice A1 n1 c1)).cell
    have f14:=(HG6.br1 (.slice A1 n1 c1)).frozen
    refine hK.out _ _ ⟨HG6.bl.cell,HG6.bs.cell,(str_now HC.out HG6.bw hs.out),HG6.br.cell,HG6.bt.cell⟩ (fun hHeld=> ?_)
    clear hK K
    refine norm_ (a':= ?_) ?_ ?_
    rotate_left
    ·show Act.put _ (some 41) _=_
     simp only[Act.put,zA,zB,zC]
     rfl
    refine last_ (i:=13) (N:=none) #[true,true,true,true,true,true,true,true,true,true,true,true,true,true,false] rfl rfl (by kernel_rfl) (by decide) (fun K hK=> ?_)
    refine skip_ (w1:= ?_) (by rfl) rfl ?_ ?_
    rotate_left
    ·go_simp
     rfl
    refine hK.out _ _ ?_
    clear hK K
    refine last_ (i:=14) (N:=none) #[true,true,true,true,true,true,true,true,true,true,true,true,true,true,true] rfl rfl (by kernel_rfl) (by decide) (fun K hK=> ?_)
    refine skip_ (w1:= ?_) (by rfl) rfl ?_ ?_
    rotate_left
    ·go_simp
     rfl
    refine hK.out _ _ ?_
    clear hK K
    refine done_ (by kernel_rfl) ?_
    have hL2:=fun k e=>Kd.R_typed HG0.oL k e
    have hR3:=fun k e=>Kd.R_typed HG4.oR k e
    have hfin:=HG6.put (.slice A1 n1 c1) (.slice A2 n2 c2)
    have b1:KeepsFrom W0.heap.size W W.drew:=keeps_below (Below.drew (Below.refl _ _))
    have b2:KeepsFrom W0.heap.size W.drew w3:=keeps_typed hg _ hL2
    have b3:KeepsFrom W0.heap.size w3 w4:=keeps_below hb
    have b4:KeepsFrom W0.heap.size w4 w5:=keeps_typed hg2 _ hR3
    have b5:=(KeepsOthers.setCell w5 ⟨BL,0,none⟩ (.slice A1 n1 c1)).from W0.heap.size
    have b6:=(KeepsOthers.setCell (w5.setCell ⟨BL,0,none⟩ (.slice A1 n1 c1)) ⟨BR,0,none⟩ (.slice A2 n2 c2)).from W0.heap.size
    have bk:=((((b1.trans b2).trans b3).trans b4).trans b5).trans b6
    refine⟨rfl,bk,below_between HG.bw hfin.bw bk.size,.slice A1 n1 c1,.slice A2 n2 c2,P++[b],?_⟩
    rw[List.map_append,List.map_singleton,hs.out.2]
    exact hfin
   case done=>
    rintro D0 ys W hDD hS ⟨vL,vR,P,HG⟩ hK
    subst hS
    obtain⟨A1,c1,rfl⟩:=Kd.R_slice HG.oL
    have hlen:(List.map (strAt l) (idx h)).length=(idx h).length:=List.length_map _
    have hRL:=Kd.R_reads' HG.oL
    have HLC:Aside0 (Kd.C Kd.string W A1 (leftL l h).length (leftL l h)):=⟨hRL.2.2⟩
    have HLL:Hid ((leftL l h).length≤c1):=Lib.hid hRL.2.1
    have HE:=Aside0.mk (even_calls A1 c1 (leftL l h) W HLC.out HLL.out)
    have hbl:W.cell? ⟨BL,0,none⟩=some (.slice A1 (leftL l h).length c1):=HG.bl.cell
    have HG:=Aside0.mk HG
    have HKD:=Lib.hid hK
    clear hRL hK hlen
    cases he:evenB (leftL l h)with
    | false=>
     rw[he]at HE
     have HR:=Lib.hid (show fillR l h=([],1)by unfold fillR;rw[if_pos ⟨H9.out,HH9.out⟩,if_neg (by rw[he];simp)])
     have hF2:Fence.wide.fn 41:=trivial
     gi_wp2_with (gi_at_call 41;refine(callsIn_wide.2 HE.out).mono ?_;rintro e W2 ⟨rfl,hb⟩)
     refine⟨by simp,.inl ⟨_,_,rfl,run_takeDeferred ((hb.block _ (Array.getElem?_eq_some_iff.1 HKD.out).1).trans HKD.out),?_⟩⟩
     refine⟨_,results_tmp2 rfl _ _ _,none,0,by rw[HR.out];rfl,by rw[HR.out];exact Kd.R_nil _ _ _ _ _,?_⟩
     exact(below2 HG.out.bw HG.out.bw.size hb).trans (belowK_b (w:=w) (Nat.le_refl _) W2 D0 _ _ (Nat.le_trans hn0 hDD) ((hb.block _ (Array.getElem?_eq_some_iff.1 HKD.out).1).trans HKD.out) rfl rfl)
    | true=>
     rw[he]at HE
     have hF2:Fence.wide.fn 41:=trivial
     have hlen:(leftL l h).length=(idx h).length:=List.length_map _
     by_cases h6:(idx h).length<6
     ·have HR:=Lib.hid (show fillR l h=([],2)by unfold fillR;rw[if_pos ⟨H9.out,HH9.out⟩,if_pos he,if_pos h6])
      have h6i:((leftL l h).length:Int)<6:=by omega
      replace h6:=Lib.hid h6
      replace hlen:=Lib.hid hlen
      replace he:=Lib.hid he
      gi_wp2_with (gi_at_call 41;refine(callsIn_wide.2 HE.out).mono ?_;rintro e W2 ⟨rfl,hb⟩;have hbl2:W2.cell? ⟨BL,0,none⟩=some (.slice A1 (leftL l h).length c1):=(hb.cell (p:=⟨BL,0,none⟩) HG.out.bl.lt).trans hbl)
      refine⟨by simp,.inl ⟨_,_,rfl,run_takeDeferred ((hb.block _ (Array.getElem?_eq_some_iff.1 HKD.out).1).trans HKD.out),?_⟩⟩
      refine⟨_,results_tmp2 rfl _ _ _,none,0,by rw[HR.out];rfl,by rw[HR.out];exact Kd.R_nil _ _ _ _ _,?_⟩
      exact(below2 HG.out.bw HG.out.bw.size hb).trans (belowK_b (w:=w) (Nat.le_refl _) W2 D0 _ _ (Nat.le_trans hn0 hDD) ((hb.block _ (Array.getElem?_eq_some_iff.1 HKD.out).1).trans HKD.out) rfl rfl)
     ·have HR:=Lib.hid (show fillR l h=encR (dataL l h)by unfold fillR;rw[if_pos ⟨H9.out,HH9.out⟩,if_pos he,if_neg h6])
      have h6i:(6:Int)≤((leftL l h).length:Int):=by omega
      have hn6:6≤(leftL l h).length:=by omega
      have hcut:decide (((leftL l h).length:Int)<6)=false:=by simp;omega
      have hc16:6≤c1:=Nat.le_trans hn6 HLL.out
      obtain⟨A2,c2,hv2⟩:=Kd.R_slice HG.out.oR
      subst hv2
      have hP6:6≤P.length:=by rw[HG.out.lP];omega
      have hc26:6≤c2:=Nat.le_trans hP6 (Kd.R_reads' HG.out.oR).2.1
      have hbr:W.cell? ⟨BR,0,none⟩=some (.slice A2 P.length c2):=HG.out.br.cell
      replace h6:=Lib.hid h6
      replace hlen:=Lib.hid hlen
      replace he:=Lib.hid he
      gi_wp2_with (gi_at_call 41;refine(callsIn_wide.2 HE.out).mono ?_;rintro e W2 ⟨rfl,hb⟩;have HG2:=Aside0.mk (HG.out.below hb);have hbl2:W2.cell? ⟨BL,0,none⟩=some (.slice A1 (leftL l h).length c1):=HG2.out.bl.cell;have hbr2:W2.cell? ⟨BR,0,none⟩=some (.slice A2 P.length c2):=HG2.out.br.cell;have HKD2:=Lib.hid ((hb.block _ (Array.getElem?_eq_some_iff.1 HKD.out).1).trans HKD.out);clear hbl hbr hb)
      refine wpIn_mono (Q:=fun e a' w'=>e = .normal∧a'={ tmps:= #[.pointer (some ⟨g,0,none⟩),.slice A l.length c,.slice D h.length d,.pointer (some ⟨w.heap.size,0,none⟩),.pointer (some ⟨Bs,0,none⟩),undef,.slice none 0 0,.int .i64 0,.pointer (some ⟨BL,0,none⟩),.pointer (some ⟨BR,0,none⟩),undef,undef,undef,undef,.pointer (some ⟨g,0,none⟩),.bool false,.bool false,.slice A l.length c,.int .i64 l.length,.bool false,.bool false,.bool false,.slice D h.length d,.int .i64 h.length,.bool false,.bool false,.slice D h.length d,.func (.func 94) #[] #[.pointer (some ⟨BH,0,none⟩)],undef,undef,undef,undef,undef,undef,undef,undef,undef,undef,undef,undef,undef,undef,.bool false,.slice A1 (leftL l h).length c1,.bool true,.bool false,.bool false,.slice A1 (leftL l h).length c1,.int .i64 ((leftL l h).length:Nat),.bool false,.slice A1 (leftL l h).length c1,.slice A1 6 c1,.slice A2 P.length c2,.slice A2 6 c2,undef,undef,undef,undef,undef,undef,undef,undef,undef,undef,undef,undef,undef,undef,undef,undef,undef,undef,undef,undef,undef],defers:=[{ target:=.collected D0,args:= #[] }] }∧Fi g w.heap.size Bs BL BR (.slice A l.length c) w (.slice A1 6 c1) (.slice A2 6 c2) (.slice A1 (leftL l h).length c1) (.slice A2 P.length c2) (leftL l h) (idx h) P w'∧W2.heap.size≤w'.heap.size∧(∀ (D:Nat) (o:Obj),W2.heap[D]? = some o→o.isCells=false→w'.heap[D]? = some o)) ?reg ?cont
      case reg=>
       refine wpIn_wide.2 ?_
       have f1:=HG2.out.bl.frozen
       have f2:=HG2.out.br.frozen
       have hnel:=HG2.out.bl
       have hne:BL≠BR:=by
        intro e
        have e2:=HG2.out.br
        rw[←e]at e2
        have e3:W2.heap[BL]? = _:=HG2.out.bl
        rw[show W2.heap[BL]? = _ from e2]at e3
        injection e3 with e3
        injection e3 with _ e3
        exact absurd e3 (by decide)
       have hne2:=Ne.symm hne
       go_region
       all_goals
        refine⟨rfl,rfl,(HG2.out.put (.slice A1 6 c1) (.slice A2 6 c2)).below (Below.drew (Below.refl _ _)),by simp,fun D o ho hn=> ?_⟩
        exact(((KeepsOthers.setCell W2 ⟨BL,0,none⟩ (.slice A1 6 c1)).from 0).trans ((KeepsOthers.setCell (W2.setCell ⟨BL,0,none⟩ (.slice A1 6 c1)) ⟨BR,0,none⟩ (.slice A2 6 c2)).from 0)).same D o (Nat.zero_le _) ho hn
      case cont=>
       rintro e a' W3 ⟨rfl,rfl,HG3,hs3,hd3⟩
       obtain⟨gR,cR,hvR,hgR,hPt,hPc⟩:=HG3.ptr (by omega)
       injection hvR with e1 e2 e3
       subst e1 e3
       have hP6l:(P.take 6).length=6:=by rw[List.length_take];omega
       have hil:((idx h).take 6).length=6:=by rw[List.length_take];have:=HG3.lP;omega
       have HSV:=solve_calls g gR c2 (P.take 6) (((idx h).take 6).map frow) W3 (HI.out.below HG3.bw) (hPt.take 6) hP6l (HG3.nd.sublist (List.take_sublist 6 P)) (Wf.frows _ hil) (fun i hi=>by
        rw[rowAt_map _ _ (by rw[hil];exact hi),getD_take _ _ _ hi,getD_take _ _ _ hi]
        exact HG3.rw i (by omega)) ⟨by have:=HI.out.2.2;omega,fun hm=>by have:=(HG3.sP g (List.mem_of_mem_take hm)).1;have:=HI.out.2.2;omega⟩ hc26
       have HSV:=Aside0.mk HSV
       have HKD3:=hd3 D0 _ HKD2.out rfl
       have ct3:=HG3.bt.cell
       have cr3:=HG3.br.cell
       have HSD:=Aside0.mk (fun W4 (hF:Fr gR (P.take 6) W3 W4)=>HG3.solved hPt hF hgR)
       have hs3':=Lib.hid hs3
       have HKD3:=Lib.hid HKD3
       have HG3:=Aside0.mk HG3
       clear hPt hd3 hs3 hP6l hil HG2 hbl2 hbr2 HKD2
       refine ‹∀ (a:Act) (w:World),Code.wpIn Fence.wide 5 Tryz.prog _ _ a w→_› _ _ (wpIn_wide.2 ?_)
       go_wp2_with (go_at_call 75;refine HSV.out.mono ?_;rintro e W4 ⟨gK,Q,rfl,hQp,hQ6,hQr,hWf,hgK,hI4,hFr⟩)
       obtain⟨hbt4,hbl4,hoL4,hbw4,hdf4⟩:=HSD.out W4 hFr
       have HT4:=Aside0.mk hbt4
       have HB4:=Aside0.mk hbl4
       have HL4:=Aside0.mk (Kd.R_reads' hoL4).2.2
       have HW4:=Aside0.mk hbw4
       have HK4:=Lib.hid (hdf4 D0 _ HKD3.out rfl)
       have HQp:=Aside0.mk hQp
       have HQ6:=Lib.hid hQ6
       have HQr:=Aside0.mk hQr
       have HWf:=Aside0.mk hWf
       have HI4:=Aside0.mk hI4
       have he6:Hid (evenB ((leftL l h).take 6)=true):=Lib.hid (evenB_take he.out 6 (by omega))
       have hl6:Hid (((leftL l h).take 6).length=6):=Lib.hid (by rw[List.length_take];omega)
       have hw6:Hid (wid ((leftL l h).take 6)≤140737488355328):=Lib.hid (by
        rw[take_wid _ _ (by omega)]
        unfold wid leftL
        rw[strAt_map _ _ _ (by have:=hlen.out;omega)]
        have hm:(idx h).getD 0 0<l.length:=by
         have h1:(idx h).getD 0 0∈idx h:=mem_get (by have:=hlen.out;omega)
         have h2:=(List.mem_filter.1 h1).1
         rw[List.mem_range]at h2
         have:=H9.out
         have:=HH9.out
         omega
        rw[strAt_eq hm]
        exact HZ.out _ (List.getElem_mem hm))
       have HL6:=Aside0.mk (strs_take HL4.out 6 hn6)
       clear hFr hbt4 hbl4 hoL4 hbw4 hdf4 hQp hQ6 hQr hWf hI4 hgK HL4 HSD ct3 cr3 HKD3
       obtain⟨R6,hR6⟩ : ∃ R,solveN (((idx h).take 6).map frow)=R:=⟨_,rfl⟩
       obtain⟨l6,hl6e⟩ : ∃ x,(leftL l h).take 6=x:=⟨_,rfl⟩
       rw[hR6]at HQr HWf
       rw[hl6e]at he6 hl6 hw6 HL6
       have hDL:Hid (dataL l h=dataK R6 l6 6):=Lib.hid (by unfold dataL;rw[hR6,hl6e])
       clear hR6 hl6e
       have G1:Aside0 (RS W4.heap.size (.slice none 0 0) (dataK R6 l6 0) W4):=⟨Kd.R_nil _ _ _ _ _⟩
       have G2:Aside0 (Below W4.heap.size W4 W4):=⟨Below.refl _ _⟩
       go_loopw [11,58] (fun v i wr=> ∃ k:Nat,k≤6∧i = .int .i64 k∧Aside0 (RS W4.heap.size v (dataK R6 l6 k) wr)∧Aside0 (Below W4.heap.size W4 wr)) (fun _ i _=>6-(intOf i).toNat)
       case atStart=>exact⟨0,by omega,rfl,G1,G2⟩
       case round=>
        clear G1 G2
        obtain⟨k,hk,rfl,G1,G2⟩:=hrel
        by_cases hlt:k<6
        ·have HK:=Lib.hid hlt
         obtain⟨qk,hqk⟩ : ∃ q,Q.getD k 0=q:=⟨_,rfl⟩
         have cq:=(HQp.out.at' (G2.out.block _ HQp.out.lt)).cell k (by rw[HQ6.out];exact hlt)
         rw[hqk]at cq
         have cq:wr.cell? ⟨gK,k,none⟩=some (.slice (some ⟨qk,0,none⟩) 6 6):=cq
         have ct:=(HT4.out.kept (grown_below G2.out none) (by simp)).cell
         have cl:=(HB4.out.kept (grown_below G2.out none) (by simp)).cell
         have hrow:=HQr.out k hlt
         rw[hqk]at hrow
         have MX:=mix_calls g qk 6 (rowAt R6 k) A1 c1 l6 (wid l6) wr (HI4.out.below G2.out) (hrow.keep G2.out) (HWf.out.row hlt).2 (by rw[hl6.out,(HWf.out.row hlt).1];exact Nat.le_refl _) (by rw[(HWf.out.row hlt).1];exact Nat.le_refl _) (Kd.C_below HL6.out G2.out) (by rw[hl6.out];exact hc16) (by rw[hl6.out];decide) (fun s hs=>evenB_size he6.out hs) hw6.out
         rw[(HWf.out.row hlt).1,hl6.out]at MX
         have MX:=Aside0.mk (show Calls Tryz.prog 42 #[.pointer (some ⟨g,0,none⟩),.slice (some ⟨qk,0,none⟩) 6 6,.slice A1 6 c1] wr fun e w'=>e = .returned (.string (mixS (rowAt R6 k) l6))∧Below wr.heap.size wr w' from MX)
         clear hqk hrow
         go_wp2_with (first|(go_at_call 42;refine MX.out.mono ?_;rintro e w2 ⟨rfl,hb⟩;have G1:=Aside0.mk (G1.out.keep hb);have G2:=Aside0.mk (below2 G2.out G2.out.size hb);clear hb cq ct cl)|(at_builtin;refine Kd.R_append Kd.string (w0:=W4) W4.heap.size rfl (.tmp 62) (.tmp 67) 27 9 (.string ⟨#[]⟩) 16 rfl Tryz.underlying27 infoStr rfl (by decide) (by decide) u11 (dataK R6 l6 k) (mixS (rowAt R6 k) l6) [.string (mixS (rowAt R6 k) l6)] (fun j=>W4.heap.size≤j) (fun _=>False) rfl rfl rfl (fun _ hk=>hk.elim) (fun j hj=>Nat.le_trans G2.out.size hj) G1.out G2.out G2.out.size (by rw[dataK_len];have:=HK.out;omega) ?_;intro v1 w3 hR hB hg _;rw[dataK_succ]at hR;have G1:=Aside0.mk hR;have G2:=Aside0.mk hB;clear hR hB hg))
         go_roundw
         case rel=>exact⟨k+1,HK.out,by go_num,G1,G2⟩
         case measure=>have:=HK.out;simp[intOf];omega
        ·obtain rfl:k=6:=by omega
         obtain⟨A5,c5,hv5⟩:=Kd.R_slice G1.out
         subst hv5
         have hr5:=Kd.R_reads' G1.out
         have EN:=encode_calls g A5 c5 (dataK R6 l6 6) wr (HI4.out.below G2.out) hr5.2.2 hr5.2.1 (fun s hs=>by
          obtain⟨i,hi,rfl⟩:=List.mem_map.1 hs
          unfold mixS
          rw[B_size,mixL_len]
          exact hw6.out)
         have EN:=Aside0.mk EN
         have ct:=(HT4.out.kept (grown_below G2.out none) (by simp)).cell
         clear hr5
         go_wp2_with (go_at_call 27;refine EN.out.mono ?_;rintro e W5 ⟨A6,c6,rfl,hO,hB⟩)
         have hK5:=(hB.block _ (Nat.lt_of_lt_of_le (Array.getElem?_eq_some_iff.1 HK4.out).1 G2.out.size)).trans ((G2.out.block _ (Array.getElem?_eq_some_iff.1 HK4.out).1).trans HK4.out)
         have hbW:=below2 HW4.out HW4.out.size (below2 G2.out G2.out.size hB)
         refine⟨by simp,.inl ⟨_,_,rfl,run_takeDeferred hK5,?_⟩⟩
         refine⟨_,results_tmp2 rfl _ _ _,A6,c6,by rw[HR.out,hDL.out];rfl,?_,hbW.trans (belowK_b (w:=w) (Nat.le_refl _) W5 D0 _ _ (Nat.le_trans hn0 hDD) hK5 rfl rfl)⟩
         rw[HR.out,hDL.out]
         refine R_calm2 (Kd.R_mono (Kd.R_lower hO (Nat.le_trans HW4.out.size G2.out.size)) (fun k hk=>Nat.le_trans (Nat.le_trans HW4.out.size G2.out.size) hk)) (grownBy_putObj' W5 D0 (.deferred none)) (fun r e'=>by cases e';exact⟨_,hK5,rfl⟩)
  ·have hh9n:((h.length:Int) != 9)=true:=by rw[bne_iff_ne];omega
   have HR:=Lib.hid (show fillR l h=([],1)by unfold fillR;rw[if_neg (fun e=>hh9 e.2)])
   have hh9:=Lib.hid hh9
   have h9:=Lib.hid h9
   gi_wp2_with fail
   refine⟨_,results_tmp2 rfl _ _ _,none,0,by rw[HR.out];rfl,by rw[HR.out];exact Kd.R_nil _ _ _ _ _,below_alloc (below_alloc (Below.refl _ w) _) _⟩
 ·have h9n:((l.length:Int) != 9)=true:=by rw[bne_iff_ne];omega
  have HR:=Lib.hid (show fillR l h=([],1)by unfold fillR;rw[if_neg (fun e=>h9 e.1)])
  have h9:=Lib.hid h9
  gi_wp2_with fail
  refine⟨_,results_tmp2 rfl _ _ _,none,0,by rw[HR.out];rfl,by rw[HR.out];exact Kd.R_nil _ _ _ _ _,below_alloc (below_alloc (Below.refl _ w) _) _⟩
end Go.Proofs.YtdcfonmjbelgbaaGreatDoor
end
section
namespace Go.Proofs.YtdcfonmjbelgbaaGreatDoor
open Go.RowKit Q YtdcfonmjbelgbaaGreatDoorW.PrintWords YtdcfonmjbelgbaaGreatDoorW.PrintLast YtdcfonmjbelgbaaGreatDoorW.PrintMore
theorem str_ext {a b:ByteArray} (hs:a.size=b.size) (h : ∀ p,p<a.size→byt a p=byt b p):a=b:=by
 apply eq_of_data
 apply List.ext_getElem
 ·simpa using hs
 ·intro i h1 h2
  have h1':i<a.size:=by simpa using h1
  have h3:=h i h1'
  have h2':i<b.size:=by omega
  rw[byt_eq a i h1',byt_eq b i h2']at h3
  exact UInt8.toNat_inj.1 h3
theorem mixS_size (fs:List Nat) (l:List ByteArray):(mixS fs l).size=wid l:=by unfold mixS;rw[B_size,mixL_len]
theorem byt_mix (fs:List Nat) (l:List ByteArray) (p:Nat) (hp:p<wid l):byt (mixS fs l) p=accAt fs l l.length p:=by
 have h1:=accAt_le fs l l.length p
 unfold byt mixS
 rw[B_data,mixL,List.getD_eq_getElem?_getD,List.getElem?_map,List.getElem?_range hp]
 simp
 omega
theorem tried_all (h:List Bool) (hl:h.length=9):tried h=true:=by
 match h,hl with
 | [a,b,c,d,e,f,g,i,j],_=>exact all_tried a b c d e f g i j
theorem six_idx (h:List Bool) (hl:h.length=9):sixc h=(idx h).take 6:=by unfold sixc idx;rw[hl]
theorem turned (h:List Bool) (hl:h.length=9) (h6:6≤(idx h).length):turns (((idx h).take 6).map frow) (solveN (((idx h).take 6).map frow))=true:=by
 have ht:=tried_all h hl
 unfold tried at ht
 have e:(sixc h).length=6:=by rw[six_idx h hl,List.length_take];omega
 rw[frcM_eq,solveF_eq,e,six_idx h hl]at ht
 simpa using ht
theorem turns_at {R M:List (List Nat)} (h:turns R M=true) (k j:Nat) (hk:k<6) (hj:j<6):xsum 6 (fun l=>tim (elem R k l) (elem M l j))=(if k=j then 1 else 0)∧xsum 6 (fun l=>tim (elem M k l) (elem R l j))=(if k=j then 1 else 0):=by
 unfold turns at h
 simp only[Bool.and_eq_true,List.all_eq_true,decide_eq_true_eq]at h
 have:=h.2 k (by rw[List.mem_range];exact hk) j (by rw[List.mem_range];exact hj)
 simp only[timF_eq]at this
 exact this
theorem turns_wf {R M:List (List Nat)} (h:turns R M=true):Wf M:=by
 unfold turns at h
 simp only[Bool.and_eq_true,List.all_eq_true,decide_eq_true_eq]at h
 refine⟨h.1.1,fun i hi=> ?_⟩
 have hm:rowAt M i∈M:=by
  unfold rowAt
  rw[List.getD_eq_getElem?_getD,List.getElem?_eq_getElem (by rw[h.1.1];exact hi)]
  exact List.getElem_mem _
 exact h.1.2 _ hm
theorem elem_frow (IX:List Nat) (k l:Nat) (hk:k<IX.length) (hl:l<6):elem (IX.map frow) k l=fac (IX.getD k 0) l:=by
 unfold elem
 rw[rowAt_map _ _ hk,frow_get _ _ hl]
theorem strAt_dataK (R:List (List Nat)) (l:List ByteArray) (k i:Nat) (hi:i<k):strAt (dataK R l k) i=mixS (rowAt R i) l:=by
 unfold strAt dataK
 rw[List.getD_eq_getElem?_getD,List.getElem?_map,List.getElem?_range hi]
 rfl
theorem wid_dataK (R:List (List Nat)) (l:List ByteArray) (k:Nat) (hk:0<k):wid (dataK R l k)=wid l:=by
 unfold wid
 rw[strAt_dataK _ _ _ _ hk,mixS_size]
 rfl
theorem evenB_dataK (R:List (List Nat)) (l:List ByteArray) (k:Nat):evenB (dataK R l k)=true:=by
 unfold evenB
 rw[List.all_eq_true]
 intro s hs
 have hk:0<k:=by
  cases k with
  | zero=>cases hs
  | succ k=>omega
 rw[wid_dataK _ _ _ hk]
 obtain⟨i,_,rfl⟩:=List.mem_map.1 hs
 rw[mixS_size]
 simp
theorem strAt_wid {l:List ByteArray} (he:evenB l=true) {k:Nat} (hk:k<l.length):(strAt l k).size=wid l:=evenB_size he (by rw[strAt_eq hk];exact List.getElem_mem hk)
theorem accAt_fac (i:Nat) (l:List ByteArray) (p:Nat):accAt (frow i) l 6 p=xsum 6 fun j=>tim (fac i j) (byt (strAt l j) p):=by
 unfold accAt
 exact xsum_congr _ _ _ fun j hj=>by rw[frow_get i j hj]
theorem accAt_elem (M:List (List Nat)) (i:Nat) (l:List ByteArray) (p:Nat):accAt (rowAt M i) l 6 p=xsum 6 fun j=>tim (elem M i j) (byt (strAt l j) p):=rfl
theorem code_has (h:List Bool) (hl:h.length=9) (h6:6≤(idx h).length) (l6:List ByteArray) (hl6:l6.length=6) (he:evenB l6=true) (k:Nat) (hk:k<6) :
  mixS (frow (((idx h).take 6).getD k 0)) (dataK (solveN (((idx h).take 6).map frow)) l6 6)=strAt l6 k:=by
 have ht:=turned h hl h6
 have hil:((idx h).take 6).length=6:=by rw[List.length_take];omega
 generalize (idx h).take 6=IX at *
 generalize hM:solveN (IX.map frow)=M at *
 have hw:=turns_wf ht
 have hwd:=wid_dataK M l6 6 (by omega)
 refine str_ext (by rw[mixS_size,hwd,strAt_wid he (by omega)]) fun p hp=> ?_
 rw[mixS_size]at hp
 have hp6:p<wid l6:=by rw[←hwd];exact hp
 rw[byt_mix _ _ _ hp,dataK_len,accAt_fac]
 have e1:(fun j=>tim (fac (IX.getD k 0) j) (byt (strAt (dataK M l6 6) j) p))=fun j=>tim (fac (IX.getD k 0) j) (byt (strAt (dataK M l6 6) j) p):=rfl
 rw[xsum_congr 6 _ (fun j=>tim (elem (IX.map frow) k j) (xsum 6 fun m=>tim (elem M j m) (byt (strAt l6 m) p))) (fun j hj=>by
  rw[elem_frow IX k j (by omega) hj,strAt_dataK _ _ _ _ hj,byt_mix _ _ _ hp6,hl6,accAt_elem])]
 rw[dot_assoc 6 6 _ _ _ (fun j hj=>by rw[elem_frow IX k j (by omega) hj];exact fac_le _ _) (fun j m hj hm=>elem_le hw hj hm) (fun m _=>byt_le _ _)]
 rw[xsum_congr 6 _ (fun m=>tim (if k=m then 1 else 0) (byt (strAt l6 m) p)) (fun m hm=>by rw[(turns_at ht k m hk hm).1])]
 rw[xsum_unit 6 k _ (fun j _=>byt_le _ _),if_pos hk]
theorem data_back (h:List Bool) (hl:h.length=9) (h6:6≤(idx h).length) (d l6:List ByteArray) (hd:d.length=6) (he:evenB d=true) (hl6:l6.length=6) (hs : ∀ k,k<6→strAt l6 k=mixS (frow (((idx h).take 6).getD k 0)) d) :
  dataK (solveN (((idx h).take 6).map frow)) l6 6=d:=by
 have ht:=turned h hl h6
 have hil:((idx h).take 6).length=6:=by rw[List.length_take];omega
 generalize (idx h).take 6=IX at *
 generalize hM:solveN (IX.map frow)=M at *
 have hw:=turns_wf ht
 have hwl:wid l6=wid d:=by
  show (strAt l6 0).size=_
  rw[hs 0 (by omega),mixS_size]
 apply List.ext_getElem
 ·rw[dataK_len,hd]
 ·intro k h0 h2
  have h1:=h0
  rw[dataK_len]at h1
  have e0:(dataK M l6 6)[k]=mixS (rowAt M k) l6:=by simp[dataK]
  refine e0.trans (Eq.trans ?_ (strAt_eq h2))
  refine str_ext (by rw[mixS_size,hwl,strAt_wid he h2]) fun p hp=> ?_
  rw[mixS_size]at hp
  have hp6:p<wid d:=by rw[←hwl];exact hp
  rw[byt_mix _ _ _ hp,hl6,accAt_elem]
  have e1 : ∀ j,j<6→byt (strAt l6 j) p=xsum 6 fun m=>tim (elem (IX.map frow) j m) (byt (strAt d m) p):=fun j hj=>by
   rw[hs j hj,byt_mix _ _ _ hp6,hd,accAt_fac]
   exact xsum_congr _ _ _ fun m hm=>by rw[elem_frow IX j m (by omega) hm]
  rw[xsum_congr 6 _ (fun j=>tim (elem M k j) (xsum 6 fun m=>tim (elem (IX.map frow) j m) (byt (strAt d m) p))) (fun j hj=>congrArg (tim (elem M k j)) (e1 j hj))]
  rw[dot_assoc 6 6 _ _ _ (fun j hj=>elem_le hw h1 hj) (fun j m hj hm=>by rw[elem_frow IX j m (by omega) hm];exact fac_le _ _) (fun m _=>byt_le _ _)]
  rw[xsum_congr 6 _ (fun m=>tim (if k=m then 1 else 0) (byt (strAt d m) p)) (fun m hm=>by rw[(turns_at ht k m h1 hm).2])]
  rw[xsum_unit 6 k _ (fun j _=>byt_le _ _),if_pos h1]
theorem strAt_enc (d:List ByteArray) (i:Nat) (hi:i<9):strAt (encL d) i=mixS (frow i) d:=by
 unfold strAt encL
 rw[List.getD_eq_getElem?_getD,List.getElem?_map,List.getElem?_range hi]
 rfl
theorem enc_data (d:List ByteArray) (hd:d.length=6) (he:evenB d=true) (i:Nat) (hi:i<6):mixS (frow i) d=strAt d i:=by
 refine str_ext (by rw[mixS_size,strAt_wid he (by omega)]) fun p hp=> ?_
 rw[mixS_size]at hp
 rw[byt_mix _ _ _ hp,hd,accAt_fac]
 rw[xsum_congr 6 _ (fun j=>tim (if i=j then 1 else 0) (byt (strAt d j) p)) (fun j hj=>by
  have:fac i j=if i=j then 1 else 0:=by unfold fac;rw[if_neg (by omega)]
  rw[this])]
 rw[xsum_unit 6 i _ (fun j _=>byt_le _ _),if_pos hi]
theorem enc_take (d:List ByteArray) (hd:d.length=6) (he:evenB d=true):(encL d).take 6=d:=by
 apply List.ext_getElem
 ·rw[List.length_take,encL_len,hd];rfl
 ·intro i h1 h2
  have hi:i<6:=by omega
  rw[←strAt_eq h2,←enc_data d hd he i hi,←strAt_enc d i (by omega),List.getElem_take,strAt_eq (by rw[encL_len];omega)]
theorem fillR_ok {l:List ByteArray} {h:List Bool} (hl:l.length=9) (hh:h.length=9) (he:evenB (leftL l h)=true) (h6:6≤(idx h).length):fillR l h=(encL (dataL l h),0):=by
 unfold fillR
 rw[if_pos ⟨hl,hh⟩,if_pos he,if_neg (by omega)]
 unfold encR
 rw[if_pos ⟨dataK_len _ _ _,evenB_dataK _ _ _⟩]
theorem idx_mem {h:List Bool} {i:Nat} (hi:i∈idx h):i<h.length∧h.getD i false=true:=by
 have h1:=List.mem_filter.1 hi
 exact⟨by simpa using h1.1,by simpa using h1.2⟩
theorem fillR_code {d:List ByteArray} (hd:d.length=6) (he:evenB d=true) {l:List ByteArray} {h:List Bool} (hl:l.length=9) (hh:h.length=9) (hs : ∀ i,i<9→h.getD i false=true→strAt l i=strAt (encL d) i) :
  fillR l h=if (idx h).length<6 then ([],2)else (encL d,0):=by
 have hsz : ∀ i∈idx h,(strAt l i).size=wid d:=fun i hi=>by
  have hm:=idx_mem hi
  rw[hs i (by omega) hm.2,strAt_enc d i (by omega),mixS_size]
 have hev:evenB (leftL l h)=true:=by
  unfold evenB
  rw[List.all_eq_true]
  intro s hsm
  obtain⟨i,hi,rfl⟩:=List.mem_map.1 hsm
  have hpos:0<(idx h).length:=List.length_pos_of_mem hi
  have hw:wid (leftL l h)=wid d:=by
   unfold wid leftL
   rw[strAt_map _ _ _ hpos]
   exact hsz _ (mem_get hpos)
  rw[hw,hsz i hi]
  simp
 by_cases h6:(idx h).length<6
 ·rw[if_pos h6]
  unfold fillR
  rw[if_pos ⟨hl,hh⟩,if_pos hev,if_pos h6]
 ·rw[if_neg h6,fillR_ok hl hh hev (by omega)]
  have hdl:dataL l h=d:=by
   unfold dataL
   refine data_back h hh (by omega) d _ hd he (by rw[List.length_take];unfold leftL;rw[List.length_map];omega) fun k hk=> ?_
   have e1:strAt ((leftL l h).take 6) k=strAt (leftL l h) k:=by
    unfold strAt
    rw[List.getD_eq_getElem?_getD,List.getD_eq_getElem?_getD,List.getElem?_take,if_pos hk]
   rw[e1,getD_take _ _ _ hk]
   unfold leftL
   rw[strAt_map _ _ _ (by omega)]
   have hm:=idx_mem (mem_get (P:=idx h) (i:=k) (by omega))
   rw[hs _ (by omega) hm.2,strAt_enc d _ (by omega)]
  rw[hdl]
end Go.Proofs.YtdcfonmjbelgbaaGreatDoor
end
section
namespace Go.Proofs.YtdcfonmjbelgbaaGreatDoor
open Go.RowKit YtdcfonmjbelgbaaGreatDoorW.PrintWords
def Blk (w:World) (g:Nat) (c:Array Value) (T:TypeId):Prop:=w.heap[g]? = some (.cells c T (0,0))
theorem Blk.lt {w:World} {g:Nat} {c:Array Value} {T:TypeId} (h:Blk w g c T):g<w.heap.size:=(Array.getElem?_eq_some_iff.1 h).1
theorem Blk.cell {w:World} {g:Nat} {c:Array Value} {T:TypeId} (h:Blk w g c T) {i:Nat} {v:Value} (hi:c[i]? = some v):w.cell? ⟨g,i,none⟩=some v:=by rw[Lib.cell_of_heap h];exact hi
theorem Blk.free {w:World} {g:Nat} {c:Array Value} {T:TypeId} (h:Blk w g c T) (i:Nat):w.frozen? ⟨g,i,none⟩=false:=Lib.frozen_of_heap h i
theorem Blk.set {w:World} {g:Nat} {c:Array Value} {T:TypeId} (h:Blk w g c T) (i:Nat) (v:Value):Blk (w.setCell ⟨g,i,none⟩ v) g (c.setIfInBounds i v) T:=by
 have:w.heap[g]? = _:=h
 simp[Blk,World.setCell,Array.getElem?_modify,this]
theorem Blk.other {w:World} {g g':Nat} {c:Array Value} {T:TypeId} (h:Blk w g c T) (hne:g≠g') (i:Nat) (v:Value):Blk (w.setCell ⟨g',i,none⟩ v) g c T:=(Below.heap_setCell _ _ _ _ (fun e=>hne e)).trans h
theorem Blk.keep {w w':World} {g:Nat} {c:Array Value} {T:TypeId} (h:Blk w g c T) (hb:Below w.heap.size w w'):Blk w' g c T:=(hb.block g h.lt).trans h
theorem Blk.alloc {w:World} {g:Nat} {c:Array Value} {T:TypeId} (h:Blk w g c T) (o:Obj):Blk (w.alloc o) g c T:=(Lib.alloc_old w o g h.lt).trans h
theorem Blk.new (w:World) (c:Array Value) (T:TypeId):Blk (w.alloc (.cells c T)) w.heap.size c T:=heap_alloc_new w _
theorem Blk.but {w w':World} {g g':Nat} {c:Array Value} {T:TypeId} (h:Blk w g c T) (hk:KeepBut w w' g' none) (hne:g≠g'):Blk w' g c T:=(hk.2 g h.lt hne (by simp)).trans h
theorem below_setRow' {B:Nat} {w w1:World} (h:Below B w w1) {g:Nat} (hg:B≤g) (c:Array Value):Below B w (w1.setRow g c):=
 h.trans ⟨rfl,rfl,rfl,by simp[World.setRow],fun k hk=>setRow_other w1 g k c (by omega)⟩
theorem lt_cell {w:World} {ad:Addr} {v:Value} (h:w.cell? ad=some v):ad.block<w.heap.size:=by
 rcases Nat.lt_or_ge ad.block w.heap.size with h1|h1
 ·exact h1
 ·exfalso
  have:w.heap[ad.block]? = none:=Array.getElem?_eq_none h1
  simp[World.cell?,this]at h
theorem cells4 {w:World} {g:Nat} {T:TypeId} {a0 a1 a2 a3:Value} (h:Blk w g #[a0,a1,a2,a3] T):w.cell? ⟨g,0,none⟩=some a0∧w.cell? ⟨g,1,none⟩=some a1∧w.cell? ⟨g,2,none⟩=some a2∧w.cell? ⟨g,3,none⟩=some a3:=⟨h.cell rfl,h.cell rfl,h.cell rfl,h.cell rfl⟩
end Go.Proofs.YtdcfonmjbelgbaaGreatDoor
end
section
namespace Go.Proofs.YtdcfonmjbelgbaaGreatDoor
def enc (n:Nat):List UInt8:=if n<128 then [UInt8.ofNat n]else UInt8.ofNat (128+n%128)::enc (n/128)
termination_by n
decreasing_by omega
theorem enc_lt {n:Nat} (h:n<128):enc n=[UInt8.ofNat n]:=by rw[enc,if_pos h]
theorem enc_ge {n:Nat} (h:128≤n):enc n=UInt8.ofNat (128+n%128)::enc (n/128):=by rw[enc,if_neg (by omega)]
theorem enc_ne (n:Nat):enc n≠[]:=by
 by_cases h:n<128
 ·rw[enc_lt h];simp
 ·rw[enc_ge (by omega)];simp
theorem enc_len (j:Nat) : ∀ n:Nat,n<128 ^ (j+1)→(enc n).length≤j+1:=by
 induction j with
 | zero=>intro n h;rw[enc_lt (by simpa using h)];simp
 | succ j ih=>
  intro n h
  by_cases h1:n<128
  ·rw[enc_lt h1];simp
  ·rw[enc_ge (by omega),List.length_cons]
   have:n/128<128 ^ (j+1):=by
    rw[Nat.pow_succ]at h
    exact Nat.div_lt_of_lt_mul (by omega)
   have:=ih _ this
   omega
theorem u8_toNat (n:Nat) (h:n<256):(UInt8.ofNat n).toNat=n:=UInt8.toNat_ofNat_of_lt' (by simpa using h)
def tk:List UInt8→Nat→Nat→Nat×List UInt8×Int
 | [],_,_=>(0,[],3)
 | c::l,i,n=>if 128≤c.toNat then (if i=7 then (0,[],4)else tk l (i+1) (n+(c.toNat-128)*2 ^ (7*i)))else if c.toNat=0∧0<i then (0,[],4)else (n+c.toNat*2 ^ (7*i),l,0)
theorem pow7 (i:Nat):2 ^ (7*(i+1))=128*2 ^ (7*i):=by
 rw[show 7*(i+1)=7*i+7 by omega,Nat.pow_add];omega
theorem tk_enc (m:Nat) : ∀ (i n:Nat) (r:List UInt8),i≤7→m<128 ^ (8-i)→(0<i→0<m)→tk (enc m++r) i n=(n+m*2 ^ (7*i),r,0):=by
 induction m using Nat.strongRecOn with
 | ind m ih=>
  intro i n r hi hm h0
  by_cases h:m<128
  ·rw[enc_lt h]
   show tk (UInt8.ofNat m::r) i n=_
   rw[tk,u8_toNat m (by omega),if_neg (by omega),if_neg (by omega)]
  ·rw[enc_ge (by omega)]
   show tk (UInt8.ofNat (128+m%128)::(enc (m/128)++r)) i n=_
   rw[tk,u8_toNat _ (by omega),if_pos (by omega)]
   have hi6:i≠7:=by rintro rfl;simp at hm;omega
   rw[if_neg hi6,ih (m/128) (by omega) (i+1) _ r (by omega) ?_ (by omega)]
   ·congr 1
    rw[pow7 i,Nat.add_sub_cancel_left]
    have e:m=128*(m/128)+m%128:=by omega
    generalize m/128=q at *
    generalize m%128=s at *
    subst e
    rw[Nat.add_mul,Nat.mul_comm 128 q,Nat.mul_assoc,Nat.add_assoc]
    congr 1
    rw[Nat.add_comm]
   ·have e:8-i=(8-(i+1))+1:=by omega
    rw[e,Nat.pow_succ]at hm
    exact Nat.div_lt_of_lt_mul (by omega)
theorem tk_zero (m:Nat) (r:List UInt8) (h:m<2 ^ 56):tk (enc m++r) 0 0=(m,r,0):=by
 rw[tk_enc m 0 0 r (by omega) (by simpa using h) (by omega)]
 simp
theorem tk_inv : ∀ (l:List UInt8) (i n v:Nat) (r:List UInt8),i≤7→tk l i n=(v,r,0) → ∃ m,l=enc m++r∧v=n+m*2 ^ (7*i)∧m<128 ^ (8-i)∧(0<i→0<m)
 | [],i,n,v,r,hi,h=>by simp[tk]at h
 | c::l,i,n,v,r,hi,h=>by
  rw[tk]at h
  have hc:=c.toNat_lt
  by_cases h1:128≤c.toNat
  ·rw[if_pos h1]at h
   by_cases h7:i=7
   ·rw[if_pos h7]at h;simp at h
   ·rw[if_neg h7]at h
    obtain⟨m,rfl,rfl,hm,h0⟩:=tk_inv l (i+1) _ v r (by omega) h
    have hp:0<m:=h0 (by omega)
    refine⟨128*m+(c.toNat-128),?_,?_,?_,fun _=>by omega⟩
    ·have e1:(128*m+(c.toNat-128))/128=m:=by omega
     have e2:128+(128*m+(c.toNat-128))%128=c.toNat:=by omega
     have e3:enc (128*m+(c.toNat-128))=c::enc m:=by
      rw[enc_ge (n:=128*m+(c.toNat-128)) (by omega)]
      generalize 128*m+(c.toNat-128)=q at e1 e2 ⊢
      rw[e1,e2,UInt8.ofNat_toNat]
     rw[e3,List.cons_append]
    ·rw[pow7 i,Nat.add_mul,Nat.add_assoc]
     rw[←Nat.mul_assoc,Nat.mul_comm m 128]
     generalize 128*m*2 ^ (7*i)=x
     generalize (c.toNat-128)*2 ^ (7*i)=y
     omega
    ·have e:8-i=(8-(i+1))+1:=by omega
     rw[e,Nat.pow_succ]
     omega
  ·rw[if_neg h1]at h
   by_cases h2:c.toNat=0∧0<i
   ·rw[if_pos h2]at h;simp at h
   ·rw[if_neg h2]at h
    simp only[Prod.mk.injEq]at h
    obtain⟨rfl,rfl,_⟩:=h
    refine⟨c.toNat,by rw[enc_lt (by omega)];simp,rfl,?_,fun _=>by omega⟩
    have:128 ^ 1≤128 ^ (8-i):=Nat.pow_le_pow_right (by omega) (by omega)
    omega
theorem tk_inv0 {l:List UInt8} {v:Nat} {r:List UInt8} (h:tk l 0 0=(v,r,0)):l=enc v++r∧v<2 ^ 56:=by
 obtain⟨m,h1,h2,h3,_⟩:=tk_inv l 0 0 v r (by omega) h
 simp at h2 h3
 subst h2
 exact⟨h1,by omega⟩
theorem tk_err : ∀ (l:List UInt8) (i n:Nat),(tk l i n).2.2=0∨(tk l i n=(0,[],3))∨(tk l i n=(0,[],4))
 | [],i,n=> .inr (.inl rfl)
 | c::l,i,n=>by
  rw[tk]
  split
  ·split
   ·exact .inr (.inr rfl)
   ·exact tk_err l _ _
  ·split
   ·exact .inr (.inr rfl)
   ·exact .inl rfl
theorem tk_le : ∀ (l:List UInt8) (i n:Nat),(tk l i n).2.1.length≤l.length
 | [],i,n=>by simp[tk]
 | c::l,i,n=>by
  rw[tk]
  split
  ·split
   ·simp
   ·have:=tk_le l (i+1) (n+(c.toNat-128)*2 ^ (7*i))
    simp only[List.length_cons];omega
  ·split
   ·simp
   ·simp
theorem enc_len8 {m:Nat} (h:m<2 ^ 56):(enc m).length≤8:=enc_len 7 m (by simpa using h)
def txt (s:List UInt8):List UInt8:=enc s.length++s
def tkT (l:List UInt8):List UInt8×List UInt8×Int:=
 if (tk l 0 0).2.2≠0 then ([],[],(tk l 0 0).2.2)else if (tk l 0 0).2.1.length<(tk l 0 0).1 then ([],[],3)else ((tk l 0 0).2.1.take (tk l 0 0).1,(tk l 0 0).2.1.drop (tk l 0 0).1,0)
theorem tkT_txt (s r:List UInt8) (h:s.length<2 ^ 56):tkT (txt s++r)=(s,r,0):=by
 unfold tkT txt
 rw[List.append_assoc,tk_zero _ _ h]
 simp
theorem tkT_inv {l s r:List UInt8} (h:tkT l=(s,r,0)):l=txt s++r∧s.length<2 ^ 56:=by
 unfold tkT at h
 by_cases h0:(tk l 0 0).2.2=0
 ·rw[if_neg (by simpa using h0)]at h
  by_cases h1:(tk l 0 0).2.1.length<(tk l 0 0).1
  ·rw[if_pos h1]at h;simp at h
  ·rw[if_neg h1]at h
   simp only[Prod.mk.injEq,and_true]at h
   obtain⟨hs,hr⟩:=h
   have ht:tk l 0 0=((tk l 0 0).1,(tk l 0 0).2.1,0):=by rw[←h0]
   obtain⟨hl,hv⟩:=tk_inv0 ht
   have hlen:s.length=(tk l 0 0).1:=by rw[←hs,List.length_take];omega
   refine⟨?_,by omega⟩
   unfold txt
   rw[hlen,←hs,←hr,List.append_assoc,List.take_append_drop]
   exact hl
 ·rw[if_pos (by simpa using h0)]at h
  simp only[Prod.mk.injEq]at h
  exact absurd h.2.2 h0
end Go.Proofs.YtdcfonmjbelgbaaGreatDoor
end
section
namespace Go.Proofs.YtdcfonmjbelgbaaGreatDoor
open Go.RowKit Q YtdcfonmjbelgbaaGreatDoorW.PrintWords YtdcfonmjbelgbaaGreatDoorW.PrintLast YtdcfonmjbelgbaaGreatDoorW.PrintMore
theorem or128 : ∀ a:Fin 256,Go.bits .or .u8 (a.val:Int) 128=((128+a.val%128:Nat):Int):=by decide +kernel
theorem or128' (n:Nat):Go.bits .or .u8 ((n:Int)%256) 128=((128+n%128:Nat):Int):=by
 have h:=or128 ⟨n%256,Nat.mod_lt _ (by omega)⟩
 simp only at h
 rw[show ((n%256:Nat):Int)=(n:Int)%256 by omega]at h
 rw[h]
 congr 2
 omega
theorem wraps_i64 (n:Int) (h₀:0≤n) (h₁:n<2 ^ 63):IntKind.i64.wrap n=n:=by rw[IntKind.wrap_i64];omega
theorem bits_or_comm (a b:Nat) (ha:a<2 ^ 63) (hb:b<2 ^ 63):Go.bits .or .i64 (a:Int) (b:Int)=Go.bits .or .i64 (b:Int) (a:Int):=by
 rw[(bits_nat .i64 63 (by decide) wraps_i64 a b ha hb).2,(bits_nat .i64 63 (by decide) wraps_i64 b a hb ha).2,Nat.or_comm]
theorem or_add (n c i:Nat) (hn:n<2 ^ (7*i)) (hc:c<128) (hi:i≤7):Go.bits .or .i64 (n:Int) (shl .i64 (c:Int) (wrap64 (7*(i:Int))))=((n+c*2 ^ (7*i):Nat):Int):=by
 have e:wrap64 (7*(i:Int))=((7*i:Nat):Int):=by unfold wrap64;omega
 have hp:2 ^ (7*i)≤2 ^ 49:=Nat.pow_le_pow_right (by omega) (by omega)
 have hcp:c*2 ^ (7*i)≤127*2 ^ 49:=Nat.mul_le_mul (by omega) hp
 have h2:shl .i64 (c:Int) (wrap64 (7*(i:Int)))=((c*2 ^ (7*i):Nat):Int):=by
  unfold shl
  rw[e,Int.toNat_natCast,Nat.min_eq_left (by show 7*i≤64;omega)]
  have e2:(c:Int)*2 ^ (7*i)=((c*2 ^ (7*i):Nat):Int):=by simp
  rw[e2]
  exact wraps_i64 _ (by omega) (by omega)
 rw[h2,bits_or_comm _ _ (by omega) (by omega),bits_join .i64 63 (by decide) wraps_i64 (7*i) _ _ (by omega) ?_ (by omega) (by omega) (by exact_mod_cast hn) (by omega)]
 ·omega
 ·have:((c*2 ^ (7*i):Nat):Int)=(c:Int)*2 ^ (7*i):=by simp
  rw[this]
  exact Int.mul_emod_left _ _
theorem bt_B (l:List UInt8) (i:Nat):bt (B l) (i:Int)=((l.getD i 0).toNat:Int):=by
 unfold bt
 rw[Int.toNat_natCast]
 split
 ·rename_i h
  have h':i<l.length:=by rw[B_size]at h;exact h
  have e:(B l)[i]'h=l[i]:=by show (B l).data[i]=_;simp[B]
  rw[e,List.getD_eq_getElem?_getD,List.getElem?_eq_getElem h'];rfl
 ·rename_i h
  have h':l.length≤i:=by rw[B_size]at h;omega
  rw[List.getD_eq_getElem?_getD,List.getElem?_eq_none h'];rfl
def nb (l:List UInt8):List Int:=l.map fun c=>(c.toNat:Int)
theorem nb_append (a b:List UInt8):nb (a++b)=nb a++nb b:=by simp[nb]
theorem strOfNums_nb (l:List UInt8):strOfNums (nb l)=B l:=by
 unfold strOfNums B nb
 rw[List.map_map]
 congr 2
 have:((fun n:Int=>UInt8.ofNat n.toNat) ∘ fun c:UInt8=>(c.toNat:Int))=id:=by
  funext c;simp
 rw[this,List.map_id]
theorem nb_one (n:Nat) (h:n<128):nb [UInt8.ofNat n]=[(n:Int)%256]:=by
 simp only[nb,List.map_cons,List.map_nil]
 rw[u8_toNat n (by omega),Int.emod_eq_of_lt (by omega) (by omega)]
theorem number_loop (j:Nat) : ∀ (n k:Nat) (acc:List UInt8),n<128 ^ (j+1)→j<k→acc.length+j≤1000→pack_Number.l0 k (n:Int) (nb acc)=some (B (acc++enc n)):=by
 induction j with
 | zero=>
  intro n k acc hn hk ha
  obtain⟨k,rfl⟩ : ∃ m,k=m+1:=⟨k-1,by omega⟩
  simp only[pack_Number.l0]
  have hl:(nb acc).length=acc.length:=by simp[nb]
  rw[if_neg (by omega),if_pos (by omega),enc_lt (by omega)]
  have e:nb acc++[(n:Int)%256]=nb (acc++[UInt8.ofNat n]):=by
   rw[nb_append,nb_one n (by omega)]
  rw[e,strOfNums_nb]
 | succ j ih=>
  intro n k acc hn hk ha
  obtain⟨k,rfl⟩ : ∃ m,k=m+1:=⟨k-1,by omega⟩
  have hl:(nb acc).length=acc.length:=by simp[nb]
  by_cases h:n<128
  ·exact(by
    simp only[pack_Number.l0]
    rw[if_neg (by omega),if_pos (by omega),enc_lt (by omega)]
    have e:nb acc++[(n:Int)%256]=nb (acc++[UInt8.ofNat n]):=by
     rw[nb_append,nb_one n (by omega)]
    rw[e,strOfNums_nb])
  ·simp only[pack_Number.l0]
   rw[if_pos (by omega),if_pos (by omega),or128']
   have e:nb acc++[((128+n%128:Nat):Int)]=nb (acc++[UInt8.ofNat (128+n%128)]):=by
    rw[nb_append]
    congr 1
    simp only[nb,List.map_cons,List.map_nil]
    rw[u8_toNat _ (by omega)]
   have e2:(n:Int)/128=((n/128:Nat):Int):=by omega
   rw[e,e2,ih (n/128) k _ ?_ (by omega) (by rw[List.length_append,List.length_singleton];omega),enc_ge (n:=n) (by omega),List.append_assoc,List.singleton_append]
   ·rw[Nat.pow_succ]at hn
    exact Nat.div_lt_of_lt_mul (by omega)
theorem number_f (n k:Nat) (h:n<2 ^ 56) (hk:20≤k):pack_Number.f k (n:Int)=some (B (enc n)):=by
 unfold pack_Number.f
 obtain⟨k,rfl⟩ : ∃ m,k=m+1:=⟨k-1,by omega⟩
 have e:decide ((n:Int)>72057594037927935)=false:=by simp;omega
 rw[if_neg (by omega),e]
 simp only[pack_Number.j0]
 rw[if_neg (by decide)]
 exact number_loop 7 n k [] (by simpa using h) (by omega) (by simp)
theorem text_f (s:List UInt8) (k:Nat) (h:s.length≤140737488355328) (hk:20≤k):pack_Text.f k (B s)=some (B (txt s)):=by
 unfold pack_Text.f
 rw[B_size,number_f s.length k (by omega) hk]
 simp only[Option.bind_some]
 have:=enc_len8 (m:=s.length) (by omega)
 rw[if_pos (by rw[B_size];omega),B_append]
 rfl
theorem wrap7 (i:Nat) (hi:i≤7):wrap64 (7*(i:Int))=((7*i:Nat):Int):=by unfold wrap64;omega
theorem wrap_succ (i:Nat) (hi:i≤140737488355328):wrap64 ((i:Int)+1)=((i+1:Nat):Int):=by unfold wrap64;omega
theorem wrap_small (i:Nat) (hi:i≤140737488355328):wrap64 (i:Int)=(i:Int):=by unfold wrap64;omega
theorem rnum_end (l:List UInt8) (_hl:l.length≤140737488355328) (i n c:Nat) (hi:i≤7) (hil:i<l.length) (hn:n<2 ^ (7*i)) (hc:c<128) :
  (if 0≤wrap64 ((i:Int)+1)then (if wrap64 ((i:Int)+1)≤((B l).size:Int)then (if 0≤wrap64 (7*(i:Int))then (some (Go.bits .or .i64 (n:Int) (shl .i64 (wrap64 (c:Int)) (wrap64 (7*(i:Int)))),(B l).extract (wrap64 ((i:Int)+1)).toNat (B l).size,(0:Int)))else none)else none)else none)=some (((n+c*2 ^ (7*i):Nat):Int),B (l.drop (i+1)),(0:Int)):=by
 rw[wrap_small c (by omega),or_add n c i hn hc hi,wrap_succ i (by omega),if_pos (by omega),if_pos (by rw[B_size];omega),if_pos (by rw[wrap7 i hi];omega),Int.toNat_natCast,B_size,B_extract,List.take_of_length_le (by rw[List.length_drop];omega)]
theorem rnum_loop (l:List UInt8) (hl:l.length≤140737488355328) (d:Nat) : ∀ (k i n:Nat),8-i=d→i≤7→i≤l.length→n<2 ^ (7*i)→d<k →
  pack_Reader_Number.l0 k (n:Int) (l.length:Int) (i:Int) (B l) 0=some (((tk (l.drop i) i n).1:Int),B (tk (l.drop i) i n).2.1,(tk (l.drop i) i n).2.2):=by
 induction d with
 | zero=>intro k i n hd hi;omega
 | succ d ih=>
  intro k i n hd hi hil hn hk
  obtain⟨k,rfl⟩ : ∃ m,k=m+1:=⟨k-1,by omega⟩
  simp only[pack_Reader_Number.l0]
  by_cases h1:i<l.length
  ·rw[if_pos (by omega),if_pos (by omega),if_pos (by rw[B_size];omega),bt_B]
   have hc:l.drop i=l.getD i 0::l.drop (i+1):=by
    rw[List.drop_eq_getElem_cons h1,List.getD_eq_getElem?_getD,List.getElem?_eq_getElem h1];rfl
   rw[hc]
   generalize l.getD i 0=c
   have hc8:=c.toNat_lt
   have e7:wrap64 (7*(i:Int))=((7*i:Nat):Int):=by unfold wrap64;omega
   have e1:wrap64 ((i:Int)+1)=((i+1:Nat):Int):=by unfold wrap64;omega
   by_cases h128:128≤c.toNat
   ·rw[if_pos (by omega)]
    by_cases h7:i=7
    ·rw[if_pos (by omega)]
     have:tk (c::l.drop (i+1)) i n=(0,[],4):=by rw[tk,if_pos h128,if_pos h7]
     rw[this]
     rfl
    ·rw[if_neg (by omega),if_pos (by rw[e7];omega)]
     have e3:((c.toNat:Int)-128)%256=((c.toNat-128:Nat):Int):=by omega
     rw[e3,or_add n (c.toNat-128) i hn (by omega) hi,e1]
     have e4:tk (c::l.drop (i+1)) i n=tk (l.drop (i+1)) (i+1) (n+(c.toNat-128)*2 ^ (7*i)):=by rw[tk,if_pos h128,if_neg h7]
     rw[e4]
     refine ih k (i+1) _ (by omega) (by omega) (by omega) ?_ (by omega)
     rw[pow7 i]
     have:(c.toNat-128)*2 ^ (7*i)≤127*2 ^ (7*i):=Nat.mul_le_mul_right _ (by omega)
     omega
   ·rw[if_neg (by omega)]
    have hsh:pack_Reader_wrong.f (B l) 0 4=some (⟨#[]⟩,4):=rfl
    have hend:=rnum_end l hl i n c.toNat hi h1 hn (by omega)
    by_cases h0:c.toNat=0
    ·rw[if_pos (by omega)]
     by_cases hi0:0<i
     ·rw[if_pos (by omega)]
      have:tk (c::l.drop (i+1)) i n=(0,[],4):=by rw[tk,if_neg h128,if_pos ⟨h0,hi0⟩]
      rw[this]
      rfl
     ·rw[if_neg (by omega),hend]
      have:tk (c::l.drop (i+1)) i n=(n+c.toNat*2 ^ (7*i),l.drop (i+1),0):=by rw[tk,if_neg h128,if_neg (by omega)]
      rw[this]
    ·rw[if_neg (by omega),hend]
     have:tk (c::l.drop (i+1)) i n=(n+c.toNat*2 ^ (7*i),l.drop (i+1),0):=by rw[tk,if_neg h128,if_neg (by omega)]
     rw[this]
  ·rw[if_neg (by omega),List.drop_eq_nil_of_le (by omega)]
   rfl
theorem rnum_f (l:List UInt8) (k:Nat) (hl:l.length≤140737488355328) (hk:20≤k):pack_Reader_Number.f k (B l) 0=some (((tk l 0 0).1:Int),B (tk l 0 0).2.1,(tk l 0 0).2.2):=by
 unfold pack_Reader_Number.f pack_Reader_works.f
 simp only[Option.bind_some]
 rw[if_pos (by rfl),B_size]
 exact rnum_loop l hl 8 k 0 0 rfl (by omega) (by omega) (by simp) (by omega)
theorem rnum_err (s:ByteArray) (e:Int) (k:Nat) (he:e≠0):pack_Reader_Number.f k s e=some (0,s,e):=by
 unfold pack_Reader_Number.f pack_Reader_works.f
 simp only[Option.bind_some]
 rw[if_neg (by simpa using he)]
theorem rtext_f (l:List UInt8) (k:Nat) (hl:l.length≤140737488355328) (hk:21≤k):pack_Reader_Text.f k (B l) 0=some (B (tkT l).1,B (tkT l).2.1,(tkT l).2.2):=by
 obtain⟨k,rfl⟩ : ∃ m,k=m+1:=⟨k-1,by omega⟩
 have hle:=tk_le l 0 0
 have herr:=tk_err l 0 0
 unfold pack_Reader_Text.f
 rw[rnum_f l _ hl (by omega)]
 unfold tkT
 generalize tk l 0 0=t at hle herr ⊢
 obtain⟨n,r,e⟩:=t
 simp only[Option.bind_some,pack_Reader_works.f]at *
 by_cases h0:e=0
 ·subst h0
  rw[if_pos (by rfl),if_neg (by simp)]
  rw[B_size]
  by_cases h1:r.length<n
  ·have hd:decide ((n:Int)>(r.length:Int))=true:=by simp;omega
   rw[hd,if_pos h1]
   simp only[pack_Reader_Text.j0,pack_Reader_wrong.f,pack_Reader_works.f,Option.bind_some]
   rw[if_pos trivial,if_neg (by decide)]
   rfl
  ·have hd:decide ((n:Int)>(r.length:Int))=false:=by simp;omega
   rw[hd,if_neg h1]
   simp only[pack_Reader_Text.j0,pack_Reader_wrong.f,pack_Reader_works.f,Option.bind_some]
   rw[if_neg (by decide),if_pos (by decide),if_pos (by omega),if_pos (by rw[B_size];omega),Int.toNat_natCast,B_size,B_extract,B_extract,List.drop_zero,Nat.sub_zero,List.take_of_length_le (l:=r.drop n) (by rw[List.length_drop];omega)]
 ·rw[if_neg (by simpa using h0),if_pos h0]
  simp only[pack_Reader_Text.j0,pack_Reader_wrong.f,pack_Reader_works.f,Option.bind_some]
  rw[if_neg (by decide),if_neg (by simpa using h0)]
  rcases herr with h|h|h
  ·exact absurd h h0
  ·simp only[Prod.mk.injEq]at h
   obtain⟨_,rfl,rfl⟩:=h
   rfl
  ·simp only[Prod.mk.injEq]at h
   obtain⟨_,rfl,rfl⟩:=h
   rfl
theorem rtext_err (s:ByteArray) (e:Int) (k:Nat) (he:e≠0) (hk:1≤k):pack_Reader_Text.f k s e=some (⟨#[]⟩,s,e):=by
 obtain⟨k,rfl⟩ : ∃ m,k=m+1:=⟨k-1,by omega⟩
 unfold pack_Reader_Text.f
 rw[rnum_err s e _ he]
 simp only[Option.bind_some,pack_Reader_works.f]
 rw[if_neg (by simpa using he)]
 simp only[pack_Reader_Text.j0,pack_Reader_wrong.f,pack_Reader_works.f,Option.bind_some]
 rw[if_neg (by decide),if_neg (by simpa using he)]
end Go.Proofs.YtdcfonmjbelgbaaGreatDoor
end
section
namespace Go.Proofs.YtdcfonmjbelgbaaGreatDoor
open Go.RowKit
def S (v:BitVec 32):BitVec 32:=(v>>>1) ^^^ (if v.getLsbD 0 then 0x82F63B78#32 else 0#32)
def Sn:Nat→BitVec 32→BitVec 32
 | 0,v=>v
 | k+1,v=>S (Sn k v)
theorem S_xor (a b:BitVec 32):S (a ^^^ b)=S a ^^^ S b:=by
 unfold S
 rw[BitVec.ushiftRight_xor_distrib,BitVec.getLsbD_xor]
 cases a.getLsbD 0<;>cases b.getLsbD 0<;>simp
 ·rw[BitVec.xor_assoc]
 ·rw[BitVec.xor_assoc,BitVec.xor_assoc,BitVec.xor_comm (b>>>1)]
 ·rw[BitVec.xor_assoc,BitVec.xor_comm _ (b>>>1 ^^^ _),BitVec.xor_assoc,BitVec.xor_self,BitVec.xor_zero]
theorem Sn_xor (k:Nat) (a b:BitVec 32):Sn k (a ^^^ b)=Sn k a ^^^ Sn k b:=by
 induction k with
 | zero=>rfl
 | succ k ih=>simp only[Sn];rw[ih,S_xor]
theorem Sn_shift (k:Nat) (v:BitVec 32) (h : ∀ i,i<k→v.getLsbD i=false):Sn k v=v>>>k:=by
 induction k with
 | zero=>simp[Sn]
 | succ k ih=>
  simp only[Sn]
  rw[ih (fun i hi=>h i (by omega))]
  unfold S
  have:(v>>>k).getLsbD 0=false:=by rw[BitVec.getLsbD_ushiftRight];exact h k (by omega)
  rw[this]
  simp[BitVec.shiftRight_add]
theorem Sn_shl (k:Nat) (v:BitVec 32) (h:v.toNat*2 ^ k<2 ^ 32):Sn k (v<<<k)=v:=by
 rw[Sn_shift k _ (fun i hi=>by rw[BitVec.getLsbD_shiftLeft];simp[hi])]
 apply BitVec.eq_of_toNat_eq
 rw[BitVec.toNat_ushiftRight,BitVec.toNat_shiftLeft,Nat.shiftLeft_eq,Nat.mod_eq_of_lt h,Nat.shiftRight_eq_div_pow,Nat.mul_div_cancel _ (Nat.two_pow_pos k)]
def c32 (c:UInt8):BitVec 32:=BitVec.ofNat 32 c.toNat
def stepB (x:BitVec 32) (c:UInt8):BitVec 32:=Sn 8 (x ^^^ c32 c)
def reg (x:BitVec 32) (l:List UInt8):BitVec 32:=l.foldl stepB x
def crc (l:List UInt8):BitVec 32:= ~~~ reg 0xFFFFFFFF#32 l
theorem reg_append (x:BitVec 32) (a b:List UInt8):reg x (a++b)=reg (reg x a) b:=by simp[reg]
def w4 (v:BitVec 32):List UInt8:=[UInt8.ofNat (v.toNat%256),UInt8.ofNat (v.toNat/256%256),UInt8.ofNat (v.toNat/65536%256),UInt8.ofNat (v.toNat/16777216%256)]
theorem w4_len (v:BitVec 32):(w4 v).length=4:=rfl
end Go.Proofs.YtdcfonmjbelgbaaGreatDoor
end
section
namespace Go.Proofs.YtdcfonmjbelgbaaGreatDoor
open Go.RowKit
theorem ofInt_toNat {n:Nat} (v:BitVec n):BitVec.ofInt n (v.toNat:Int)=v:=by
 rw[BitVec.ofInt_natCast,BitVec.ofNat_toNat,BitVec.setWidth_eq]
theorem wrap_u32_nat (n:Nat) (h:n<4294967296):IntKind.u32.wrap (n:Int)=n:=by rw[IntKind.wrap_u32];omega
theorem bits_xor32 (a b:BitVec 32):Go.bits .xor .u32 (a.toNat:Int) (b.toNat:Int)=((a ^^^ b).toNat:Int):=by
 show IntKind.u32.wrap ((BitVec.ofInt 32 (a.toNat:Int) ^^^ BitVec.ofInt 32 (b.toNat:Int)).toNat:Int)=_
 rw[ofInt_toNat,ofInt_toNat]
 exact wrap_u32_nat _ (a ^^^ b).isLt
theorem bits_and32 (a b:BitVec 32):Go.bits .and .u32 (a.toNat:Int) (b.toNat:Int)=((a &&& b).toNat:Int):=by
 show IntKind.u32.wrap ((BitVec.ofInt 32 (a.toNat:Int) &&& BitVec.ofInt 32 (b.toNat:Int)).toNat:Int)=_
 rw[ofInt_toNat,ofInt_toNat]
 exact wrap_u32_nat _ (a &&& b).isLt
theorem bits_xor8 (a b:BitVec 8):Go.bits .xor .u8 (a.toNat:Int) (b.toNat:Int)=((a ^^^ b).toNat:Int):=by
 show IntKind.u8.wrap ((BitVec.ofInt 8 (a.toNat:Int) ^^^ BitVec.ofInt 8 (b.toNat:Int)).toNat:Int)=_
 rw[ofInt_toNat,ofInt_toNat,IntKind.wrap_u8]
 have:=(a ^^^ b).isLt
 omega
theorem half_toNat (v:BitVec 32):(v.toNat:Int)/(2:Int)=((v>>>1).toNat:Int):=by
 rw[BitVec.toNat_ushiftRight,Nat.shiftRight_eq_div_pow];omega
theorem lsb_toNat (v:BitVec 32):v.toNat%2=if v.getLsbD 0 then 1 else 0:=by
 have:v.getLsbD 0=decide (v.toNat%2=1):=by
  rw[←BitVec.testBit_toNat,Nat.testBit_zero]
 rw[this]
 by_cases h:v.toNat%2=1
 ·simp[h]
 ·simp[h];omega
theorem crcR_eq (v:BitVec 32):crcR (v.toNat:Int)=((S v).toNat:Int):=by
 unfold crcR S
 have e1:Go.bits .and .u32 (v.toNat:Int) 1=((v &&& 1#32).toNat:Int):=bits_and32 v 1#32
 have e2:(v &&& 1#32).toNat=if v.getLsbD 0 then 1 else 0:=by
  rw[BitVec.toNat_and]
  show v.toNat &&& 1=_
  rw[Nat.and_one_is_mod,lsb_toNat]
 rw[e1,e2,half_toNat]
 cases v.getLsbD 0
 ·exact bits_xor32 (v>>>1) 0#32
 ·exact bits_xor32 (v>>>1) 0x82F63B78#32
theorem crcN_eq (k:Nat) (v:BitVec 32):crcN k (v.toNat:Int)=((Sn k v).toNat:Int):=by
 induction k with
 | zero=>rfl
 | succ k ih=>rw[crcN,ih,crcR_eq];rfl
theorem shr8_parts (x:BitVec 32):x=BitVec.ofNat 32 (x.toNat%256) ^^^ (BitVec.ofNat 32 (x.toNat/256)<<<8):=by
 apply BitVec.eq_of_getLsbD_eq
 intro i hi
 simp only[BitVec.getLsbD_xor,BitVec.getLsbD_shiftLeft,BitVec.getLsbD_ofNat]
 have e1:x.toNat%256=x.toNat%2 ^ 8:=rfl
 have e2:x.toNat/256=x.toNat/2 ^ 8:=rfl
 rw[e1,e2]
 simp only[Nat.testBit_mod_two_pow,Nat.testBit_div_two_pow]
 rw[←BitVec.testBit_toNat]
 by_cases h1:i<8
 ·simp[h1,hi]
 ·simp[h1,hi,show i-8<32 by omega,show i-8+8=i by omega]
theorem crcB_eq (x:BitVec 32) (c:UInt8):crcB (x.toNat:Int) (c.toNat:Int)=((stepB x c).toNat:Int):=by
 unfold crcB stepB
 have hx:=x.isLt
 have hc:=c.toNat_lt
 have e1:Go.bits .xor .u8 ((x.toNat:Int)%256) (c.toNat:Int)=((BitVec.ofNat 32 (x.toNat%256) ^^^ c32 c).toNat:Int):=by
  have h:=bits_xor8 (BitVec.ofNat 8 (x.toNat%256)) (BitVec.ofNat 8 c.toNat)
  simp only[BitVec.toNat_ofNat,BitVec.toNat_xor]at h
  rw[Nat.mod_eq_of_lt (a:=x.toNat%256) (by omega),Nat.mod_eq_of_lt (a:=c.toNat) (by omega)]at h
  have e:((x.toNat%256:Nat):Int)=(x.toNat:Int)%256:=by omega
  rw[←e,h]
  unfold c32
  simp only[BitVec.toNat_ofNat,BitVec.toNat_xor]
  rw[Nat.mod_eq_of_lt (a:=x.toNat%256) (b:=2 ^ 32) (by omega),Nat.mod_eq_of_lt (a:=c.toNat) (b:=2 ^ 32) (by omega)]
 have e2:(x.toNat:Int)/256=((BitVec.ofNat 32 (x.toNat/256)).toNat:Int):=by
  rw[BitVec.toNat_ofNat,Nat.mod_eq_of_lt (by omega)];omega
 rw[e1,e2,crcN_eq,bits_xor32]
 congr 2
 conv=>rhs;rw[shr8_parts x]
 have e3:BitVec.ofNat 32 (x.toNat/256)=Sn 8 (BitVec.ofNat 32 (x.toNat/256)<<<8):=(Sn_shl 8 _ (by rw[BitVec.toNat_ofNat,Nat.mod_eq_of_lt (by omega)];omega)).symm
 conv=>lhs;rw[e3]
 rw[←Sn_xor]
 congr 1
 rw[BitVec.xor_assoc,BitVec.xor_comm (c32 c),BitVec.xor_assoc]
theorem take_succ_getD (l:List UInt8) (k:Nat) (h:k<l.length):l.take (k+1)=l.take k++[l.getD k 0]:=by
 rw[List.take_succ_eq_append_getElem h,List.getD_eq_getElem?_getD,List.getElem?_eq_getElem h];rfl
theorem toList_len (s:ByteArray):s.data.toList.length=s.size:=Array.length_toList
theorem crcS_eq (s:ByteArray) (k:Nat) (h:k≤s.size):crcS s k=((reg 0xFFFFFFFF#32 (s.data.toList.take k)).toNat:Int):=by
 induction k with
 | zero=>rfl
 | succ k ih=>
  rw[crcS,ih (by omega)]
  unfold byteAt
  rw[crcB_eq,take_succ_getD _ _ (by rw[toList_len];omega),reg_append]
  rfl
theorem not_toNat (v:BitVec 32):0xFFFFFFFF#32 ^^^ v = ~~~ v:=by
 rw[show (0xFFFFFFFF#32)=BitVec.allOnes 32 from rfl,BitVec.allOnes_xor]
theorem ofS_eq (s:ByteArray):ofS s=((crc s.data.toList).toNat:Int):=by
 unfold ofS crc
 rw[crcS_eq s s.size (Nat.le_refl _),List.take_of_length_le (by rw[toList_len];exact Nat.le_refl _),←not_toNat]
 exact bits_xor32 0xFFFFFFFF#32 _
theorem refB_eq (x:BitVec 32) (b:Nat) (hb:b<2):refB (x.toNat:Int) (b:Int)=((S (x ^^^ BitVec.ofNat 32 b)).toNat:Int):=by
 unfold refB
 have e1:Go.bits .xor .u32 ((x.toNat:Int)%2) (b:Int)=(((BitVec.ofNat 32 (x.toNat%2)) ^^^ BitVec.ofNat 32 b).toNat:Int):=by
  have h:=bits_xor32 (BitVec.ofNat 32 (x.toNat%2)) (BitVec.ofNat 32 b)
  simp only[BitVec.toNat_ofNat]at h
  rw[Nat.mod_eq_of_lt (a:=x.toNat%2) (by omega),Nat.mod_eq_of_lt (a:=b) (by omega)]at h
  have e:((x.toNat%2:Nat):Int)=(x.toNat:Int)%2:=by omega
  rw[←e,h]
 rw[e1]
 have hl:=lsb_toNat x
 have hS:S (x ^^^ BitVec.ofNat 32 b)=(x>>>1) ^^^ (if (x.getLsbD 0 ^^ decide (b=1))then 0x82F63B78#32 else 0#32):=by
  unfold S
  rw[BitVec.ushiftRight_xor_distrib,BitVec.getLsbD_xor]
  have:b=0∨b=1:=by omega
  rcases this with rfl|rfl<;>simp
 rw[hS]
 have:b=0∨b=1:=by omega
 rw[half_toNat]
 cases h0:x.getLsbD 0<;>rw[h0]at hl<;>rcases this with rfl|rfl<;>simp only[hl]<;>simp
 ·simpa using bits_xor32 (x>>>1) 0x82F63B78#32
 ·simpa using bits_xor32 (x>>>1) 0x82F63B78#32
theorem low_succ (c j:Nat):BitVec.ofNat 32 (c%2 ^ (j+1))=BitVec.ofNat 32 (c%2 ^ j) ^^^ (BitVec.ofNat 32 (c/2 ^ j%2)<<<j):=by
 apply BitVec.eq_of_getLsbD_eq
 intro i hi
 simp only[BitVec.getLsbD_xor,BitVec.getLsbD_shiftLeft,BitVec.getLsbD_ofNat]
 rw[show c/2 ^ j%2=c/2 ^ j%2 ^ 1 from rfl]
 simp only[Nat.testBit_mod_two_pow,Nat.testBit_div_two_pow]
 by_cases h1:i<j
 ·simp[h1,hi,show i<j+1 by omega]
 ·by_cases h2:i=j
  ·subst h2;simp[hi]
  ·simp[h1,hi,show ¬ i<j+1 by omega,show ¬ i-j<1 by omega]
theorem refS_bits (s:ByteArray) (k:Nat) (x:BitVec 32) (hx:refS s (8*k)=(x.toNat:Int)) (c:UInt8) (hc:byteAt s k=(c.toNat:Int)) (j:Nat) (hj:j≤8) :
  refS s (8*k+j)=((Sn j (x ^^^ BitVec.ofNat 32 (c.toNat%2 ^ j))).toNat:Int):=by
 induction j with
 | zero=>rw[Nat.add_zero,hx];simp[Sn,Nat.mod_one]
 | succ j ih=>
  rw[←Nat.add_assoc,refS,ih (by omega)]
  have hb:bitAt s (8*k+j)=((c.toNat/2 ^ j%2:Nat):Int):=by
   unfold bitAt
   rw[show (8*k+j)/8=k by omega,show (8*k+j)%8=j by omega,hc]
   simp
  rw[hb,refB_eq _ _ (Nat.mod_lt _ (by omega))]
  have hlt:=c.toNat_lt
  have e:BitVec.ofNat 32 (c.toNat/2 ^ j%2)=Sn j (BitVec.ofNat 32 (c.toNat/2 ^ j%2)<<<j):=by
   refine(Sn_shl j _ ?_).symm
   rw[BitVec.toNat_ofNat]
   have h1:c.toNat/2 ^ j%2<2:=Nat.mod_lt _ (by omega)
   have h2:2 ^ j≤2 ^ 7:=Nat.pow_le_pow_right (by omega) (by omega)
   rw[Nat.mod_eq_of_lt (by omega)]
   calc c.toNat/2 ^ j%2*2 ^ j≤1*2 ^ 7:=Nat.mul_le_mul (by omega) h2
    _<2 ^ 32:=by decide
  rw[e,←Sn_xor,low_succ,BitVec.xor_assoc]
  rfl
theorem refS_eq (s:ByteArray) (k:Nat) (h:k≤s.size):refS s (8*k)=((reg 0xFFFFFFFF#32 (s.data.toList.take k)).toNat:Int):=by
 induction k with
 | zero=>rfl
 | succ k ih=>
  have h8:=refS_bits s k _ (ih (by omega)) (s.data.toList.getD k 0) rfl 8 (Nat.le_refl _)
  rw[show 8*(k+1)=8*k+8 by omega,h8,take_succ_getD _ _ (by rw[toList_len];omega),reg_append]
  have hlt:=(s.data.toList.getD k 0).toNat_lt
  rw[Nat.mod_eq_of_lt (by omega)]
  rfl
theorem rofS_eq (s:ByteArray):rofS s=((crc s.data.toList).toNat:Int):=by
 unfold rofS crc
 rw[refS_eq s s.size (Nat.le_refl _),List.take_of_length_le (by rw[toList_len];exact Nat.le_refl _),←not_toNat,BitVec.xor_comm]
 exact bits_xor32 _ 0xFFFFFFFF#32
theorem le4_eq (v:BitVec 32):strOfNums (le4 (v.toNat:Int))=⟨(w4 v).toArray⟩:=by
 unfold strOfNums le4 w4
 congr 1
end Go.Proofs.YtdcfonmjbelgbaaGreatDoor
end
section
namespace Go.Proofs.YtdcfonmjbelgbaaGreatDoor
open Go.RowKit
def sealL (l:List UInt8):List UInt8:=l++w4 (crc l)
theorem sealL_len (l:List UInt8):(sealL l).length=l.length+4:=by simp[sealL,w4_len]
def sealed (l:List UInt8):Prop:=4≤l.length∧l.drop (l.length-4)=w4 (crc (l.take (l.length-4)))
theorem sealed_seal (l:List UInt8):sealed (sealL l):=by
 refine⟨by rw[sealL_len];omega,?_⟩
 rw[sealL_len,Nat.add_sub_cancel]
 unfold sealL
 rw[List.drop_left,List.take_left]
theorem take_seal (l:List UInt8):(sealL l).take ((sealL l).length-4)=l:=by
 rw[sealL_len,Nat.add_sub_cancel]
 unfold sealL
 rw[List.take_left]
theorem of_sealed {l:List UInt8} (h:sealed l):sealL (l.take (l.length-4))=l:=by
 unfold sealL
 rw[←h.2,List.take_append_drop]
def openL (l:List UInt8):ByteArray×Int:=if l.length<4 then (B [],3)else if l.drop (l.length-4)=w4 (crc (l.take (l.length-4)))then (B (l.take (l.length-4)),0)else (B [],5)
theorem openL_seal (l:List UInt8):openL (sealL l)=(B l,0):=by
 unfold openL
 rw[if_neg (by rw[sealL_len];omega),if_pos (sealed_seal l).2,take_seal]
theorem openL_cases (m:List UInt8):(m.length<4∧openL m=(B [],3))∨(4≤m.length ∧ ¬ sealed m∧openL m=(B [],5)) ∨ ∃ u,m=sealL u∧openL m=(B u,0):=by
 by_cases h4:m.length<4
 ·exact .inl ⟨h4,by unfold openL;rw[if_pos h4]⟩
 ·by_cases h2:m.drop (m.length-4)=w4 (crc (m.take (m.length-4)))
  ·refine .inr (.inr ⟨m.take (m.length-4),(of_sealed ⟨by omega,h2⟩).symm,?_⟩)
   unfold openL;rw[if_neg h4,if_pos h2]
  ·exact .inr (.inl ⟨by omega,fun h=>h2 h.2,by unfold openL;rw[if_neg h4,if_neg h2]⟩)
theorem wrap_sub4 (n:Nat) (h:n≤140737488355328):wrap64 ((n:Int)-4)=(n:Int)-4:=by unfold wrap64;omega
theorem of_f (l:List UInt8) (h:l.length≤140737488355328):check_Of.f (B l)=some ((crc l).toNat:Int):=by
 unfold check_Of.f
 rw[if_pos (by rw[B_size];exact h),ofS_eq,B_data]
theorem rof_f (l:List UInt8) (h:l.length≤140737488355328):sluicegateref04_Of.f (B l)=some ((crc l).toNat:Int):=by
 unfold sluicegateref04_Of.f
 rw[if_pos (by rw[B_size];exact h),rofS_eq,B_data]
theorem bytes_f (v:BitVec 32):check_bytes.f (v.toNat:Int)=some (B (w4 v)):=by
 unfold check_bytes.f
 have:=v.isLt
 rw[if_pos (by omega),le4_eq]
 rfl
theorem seal_f (l:List UInt8) (h:l.length≤140737488355328):Q.check_Seal.f (B l)=some (B (sealL l)):=by
 unfold Q.check_Seal.f
 rw[of_f l h]
 simp only[Option.bind_some]
 rw[bytes_f]
 simp only[Option.bind_some]
 rw[if_pos (by rw[B_size,B_size,w4_len];omega),B_append]
 rfl
theorem open_f (l:List UInt8) (h:l.length≤140737488355328):Q.check_Open.f (B l)=some (openL l):=by
 unfold openL
 unfold Q.check_Open.f
 rw[B_size,wrap_sub4 _ h]
 by_cases h4:l.length<4
 ·rw[if_pos (by omega),if_pos h4];rfl
 ·rw[if_neg (by omega),if_pos (by omega),if_pos (by omega),if_neg h4]
  have e:((l.length:Int)-4).toNat=l.length-4:=by omega
  rw[e,B_extract,B_extract,List.drop_zero,Nat.sub_zero,of_f _ (by rw[List.length_take];omega)]
  simp only[Option.bind_some]
  rw[bytes_f]
  simp only[Option.bind_some]
  rw[B_toList,B_toList,List.take_of_length_le (by rw[List.length_drop];omega)]
  by_cases h2:l.drop (l.length-4)=w4 (crc (l.take (l.length-4)))
  ·rw[if_pos h2,if_pos h2]
  ·rw[if_neg h2,if_neg h2];rfl
theorem rseal_f (l:List UInt8) (h:l.length≤140737488355328):Q.sluicegateref04_Seal.f (B l)=some (B (sealL l)):=by
 unfold Q.sluicegateref04_Seal.f
 rw[rof_f l h]
 simp only[Option.bind_some]
 have e:strOfNums [((crc l).toNat:Int)%256,((crc l).toNat:Int)/256%256,((crc l).toNat:Int)/65536%256,((crc l).toNat:Int)/16777216%256]=B (w4 (crc l)):=le4_eq _
 rw[e,if_pos (by rw[B_size,B_size,w4_len];omega),B_append]
 rfl
theorem ropen_f (l:List UInt8) (h:l.length≤140737488355328):Q.sluicegateref04_Open.f (B l)=some (openL l):=by
 unfold openL
 unfold Q.sluicegateref04_Open.f
 rw[B_size,wrap_sub4 _ h]
 by_cases h4:l.length<4
 ·rw[if_pos (by omega),if_pos h4];rfl
 ·rw[if_neg (by omega),if_pos (by omega),if_pos (by omega),if_neg h4]
  have e:((l.length:Int)-4).toNat=l.length-4:=by omega
  rw[e,B_extract,List.drop_zero,Nat.sub_zero,rseal_f _ (by rw[List.length_take];omega)]
  simp only[Option.bind_some]
  rw[B_toList,B_toList]
  by_cases h2:l.drop (l.length-4)=w4 (crc (l.take (l.length-4)))
  ·rw[if_pos h2,if_pos (of_sealed ⟨by omega,h2⟩)]
  ·rw[if_neg h2,if_neg]
   ·rfl
   ·intro hs
    have:=sealed_seal (l.take (l.length-4))
    rw[hs]at this
    exact h2 this.2
end Go.Proofs.YtdcfonmjbelgbaaGreatDoor
end
