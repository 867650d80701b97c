/- Lemmas for the law StripeReads, merged out of several texts and cut down to what it names, by a program of this session (some of the first ones are of the words that print.sh wrote for this claim). -/
import Derived.Lib.Hide
import Derived.WalkSpells
import Derived.WalkLawsBesides
import Derived.Test.YtdcfonmjbelgbaaGreatDoorProg
import Derived.WalkKit
import Derived.Lib.FrozenHead2
import Derived.Lib.UnsafeStr
import Derived.Outline
import Derived.BigCall
import Derived.Shelf.RegionOpenPlain
import Derived.Laws.Externs
import Derived.Lib.OthersKept
import Derived.Below
import Derived.Laws.Tables
import Derived.Laws.Rows
import Derived.Maps.OwnSet
import Derived.RangeFuncNested
import Derived.RangeFuncLeaves
import Derived.Shelf.Abstract
import Derived.OwnWalkIn
import Derived.TacticsInMore
import Derived.LoopNIn
import Derived.LoopIn
import Derived.Lib.ConvBytes
import Derived.Test.YtdcfonmjbelgbaaGreatDoorKStripeReads1
import Derived.Test.YtdcfonmjbelgbaaGreatDoorKStripeReads2
import Derived.Test.YtdcfonmjbelgbaaGreatDoorKStripeReads3
import Derived.Test.YtdcfonmjbelgbaaGreatDoorKStripeReads4
set_option maxRecDepth 100000
set_option maxHeartbeats 8000000
set_option linter.unusedVariables false
set_option linter.unusedSimpArgs false
section
namespace Go.Proofs.YtdcfonmjbelgbaaGreatDoor
open Go.RowKit Q YtdcfonmjbelgbaaGreatDoorW.PrintWords YtdcfonmjbelgbaaGreatDoorW.PrintLast YtdcfonmjbelgbaaGreatDoorW.PrintMore
theorem wrapu7 (i:Nat) (hi:i≤7):IntKind.u64.wrap (wrap64 (7*(i:Int)))=((7*i:Nat):Int):=by
 have h1:wrap64 (7*(i:Int))=((7*i:Nat):Int):=by unfold wrap64;omega
 rw[h1]
 simp[IntKind.wrap,IntKind.bits,IntKind.signed]
 omega
theorem add_shl (n c i:Nat) (hn:n<2 ^ (7*i)) (hc:c<128) (hi:i≤7):wrap64 ((n:Int)+shl .i64 (c:Int) (IntKind.u64.wrap (wrap64 (7*(i:Int)))))=((n+c*2 ^ (7*i):Nat):Int):=by
 have hp:2 ^ (7*i)≤2 ^ 49:=Nat.pow_le_pow_right (by omega) (by omega)
 have hcp:c*2 ^ (7*i)≤127*2 ^ 49:=Nat.mul_le_mul (by omega) hp
 have h2:shl .i64 (c:Int) (IntKind.u64.wrap (wrap64 (7*(i:Int))))=((c*2 ^ (7*i):Nat):Int):=by
  rw[wrapu7 i hi]
  unfold shl
  rw[Int.toNat_natCast,Nat.min_eq_left (by show 7*i≤64;omega)]
  have e2:(c:Int)*2 ^ (7*i)=((c*2 ^ (7*i):Nat):Int):=by simp
  rw[e2]
  exact wraps_i64 _ (by omega) (by omega)
 rw[h2]
 generalize c*2 ^ (7*i)=x at hcp ⊢
 generalize 2 ^ (7*i)=y at hp hn
 unfold wrap64
 omega
theorem take_loop (l:List UInt8) (_hl:l.length≤140737488355328) (d:Nat) : ∀ (k i n:Nat),8-i=d→i≤7→i≤l.length→n<2 ^ (7*i)→2*d<k →
  sluicegateref05_Take.l0 k (B l) (n:Int) (i:Int)=some (((tk (l.drop i) i n).1:Int),B (tk (l.drop i) i n).2.1,(tk (l.drop i) i n).2.2):=by
 induction d with
 | zero=>intro k i n hd hi;omega
 | succ d ih=>
  intro k i n hd hi hil hn hk
  obtain⟨k,rfl⟩ : ∃ m,k=m+1+1:=⟨k-2,by omega⟩
  simp only[sluicegateref05_Take.l0]
  by_cases h1:i<l.length
  ·rw[if_pos (by rw[B_size];omega)]
   have hc:l.drop i=l.getD i 0::l.drop (i+1):=by
    rw[List.drop_eq_getElem_cons h1,List.getD_eq_getElem?_getD,List.getElem?_eq_getElem h1];rfl
   have hb:=bt_B l i
   rw[hc]
   generalize l.getD i 0=c at hb ⊢
   have hc8:=c.toNat_lt
   by_cases h7:i=7∧128≤c.toNat
   ·rw[if_pos (by omega),if_pos (by omega),hb]
    have e:decide ((c.toNat:Int)≥128)=true:=by simp;omega
    rw[e]
    simp only[sluicegateref05_Take.j1]
    rw[if_pos trivial]
    have:tk (c::l.drop (i+1)) i n=(0,[],4):=by rw[tk,if_pos h7.2,if_pos h7.1]
    rw[this]
    rfl
   ·have key:sluicegateref05_Take.j1 (k+1) (B l) (n:Int) (i:Int) false=some (((tk (c::l.drop (i+1)) i n).1:Int),B (tk (c::l.drop (i+1)) i n).2.1,(tk (c::l.drop (i+1)) i n).2.2):=by
     simp only[sluicegateref05_Take.j1]
     rw[if_neg (by decide),if_pos (by omega),if_pos (by rw[B_size];omega),if_pos (by rw[wrapu7 i hi];omega),hb]
     have em:wrap64 (Int.tmod (c.toNat:Int) 128)=((c.toNat%128:Nat):Int):=by
      rw[Int.tmod_eq_emod_of_nonneg (by omega)];unfold wrap64;omega
     rw[em,add_shl n (c.toNat%128) i hn (by omega) hi,wrap_succ i (by omega)]
     by_cases h128:c.toNat<128
     ·rw[if_pos (by omega),Nat.mod_eq_of_lt h128]
      have hend:(if 0≤((i+1:Nat):Int)then (if ((i+1:Nat):Int)≤((B l).size:Int)then (some (((n+c.toNat*2 ^ (7*i):Nat):Int),(B l).extract ((i+1:Nat):Int).toNat (B l).size,(0:Int)))else none)else none)=some (((n+c.toNat*2 ^ (7*i):Nat):Int),B (l.drop (i+1)),(0:Int)):=by
       rw[if_pos (by omega),if_pos (by rw[B_size];omega),Int.toNat_natCast,B_size,B_extract,List.take_of_length_le (by rw[List.length_drop];omega)]
      rw[hend]
      by_cases h0:c.toNat=0
      ·rw[if_pos (by omega)]
       by_cases hi0:0<i
       ·rw[if_pos (by omega)]
        have:tk (c::l.drop (i+1)) i n=(0,[],4):=by rw[tk,if_neg (by omega),if_pos ⟨h0,hi0⟩]
        rw[this]
        rfl
       ·rw[if_neg (by omega)]
        have:tk (c::l.drop (i+1)) i n=(n+c.toNat*2 ^ (7*i),l.drop (i+1),0):=by rw[tk,if_neg (by omega),if_neg (by omega)]
        rw[this]
      ·rw[if_neg (by omega)]
       have:tk (c::l.drop (i+1)) i n=(n+c.toNat*2 ^ (7*i),l.drop (i+1),0):=by rw[tk,if_neg (by omega),if_neg (by omega)]
       rw[this]
     ·rw[if_neg (by omega)]
      have h7':i≠7:=fun h=>h7 ⟨h,by omega⟩
      have e4:tk (c::l.drop (i+1)) i n=tk (l.drop (i+1)) (i+1) (n+(c.toNat-128)*2 ^ (7*i)):=by rw[tk,if_pos (by omega),if_neg h7']
      have e5:c.toNat%128=c.toNat-128:=by omega
      rw[e4,e5]
      refine ih k (i+1) _ (by omega) (by omega) (by omega) ?_ (by omega)
      rw[pow7 i]
      have:(c.toNat-128)*2 ^ (7*i)≤127*2 ^ (7*i):=Nat.mul_le_mul_right _ (by omega)
      omega
    by_cases h7':i=7
    ·rw[if_pos (by omega),if_pos (by omega),hb]
     have e:decide ((c.toNat:Int)≥128)=false:=by
      have : ¬ 128≤c.toNat:=fun h=>h7 ⟨h7',h⟩
      simp;omega
     rw[e]
     exact key
    ·rw[if_neg (by omega)]
     exact key
  ·rw[if_neg (by rw[B_size];omega),List.drop_eq_nil_of_le (by omega)]
   rfl
theorem take_f (l:List UInt8) (k:Nat) (hl:l.length≤140737488355328) (hk:20≤k):sluicegateref05_Take.f k (B l)=some (((tk l 0 0).1:Int),B (tk l 0 0).2.1,(tk l 0 0).2.2):=by
 unfold sluicegateref05_Take.f
 exact take_loop l hl 8 k 0 0 rfl (by omega) (by omega) (by simp) (by omega)
end Go.Proofs.YtdcfonmjbelgbaaGreatDoor
end
section
namespace Go.Proofs.YtdcfonmjbelgbaaGreatDoor
open Go.RowKit Q YtdcfonmjbelgbaaGreatDoorW.PrintWords YtdcfonmjbelgbaaGreatDoorW.PrintLast
def sluicegateref05_Reader_Number.f (k:Nat) (s:ByteArray) (e:Int):Option (Int×ByteArray×Int):=if e=0 then sluicegateref05_Take.f k s else some (0,s,e)
theorem sluicegateref05_Reader_Number.calls (k:Nat) (g:Nat) (s0_0:ByteArray) (s0_1:Int) (r1:Int) (r2:ByteArray) (r3:Int) (w0 w:World) (hI:IsS132 w0 w g s0_0 s0_1) (hB:Below w0.heap.size w0 w) (h:sluicegateref05_Reader_Number.f k s0_0 s0_1=some (r1,r2,r3)) :
  Calls Tryz.prog 80 #[.pointer (some ⟨g,0,none⟩)] w fun e w'=>e = .returned (.int .i64 r1)∧IsS132 w0 w' g r2 r3∧Below w0.heap.size w0 w'∧KeepBut w w' g none:=by
 have HI:=Lib.hid hI
 have HB:=Lib.hid hB
 have c0:=cellS132_0 hI.1
 have c1:=cellS132_1 hI.1
 clear hI hB
 unfold sluicegateref05_Reader_Number.f at h
 by_cases he:s0_1=0
 ·rw[if_pos he]at h
  subst he
  have H:=Lib.hid h
  clear h
  go_enter Tryz.func80,Tryz.ntmps80
  go_wp2_with fail
  refine(sluicegateref05_Take.calls k s0_0 r1 r2 r3 _ H.out).mono ?_
  rintro e w1 ⟨rfl,hd⟩
  have I1:=HI.out.below hd.below
  have K1:KeepBut w w1 g none:=KeepBut.of_below hd.below g none
  have B1:=Lib.hid (below_then HB.out HB.out.size hd.below)
  have d0:=cellS132_0 I1.1
  have d1:=cellS132_1 I1.1
  have f0:=blk_frozen I1.1 0
  have f1:=blk_frozen I1.1 1
  have J1:=Lib.hid I1
  have K1:=Lib.hid K1
  clear I1 hd c0 c1
  go_wp2
  go_ret
  exact⟨rfl,(J1.out.set_0 r2).set_1 r3,below_set (below_set B1.out J1.out.ge) J1.out.ge,(K1.out.set_ 0 _).set_ 1 _⟩
 ·rw[if_neg he]at h
  simp only[Option.some.injEq,Prod.mk.injEq]at h
  obtain⟨rfl,rfl,rfl⟩:=h
  have he1:(s0_1 != 0)=true:=bne_iff_ne.mpr he
  clear he
  go_enter Tryz.func80,Tryz.ntmps80
  go_wp2
  go_ret
  exact⟨rfl,HI.out,HB.out,KeepBut.refl _ _ _⟩
def sluicegateref05_Reader_Text.f (k:Nat) (s:ByteArray) (e:Int):Option (ByteArray×ByteArray×Int):=
 (sluicegateref05_Reader_Number.f k s e).bind fun t=>if t.2.2=0 then (if t.1>(t.2.1.size:Int)then some (⟨#[]⟩,⟨#[]⟩,3)else if 0≤t.1 then some (t.2.1.extract 0 t.1.toNat,t.2.1.extract t.1.toNat t.2.1.size,0)else none)else some (⟨#[]⟩,⟨#[]⟩,t.2.2)
theorem sluicegateref05_Reader_Text.calls (k:Nat) (g:Nat) (s0_0:ByteArray) (s0_1:Int) (r1:ByteArray) (r2:ByteArray) (r3:Int) (w0 w:World) (hI:IsS132 w0 w g s0_0 s0_1) (hB:Below w0.heap.size w0 w) (h:sluicegateref05_Reader_Text.f k s0_0 s0_1=some (r1,r2,r3)) :
  Calls Tryz.prog 81 #[.pointer (some ⟨g,0,none⟩)] w fun e w'=>e = .returned (.string r1)∧IsS132 w0 w' g r2 r3∧Below w0.heap.size w0 w'∧KeepBut w w' g none:=by
 unfold sluicegateref05_Reader_Text.f at h
 obtain⟨⟨n,s,e⟩,hn,h⟩:=Option.bind_eq_some_iff.mp h
 have HI:=Lib.hid hI
 have HB:=Lib.hid hB
 have HN:=Lib.hid hn
 clear hI hB hn
 simp only at h
 by_cases he:e=0
 ·rw[if_pos he]at h
  subst he
  by_cases hgt:n>(s.size:Int)
  ·rw[if_pos hgt]at h
   simp only[Option.some.injEq,Prod.mk.injEq]at h
   obtain⟨rfl,rfl,rfl⟩:=h
   go_enter Tryz.func81,Tryz.ntmps81
   go_wp2_with fail
   refine(sluicegateref05_Reader_Number.calls k g _ _ _ _ _ w0 _ HI.out HB.out HN.out).mono ?_
   rintro e w1 ⟨rfl,I1,B1,K1⟩
   have d0:=cellS132_0 I1.1
   have d1:=cellS132_1 I1.1
   have f0:=blk_frozen I1.1 0
   have f1:=blk_frozen I1.1 1
   have J1:=Lib.hid I1
   have K1:=Lib.hid K1
   have B1:=Lib.hid B1
   clear I1
   go_wp2_with fail
   go_ret
   exact⟨rfl,(J1.out.set_1 3).set_0 _,below_set (below_set B1.out J1.out.ge) J1.out.ge,(K1.out.set_ 1 _).set_ 0 _⟩
  ·rw[if_neg hgt]at h
   by_cases h0:0≤n
   ·rw[if_pos h0]at h
    simp only[Option.some.injEq,Prod.mk.injEq]at h
    obtain⟨rfl,rfl,rfl⟩:=h
    have hle:n≤(s.size:Int):=by omega
    clear hgt
    obtain⟨n,rfl⟩:=Int.eq_ofNat_of_zero_le h0
    rw[Int.toNat_natCast]
    have hle':n≤s.size:=by omega
    go_enter Tryz.func81,Tryz.ntmps81
    go_wp2_with fail
    refine(sluicegateref05_Reader_Number.calls k g _ _ _ _ _ w0 _ HI.out HB.out HN.out).mono ?_
    rintro e w1 ⟨rfl,I1,B1,K1⟩
    have d0:=cellS132_0 I1.1
    have d1:=cellS132_1 I1.1
    have f0:=blk_frozen I1.1 0
    have f1:=blk_frozen I1.1 1
    have J1:=Lib.hid I1
    have K1:=Lib.hid K1
    have B1:=Lib.hid B1
    clear I1
    go_wp2_with fail
    go_ret
    exact⟨rfl,J1.out.set_0 _,below_set B1.out J1.out.ge,K1.out.set_ 0 _⟩
   ·rw[if_neg h0]at h
    cases h
 ·rw[if_neg he]at h
  simp only[Option.some.injEq,Prod.mk.injEq]at h
  obtain⟨rfl,rfl,rfl⟩:=h
  have he1:(e != 0)=true:=bne_iff_ne.mpr he
  have he2:(e==0)=false:=beq_eq_false_iff_ne.mpr he
  clear he
  go_enter Tryz.func81,Tryz.ntmps81
  go_wp2_with fail
  refine(sluicegateref05_Reader_Number.calls k g _ _ _ _ _ w0 _ HI.out HB.out HN.out).mono ?_
  rintro e w1 ⟨rfl,I1,B1,K1⟩
  have d0:=cellS132_0 I1.1
  have d1:=cellS132_1 I1.1
  have f0:=blk_frozen I1.1 0
  have f1:=blk_frozen I1.1 1
  have J1:=Lib.hid I1
  have K1:=Lib.hid K1
  have B1:=Lib.hid B1
  clear I1
  go_wp2_with fail
  go_ret
  exact⟨rfl,J1.out.set_0 _,below_set B1.out J1.out.ge,K1.out.set_ 0 _⟩
end Go.Proofs.YtdcfonmjbelgbaaGreatDoor
end
section
namespace Go.Proofs.YtdcfonmjbelgbaaGreatDoor
open Go.RowKit Q YtdcfonmjbelgbaaGreatDoorW.PrintWords YtdcfonmjbelgbaaGreatDoorW.PrintLast YtdcfonmjbelgbaaGreatDoorW.PrintMore
def nx (s:List UInt8×Int):Nat×List UInt8×Int:=if s.2=0 then tk s.1 0 0 else (0,s.1,s.2)
def tx (s:List UInt8×Int):List UInt8×List UInt8×Int:=if s.2=0 then tkT s.1 else ([],s.1,s.2)
def rdn (l:List UInt8):Nat→List UInt8×Int
 | 0=>(l,0)
 | k+1=>(nx (rdn l k)).2
def val (l:List UInt8) (k:Nat):Nat:=(nx (rdn l k)).1
def endE (s:List UInt8×Int):Int:=if s.1=[]then s.2 else 4
theorem nx_le (s:List UInt8×Int):(nx s).2.1.length≤s.1.length:=by
 unfold nx
 split
 ·exact tk_le _ _ _
 ·exact Nat.le_refl _
theorem rdn_le (l:List UInt8) (k:Nat):(rdn l k).1.length≤l.length:=by
 induction k with
 | zero=>exact Nat.le_refl _
 | succ k ih=>exact Nat.le_trans (nx_le _) ih
theorem rnx_f (s:List UInt8×Int) (h:s.1.length≤140737488355328):pack_Reader_Number.f 20 (B s.1) s.2=some (((nx s).1:Int),B (nx s).2.1,(nx s).2.2):=by
 obtain⟨l,e⟩:=s
 unfold nx
 simp only
 by_cases he:e=0
 ·subst he
  rw[if_pos rfl]
  exact rnum_f l 20 h (Nat.le_refl _)
 ·rw[if_neg he]
  exact rnum_err (B l) e 20 he
theorem rtx_f (s:List UInt8×Int) (h:s.1.length≤140737488355328):pack_Reader_Text.f 21 (B s.1) s.2=some (B (tx s).1,B (tx s).2.1,(tx s).2.2):=by
 obtain⟨l,e⟩:=s
 unfold tx
 simp only
 by_cases he:e=0
 ·subst he
  rw[if_pos rfl]
  exact rtext_f l 21 h (Nat.le_refl _)
 ·rw[if_neg he]
  exact rtext_err (B l) e 21 he (by decide)
theorem rend_f (s:List UInt8×Int):pack_Reader_End.f (B s.1) s.2=some (endE s,B [],endE s)∨pack_Reader_End.f (B s.1) s.2=some (endE s,B s.1,endE s):=by
 obtain⟨l,e⟩:=s
 unfold pack_Reader_End.f endE
 simp only
 rw[B_toList]
 by_cases h:l=[]
 ·rw[if_pos h,if_pos h]
  exact .inr rfl
 ·rw[if_neg h,if_neg h]
  exact .inl rfl
def rtx (s:List UInt8×Int):List UInt8×List UInt8×Int:=if s.2=0 then tkT s.1 else ([],[],s.2)
def rend (s:List UInt8×Int):Int:=if s.2=0 then (if s.1=[]then 0 else 4)else s.2
theorem rrn_f (s:List UInt8×Int) (h:s.1.length≤140737488355328):sluicegateref05_Reader_Number.f 20 (B s.1) s.2=some (((nx s).1:Int),B (nx s).2.1,(nx s).2.2):=by
 obtain⟨l,e⟩:=s
 unfold nx sluicegateref05_Reader_Number.f
 simp only
 by_cases he:e=0
 ·rw[if_pos he,if_pos he]
  exact take_f l 20 h (Nat.le_refl _)
 ·rw[if_neg he,if_neg he]
  rfl
theorem rrt_f (s:List UInt8×Int) (h:s.1.length≤140737488355328):sluicegateref05_Reader_Text.f 20 (B s.1) s.2=some (B (rtx s).1,B (rtx s).2.1,(rtx s).2.2):=by
 unfold sluicegateref05_Reader_Text.f
 rw[rrn_f s h,Option.bind_some]
 obtain⟨l,e⟩:=s
 unfold nx rtx
 simp only
 by_cases he:e=0
 ·rw[if_pos he,if_pos he]
  unfold tkT
  generalize tk l 0 0=t
  obtain⟨v,r,e2⟩:=t
  simp only
  by_cases h2:e2=0
  ·have h2' : ¬ (e2≠0):=fun h=>h h2
   rw[if_pos h2,if_neg h2']
   by_cases h3:r.length<v
   ·have h3':(v:Int)>((B r).size:Int):=by rw[B_size];omega
    rw[if_pos h3',if_pos h3]
    rfl
   ·have h3' : ¬ (v:Int)>((B r).size:Int):=by rw[B_size];omega
    have h3'':0≤(v:Int):=by omega
    rw[if_neg h3',if_neg h3,if_pos h3'',B_extract,B_extract,Int.toNat_natCast,List.drop_zero,B_size]
    rw[List.take_of_length_le (l:=List.drop _ _) (by rw[List.length_drop];exact Nat.le_refl _)]
    rfl
  ·rw[if_neg h2,if_pos h2]
   rfl
 ·rw[if_neg he,if_neg he]
  simp only
  rw[if_neg he]
  rfl
theorem rre_f (s:List UInt8×Int):sluicegateref05_Reader_End.f (B s.1) s.2=some (rend s,B s.1,rend s):=by
 obtain⟨l,e⟩:=s
 unfold sluicegateref05_Reader_End.f rend
 simp only
 rw[B_toList]
 by_cases he:e=0
 ·rw[if_pos he,if_pos he]
  by_cases h:l=[]
  ·rw[if_pos h,if_pos h,he]
  ·rw[if_neg h,if_neg h]
 ·rw[if_neg he,if_neg he]
theorem rtx_1 (s:List UInt8×Int):(rtx s).1=(tx s).1:=by
 unfold rtx tx
 split<;>rfl
theorem rend_iff (s:List UInt8×Int):rend (rtx s).2=0↔endE (tx s).2=0:=by
 unfold rtx tx
 by_cases h:s.2=0
 ·rw[if_pos h,if_pos h]
  unfold rend endE
  generalize (tkT s.1).2=t
  by_cases h1:t.2=0
  ·rw[if_pos h1]
   by_cases h2:t.1=[]
   ·rw[if_pos h2,if_pos h2,h1]
   ·rw[if_neg h2,if_neg h2]
  ·rw[if_neg h1]
   by_cases h2:t.1=[]
   ·rw[if_pos h2]
   ·rw[if_neg h2]
    exact⟨fun h=>absurd h h1,fun h=>absurd h (by decide)⟩
 ·rw[if_neg h,if_neg h]
  unfold rend endE
  simp only
  rw[if_neg h]
  by_cases h2:s.1=[]
  ·rw[if_pos h2]
  ·rw[if_neg h2]
   exact⟨fun h'=>absurd h' h,fun h=>absurd h (by decide)⟩
theorem nx_inv (s:List UInt8×Int) (h:(nx s).2.2=0):s.2=0∧s.1=enc (nx s).1++(nx s).2.1:=by
 unfold nx at h ⊢
 by_cases hs:s.2=0
 ·rw[if_pos hs]at h ⊢
  refine⟨hs,(tk_inv0 (v:=(tk s.1 0 0).1) (r:=(tk s.1 0 0).2.1) ?_).1⟩
  rw[←h]
 ·rw[if_neg hs]at h
  exact absurd h hs
theorem tx_inv (s:List UInt8×Int) (h:endE (tx s).2=0):s.2=0∧s.1=txt (tx s).1:=by
 unfold endE at h
 by_cases h1:(tx s).2.1=[]
 ·rw[if_pos h1]at h
  unfold tx at h h1 ⊢
  by_cases hs:s.2=0
  ·rw[if_pos hs]at h h1 ⊢
   refine⟨hs,?_⟩
   have:=(tkT_inv (l:=s.1) (s:=(tkT s.1).1) (r:=[]) (by rw[←h1,←h])).1
   rw[List.append_nil]at this
   exact this
  ·rw[if_neg hs]at h
   exact absurd h hs
 ·rw[if_neg h1]at h
  exact absurd h (by decide)
theorem nx_enc (m:Nat) (r:List UInt8) (h:m<2 ^ 56):nx (enc m++r,0)=(m,r,0):=by
 unfold nx
 simp only[if_true]
 exact tk_zero m r h
end Go.Proofs.YtdcfonmjbelgbaaGreatDoor
end
section
namespace Go.Proofs.YtdcfonmjbelgbaaGreatDoor
open Go.RowKit Q YtdcfonmjbelgbaaGreatDoorW.PrintWords YtdcfonmjbelgbaaGreatDoorW.PrintLast YtdcfonmjbelgbaaGreatDoorW.PrintMore
def encK (l:List Nat):Nat→List UInt8
 | 0=>[]
 | k+1=>encK l k++enc (l.getD k 0)
theorem encK_len (l:List Nat) (h : ∀ k,l.getD k 0<2 ^ 56) (k:Nat):(encK l k).length≤8*k:=by
 induction k with
 | zero=>exact Nat.le_refl _
 | succ k ih=>
  rw[encK,List.length_append]
  have:=enc_len8 (h k)
  omega
theorem number_B (n:Nat) (h:n<2 ^ 56) (w:World):Calls Tryz.prog 67 #[.int .i64 (n:Int)] w fun e w'=>e = .returned (.string (B (enc n)))∧Below w.heap.size w w':=
 pack_Number.calls 20 _ _ w (number_f n 20 h (Nat.le_refl _))
end Go.Proofs.YtdcfonmjbelgbaaGreatDoor
end
section
namespace Go.Proofs.YtdcfonmjbelgbaaGreatDoor
open Go.RowKit
def BT (T:TypeId):Prop:=T≠5∧liesAt Tryz.prog Tryz.prog.depth T (2/Tryz.prog.cellsOf T) 0 112 1=true
theorem bt_builder:BT 112:=⟨by decide,by kernel_rfl⟩
def BdAt (B b:Nat) (p v:Value) (l:List UInt8) (w:World):Prop:=
 ∃ T,BT T∧w.heap[b]? = some (.cells #[p,v] T (0,0))∧w.ownsRowF B 5 1 v l.length (Lib.byteCells l)∧v.ownBlock≠some b∧(l=[]→v = .slice none 0 0)
def Bd (B b:Nat) (l:List UInt8) (w:World):Prop:=
 ∃ p v,(p = .pointer none∨p = .pointer (some ⟨b,0,none⟩))∧BdAt B b p v l w
structure Bf (B b:Nat) (w w':World):Prop where
 os:w'.os=w.os
 tape:w'.tape=w.tape
 output:w'.output=w.output
 size:w.heap.size≤w'.heap.size
 block : ∀ k,k<B→k≠b→w'.heap[k]? = w.heap[k]?
theorem Bf.refl (B b:Nat) (w:World):Bf B b w w:=⟨rfl,rfl,rfl,Nat.le_refl _,fun _ _ _=>rfl⟩
theorem Bf.trans {B b:Nat} {w w1 w2:World} (h:Bf B b w w1) (k:Bf B b w1 w2):Bf B b w w2:=
 ⟨k.os.trans h.os,k.tape.trans h.tape,k.output.trans h.output,Nat.le_trans h.size k.size,fun i hi hne=>(k.block i hi hne).trans (h.block i hi hne)⟩
theorem Bf.below {B b S:Nat} {w w':World} (h:Bf B b w w') (h1:S≤B) (h2:S≤b):Below S w w':=
 ⟨h.os,h.tape,h.output,h.size,fun k hk=>h.block k (by omega) (by omega)⟩
theorem Bf.of_below {B b:Nat} {w w':World} (h:Below w.heap.size w w') (hB:B≤w.heap.size):Bf B b w w':=
 ⟨h.os,h.tape,h.output,h.size,fun k hk _=>h.block k (by omega)⟩
theorem Bf.cell {B b:Nat} {w w':World} (h:Bf B b w w') {a:Addr} {v:Value} (hc:w.cell? a=some v) (h1:a.block<B) (h2:a.block≠b):w'.cell? a=some v:=
 (World.cell?_of_block (h.block a.block h1 h2)).trans hc
theorem BdAt.keep {B b:Nat} {p v:Value} {l:List UInt8} {w w':World} (h:BdAt B b p v l w) (hk : ∀ k,k<w.heap.size→w'.heap[k]? = w.heap[k]?):BdAt B b p v l w':=by
 obtain⟨T,hT,h1,h2,h3,h4⟩:=h
 have hlt:=(Array.getElem?_eq_some_iff.1 h1).1
 refine⟨T,hT,(hk b hlt).trans h1,⟨h2.1,?_⟩,h3,h4⟩
 rcases h2.2 with hn|⟨g,cap,cur,fz,rfl,hb,hg,rest⟩
 ·exact .inl hn
 ·exact .inr ⟨g,cap,cur,fz,rfl,hb,(hk g (Array.getElem?_eq_some_iff.1 hg).1).trans hg,rest⟩
theorem Bd.keep {B b:Nat} {l:List UInt8} {w w':World} (h:Bd B b l w) (hb:Below w.heap.size w w'):Bd B b l w':=by
 obtain⟨p,v,hp,h⟩:=h
 exact⟨p,v,hp,h.keep hb.block⟩
theorem Bd.freshT {T:TypeId} (hT:BT T) (B b:Nat) (w:World) (h:w.heap[b]? = some (.cells #[.pointer none,.slice none 0 0] T (0,0))):Bd B b [] w:=
 ⟨_,_,.inl rfl,T,hT,h,World.ownsRowF_nil w B _ 1,by simp[Value.ownBlock],fun _=>rfl⟩
theorem Bd.fresh (B b:Nat) (w:World) (h:w.heap[b]? = some (.cells #[.pointer none,.slice none 0 0] 112 (0,0))):Bd B b [] w:=Bd.freshT bt_builder B b w h
theorem Bd.new (B:Nat) (w:World):Bd B w.heap.size [] (w.alloc (.cells #[.pointer none,.slice none 0 0] 112)):=
 Bd.fresh B _ _ (heap_alloc_new w _)
theorem bcc_fresh (B b:Nat) (v:Value) (l:List UInt8) (w:World) (h:BdAt B b (.pointer none) v l w) :
  Calls Tryz.prog 86 #[.pointer (some ⟨b,0,none⟩)] w fun e w'=>e = .returned (.tuple #[])∧w'=w.setCell ⟨b,0,none⟩ (.pointer (some ⟨b,0,none⟩)):=by
 obtain⟨T,hT,h⟩:=h
 have h0:w.cell? ⟨b,0,none⟩=some (.pointer none):=by simp[World.cell?,h.1]
 have hsh:w.shape? b=some (T,2):=by simp[World.shape?,h.1]
 have hfz:w.frozen? ⟨b,0,none⟩=false:=by simp[World.frozen?,h.1]
 obtain⟨j,hj,hjs⟩:=Option.map_eq_some_iff.1 (show (Tryz.prog.info? 112).map (·.size)=some 2 by kernel_rfl)
 clear h
 go_enter Tryz.func86,Tryz.ntmps86
 go_wp2
 rw[Lib.run_to_unsafe w ⟨b,0,none⟩ (t:=112) (by kernel_rfl) (by kernel_rfl) hj (by rw[hjs];decide) hsh (Nat.zero_lt_succ 1)]
 simp only[Result.andThen]
 rw[Oper.upon_value]
 go_wp2
 rw[run_callFunc_extern Tryz.func107 (by kernel_rfl) (by kernel_rfl) (by kernel_rfl) (e:=Extern.AbiNoEscape.same) (by kernel_rfl)]
 rw[Lib.run_noEscape]
 simp only[Result.andThen]
 rw[Oper.upon_value]
 go_wp2
 rw[Lib.run_from_unsafe w ⟨b,0,none⟩ (u:=112) (by kernel_rfl) (by kernel_rfl) hj hsh hT.2]
 simp only[Result.andThen]
 rw[Oper.upon_value]
 go_wp2
 go_end0
 exact⟨rfl,rfl⟩
theorem bcc_used (B b:Nat) (v:Value) (l:List UInt8) (w:World) (h:BdAt B b (.pointer (some ⟨b,0,none⟩)) v l w) :
  Calls Tryz.prog 86 #[.pointer (some ⟨b,0,none⟩)] w fun e w'=>e = .returned (.tuple #[])∧w'=w:=by
 obtain⟨T,hT,h⟩:=h
 have h0:w.cell? ⟨b,0,none⟩=some (.pointer (some ⟨b,0,none⟩)):=by simp[World.cell?,h.1]
 obtain⟨j,hj,_⟩:=Option.map_eq_some_iff.1 (show (Tryz.prog.info? 112).map (·.size)=some 2 by kernel_rfl)
 clear h
 go_enter Tryz.func86,Tryz.ntmps86
 go_wp2
 rw[Lib.run_neq_ptr_same w _ (te:=112) (by kernel_rfl) hj]
 go_wp2
 go_end0
 exact⟨rfl,rfl⟩
theorem BdAt.used {B b:Nat} {p v:Value} {l:List UInt8} {w:World} (h:BdAt B b p v l w) (q:Value):BdAt B b q v l (w.setCell ⟨b,0,none⟩ q):=by
 obtain⟨T,hT,h1,h2,h3,h4⟩:=h
 refine⟨T,hT,?_,?_,h3,h4⟩
 ·simp[World.setCell,Array.getElem?_modify,h1]
 ·exact h2.kept (row:=some b) ⟨rfl,rfl,rfl,by simp[World.setCell],fun k _ hk=>Below.heap_setCell _ _ _ _ (fun e=>hk (by simp[e]))⟩ (Or.inr h3)
structure Cf (b:Nat) (w w':World):Prop where
 os:w'.os=w.os
 tape:w'.tape=w.tape
 output:w'.output=w.output
 size:w'.heap.size=w.heap.size
 block : ∀ k,k≠b→w'.heap[k]? = w.heap[k]?
theorem bcc (B b:Nat) (l:List UInt8) (w:World) (h:Bd B b l w) :
  Calls Tryz.prog 86 #[.pointer (some ⟨b,0,none⟩)] w fun e w'=>e = .returned (.tuple #[])∧(∃ v,BdAt B b (.pointer (some ⟨b,0,none⟩)) v l w')∧Cf b w w':=by
 obtain⟨p,v,rfl|rfl,h⟩:=h
 ·refine(bcc_fresh B b v l w h).mono ?_
  rintro e w' ⟨rfl,rfl⟩
  exact⟨rfl,⟨v,h.used _⟩,⟨rfl,rfl,rfl,by simp[World.setCell],fun k hk=>Below.heap_setCell _ _ _ _ (fun e=>hk e)⟩⟩
 ·refine(bcc_used B b v l w h).mono ?_
  rintro e w' ⟨rfl,rfl⟩
  exact⟨rfl,⟨v,h⟩,⟨rfl,rfl,rfl,rfl,fun _ _=>rfl⟩⟩
theorem BdAt.put {B b:Nat} {p v v':Value} {l':List UInt8} {w:World} {T:TypeId} (hT:BT T) (hb:w.heap[b]? = some (.cells #[p,v] T (0,0))) (hown:w.ownsRowF B 5 1 v' l'.length (Lib.byteCells l')) (h0:l'=[]→v' = .slice none 0 0) :
  BdAt B b p v' l' (w.setCell ⟨b,1,none⟩ v'):=by
 have hne:=Lib.ownBlock_neF hown hb hT.1
 refine⟨T,hT,?_,?_,hne,h0⟩
 ·simp[World.setCell,Array.getElem?_modify,hb]
 ·exact hown.kept (row:=some b) ⟨rfl,rfl,rfl,by simp[World.setCell],fun k _ hk=>Below.heap_setCell _ _ _ _ (fun e=>hk (by simp[e]))⟩ (Or.inr hne)
theorem Bf.write {B b:Nat} {v v':Value} {l:List UInt8} {w w1 w1' w2:World} (hc:Cf b w w1) (hB:B≤w.heap.size) (ha:Below w1.heap.size w1 w1') (hown:w1'.ownsRowF B 5 1 v l.length (Lib.byteCells l)) (hg:w1'.grownBy w2 v.ownBlock) :
  Bf B b w (w2.setCell ⟨b,1,none⟩ v'):=by
 have hs:=hc.size
 refine⟨hg.os.trans (ha.os.trans hc.os),hg.tape.trans (ha.tape.trans hc.tape),hg.output.trans (ha.output.trans hc.output),?_,fun k hk hne=> ?_⟩
 ·have:=ha.size;have:=hg.size;simp[World.setCell];omega
 ·have hlt:=hown.lt
  rw[show (w2.setCell ⟨b,1,none⟩ v').heap[k]? = w2.heap[k]? from Below.heap_setCell _ _ _ _ (fun e=>hne e),hg.block k (by have:=ha.size;omega) (fun e=>by have:=hlt k e.symm;omega),ha.block k (by omega),hc.block k hne]
theorem info8 : ∃ i,Tryz.prog.info? 5=some i∧i.zero=some (.int .u8 0)∧i.size=1∧i.bytes=1:=info_parts (by kernel_rfl)
theorem bString_cons (B b:Nat) (l:List UInt8) (w:World) (h:Bd B b l w) (h0:l≠[]) :
  Calls Tryz.prog 68 #[.pointer (some ⟨b,0,none⟩)] w fun e w'=>e = .returned (.string ⟨l.toArray⟩)∧Bf B b w w':=by
 obtain⟨p,v,hp,T,hT,hbk,hown,hne,_⟩:=h
 have hl0:l.length≠0:=by simpa using h0
 obtain⟨g,cap,cur,fz,rfl,hbg,hg,hfz,hnc,hcm,hcs,htake⟩ : ∃ g cap cur fz,v = .slice (some ⟨g,0,none⟩) l.length cap∧B≤g∧w.heap[g]? = some (.cells cur 5 fz)∧fz.2≤l.length*1∧l.length≤cap∧cap≤maxLen∧cur.size=cap*1∧cur.toList.take (l.length*1)=Lib.byteCells l:=by
  rcases hown.2 with ⟨_,hz⟩|⟨g,cap,cur,fz,hv,r⟩
  ·exact absurd hz hl0
  ·exact⟨g,cap,cur,fz,hv,r⟩
 have c1:w.drew.cell? ⟨b,1,none⟩=some (.slice (some ⟨g,0,none⟩) l.length cap):=by
  have:w.drew.heap[b]? = some (.cells #[p,.slice (some ⟨g,0,none⟩) l.length cap] T (0,0)):=hbk
  rw[Lib.cell_of_heap this];rfl
 have hSD:(Builtin.unsafeSliceData_ #[80] 137 #[.slice (some ⟨g,0,none⟩) l.length cap]).run Tryz.prog w.drew = .ok (.pointer (some ⟨g,0,none⟩)) w.drew:=
  Lib.run_unsafeSliceData_row _ _ _ _ _ _ (by omega)
 have hUS:(Builtin.unsafeString_ #[137,3] 9 #[.pointer (some ⟨g,0,none⟩),.int .i64 l.length]).run Tryz.prog w.drew = .ok (.string ⟨l.toArray⟩) (w.drew.freeze ⟨g,0,none⟩ l.length):=by
  refine Lib.run_unsafeString_row w.drew 137 3 9 5 (by kernel_rfl) (by kernel_rfl) g cur.size (by have hg':w.drew.heap[g]? = some (.cells cur 5 fz):=hg;simp[World.shape?,hg']) l h0 (by omega) (by unfold maxLen at hcm;omega) ?_
  intro j x hx
  have:=hown.cells (g:=g) rfl j (.int .u8 x.toNat) (by simp[Lib.byteCells,hx])
  exact this
 have hfin:Bf B b w (w.drew.freeze ⟨g,0,none⟩ l.length):=by
  have:=Lib.below_freeze (Below.drew (Below.refl B w)) (p:=⟨g,0,none⟩) hbg l.length
  exact⟨this.os,this.tape,this.output,this.size,fun k hk _=>this.block k hk⟩
 have HF:=Lib.hid hfin
 have mixed:Tryz.prog.follows Departure.mixedOrders=true:=by kernel_rfl
 clear hfin hown hp hbk
 go_enter Tryz.func68,Tryz.ntmps68
 go_wp2
 go_region_o
 all_goals (go_wp2;go_ret;exact⟨rfl,HF.out⟩)
theorem bString_nil (B b:Nat) (w:World) (h:Bd B b [] w) :
  Calls Tryz.prog 68 #[.pointer (some ⟨b,0,none⟩)] w fun e w'=>e = .returned (.string ⟨#[]⟩)∧Bf B b w w':=by
 obtain⟨p,v,hp,T,hT,hbk,hown,hne,hv⟩:=h
 obtain rfl:=hv rfl
 have hUS : ∀ W,(Builtin.unsafeString_ #[137,3] 9 #[.pointer none,.int .i64 0]).run Tryz.prog W = .ok (.string .empty) W:=fun W=>Lib.run_unsafeString_none W _ _ _ none
 have c1:w.drew.cell? ⟨b,1,none⟩=some (.slice none 0 0):=by
  have:w.drew.heap[b]? = some (.cells #[p,.slice none 0 0] T (0,0)):=hbk
  rw[Lib.cell_of_heap this];rfl
 have hSD : ∀ W,(Builtin.unsafeSliceData_ #[80] 137 #[.slice none 0 0]).run Tryz.prog W = .ok (.pointer none) W:=fun _=>rfl
 have hfin:Bf B b w w.drew:=by
  have:=Below.drew (Below.refl B w)
  exact⟨this.os,this.tape,this.output,this.size,fun k hk _=>this.block k hk⟩
 have HF:=Lib.hid hfin
 have mixed:Tryz.prog.follows Departure.mixedOrders=true:=by kernel_rfl
 clear hfin hown hp hbk hv
 go_enter Tryz.func68,Tryz.ntmps68
 go_wp2
 go_region_o
 all_goals (go_wp2;go_ret;exact⟨rfl,HF.out⟩)
theorem bString (B b:Nat) (l:List UInt8) (w:World) (h:Bd B b l w) :
  Calls Tryz.prog 68 #[.pointer (some ⟨b,0,none⟩)] w fun e w'=>e = .returned (.string ⟨l.toArray⟩)∧Bf B b w w':=by
 cases l with
 | nil=>exact bString_nil B b w h
 | cons x r=>exact bString_cons B b (x::r) w h (by simp)
end Go.Proofs.YtdcfonmjbelgbaaGreatDoor
end
section
namespace Go.Proofs.YtdcfonmjbelgbaaGreatDoor
open Go.RowKit
theorem strCells_bytes (m:List UInt8):Lib.strCells (⟨m.toArray⟩:ByteArray)=Lib.byteCells m:=by
 simp[Lib.strCells,Lib.byteCells]
def Keeps (b:Nat) (w w':World):Prop:= ∀ k c T f,w.heap[k]? = some (.cells c T f)→T≠5→k≠b→w'.heap[k]? = w.heap[k]?
theorem bWriteStringK (B b:Nat) (l m:List UInt8) (w:World) (h:Bd B b l w) (hm0:m≠[]) (hlen:l.length+m.length≤140737488355328) (hB:B≤w.heap.size) :
  Calls Tryz.prog 66 #[.pointer (some ⟨b,0,none⟩),.string ⟨m.toArray⟩] w fun e w'=>e = .returned (.tuple #[.int .i64 m.length,.nilIface])∧Bd B b (l++m) w'∧Bf B b w w'∧Keeps b w w':=by
 obtain⟨i0,hi,hz0,hz1,hz2⟩:=info8
 have hsz:(⟨m.toArray⟩:ByteArray).size=m.length:=by
  show m.toArray.size=m.length
  exact List.size_toArray
 have HH:=Lib.hid h
 have HL:=Lib.hid hlen
 have HB:=Lib.hid hB
 have H0:=Lib.hid hm0
 have HSC:=Lib.hid (strCells_bytes m)
 clear h hlen hB hm0
 generalize (⟨m.toArray⟩:ByteArray)=ms at *
 go_enter Tryz.func66,Tryz.ntmps66
 go_wp2_with (go_at_call 86;refine(bcc B b l _ HH.out).mono ?_)
 rintro e w1 ⟨rfl,⟨v,hA⟩,hcf⟩
 obtain⟨T,hT,hbk,hown,hne,h00⟩:=hA
 have HA:Hid (BdAt B b (.pointer (some ⟨b,0,none⟩)) v l w1):=Lib.hid ⟨T,hT,hbk,hown,hne,h00⟩
 have HCF:=Lib.hid hcf
 clear hcf h00
 have c0:w1.cell? ⟨b,0,none⟩=some (.pointer (some ⟨b,0,none⟩)):=by rw[Lib.cell_of_heap hbk];rfl
 have c1:w1.cell? ⟨b,1,none⟩=some v:=by rw[Lib.cell_of_heap hbk];rfl
 go_wp2_with (at_builtin;refine Lib.wpList_append_own_stringF _ rfl _ _ 80 9 rfl B 5 i0 (by kernel_rfl) (by kernel_rfl) hi hz0 hz1 hz2 _ _ _ rfl hown ms rfl ?c1 ?c2 ?c3 ?_)
 case c1=>have:=HL.out;rw[hsz];unfold maxLen;omega
 case c2=>have:=HL.out;rw[hsz];omega
 case c3=>have:=HB.out;have:=HCF.out.size;omega
 intro v' w2 hown' hgrow hv'
 have hlt:b<w1.heap.size:=(Array.getElem?_eq_some_iff.1 hbk).1
 have hb2:w2.heap[b]? = some (.cells #[.pointer (some ⟨b,0,none⟩),v] T (0,0)):=by
  rw[hgrow.block b hlt (fun e=>hne e.symm)]
  exact hbk
 have d0:w2.cell? ⟨b,0,none⟩=some (.pointer (some ⟨b,0,none⟩)):=by rw[Lib.cell_of_heap hb2];rfl
 have d1:w2.cell? ⟨b,1,none⟩=some v:=by rw[Lib.cell_of_heap hb2];rfl
 have f1:w2.frozen? ⟨b,1,none⟩=false:=Lib.frozen_of_heap hb2 1
 have hcs:Lib.byteCells (l++m)=Lib.byteCells l++Lib.strCells ms:=by rw[Lib.byteCells_append,HSC.out]
 have HP:Hid (BdAt B b (.pointer (some ⟨b,0,none⟩)) v' (l++m) (w2.setCell ⟨b,1,none⟩ v')):=Lib.hid (BdAt.put hT hb2 (by rw[List.length_append,hcs];exact hown') (fun h=>absurd (List.append_eq_nil_iff.1 h).2 H0.out))
 have HQ:Hid (Bf B b w (w2.setCell ⟨b,1,none⟩ v')):=Lib.hid (Bf.write (l:=l) HCF.out HB.out (Below.refl _ _) hown hgrow)
 have HKE:Hid (Keeps b w (w2.setCell ⟨b,1,none⟩ v')):=Lib.hid (fun k c T2 f hk hT2 hkb=>by
  have h1:w1.heap[k]? = w.heap[k]? :=HCF.out.block k hkb
  have hkl:k<w1.heap.size:=(Array.getElem?_eq_some_iff.1 (h1.trans hk)).1
  have h2:w2.heap[k]? = w1.heap[k]? :=hgrow.block k hkl (fun e=>by
   obtain⟨c2,f2,h3⟩:=Lib.ownsRowF_kind hown k e.symm
   rw[h1.trans hk]at h3
   exact hT2 (by injection h3 with h3;injection h3))
  exact(Below.heap_setCell _ _ _ _ (fun e=>hkb e)).trans (h2.trans h1))
 obtain⟨g,cap,rfl⟩ : ∃ g cap,v' = .slice (some ⟨g,0,none⟩) (l.length+m.length) cap:=by
  rcases hown'.2 with ⟨_,h0⟩|⟨g,cap,cur,fz,hv,_⟩
  ·have:=H0.out
   have:m.length≠0:=by simpa using this
   omega
  ·exact⟨g,cap,hv⟩
 clear hv' hgrow hown' hown hbk hb2 hcs
 go_wp2
 go_ret2
 exact⟨rfl,⟨_,_,.inr rfl,HP.out⟩,HQ.out,HKE.out⟩
theorem bWriteString (B b:Nat) (l m:List UInt8) (w:World) (h:Bd B b l w) (hm0:m≠[]) (hlen:l.length+m.length≤140737488355328) (hB:B≤w.heap.size) :
  Calls Tryz.prog 66 #[.pointer (some ⟨b,0,none⟩),.string ⟨m.toArray⟩] w fun e w'=>e = .returned (.tuple #[.int .i64 m.length,.nilIface])∧Bd B b (l++m) w'∧Bf B b w w':=by
 refine(bWriteStringK B b l m w h hm0 hlen hB).mono ?_
 rintro e w' ⟨h1,h2,h3,_⟩
 exact⟨h1,h2,h3⟩
end Go.Proofs.YtdcfonmjbelgbaaGreatDoor
end
section
namespace Go.Proofs.YtdcfonmjbelgbaaGreatDoor
open Go.RowKit Q YtdcfonmjbelgbaaGreatDoorW.PrintWords YtdcfonmjbelgbaaGreatDoorW.PrintLast YtdcfonmjbelgbaaGreatDoorW.PrintMore
theorem numbers_calls (g c:Nat) (l:List Nat) (n:Nat) (hn:n≤100) (_hl:l.length=n) (hb : ∀ k,l.getD k 0<2 ^ 56) (w:World) (hg:g<w.heap.size) (hc : ∀ j,j<n→w.cell? ⟨g,j,none⟩=some (.int .i64 (l.getD j 0:Nat))) :
  Calls Tryz.prog 46 #[.slice (some ⟨g,0,none⟩) n c] w fun e w'=>e = .returned (.string (B (encK l n)))∧Below w.heap.size w w':=by
 have HC:=Lib.hid hc
 have HG:=Lib.hid hg
 have HB:=Lib.hid hb
 have HL:=Lib.hid (encK_len l hb)
 clear hc hg hb _hl
 go_enter Tryz.func46,Tryz.ntmps46
 go_wp2_with fail
 have HD0:Aside0 (Bd (w.heap.size+1) w.heap.size [] (w.alloc (.cells #[.pointer none,.slice none 0 0] 112))):=⟨Bd.new _ w⟩
 have HF0:Aside0 (Bf (w.heap.size+1) w.heap.size (w.alloc (.cells #[.pointer none,.slice none 0 0] 112)) (w.alloc (.cells #[.pointer none,.slice none 0 0] 112))):=⟨Bf.refl _ _ _⟩
 have HS0:Aside0 ((w.alloc (.cells #[.pointer none,.slice none 0 0] 112)).heap.size=w.heap.size+1):=⟨by simp⟩
 have HB0:Aside0 (Below w.heap.size w (w.alloc (.cells #[.pointer none,.slice none 0 0] 112))):=⟨(Below.refl _ _).alloc (Nat.le_refl _) _⟩
 generalize w.alloc (.cells #[.pointer none,.slice none 0 0] 112)=w2 at *
 go_loopw [8] (fun i wr=> ∃ k:Nat,k≤n∧i = .int .i64 k∧Aside0 (Bd (w.heap.size+1) w.heap.size (encK l k) wr)∧Aside0 (Bf (w.heap.size+1) w.heap.size w2 wr)) (fun i _=>n-(intOf i).toNat)
 case atStart=>exact⟨0,by omega,rfl,HD0,HF0⟩
 case round=>
  clear HD0 HF0
  obtain⟨k,hk,rfl,HD0,HF0⟩:=hrel
  by_cases hlt:k<n
  ·have hcw:=HF0.out.cell (a:=⟨g,k,none⟩) ((HB0.out.cell HG.out).trans (HC.out k hlt)) (by have:=HG.out;show g<w.heap.size+1;omega) (by have:=HG.out;show g≠w.heap.size;omega)
   have hE:Hid (encK l (k+1)=encK l k++enc (l.getD k 0)):=Lib.hid rfl
   have hx:=Lib.hid (HB.out k)
   have hlen:=HL.out k
   generalize l.getD k 0=x at *
   have hbs:w.heap.size+1≤wr.heap.size:=by have:=HS0.out;have:=HF0.out.size;omega
   have hne:=enc_ne x
   have hl8:=enc_len8 hx.out
   have HNE:=Lib.hid hne
   clear hne
   go_wp2_with fail
   refine Calls.mono (number_B x hx.out wr) ?_
   rintro e w3 ⟨rfl,b3⟩
   have HD0:=Aside0.mk (HD0.out.keep b3)
   have HF0:=Aside0.mk (HF0.out.trans (Bf.of_below b3 hbs))
   have hbs3:=Nat.le_trans hbs b3.size
   clear b3 hcw
   go_wp2_with fail
   refine Calls.mono (bWriteString (w.heap.size+1) w.heap.size (encK l k) (enc x) w3 HD0.out HNE.out (by omega) hbs3) ?_
   rintro e w4 ⟨rfl,hD4,hF4⟩
   rw[←hE.out]at hD4
   have HD0:=Aside0.mk hD4
   have HF0:=Aside0.mk (HF0.out.trans hF4)
   clear hD4 hF4
   go_wp2_with fail
   go_roundw
   case rel=>exact⟨k+1,by omega,by go_num,HD0,HF0⟩
   case measure=>simp[intOf];omega
  ·obtain rfl:k=n:=by omega
   go_wp2_with fail
   refine Calls.mono (bString (w.heap.size+1) w.heap.size (encK l k) wr HD0.out) ?_
   rintro e w3 ⟨rfl,hF3⟩
   go_wp2_with fail
   go_ret
   exact⟨rfl,HB0.out.trans ((HF0.out.trans hF3).below (by omega) (Nat.le_refl _))⟩
end Go.Proofs.YtdcfonmjbelgbaaGreatDoor
end
section
namespace Go.Proofs.YtdcfonmjbelgbaaGreatDoor
open Go.RowKit
def chk (v g i d s:Int) (n:Nat):Int:=
 if 0≤v∧v≤1099511627776∧0≤g∧g≤1099511627776∧0≤i∧i≤8∧0≤d∧d≤11∧0≤s∧s≤47 then (if n≤64 then 0 else 12)else 1
theorem in_t (n m:Int) (w:World) (h:0≤n∧n≤m):Calls Tryz.prog 63 #[.int .i64 n,.int .i64 m] w fun e w'=>e = .returned (.bool true)∧w=w':=by
 obtain⟨h0,h1⟩:=h
 go_enter Tryz.func63,Tryz.ntmps63
 go_wp2
 go_ret
 exact⟨rfl,rfl⟩
theorem in_f (n m:Int) (w:World) (h:n<0∨m<n):Calls Tryz.prog 63 #[.int .i64 n,.int .i64 m] w fun e w'=>e = .returned (.bool false)∧w=w':=by
 rcases(by omega:n<0∨0≤n)with h1|h1
 ·go_enter Tryz.func63,Tryz.ntmps63
  go_wp2
  go_ret
  exact⟨rfl,rfl⟩
 ·have h2 : ¬ n≤m:=by omega
  have h3:decide (n≤m)=false:=by simp[h2]
  clear h
  go_enter Tryz.func63,Tryz.ntmps63
  go_wp2
  go_ret
  exact⟨rfl,rfl⟩
theorem ret_i (k:IntKind) {a b:Int} (h:a=b):Ending.returned (.int k a) = .returned (.int k b):=by rw[h]
theorem right_calls (v g i d s:Int) (t:ByteArray) (w:World):Calls Tryz.prog 44 #[.agg #[.int .i64 v,.int .i64 g,.int .i64 i,.int .i64 d,.int .i64 s,.string t]] w fun e w'=>e = .returned (.int .i64 (chk v g i d s t.size))∧Below w.heap.size w w':=by
 have hu25:=Tryz.underlying61
 have hu23:=Tryz.underlying59
 have hb:Below w.heap.size w (w.alloc (.cells #[.int .i64 v,.int .i64 g,.int .i64 i,.int .i64 d,.int .i64 s,.string t] 61)):=(Below.refl _ _).alloc (Nat.le_refl _) _
 have HB:=Lib.hid hb
 clear hb
 have hcases:(v<0∨1099511627776<v)∨((0≤v∧v≤1099511627776)∧(g<0∨1099511627776<g))∨((0≤v∧v≤1099511627776)∧(0≤g∧g≤1099511627776)∧(i<0∨8<i))∨((0≤v∧v≤1099511627776)∧(0≤g∧g≤1099511627776)∧(0≤i∧i≤8)∧(d<0∨11<d))∨((0≤v∧v≤1099511627776)∧(0≤g∧g≤1099511627776)∧(0≤i∧i≤8)∧(0≤d∧d≤11)∧(s<0∨47<s))∨((0≤v∧v≤1099511627776)∧(0≤g∧g≤1099511627776)∧(0≤i∧i≤8)∧(0≤d∧d≤11)∧(0≤s∧s≤47)):=by omega
 rcases hcases with h1|⟨h1,h2⟩|⟨h1,h2,h3⟩|⟨h1,h2,h3,h4⟩|⟨h1,h2,h3,h4,h5⟩|⟨h1,h2,h3,h4,h5⟩
 ·have hc:chk v g i d s t.size=1:=if_neg (by omega)
  have H1:=Lib.hid h1
  clear h1
  go_enter Tryz.func44,Tryz.ntmps44
  go_wp2_with fail
  refine(in_f _ _ _ H1.out).mono ?_
  rintro e w1 ⟨rfl,rfl⟩
  go_wp2_with fail
  go_ret
  exact⟨ret_i _ hc.symm,HB.out⟩
 ·have hc:chk v g i d s t.size=1:=if_neg (by omega)
  have H1:=Lib.hid h1
  have H2:=Lib.hid h2
  clear h1 h2
  go_enter Tryz.func44,Tryz.ntmps44
  go_wp2_with fail
  refine(in_t _ _ _ H1.out).mono ?_
  rintro e w1 ⟨rfl,rfl⟩
  go_wp2_with fail
  refine(in_f _ _ _ H2.out).mono ?_
  rintro e w1 ⟨rfl,rfl⟩
  go_wp2_with fail
  go_ret
  exact⟨ret_i _ hc.symm,HB.out⟩
 ·have hc:chk v g i d s t.size=1:=if_neg (by omega)
  have H1:=Lib.hid h1
  have H2:=Lib.hid h2
  have H3:=Lib.hid h3
  clear h1 h2 h3
  go_enter Tryz.func44,Tryz.ntmps44
  go_wp2_with fail
  refine(in_t _ _ _ H1.out).mono ?_
  rintro e w1 ⟨rfl,rfl⟩
  go_wp2_with fail
  refine(in_t _ _ _ H2.out).mono ?_
  rintro e w1 ⟨rfl,rfl⟩
  go_wp2_with fail
  refine(in_f _ _ _ H3.out).mono ?_
  rintro e w1 ⟨rfl,rfl⟩
  go_wp2_with fail
  go_ret
  exact⟨ret_i _ hc.symm,HB.out⟩
 ·have hc:chk v g i d s t.size=1:=if_neg (by omega)
  have H1:=Lib.hid h1
  have H2:=Lib.hid h2
  have H3:=Lib.hid h3
  have H4:=Lib.hid h4
  clear h1 h2 h3 h4
  go_enter Tryz.func44,Tryz.ntmps44
  go_wp2_with fail
  refine(in_t _ _ _ H1.out).mono ?_
  rintro e w1 ⟨rfl,rfl⟩
  go_wp2_with fail
  refine(in_t _ _ _ H2.out).mono ?_
  rintro e w1 ⟨rfl,rfl⟩
  go_wp2_with fail
  refine(in_t _ _ _ H3.out).mono ?_
  rintro e w1 ⟨rfl,rfl⟩
  go_wp2_with fail
  refine(in_f _ _ _ H4.out).mono ?_
  rintro e w1 ⟨rfl,rfl⟩
  go_wp2_with fail
  go_ret
  exact⟨ret_i _ hc.symm,HB.out⟩
 ·have hc:chk v g i d s t.size=1:=if_neg (by omega)
  have H1:=Lib.hid h1
  have H2:=Lib.hid h2
  have H3:=Lib.hid h3
  have H4:=Lib.hid h4
  have H5:=Lib.hid h5
  clear h1 h2 h3 h4 h5
  go_enter Tryz.func44,Tryz.ntmps44
  go_wp2_with fail
  refine(in_t _ _ _ H1.out).mono ?_
  rintro e w1 ⟨rfl,rfl⟩
  go_wp2_with fail
  refine(in_t _ _ _ H2.out).mono ?_
  rintro e w1 ⟨rfl,rfl⟩
  go_wp2_with fail
  refine(in_t _ _ _ H3.out).mono ?_
  rintro e w1 ⟨rfl,rfl⟩
  go_wp2_with fail
  refine(in_t _ _ _ H4.out).mono ?_
  rintro e w1 ⟨rfl,rfl⟩
  go_wp2_with fail
  refine(in_f _ _ _ H5.out).mono ?_
  rintro e w1 ⟨rfl,rfl⟩
  go_wp2_with fail
  go_ret
  exact⟨ret_i _ hc.symm,HB.out⟩
 ·have hc:chk v g i d s t.size=if t.size≤64 then 0 else 12:=if_pos (by omega)
  have H1:=Lib.hid h1
  have H2:=Lib.hid h2
  have H3:=Lib.hid h3
  have H4:=Lib.hid h4
  have H5:=Lib.hid h5
  clear h1 h2 h3 h4 h5
  by_cases h:t.size≤64
  ·rw[if_pos h]at hc
   have hc:=Lib.hid hc
   go_enter Tryz.func44,Tryz.ntmps44
   go_wp2_with fail
   refine(in_t _ _ _ H1.out).mono ?_
   rintro e w1 ⟨rfl,rfl⟩
   go_wp2_with fail
   refine(in_t _ _ _ H2.out).mono ?_
   rintro e w1 ⟨rfl,rfl⟩
   go_wp2_with fail
   refine(in_t _ _ _ H3.out).mono ?_
   rintro e w1 ⟨rfl,rfl⟩
   go_wp2_with fail
   refine(in_t _ _ _ H4.out).mono ?_
   rintro e w1 ⟨rfl,rfl⟩
   go_wp2_with fail
   refine(in_t _ _ _ H5.out).mono ?_
   rintro e w1 ⟨rfl,rfl⟩
   go_wp2_with fail
   go_ret
   exact⟨ret_i _ hc.out.symm,HB.out⟩
  ·rw[if_neg h]at hc
   have hc:=Lib.hid hc
   go_enter Tryz.func44,Tryz.ntmps44
   go_wp2_with fail
   refine(in_t _ _ _ H1.out).mono ?_
   rintro e w1 ⟨rfl,rfl⟩
   go_wp2_with fail
   refine(in_t _ _ _ H2.out).mono ?_
   rintro e w1 ⟨rfl,rfl⟩
   go_wp2_with fail
   refine(in_t _ _ _ H3.out).mono ?_
   rintro e w1 ⟨rfl,rfl⟩
   go_wp2_with fail
   refine(in_t _ _ _ H4.out).mono ?_
   rintro e w1 ⟨rfl,rfl⟩
   go_wp2_with fail
   refine(in_t _ _ _ H5.out).mono ?_
   rintro e w1 ⟨rfl,rfl⟩
   go_wp2_with fail
   go_ret
   exact⟨ret_i _ hc.out.symm,HB.out⟩
end Go.Proofs.YtdcfonmjbelgbaaGreatDoor
end
section
namespace Go.Proofs.YtdcfonmjbelgbaaGreatDoor
open Go.RowKit Q YtdcfonmjbelgbaaGreatDoorW.PrintWords YtdcfonmjbelgbaaGreatDoorW.PrintLast YtdcfonmjbelgbaaGreatDoorW.PrintMore
def secT (v g i d s:Nat) (t:List UInt8):List UInt8:=[83,71]++(enc v++enc g++enc i++enc d++enc s)++txt t
theorem encK5 (v g i d s:Nat):encK [v,g,i,d,s] 5=enc v++enc g++enc i++enc d++enc s:=by
 simp[encK]
theorem txt_len (t:List UInt8) (h:t.length≤64):(txt t).length≤72:=by
 unfold txt
 rw[List.length_append]
 have:=enc_len8 (m:=t.length) (by omega)
 omega
theorem chk_ok {v g i d s:Int} {n:Nat} (h:chk v g i d s n=0):(0≤v∧v≤1099511627776∧0≤g∧g≤1099511627776∧0≤i∧i≤8∧0≤d∧d≤11∧0≤s∧s≤47)∧n≤64:=by
 unfold chk at h
 split at h
 ·rename_i hh
  refine⟨hh,?_⟩
  split at h
  ·assumption
  ·cases h
 ·cases h
abbrev Rng (v g i d s:Int):Prop:=0≤v∧v≤1099511627776∧0≤g∧g≤1099511627776∧0≤i∧i≤8∧0≤d∧d≤11∧0≤s∧s≤47
theorem five_lt {v g i d s:Int} (h:Rng v g i d s) : ∀ k,[v.toNat,g.toNat,i.toNat,d.toNat,s.toNat].getD k 0<2 ^ 56:=by
 intro k
 obtain⟨h1,h2,h3,h4,h5,h6,h7,h8,h9,h10⟩:=h
 match k with
 | 0=>show v.toNat<2 ^ 56;omega
 | 1=>show g.toNat<2 ^ 56;omega
 | 2=>show i.toNat<2 ^ 56;omega
 | 3=>show d.toNat<2 ^ 56;omega
 | 4=>show s.toNat<2 ^ 56;omega
 | k+5=>show 0<2 ^ 56;decide
theorem five (v g i d s:Int) (w:World) (h:Rng v g i d s) : ∀ j,j<5→(w.alloc (.cells #[.int .i64 v,.int .i64 g,.int .i64 i,.int .i64 d,.int .i64 s] 3)).cell? ⟨w.heap.size,j,none⟩=some (.int .i64 ([v.toNat,g.toNat,i.toNat,d.toNat,s.toNat].getD j 0:Nat)):=by
 intro j hj
 obtain⟨h1,h2,h3,h4,h5,h6,h7,h8,h9,h10⟩:=h
 rw[Lib.cell_of_heap (heap_alloc_new w _)]
 match j,hj with
 | 0,_=>show some (Value.int .i64 v)=some (.int .i64 (v.toNat:Int));rw[Int.toNat_of_nonneg h1]
 | 1,_=>show some (Value.int .i64 g)=some (.int .i64 (g.toNat:Int));rw[Int.toNat_of_nonneg h3]
 | 2,_=>show some (Value.int .i64 i)=some (.int .i64 (i.toNat:Int));rw[Int.toNat_of_nonneg h5]
 | 3,_=>show some (Value.int .i64 d)=some (.int .i64 (d.toNat:Int));rw[Int.toNat_of_nonneg h7]
 | 4,_=>show some (Value.int .i64 s)=some (.int .i64 (s.toNat:Int));rw[Int.toNat_of_nonneg h9]
theorem six {w:World} {g0:Nat} {T:TypeId} {a b c d e f:Value} (h:w.heap[g0]? = some (.cells #[a,b,c,d,e,f] T (0,0))):w.cell? ⟨g0,0,none⟩=some a∧w.cell? ⟨g0,1,none⟩=some b∧w.cell? ⟨g0,2,none⟩=some c∧w.cell? ⟨g0,3,none⟩=some d∧w.cell? ⟨g0,4,none⟩=some e∧w.cell? ⟨g0,5,none⟩=some f:=by
 refine⟨?_,?_,?_,?_,?_,?_⟩<;>(rw[Lib.cell_of_heap h];rfl)
theorem text_B (t:ByteArray) (w:World) (h:t.size≤64):Calls Tryz.prog 47 #[.string t] w fun e w'=>e = .returned (.string (B (txt t.data.toList)))∧Below w.heap.size w w':=by
 have hf:=text_f t.data.toList 20 (by rw[size_data];omega) (Nat.le_refl _)
 rw[B_eta]at hf
 exact pack_Text.calls 20 _ _ w hf
theorem seal_B (x:ByteArray) (w:World) {l:List UInt8} (h:x=B l∧l.length≤200):Calls Tryz.prog 45 #[.string x] w fun e w'=>e = .returned (.string (B (sealL l)))∧Below w.heap.size w w':=by
 obtain⟨rfl,h⟩:=h
 exact check_Seal.calls _ _ w (seal_f l (by omega))
theorem secT_B {v g i d s:Int} {t:ByteArray} (h:Rng v g i d s) (ht:t.size≤64):(⟨#[83,71]⟩:ByteArray)++B (encK [v.toNat,g.toNat,i.toNat,d.toNat,s.toNat] 5)++B (txt t.data.toList)=B (secT v.toNat g.toNat i.toNat d.toNat s.toNat t.data.toList)∧(secT v.toNat g.toNat i.toNat d.toNat s.toNat t.data.toList).length≤200:=by
 constructor
 ·have:(⟨#[83,71]⟩:ByteArray)=B [83,71]:=rfl
  rw[this,B_append,B_append,encK5]
  rfl
 ·unfold secT
  rw[←encK5,List.length_append,List.length_append]
  have h1:=encK_len _ (five_lt h) 5
  have h2:=txt_len t.data.toList (by rw[size_data];exact ht)
  simp only[List.length_cons,List.length_nil]
  omega
def secW (v g i d s:Int) (t:ByteArray):ByteArray×Int:=
 if chk v g i d s t.size=0 then (B (sealL (secT v.toNat g.toNat i.toNat d.toNat s.toNat t.data.toList)),0)else (B [],chk v g i d s t.size)
theorem write_calls (v g i d s:Int) (t:ByteArray) (w:World):Calls Tryz.prog 29 #[.agg #[.int .i64 v,.int .i64 g,.int .i64 i,.int .i64 d,.int .i64 s,.string t]] w fun e w'=>e = .returned (.tuple #[.string (secW v g i d s t).1,.int .i64 (secW v g i d s t).2])∧Below w.heap.size w w':=by
 have hu25:=Tryz.underlying61
 have hu23:=Tryz.underlying59
 have HB:Aside0 (Below w.heap.size w (w.alloc (.cells #[.int .i64 v,.int .i64 g,.int .i64 i,.int .i64 d,.int .i64 s,.string t] 61))):=⟨(Below.refl _ _).alloc (Nat.le_refl _) _⟩
 by_cases hc:chk v g i d s t.size=0
 ·have hW:secW v g i d s t=(B (sealL (secT v.toNat g.toNat i.toNat d.toNat s.toNat t.data.toList)),0):=if_pos hc
  rw[hW]
  have HCK:=Lib.hid hc
  clear hW hc
  go_enter Tryz.func29,Tryz.ntmps29
  go_wp2_with fail
  refine Calls.mono (right_calls v g i d s t _) ?_
  rintro e w1 ⟨rfl,b1⟩
  rw[HCK.out]
  have hblk:w1.heap[w.heap.size]? = some (.cells #[.int .i64 v,.int .i64 g,.int .i64 i,.int .i64 d,.int .i64 s,.string t] 61 (0,0)):=(b1.block _ (by simp)).trans (heap_alloc_new w _)
  have HB:=Aside0.mk (below2 HB.out HB.out.size b1)
  have c0:w1.cell? ⟨w.heap.size,0,none⟩=some (.int .i64 v):=by rw[Lib.cell_of_heap hblk];rfl
  have c1:w1.cell? ⟨w.heap.size,1,none⟩=some (.int .i64 g):=by rw[Lib.cell_of_heap hblk];rfl
  have c2:w1.cell? ⟨w.heap.size,2,none⟩=some (.int .i64 i):=by rw[Lib.cell_of_heap hblk];rfl
  have c3:w1.cell? ⟨w.heap.size,3,none⟩=some (.int .i64 d):=by rw[Lib.cell_of_heap hblk];rfl
  have c4:w1.cell? ⟨w.heap.size,4,none⟩=some (.int .i64 s):=by rw[Lib.cell_of_heap hblk];rfl
  have c5:w1.cell? ⟨w.heap.size,5,none⟩=some (.string t):=by rw[Lib.cell_of_heap hblk];rfl
  have HBK:=Aside0.mk hblk
  clear b1 hblk
  go_wp2_with fail
  have hr:=chk_ok HCK.out
  have HR:=Lib.hid hr.1
  have HT:=Lib.hid hr.2
  have HS:Hid ((⟨#[83,71]⟩:ByteArray)++B (encK [v.toNat,g.toNat,i.toNat,d.toNat,s.toNat] 5)++B (txt t.data.toList)=B (secT v.toNat g.toNat i.toNat d.toNat s.toNat t.data.toList)∧(secT v.toNat g.toNat i.toNat d.toNat s.toNat t.data.toList).length≤200):=Lib.hid (secT_B hr.1 hr.2)
  have hs1:(B (encK [v.toNat,g.toNat,i.toNat,d.toNat,s.toNat] 5)).size≤40:=by rw[B_size];exact encK_len _ (five_lt hr.1) 5
  have hs2:(B (txt t.data.toList)).size≤72:=by rw[B_size];exact txt_len _ (by rw[size_data];exact hr.2)
  have hs3 : ¬ 9223372036854775807<2+(B (encK [v.toNat,g.toNat,i.toNat,d.toNat,s.toNat] 5)).size:=by omega
  have hs4 : ¬ 9223372036854775807<2+(B (encK [v.toNat,g.toNat,i.toNat,d.toNat,s.toNat] 5)).size+(B (txt t.data.toList)).size:=by omega
  clear hr
  refine start_ (n:=22) (S:=fun w'=>w'.cell? ⟨w.heap.size,0,none⟩=some (.int .i64 v)∧w'.cell? ⟨w.heap.size,1,none⟩=some (.int .i64 g)∧w'.cell? ⟨w.heap.size,2,none⟩=some (.int .i64 i)∧w'.cell? ⟨w.heap.size,3,none⟩=some (.int .i64 d)∧w'.cell? ⟨w.heap.size,4,none⟩=some (.int .i64 s)∧w'.cell? ⟨w.heap.size,5,none⟩=some (.string t)∧Aside0 (w'.heap[w.heap.size]? = some (.cells #[.int .i64 v,.int .i64 g,.int .i64 i,.int .i64 d,.int .i64 s,.string t] 61 (0,0)))∧Aside0 (Below w.heap.size w w')) (ds:=[]) #[false,false,false,false,false,false,false,false,false,false,false,false,false,false,false,false,false,false,false,false,false,false] (by kernel_rfl) rfl rfl ⟨c0,c1,c2,c3,c4,c5,⟨HBK.out⟩,⟨Below.drew HB.out⟩⟩ (fun hHeld=> ?_)
  generalize w1.drew=wn at hHeld ⊢
  refine pure_ (i:=0) (N:=some 10) (v:= ?_) (a':= ?_) #[true,false,false,false,false,false,false,false,false,false,false,false,false,false,false,false,false,false,false,false,false,false] rfl rfl (by kernel_rfl) (fun _ _ _ h=>h) (Or.inl ⟨by rfl,?_⟩) ?_ ?_
  rotate_left
  ·intro w'
   go_simp
   with_reducible rfl
  rotate_left
  ·simp only[Act.put,zA,zB,zC]
   rfl
  refine pure_ (i:=2) (N:=some 12) (v:= ?_) (a':= ?_) #[true,false,true,false,false,false,false,false,false,false,false,false,false,false,false,false,false,false,false,false,false,false] rfl rfl (by kernel_rfl) (fun _ _ _ h=>h) (Or.inl ⟨by rfl,?_⟩) ?_ ?_
  rotate_left
  ·intro w'
   go_simp
   with_reducible rfl
  rotate_left
  ·simp only[Act.put,zA,zB,zC]
   rfl
  refine pure_ (i:=4) (N:=some 14) (v:= ?_) (a':= ?_) #[true,false,true,false,true,false,false,false,false,false,false,false,false,false,false,false,false,false,false,false,false,false] rfl rfl (by kernel_rfl) (fun _ _ _ h=>h) (Or.inl ⟨by rfl,?_⟩) ?_ ?_
  rotate_left
  ·intro w'
   go_simp
   with_reducible rfl
  rotate_left
  ·simp only[Act.put,zA,zB,zC]
   rfl
  refine pure_ (i:=6) (N:=some 16) (v:= ?_) (a':= ?_) #[true,false,true,false,true,false,true,false,false,false,false,false,false,false,false,false,false,false,false,false,false,false] rfl rfl (by kernel_rfl) (fun _ _ _ h=>h) (Or.inl ⟨by rfl,?_⟩) ?_ ?_
  rotate_left
  ·intro w'
   go_simp
   with_reducible rfl
  rotate_left
  ·simp only[Act.put,zA,zB,zC]
   rfl
  refine pure_ (i:=7) (N:=some 17) (v:= ?_) (a':= ?_) #[true,false,true,false,true,false,true,true,false,false,false,false,false,false,false,false,false,false,false,false,false,false] rfl rfl (by kernel_rfl) (fun _ _ _ h=>h) (Or.inl ⟨by rfl,?_⟩) ?_ ?_
  rotate_left
  ·intro w'
   go_simp
   with_reducible rfl
  rotate_left
  ·simp only[Act.put,zA,zB,zC]
   rfl
  refine pure_ (i:=9) (N:=some 19) (v:= ?_) (a':= ?_) #[true,false,true,false,true,false,true,true,false,true,false,false,false,false,false,false,false,false,false,false,false,false] rfl rfl (by kernel_rfl) (fun _ _ _ h=>h) (Or.inl ⟨by rfl,?_⟩) ?_ ?_
  rotate_left
  ·intro w'
   go_simp
   with_reducible rfl
  rotate_left
  ·simp only[Act.put,zA,zB,zC]
   rfl
  refine pure_ (i:=10) (N:=some 20) (v:= ?_) (a':= ?_) #[true,false,true,false,true,false,true,true,false,true,true,false,false,false,false,false,false,false,false,false,false,false] rfl rfl (by kernel_rfl) (fun _ _ _ h=>h) (Or.inl ⟨by rfl,?_⟩) ?_ ?_
  rotate_left
  ·intro w'
   go_simp
   with_reducible rfl
  rotate_left
  ·simp only[Act.put,zA,zB,zC]
   rfl
  refine pure_ (i:=15) (N:=some 25) (v:= ?_) (a':= ?_) #[true,false,true,false,true,false,true,true,false,true,true,false,false,false,false,true,false,false,false,false,false,false] rfl rfl (by kernel_rfl) (fun _ _ _ h=>h) (Or.inl ⟨by rfl,?_⟩) ?_ ?_
  rotate_left
  ·intro w'
   go_simp
   with_reducible rfl
  rotate_left
  ·simp only[Act.put,zA,zB,zC]
   rfl
  refine take_ (i:=1) (N:=some 11) (v:= ?_) (a':= ?_) #[true,true,true,false,true,false,true,true,false,true,true,false,false,false,false,true,false,false,false,false,false,false] rfl rfl (by kernel_rfl) (fun _ _ _ h=>h) (Or.inl ⟨by rfl,?_⟩) hHeld ?_ ?_
  rotate_left
  ·rintro w' ⟨s0,s1,s2,s3,s4,s5,s6,s7⟩
   go_simp
   with_reducible rfl
  rotate_left
  ·simp only[Act.put,zA,zB,zC]
   rfl
  refine take_ (i:=3) (N:=some 13) (v:= ?_) (a':= ?_) #[true,true,true,true,true,false,true,true,false,true,true,false,false,false,false,true,false,false,false,false,false,false] rfl rfl (by kernel_rfl) (fun _ _ _ h=>h) (Or.inl ⟨by rfl,?_⟩) hHeld ?_ ?_
  rotate_left
  ·rintro w' ⟨s0,s1,s2,s3,s4,s5,s6,s7⟩
   go_simp
   with_reducible rfl
  rotate_left
  ·simp only[Act.put,zA,zB,zC]
   rfl
  refine take_ (i:=5) (N:=some 15) (v:= ?_) (a':= ?_) #[true,true,true,true,true,true,true,true,false,true,true,false,false,false,false,true,false,false,false,false,false,false] rfl rfl (by kernel_rfl) (fun _ _ _ h=>h) (Or.inl ⟨by rfl,?_⟩) hHeld ?_ ?_
  rotate_left
  ·rintro w' ⟨s0,s1,s2,s3,s4,s5,s6,s7⟩
   go_simp
   with_reducible rfl
  rotate_left
  ·simp only[Act.put,zA,zB,zC]
   rfl
  refine take_ (i:=8) (N:=some 18) (v:= ?_) (a':= ?_) #[true,true,true,true,true,true,true,true,true,true,true,false,false,false,false,true,false,false,false,false,false,false] rfl rfl (by kernel_rfl) (fun _ _ _ h=>h) (Or.inl ⟨by rfl,?_⟩) hHeld ?_ ?_
  rotate_left
  ·rintro w' ⟨s0,s1,s2,s3,s4,s5,s6,s7⟩
   go_simp
   with_reducible rfl
  rotate_left
  ·simp only[Act.put,zA,zB,zC]
   rfl
  refine take_ (i:=11) (N:=some 21) (v:= ?_) (a':= ?_) #[true,true,true,true,true,true,true,true,true,true,true,true,false,false,false,true,false,false,false,false,false,false] rfl rfl (by kernel_rfl) (fun _ _ _ h=>h) (Or.inl ⟨by rfl,?_⟩) hHeld ?_ ?_
  rotate_left
  ·rintro w' ⟨s0,s1,s2,s3,s4,s5,s6,s7⟩
   go_simp
   with_reducible rfl
  rotate_left
  ·simp only[Act.put,zA,zB,zC]
   rfl
  refine take_ (i:=16) (N:=some 26) (v:= ?_) (a':= ?_) #[true,true,true,true,true,true,true,true,true,true,true,true,false,false,false,true,true,false,false,false,false,false] rfl rfl (by kernel_rfl) (fun _ _ _ h=>h) (Or.inl ⟨by rfl,?_⟩) hHeld ?_ ?_
  rotate_left
  ·rintro w' ⟨s0,s1,s2,s3,s4,s5,s6,s7⟩
   go_simp
   with_reducible rfl
  rotate_left
  ·simp only[Act.put,zA,zB,zC]
   rfl
  refine one_ (i:=12) (N:=some 22) #[true,true,true,true,true,true,true,true,true,true,true,true,true,false,false,true,true,false,false,false,false,false] rfl rfl (by kernel_rfl) (by decide) (fun K hK=> ?_)
  refine value_ (w1:= ?_) (v:= ?_) (by rfl) rfl ?_ ?_
  rotate_left 2
  ·go_simp
   constructor
   ·rfl
   ·rfl
  have hA:Below wn.heap.size wn (wn.alloc (.cells #[.int .i64 v,.int .i64 g,.int .i64 i,.int .i64 d,.int .i64 s] 3)):=(Below.refl _ _).alloc (Nat.le_refl _) _
  have hn5:=five v g i d s wn HR.out
  have hka:=(hA.block _ (Array.getElem?_eq_some_iff.1 hHeld.2.2.2.2.2.2.1.out).1).trans hHeld.2.2.2.2.2.2.1.out
  have hwa:=below2 hHeld.2.2.2.2.2.2.2.out hHeld.2.2.2.2.2.2.2.out.size hA
  refine hK.out _ _ ⟨(six hka).1,(six hka).2.1,(six hka).2.2.1,(six hka).2.2.2.1,(six hka).2.2.2.2.1,(six hka).2.2.2.2.2,⟨hka⟩,⟨hwa⟩⟩ (fun hHeld=> ?_)
  clear hK K
  refine norm_ (a':= ?_) ?_ ?_
  rotate_left
  ·show Act.put _ (some 22) _=_
   simp only[Act.put,zA,zB,zC]
   rfl
  refine one_ (i:=13) (N:=some 23) #[true,true,true,true,true,true,true,true,true,true,true,true,true,true,false,true,true,false,false,false,false,false] rfl rfl (by kernel_rfl) (by decide) (fun K hK=> ?_)
  refine goes_ Tryz.func46 (by kernel_rfl) rfl #[.slice (some ⟨wn.heap.size,0,none⟩) 5 5] (by rfl) rfl rfl (by simp only[List.map_toArray,List.map_cons,List.map_nil];rfl) ?_
  with_reducible refine(numbers_calls wn.heap.size 5 [v.toNat,g.toNat,i.toNat,d.toNat,s.toNat] 5 (by decide) rfl (five_lt HR.out) _ (by simp) hn5).mono ?_
  rintro e w3 ⟨rfl,b3⟩
  refine⟨_,rfl,?_⟩
  have hkc:=(b3.block _ (Array.getElem?_eq_some_iff.1 hHeld.2.2.2.2.2.2.1.out).1).trans hHeld.2.2.2.2.2.2.1.out
  have hwc:=below2 hHeld.2.2.2.2.2.2.2.out hHeld.2.2.2.2.2.2.2.out.size b3
  refine hK.out _ _ ⟨(six hkc).1,(six hkc).2.1,(six hkc).2.2.1,(six hkc).2.2.2.1,(six hkc).2.2.2.2.1,(six hkc).2.2.2.2.2,⟨hkc⟩,⟨hwc⟩⟩ (fun hHeld=> ?_)
  clear hK K
  refine norm_ (a':= ?_) ?_ ?_
  rotate_left
  ·show Act.put _ (some 23) _=_
   simp only[Act.put,zA,zB,zC]
   rfl
  refine pure_ (i:=14) (N:=some 24) (v:= ?_) (a':= ?_) #[true,true,true,true,true,true,true,true,true,true,true,true,true,true,true,true,true,false,false,false,false,false] rfl rfl (by kernel_rfl) (fun _ _ _ h=>h) (Or.inl ⟨by rfl,?_⟩) ?_ ?_
  rotate_left
  ·intro w'
   go_simp
   with_reducible rfl
  rotate_left
  ·simp only[Act.put,zA,zB,zC]
   rfl
  refine one_ (i:=17) (N:=some 27) #[true,true,true,true,true,true,true,true,true,true,true,true,true,true,true,true,true,true,false,false,false,false] rfl rfl (by kernel_rfl) (by decide) (fun K hK=> ?_)
  refine goes_ Tryz.func47 (by kernel_rfl) rfl #[.string t] (by rfl) rfl rfl (by simp only[List.map_toArray,List.map_cons,List.map_nil];rfl) ?_
  with_reducible refine(text_B t _ HT.out).mono ?_
  rintro e w4 ⟨rfl,b4⟩
  refine⟨_,rfl,?_⟩
  have hkd:=(b4.block _ (Array.getElem?_eq_some_iff.1 hHeld.2.2.2.2.2.2.1.out).1).trans hHeld.2.2.2.2.2.2.1.out
  have hwd:=below2 hHeld.2.2.2.2.2.2.2.out hHeld.2.2.2.2.2.2.2.out.size b4
  refine hK.out _ _ ⟨(six hkd).1,(six hkd).2.1,(six hkd).2.2.1,(six hkd).2.2.2.1,(six hkd).2.2.2.2.1,(six hkd).2.2.2.2.2,⟨hkd⟩,⟨hwd⟩⟩ (fun hHeld=> ?_)
  clear hK K
  refine norm_ (a':= ?_) ?_ ?_
  rotate_left
  ·show Act.put _ (some 27) _=_
   simp only[Act.put,zA,zB,zC]
   rfl
  refine pure_ (i:=18) (N:=some 28) (v:= ?_) (a':= ?_) #[true,true,true,true,true,true,true,true,true,true,true,true,true,true,true,true,true,true,true,false,false,false] rfl rfl (by kernel_rfl) (fun _ _ _ h=>h) (Or.inl ⟨by rfl,?_⟩) ?_ ?_
  rotate_left
  ·intro w'
   go_simp
   with_reducible rfl
  rotate_left
  ·simp only[Act.put,zA,zB,zC]
   rfl
  refine one_ (i:=19) (N:=some 29) #[true,true,true,true,true,true,true,true,true,true,true,true,true,true,true,true,true,true,true,true,false,false] rfl rfl (by kernel_rfl) (by decide) (fun K hK=> ?_)
  refine goes_ Tryz.func45 (by kernel_rfl) rfl #[.string (⟨#[83,71]⟩++B (encK [v.toNat,g.toNat,i.toNat,d.toNat,s.toNat] 5)++B (txt t.data.toList))] (by rfl) rfl rfl (by simp only[List.map_toArray,List.map_cons,List.map_nil];rfl) ?_
  with_reducible refine(seal_B _ _ HS.out).mono ?_
  rintro e w5 ⟨rfl,b5⟩
  refine⟨_,rfl,?_⟩
  have hke:=(b5.block _ (Array.getElem?_eq_some_iff.1 hHeld.2.2.2.2.2.2.1.out).1).trans hHeld.2.2.2.2.2.2.1.out
  have hwe:=below2 hHeld.2.2.2.2.2.2.2.out hHeld.2.2.2.2.2.2.2.out.size b5
  refine hK.out _ _ ⟨(six hke).1,(six hke).2.1,(six hke).2.2.1,(six hke).2.2.2.1,(six hke).2.2.2.2.1,(six hke).2.2.2.2.2,⟨hke⟩,⟨hwe⟩⟩ (fun hHeld=> ?_)
  clear hK K
  refine norm_ (a':= ?_) ?_ ?_
  rotate_left
  ·show Act.put _ (some 29) _=_
   simp only[Act.put,zA,zB,zC]
   rfl
  refine pure_ (i:=20) (N:=some 2) (v:= ?_) (a':= ?_) #[true,true,true,true,true,true,true,true,true,true,true,true,true,true,true,true,true,true,true,true,true,false] rfl rfl (by kernel_rfl) (fun _ _ _ h=>h) (Or.inl ⟨by rfl,?_⟩) ?_ ?_
  rotate_left
  ·intro w'
   go_simp
   with_reducible rfl
  rotate_left
  ·simp only[Act.put,zA,zB,zC]
   rfl
  refine pure_ (i:=21) (N:=some 3) (v:= ?_) (a':= ?_) #[true,true,true,true,true,true,true,true,true,true,true,true,true,true,true,true,true,true,true,true,true,true] rfl rfl (by kernel_rfl) (fun _ _ _ h=>h) (Or.inl ⟨by rfl,?_⟩) ?_ ?_
  rotate_left
  ·intro w'
   go_simp
   with_reducible rfl
  rotate_left
  ·simp only[Act.put,zA,zB,zC]
   rfl
  refine done_ (by kernel_rfl) ?_
  have hfin:=hHeld.2.2.2.2.2.2.2.out
  go_wp2_with fail
  go_ret2
  exact⟨rfl,hfin⟩
 ·have hW:secW v g i d s t=(B [],chk v g i d s t.size):=if_neg hc
  rw[hW]
  generalize hk:chk v g i d s t.size=k at *
  have HK:=Lib.hid hk
  have hne:(k==0)=false:=by simpa using hc
  have hne2:(k != 0)=true:=by simp[bne,hne]
  clear hW hk hc
  go_enter Tryz.func29,Tryz.ntmps29
  go_wp2_with fail
  refine Calls.mono (right_calls v g i d s t _) ?_
  rintro e w1 ⟨rfl,b1⟩
  rw[HK.out]
  have HB:=Aside0.mk (below2 HB.out HB.out.size b1)
  clear b1
  go_wp2_with fail
  go_ret2
  exact⟨rfl,HB.out⟩
end Go.Proofs.YtdcfonmjbelgbaaGreatDoor
end
section
namespace Go.Proofs.YtdcfonmjbelgbaaGreatDoor
open Go.RowKit Q YtdcfonmjbelgbaaGreatDoorW.PrintWords YtdcfonmjbelgbaaGreatDoorW.PrintLast YtdcfonmjbelgbaaGreatDoorW.PrintMore
def cutp (u:List UInt8):List UInt8×Bool:=if u.take 2=[83,71]then (u.drop 2,true)else (u,false)
theorem cutp_f (u:List UInt8):strings_CutPrefix.f (B u) ⟨#[83,71]⟩=some (B (cutp u).1,(cutp u).2):=by
 have h2:(⟨#[83,71]⟩:ByteArray).size=2:=rfl
 have hl:(⟨#[83,71]⟩:ByteArray).toList=[83,71]:=by rw[ByteArray.toList_eq]
 have hx:((B u).extract 0 2).toList=u.take 2:=by rw[B_extract,B_toList,List.drop_zero]
 unfold strings_CutPrefix.f stringslite_CutPrefix.f stringslite_HasPrefix.f cutp
 rw[h2,hl,hx,B_size]
 by_cases hs:2≤u.length
 ·rw[if_pos (by omega),if_pos (by omega),if_pos (by omega)]
  simp only[Option.bind_some]
  by_cases he:u.take 2=[83,71]
  ·rw[he]
   simp only[beq_self_eq_true,if_true]
   rw[if_pos (by omega),if_pos (by omega)]
   simp only[Option.bind_some]
   rw[B_extract,List.take_of_length_le (by rw[List.length_drop];exact Nat.le_refl _)]
  ·have hb:(u.take 2==[83,71])=false:=by simpa using he
   rw[hb,if_neg he]
   rfl
 ·rw[if_neg (by omega)]
  have he : ¬ u.take 2=[83,71]:=by
   intro h
   have:=congrArg List.length h
   rw[List.length_take]at this
   simp only[List.length_cons,List.length_nil]at this
   omega
  rw[if_neg he]
  rfl
end Go.Proofs.YtdcfonmjbelgbaaGreatDoor
namespace Go.Proofs.YtdcfonmjbelgbaaGreatDoor
open Go.RowKit Q YtdcfonmjbelgbaaGreatDoorW.PrintWords YtdcfonmjbelgbaaGreatDoorW.PrintLast YtdcfonmjbelgbaaGreatDoorW.PrintMore
def secR (m:List UInt8):Int×Int×Int×Int×Int×ByteArray×Int:=
 if (openL m).2≠0 then (0,0,0,0,0,B [],(openL m).2)
 else
  if (cutp (openL m).1.data.toList).2=true∧endE (tx (rdn (cutp (openL m).1.data.toList).1 5)).2=0∧chk (val (cutp (openL m).1.data.toList).1 0) (val (cutp (openL m).1.data.toList).1 1) (val (cutp (openL m).1.data.toList).1 2) (val (cutp (openL m).1.data.toList).1 3) (val (cutp (openL m).1.data.toList).1 4) (tx (rdn (cutp (openL m).1.data.toList).1 5)).1.length=0 then
   (val (cutp (openL m).1.data.toList).1 0,val (cutp (openL m).1.data.toList).1 1,val (cutp (openL m).1.data.toList).1 2,val (cutp (openL m).1.data.toList).1 3,val (cutp (openL m).1.data.toList).1 4,B (tx (rdn (cutp (openL m).1.data.toList).1 5)).1,0)
  else (0,0,0,0,0,B [],4)
def hcs (l:List UInt8) (k:Nat):Array Value:= #[.int .i64 (if 0<k then (val l 0:Int)else 0),.int .i64 (if 1<k then (val l 1:Int)else 0),.int .i64 (if 2<k then (val l 2:Int)else 0),.int .i64 (if 3<k then (val l 3:Int)else 0),.int .i64 (if 4<k then (val l 4:Int)else 0),.string ⟨#[]⟩]
theorem hcs_set (l:List UInt8) (k:Nat) (hk:k<5):(hcs l k).setIfInBounds k (.int .i64 (val l k:Int))=hcs l (k+1):=by
 match k,hk with
 | 0,_=>rfl
 | 1,_=>rfl
 | 2,_=>rfl
 | 3,_=>rfl
 | 4,_=>rfl
theorem hcs_at (l:List UInt8) (k:Nat) (hk:k<5) : ∃ v,(hcs l k)[k]? = some v:=by
 match k,hk with
 | 0,_=>exact⟨_,rfl⟩
 | 1,_=>exact⟨_,rfl⟩
 | 2,_=>exact⟨_,rfl⟩
 | 3,_=>exact⟨_,rfl⟩
 | 4,_=>exact⟨_,rfl⟩
def ptrs (h:Nat):Array Value:= #[.pointer (some ⟨h,0,none⟩),.pointer (some ⟨h,1,none⟩),.pointer (some ⟨h,2,none⟩),.pointer (some ⟨h,3,none⟩),.pointer (some ⟨h,4,none⟩)]
theorem ptrs_at (h k:Nat) (hk:k<5):(ptrs h)[k]? = some (.pointer (some ⟨h,k,none⟩)):=by
 match k,hk with
 | 0,_=>rfl
 | 1,_=>rfl
 | 2,_=>rfl
 | 3,_=>rfl
 | 4,_=>rfl
theorem one6 (a b c d e:Int) (t:ByteArray):(#[.int .i64 a,.int .i64 b,.int .i64 c,.int .i64 d,.int .i64 e,.string t]:Array Value).all (·.oneCell')=true:=by simp[Value.oneCell']
theorem zeroH (w:World):(zeroValue 61).run Tryz.prog w = .ok (.agg #[.int .i64 0,.int .i64 0,.int .i64 0,.int .i64 0,.int .i64 0,.string ⟨#[]⟩]) w:=by kernel_rfl
theorem read_calls (m:List UInt8) (hm:m.length≤140737488355328) (w:World):Calls Tryz.prog 73 #[.string (B m)] w fun e w'=>e = .returned (.tuple #[.agg #[.int .i64 (secR m).1,.int .i64 (secR m).2.1,.int .i64 (secR m).2.2.1,.int .i64 (secR m).2.2.2.1,.int .i64 (secR m).2.2.2.2.1,.string (secR m).2.2.2.2.2.1],.int .i64 (secR m).2.2.2.2.2.2])∧Below w.heap.size w w':=by
 have hzH:=zeroH
 have hu25:=Tryz.underlying61
 have hu23:=Tryz.underlying59
 have HO:=Lib.hid (open_f m hm)
 have HR:Aside0 (Blk (w.alloc (.cells #[.int .i64 0,.int .i64 0,.int .i64 0,.int .i64 0,.int .i64 0,.string ⟨#[]⟩] 61)) w.heap.size #[.int .i64 0,.int .i64 0,.int .i64 0,.int .i64 0,.int .i64 0,.string ⟨#[]⟩] 61):=⟨Blk.new w _ _⟩
 have HB:Aside0 (Below w.heap.size w (w.alloc (.cells #[.int .i64 0,.int .i64 0,.int .i64 0,.int .i64 0,.int .i64 0,.string ⟨#[]⟩] 61))):=⟨(Below.refl _ _).alloc (Nat.le_refl _) _⟩
 go_enter Tryz.func73,Tryz.ntmps73
 go_wp2_with fail
 refine Calls.mono (check_Open.calls _ (openL m).1 (openL m).2 _ HO.out) ?_
 rintro e w1 ⟨rfl,b1⟩
 have HR:=Aside0.mk (HR.out.keep b1)
 have HB:=Aside0.mk (below2 HB.out HB.out.size b1)
 clear b1 HO
 obtain⟨o1,e1,ho⟩ : ∃ o1 e1,openL m=(o1,e1):=⟨_,_,rfl⟩
 rw[ho]
 by_cases he:e1=0
 ·subst he
  obtain⟨u,rfl⟩:=exB o1
  have HRES:Hid (∀ l is,cutp u=(l,is)→secR m=if is=true∧endE (tx (rdn l 5)).2=0∧chk (val l 0) (val l 1) (val l 2) (val l 3) (val l 4) (tx (rdn l 5)).1.length=0 then ((val l 0:Int),(val l 1:Int),(val l 2:Int),(val l 3:Int),(val l 4:Int),B (tx (rdn l 5)).1,0)else (0,0,0,0,0,B [],4)):=Lib.hid (by
   intro l is hcut
   have hd:(B u).data.toList=u:=rfl
   unfold secR
   rw[ho]
   simp only[ne_eq,not_true_eq_false,if_false,hd,hcut])
  have hul:u.length≤m.length:=by
   rcases openL_cases m with ⟨_,h⟩|⟨_,_,h⟩|⟨u',h1,h2⟩
   ·rw[ho]at h;cases h
   ·rw[ho]at h;cases h
   ·rw[ho]at h2
    have:u=u':=B_inj (congrArg Prod.fst h2)
    rw[h1,sealL_len,this]
    exact Nat.le_add_right _ _
  clear ho
  go_wp2_with fail
  refine Calls.mono (strings_CutPrefix.calls (B u) ⟨#[83,71]⟩ _ _ w1 (cutp_f u)) ?_
  rintro e w2 ⟨rfl,hd⟩
  have HR:=Aside0.mk (HR.out.keep hd.below)
  have HB:=Aside0.mk (below2 HB.out HB.out.size hd.below)
  clear hd
  obtain⟨l,is,hcut⟩ : ∃ l is,cutp u=(l,is):=⟨_,_,rfl⟩
  have HRES:=Lib.hid (HRES.out l is hcut)
  have hll:l.length≤140737488355328:=by
   have:l.length≤u.length:=by
    unfold cutp at hcut
    split at hcut
    ·have:=congrArg Prod.fst hcut
     simp only at this
     rw[←this,List.length_drop];omega
    ·have:=congrArg Prod.fst hcut
     simp only at this
     rw[this];exact Nat.le_refl _
   omega
  rw[hcut]
  clear hcut hul hm
  go_wp2_with fail
  have hRlt:=HR.out.lt
  refine Calls.mono (pack_Read.calls (B l) (B l) 0 w2 w2 (Below.refl _ _) rfl) ?_
  rintro e w3 ⟨g,rfl,hI,b3,_⟩
  have HI:=Aside0.mk hI
  have HR:=Aside0.mk (HR.out.keep b3)
  have HB:=Aside0.mk (below2 HB.out HB.out.size b3)
  have hgg:w.heap.size<g∧g<w3.heap.size:=⟨Nat.lt_of_lt_of_le hRlt hI.2,(Array.getElem?_eq_some_iff.1 hI.1).1⟩
  clear hI b3 hRlt
  go_wp2_with fail
  have HI:=Aside0.mk ((HI.out.alloc (.cells #[.int .i64 0,.int .i64 0,.int .i64 0,.int .i64 0,.int .i64 0,.string ⟨#[]⟩] 61)).alloc (.cells (ptrs w3.heap.size) 141))
  have HR:=Aside0.mk ((HR.out.alloc (.cells #[.int .i64 0,.int .i64 0,.int .i64 0,.int .i64 0,.int .i64 0,.string ⟨#[]⟩] 61)).alloc (.cells (ptrs w3.heap.size) 141))
  have HH:Aside0 (Blk ((w3.alloc (.cells #[.int .i64 0,.int .i64 0,.int .i64 0,.int .i64 0,.int .i64 0,.string ⟨#[]⟩] 61)).alloc (.cells (ptrs w3.heap.size) 141)) w3.heap.size (hcs l 0) 61):=⟨(Blk.new w3 _ _).alloc _⟩
  have HP:Aside0 (Blk ((w3.alloc (.cells #[.int .i64 0,.int .i64 0,.int .i64 0,.int .i64 0,.int .i64 0,.string ⟨#[]⟩] 61)).alloc (.cells (ptrs w3.heap.size) 141)) (w3.heap.size+1) (ptrs w3.heap.size) 141):=⟨by
   have:=Blk.new (w3.alloc (.cells #[.int .i64 0,.int .i64 0,.int .i64 0,.int .i64 0,.int .i64 0,.string ⟨#[]⟩] 61)) (ptrs w3.heap.size) 141
   simp only[World.size_alloc]at this
   exact this⟩
  have HB:=Aside0.mk (below_alloc (below_alloc HB.out (.cells #[.int .i64 0,.int .i64 0,.int .i64 0,.int .i64 0,.int .i64 0,.string ⟨#[]⟩] 61)) (.cells (ptrs w3.heap.size) 141))
  obtain⟨hb0,hhb⟩ : ∃ hb0,hb0=w3.heap.size:=⟨_,rfl⟩
  rw[←hhb]at HI HH HP HR HB hgg
  rw[←hhb]
  clear hhb
  go_loopw [36] (fun n wr=> ∃ k:Nat,k≤5∧n = .int .i64 k∧Aside0 (IsS159 w wr g (B (rdn l k).1) (rdn l k).2)∧Aside0 (Blk wr hb0 (hcs l k) 61)∧Aside0 (Blk wr (hb0+1) (ptrs hb0) 141)∧Aside0 (Blk wr w.heap.size #[.int .i64 0,.int .i64 0,.int .i64 0,.int .i64 0,.int .i64 0,.string ⟨#[]⟩] 61)∧Aside0 (Below w.heap.size w wr)) (fun n _=>5-(intOf n).toNat)
  case atStart=>exact⟨0,by omega,rfl,⟨HI.out.1,by omega⟩,HH,HP,HR,HB⟩
  case round=>
   clear HI HH HP HR HB
   obtain⟨k,hk,rfl,HI,HH,HP,HR,HB⟩:=hrel
   by_cases hlt:k<5
   ·have hpc:=HP.out.cell (ptrs_at hb0 k hlt)
    have HN:=Lib.hid (rnx_f (rdn l k) (Nat.le_trans (rdn_le l k) hll))
    go_wp2_with fail
    refine Calls.mono (pack_Reader_Number.calls 20 g _ _ _ _ _ w wr HI.out HB.out HN.out) ?_
    rintro e w4 ⟨rfl,hI4,hB4,hK4⟩
    have HI:=Aside0.mk hI4
    have HB:=Aside0.mk hB4
    have HH:=Aside0.mk (HH.out.but hK4 (by omega))
    have HP:=Aside0.mk (HP.out.but hK4 (by omega))
    have HR:=Aside0.mk (HR.out.but hK4 (by omega))
    clear hI4 hB4 hK4 hpc HN
    obtain⟨hv0,hva⟩:=hcs_at l k hlt
    have hc:=HH.out.cell hva
    have hf:=HH.out.free k
    have HS:=Lib.hid (hcs_set l k hlt)
    have HV:Hid (((nx (rdn l k)).1:Int)=(val l k:Int)):=Lib.hid rfl
    have HN2:Hid ((nx (rdn l k)).2=rdn l (k+1)):=Lib.hid rfl
    go_wp2_with fail
    go_roundw
    case measure=>simp[intOf];omega
    case rel=>
     refine⟨k+1,by omega,by go_num,⟨?_,HI.out.2⟩,⟨?_⟩,⟨HP.out.other (by omega) _ _⟩,⟨HR.out.other (by omega) _ _⟩,⟨HB.out.setCell (by show w.heap.size≤hb0;omega) _⟩⟩
     ·rw[←HN2.out]
      exact(Below.heap_setCell _ _ _ _ (by show g≠hb0;omega)).trans HI.out.1
     ·have:=HH.out.set k (.int .i64 (val l k:Int))
      rw[HS.out]at this
      exact this
   ·obtain rfl:k=5:=by omega
    have HX:=Lib.hid (rtx_f (rdn l 5) (Nat.le_trans (rdn_le l 5) hll))
    go_wp2_with fail
    refine Calls.mono (pack_Reader_Text.calls 21 g _ _ _ _ _ w wr HI.out HB.out HX.out) ?_
    rintro e w4 ⟨rfl,hI4,hB4,hK4⟩
    have HI:=Aside0.mk hI4
    have HB:=Aside0.mk hB4
    have HH:=Aside0.mk (HH.out.but hK4 (by omega))
    have HR:=Aside0.mk (HR.out.but hK4 (by omega))
    clear hI4 hB4 hK4 HX HP
    obtain⟨x,s5,hx⟩ : ∃ x s5,tx (rdn l 5)=(x,s5):=⟨_,_,rfl⟩
    rw[hx]at HI HRES ⊢
    clear hx
    have hc:=HH.out.cell (i:=5) (v:=.string ⟨#[]⟩) rfl
    have hf:=HH.out.free 5
    have HH:=Aside0.mk (show Blk (w4.setCell ⟨hb0,5,none⟩ (.string (B x))) hb0 #[.int .i64 (val l 0:Int),.int .i64 (val l 1:Int),.int .i64 (val l 2:Int),.int .i64 (val l 3:Int),.int .i64 (val l 4:Int),.string (B x)] 61 from HH.out.set 5 (.string (B x)))
    have HR:=Aside0.mk (HR.out.other (g':=hb0) (by omega) 5 (.string (B x)))
    have HB:=Aside0.mk (HB.out.setCell (p:=⟨hb0,5,none⟩) (by show w.heap.size≤hb0;omega) (.string (B x)))
    have HI:=Aside0.mk (show IsS159 w (w4.setCell ⟨hb0,5,none⟩ (.string (B x))) g (B s5.1) s5.2 from⟨(Below.heap_setCell _ _ _ _ (by show g≠hb0;omega)).trans HI.out.1,HI.out.2⟩)
    cases is
    ·have HRES:=Lib.hid (show secR m=(0,0,0,0,0,B [],4)from HRES.out.trans (if_neg (by simp)))
     go_wp2_with (refine gate_ (.store 61 (.tmp 2) (.tmp 60)) rfl ?_;refine wpList_plain rfl (fun K hK=> ?_);refine wp_store_row 61 (.tmp 2) (.tmp 60) rfl w.heap.size #[.int .i64 0,.int .i64 0,.int .i64 0,.int .i64 0,.int .i64 0,.string ⟨#[]⟩] rfl rfl 61 #[.int .i64 0,.int .i64 0,.int .i64 0,.int .i64 0,.int .i64 0,.string ⟨#[]⟩] HR.out (by kernel_rfl) rfl (one6 _ _ _ _ _ _) (hK _ _ ?_);clear hK K;simp only[Act.put])
     have HF:=Aside0.mk (show Blk ((w4.setCell ⟨hb0,5,none⟩ (.string (B x))).setRow w.heap.size #[.int .i64 0,.int .i64 0,.int .i64 0,.int .i64 0,.int .i64 0,.string ⟨#[]⟩]) w.heap.size #[.int .i64 0,.int .i64 0,.int .i64 0,.int .i64 0,.int .i64 0,.string ⟨#[]⟩] 61 from setRow_heap (w4.setCell ⟨hb0,5,none⟩ (.string (B x))) _ _ _ _ _ HR.out)
     have HB:=Aside0.mk (below_setRow' HB.out (Nat.le_refl _) #[.int .i64 0,.int .i64 0,.int .i64 0,.int .i64 0,.int .i64 0,.string ⟨#[]⟩])
     generalize (w4.setCell ⟨hb0,5,none⟩ (.string (B x))).setRow w.heap.size #[.int .i64 0,.int .i64 0,.int .i64 0,.int .i64 0,.int .i64 0,.string ⟨#[]⟩]=wf at *
     go_wp2_with fail
     obtain⟨r0,r1,r2,r3,r4,r5⟩:=six HF.out
     exact bodyPost_ret (v:=.tuple #[.agg #[.int .i64 0,.int .i64 0,.int .i64 0,.int .i64 0,.int .i64 0,.string ⟨#[]⟩],.int .i64 4]) (by simp[results,Tryz.results73,go_sem,r0,r1,r2,r3,r4,r5]) rfl ⟨by rw[HRES.out];rfl,HB.out⟩
    ·obtain⟨r2,hE⟩ : ∃ r2,pack_Reader_End.f (B s5.1) s5.2=some (endE s5,r2,endE s5):=(rend_f s5).elim (fun h=>⟨_,h⟩) (fun h=>⟨_,h⟩)
     have HE:=Lib.hid hE
     clear hE
     go_wp2_with fail
     refine Calls.mono (pack_Reader_End.calls g _ _ _ _ _ w (w4.setCell ⟨hb0,5,none⟩ (.string (B x))) HI.out HB.out HE.out) ?_
     rintro e w5 ⟨rfl,hI5,hB5,hK5⟩
     have HB:=Aside0.mk hB5
     have HH:=Aside0.mk (HH.out.but hK5 (by omega))
     have HR:=Aside0.mk (HR.out.but hK5 (by omega))
     clear hI5 hB5 hK5 HE HI hc hf
     by_cases he:endE s5=0
     ·have HRES:=Lib.hid (HRES.out.trans (by rw[he]))
      rw[he]
      obtain⟨c0,c1,c2,c3,c4,c5⟩:=six HH.out
      go_wp2_with fail
      have hRlt:=HR.out.lt
      have hHlt:=HH.out.lt
      refine Calls.mono (right_calls _ _ _ _ _ _ w5) ?_
      rintro e w6 ⟨rfl,b6⟩
      have HH:=Aside0.mk (HH.out.keep b6)
      have HR:=Aside0.mk (HR.out.keep b6)
      have HB:=Aside0.mk (below2 HB.out HB.out.size b6)
      clear b6 c0 c1 c2 c3 c4 c5 hRlt hHlt
      have HRES:=Lib.hid (show secR m=if chk (val l 0) (val l 1) (val l 2) (val l 3) (val l 4) (B x).size=0 then ((val l 0:Int),(val l 1:Int),(val l 2:Int),(val l 3:Int),(val l 4:Int),B x,0)else (0,0,0,0,0,B [],4)from HRES.out.trans (by rw[B_size];simp))
      obtain⟨y,hy⟩ : ∃ y,chk (val l 0) (val l 1) (val l 2) (val l 3) (val l 4) (B x).size=y:=⟨_,rfl⟩
      rw[hy]at HRES ⊢
      clear hy
      obtain⟨c0,c1,c2,c3,c4,c5⟩:=six HH.out
      by_cases hy:y=0
      ·subst hy
       have HRES:=Lib.hid (HRES.out.trans (if_pos rfl))
       go_wp2_with (refine gate_ (.store 61 (.tmp 2) (.tmp 61)) rfl ?_;refine wpList_plain rfl (fun K hK=> ?_);refine wp_store_row 61 (.tmp 2) (.tmp 61) rfl w.heap.size #[.int .i64 (val l 0:Int),.int .i64 (val l 1:Int),.int .i64 (val l 2:Int),.int .i64 (val l 3:Int),.int .i64 (val l 4:Int),.string (B x)] rfl rfl 61 #[.int .i64 0,.int .i64 0,.int .i64 0,.int .i64 0,.int .i64 0,.string ⟨#[]⟩] HR.out (by kernel_rfl) rfl (one6 _ _ _ _ _ _) (hK _ _ ?_);clear hK K;simp only[Act.put])
       have HF:=Aside0.mk (show Blk (w6.setRow w.heap.size #[.int .i64 (val l 0:Int),.int .i64 (val l 1:Int),.int .i64 (val l 2:Int),.int .i64 (val l 3:Int),.int .i64 (val l 4:Int),.string (B x)]) w.heap.size #[.int .i64 (val l 0:Int),.int .i64 (val l 1:Int),.int .i64 (val l 2:Int),.int .i64 (val l 3:Int),.int .i64 (val l 4:Int),.string (B x)] 61 from setRow_heap w6 _ _ _ _ _ HR.out)
       have HB:=Aside0.mk (below_setRow' HB.out (Nat.le_refl _) #[.int .i64 (val l 0:Int),.int .i64 (val l 1:Int),.int .i64 (val l 2:Int),.int .i64 (val l 3:Int),.int .i64 (val l 4:Int),.string (B x)])
       generalize w6.setRow w.heap.size #[.int .i64 (val l 0:Int),.int .i64 (val l 1:Int),.int .i64 (val l 2:Int),.int .i64 (val l 3:Int),.int .i64 (val l 4:Int),.string (B x)]=wf at *
       go_wp2_with fail
       obtain⟨r0,r1,r2,r3,r4,r5⟩:=six HF.out
       exact bodyPost_ret (v:=.tuple #[.agg #[.int .i64 (val l 0:Int),.int .i64 (val l 1:Int),.int .i64 (val l 2:Int),.int .i64 (val l 3:Int),.int .i64 (val l 4:Int),.string (B x)],.int .i64 0]) (by simp[results,Tryz.results73,go_sem,r0,r1,r2,r3,r4,r5]) rfl ⟨by rw[HRES.out];rfl,HB.out⟩
      ·have HRES:=Lib.hid (HRES.out.trans (if_neg hy))
       have t1:(y==0)=false:=by simpa using hy
       have t2:(y != 0)=true:=by simp[bne,t1]
       clear hy
       go_wp2_with (refine gate_ (.store 61 (.tmp 2) (.tmp 60)) rfl ?_;refine wpList_plain rfl (fun K hK=> ?_);refine wp_store_row 61 (.tmp 2) (.tmp 60) rfl w.heap.size #[.int .i64 0,.int .i64 0,.int .i64 0,.int .i64 0,.int .i64 0,.string ⟨#[]⟩] rfl rfl 61 #[.int .i64 0,.int .i64 0,.int .i64 0,.int .i64 0,.int .i64 0,.string ⟨#[]⟩] HR.out (by kernel_rfl) rfl (one6 _ _ _ _ _ _) (hK _ _ ?_);clear hK K;simp only[Act.put])
       have HF:=Aside0.mk (show Blk (w6.setRow w.heap.size #[.int .i64 0,.int .i64 0,.int .i64 0,.int .i64 0,.int .i64 0,.string ⟨#[]⟩]) w.heap.size #[.int .i64 0,.int .i64 0,.int .i64 0,.int .i64 0,.int .i64 0,.string ⟨#[]⟩] 61 from setRow_heap w6 _ _ _ _ _ HR.out)
       have HB:=Aside0.mk (below_setRow' HB.out (Nat.le_refl _) #[.int .i64 0,.int .i64 0,.int .i64 0,.int .i64 0,.int .i64 0,.string ⟨#[]⟩])
       generalize w6.setRow w.heap.size #[.int .i64 0,.int .i64 0,.int .i64 0,.int .i64 0,.int .i64 0,.string ⟨#[]⟩]=wf at *
       go_wp2_with fail
       obtain⟨r0,r1,r2,r3,r4,r5⟩:=six HF.out
       exact bodyPost_ret (v:=.tuple #[.agg #[.int .i64 0,.int .i64 0,.int .i64 0,.int .i64 0,.int .i64 0,.string ⟨#[]⟩],.int .i64 4]) (by simp[results,Tryz.results73,go_sem,r0,r1,r2,r3,r4,r5]) rfl ⟨by rw[HRES.out];rfl,HB.out⟩
     ·have HRES:=Lib.hid (show secR m=(0,0,0,0,0,B [],4)from HRES.out.trans (if_neg (fun h=>he h.2.1)))
      have t1:(endE s5==0)=false:=by simpa using he
      have t2:(endE s5 != 0)=true:=by simp[bne,t1]
      clear he
      go_wp2_with (refine gate_ (.store 61 (.tmp 2) (.tmp 60)) rfl ?_;refine wpList_plain rfl (fun K hK=> ?_);refine wp_store_row 61 (.tmp 2) (.tmp 60) rfl w.heap.size #[.int .i64 0,.int .i64 0,.int .i64 0,.int .i64 0,.int .i64 0,.string ⟨#[]⟩] rfl rfl 61 #[.int .i64 0,.int .i64 0,.int .i64 0,.int .i64 0,.int .i64 0,.string ⟨#[]⟩] HR.out (by kernel_rfl) rfl (one6 _ _ _ _ _ _) (hK _ _ ?_);clear hK K;simp only[Act.put])
      have HF:=Aside0.mk (show Blk (w5.setRow w.heap.size #[.int .i64 0,.int .i64 0,.int .i64 0,.int .i64 0,.int .i64 0,.string ⟨#[]⟩]) w.heap.size #[.int .i64 0,.int .i64 0,.int .i64 0,.int .i64 0,.int .i64 0,.string ⟨#[]⟩] 61 from setRow_heap w5 _ _ _ _ _ HR.out)
      have HB:=Aside0.mk (below_setRow' HB.out (Nat.le_refl _) #[.int .i64 0,.int .i64 0,.int .i64 0,.int .i64 0,.int .i64 0,.string ⟨#[]⟩])
      generalize w5.setRow w.heap.size #[.int .i64 0,.int .i64 0,.int .i64 0,.int .i64 0,.int .i64 0,.string ⟨#[]⟩]=wf at *
      go_wp2_with fail
      obtain⟨r0,r1,r2,r3,r4,r5⟩:=six HF.out
      exact bodyPost_ret (v:=.tuple #[.agg #[.int .i64 0,.int .i64 0,.int .i64 0,.int .i64 0,.int .i64 0,.string ⟨#[]⟩],.int .i64 4]) (by simp[results,Tryz.results73,go_sem,r0,r1,r2,r3,r4,r5]) rfl ⟨by rw[HRES.out];rfl,HB.out⟩
 ·have HRES:=Lib.hid (show secR m=(0,0,0,0,0,B [],e1)by unfold secR;rw[ho,if_pos he])
  have t1:(e1==0)=false:=by simpa using he
  have t2:(e1 != 0)=true:=by simp[bne,t1]
  clear he ho
  go_wp2_with (refine gate_ (.store 61 (.tmp 2) (.tmp 18)) rfl ?_;refine wpList_plain rfl (fun K hK=> ?_);refine wp_store_row 61 (.tmp 2) (.tmp 18) rfl w.heap.size #[.int .i64 0,.int .i64 0,.int .i64 0,.int .i64 0,.int .i64 0,.string ⟨#[]⟩] rfl rfl 61 #[.int .i64 0,.int .i64 0,.int .i64 0,.int .i64 0,.int .i64 0,.string ⟨#[]⟩] HR.out (by kernel_rfl) rfl (one6 _ _ _ _ _ _) (hK _ _ ?_);clear hK K;simp only[Act.put])
  have HF:=Aside0.mk (show Blk (w1.setRow w.heap.size #[.int .i64 0,.int .i64 0,.int .i64 0,.int .i64 0,.int .i64 0,.string ⟨#[]⟩]) w.heap.size #[.int .i64 0,.int .i64 0,.int .i64 0,.int .i64 0,.int .i64 0,.string ⟨#[]⟩] 61 from setRow_heap w1 _ _ _ _ _ HR.out)
  have HB:=Aside0.mk (below_setRow' HB.out (Nat.le_refl _) #[.int .i64 0,.int .i64 0,.int .i64 0,.int .i64 0,.int .i64 0,.string ⟨#[]⟩])
  generalize w1.setRow w.heap.size #[.int .i64 0,.int .i64 0,.int .i64 0,.int .i64 0,.int .i64 0,.string ⟨#[]⟩]=wf at *
  go_wp2_with fail
  obtain⟨r0,r1,r2,r3,r4,r5⟩:=six HF.out
  exact bodyPost_ret (v:=.tuple #[.agg #[.int .i64 0,.int .i64 0,.int .i64 0,.int .i64 0,.int .i64 0,.string ⟨#[]⟩],.int .i64 e1]) (by simp[results,Tryz.results73,go_sem,r0,r1,r2,r3,r4,r5]) rfl ⟨by rw[HRES.out];rfl,HB.out⟩
end Go.Proofs.YtdcfonmjbelgbaaGreatDoor
end
section
namespace Go.Proofs.YtdcfonmjbelgbaaGreatDoor
open Go.RowKit YtdcfonmjbelgbaaGreatDoor.Q YtdcfonmjbelgbaaGreatDoorW.PrintWords YtdcfonmjbelgbaaGreatDoorW.PrintLast
theorem rnumber_loop (j:Nat) : ∀ (n k:Nat),n<2 ^ 56→n<128 ^ (j+1)→2*j+2≤k→sluicegateref05_Number.f k (n:Int)=some (B (enc n)):=by
 induction j with
 | zero=>
  intro n k h56 hn hk
  obtain⟨k,rfl⟩ : ∃ m,k=m+1+1:=⟨k-2,by omega⟩
  simp only[sluicegateref05_Number.f,sluicegateref05_Most.f,Option.bind_some]
  have e:decide ((n:Int)>72057594037927935)=false:=by simp;omega
  rw[if_neg (by omega),e]
  simp only[sluicegateref05_Number.j0]
  rw[if_neg (by decide),if_pos (by omega),enc_lt (by omega),←nb_one n (by omega),strOfNums_nb]
 | succ j ih=>
  intro n k h56 hn hk
  obtain⟨k,rfl⟩ : ∃ m,k=m+1+1:=⟨k-2,by omega⟩
  simp only[sluicegateref05_Number.f,sluicegateref05_Most.f,Option.bind_some]
  have e:decide ((n:Int)>72057594037927935)=false:=by simp;omega
  rw[if_neg (by omega),e]
  simp only[sluicegateref05_Number.j0]
  rw[if_neg (by decide)]
  by_cases h:n<128
  ·rw[if_pos (by omega),enc_lt (by omega),←nb_one n (by omega),strOfNums_nb]
  ·rw[if_neg (by omega)]
   simp only[Option.bind_some]
   have e1:wrap64 (Int.tdiv (n:Int) 128)=((n/128:Nat):Int):=by
    rw[Int.tdiv_eq_ediv_of_nonneg (by omega)];unfold wrap64;omega
   have e2:wrap64 (128+Int.tmod (n:Int) 128)%256=((128+n%128:Nat):Int):=by
    rw[Int.tmod_eq_emod_of_nonneg (by omega)];unfold wrap64;omega
   have e3:strOfNums [((128+n%128:Nat):Int)]=B [UInt8.ofNat (128+n%128)]:=by
    rw[←strOfNums_nb]
    simp only[nb,List.map_cons,List.map_nil]
    rw[u8_toNat _ (by omega)]
   have hq:n/128<128 ^ (j+1):=by
    rw[Nat.pow_succ]at hn
    exact Nat.div_lt_of_lt_mul (by omega)
   have h8:=enc_len8 (m:=n/128) (by omega)
   rw[e1,e2,e3,ih (n/128) k (by omega) hq (by omega)]
   simp only[Option.bind_some]
   rw[if_pos (by rw[B_size,B_size,List.length_singleton];omega),B_append,enc_ge (n:=n) (by omega),List.singleton_append]
theorem rnumber_f (n k:Nat) (h:n<2 ^ 56) (hk:20≤k):sluicegateref05_Number.f k (n:Int)=some (B (enc n)):=rnumber_loop 7 n k h (by simpa using h) (by omega)
theorem rtxt_f (s:List UInt8) (k:Nat) (h:s.length≤140737488355328) (hk:20≤k):sluicegateref05_Text.f k (B s)=some (B (txt s)):=by
 unfold sluicegateref05_Text.f
 rw[B_size,rnumber_f s.length k (by omega) hk]
 simp only[Option.bind_some]
 have:=enc_len8 (m:=s.length) (by omega)
 rw[if_pos (by rw[B_size];omega),B_append]
 rfl
end Go.Proofs.YtdcfonmjbelgbaaGreatDoor
namespace Go.Proofs.YtdcfonmjbelgbaaGreatDoor
open Go.RowKit Q YtdcfonmjbelgbaaGreatDoorW.PrintWords YtdcfonmjbelgbaaGreatDoorW.PrintLast YtdcfonmjbelgbaaGreatDoorW.PrintMore
end Go.Proofs.YtdcfonmjbelgbaaGreatDoor
end
section
namespace Go.Proofs.YtdcfonmjbelgbaaGreatDoor
open Go.RowKit Q YtdcfonmjbelgbaaGreatDoorW.PrintWords YtdcfonmjbelgbaaGreatDoorW.PrintLast YtdcfonmjbelgbaaGreatDoorW.PrintMore
theorem rcheck_f (v g i d s:Int) (t:ByteArray):sluicegateref07_Check.f 1 v g i d s t=some (chk v g i d s t.size):=by
 have hj:sluicegateref07_Check.j0 1 true v g i d s t=some 1:=rfl
 have hj0:sluicegateref07_Check.j0 1 false v g i d s t=some (if t.size≤64 then 0 else 12):=by
  simp only[sluicegateref07_Check.j0]
  rw[if_neg (by decide)]
  by_cases h:t.size≤64
  ·rw[if_neg (by omega),if_pos h]
  ·rw[if_pos (by omega),if_neg h]
 unfold sluicegateref07_Check.f
 by_cases h0:v<0
 ·rw[if_pos h0,hj,show chk v g i d s t.size=1 from if_neg (by omega)]
 rw[if_neg h0]
 by_cases h1:v>1099511627776
 ·rw[if_pos h1,hj,show chk v g i d s t.size=1 from if_neg (by omega)]
 rw[if_neg h1]
 by_cases h2:g<0
 ·rw[if_pos h2,hj,show chk v g i d s t.size=1 from if_neg (by omega)]
 rw[if_neg h2]
 by_cases h3:g>1099511627776
 ·rw[if_pos h3,hj,show chk v g i d s t.size=1 from if_neg (by omega)]
 rw[if_neg h3]
 by_cases h4:i<0
 ·rw[if_pos h4,hj,show chk v g i d s t.size=1 from if_neg (by omega)]
 rw[if_neg h4]
 by_cases h5:i>8
 ·rw[if_pos h5,hj,show chk v g i d s t.size=1 from if_neg (by omega)]
 rw[if_neg h5]
 by_cases h6:d<0
 ·rw[if_pos h6,hj,show chk v g i d s t.size=1 from if_neg (by omega)]
 rw[if_neg h6]
 by_cases h7:d>11
 ·rw[if_pos h7,hj,show chk v g i d s t.size=1 from if_neg (by omega)]
 rw[if_neg h7]
 by_cases h8:s<0
 ·rw[if_pos h8,hj,show chk v g i d s t.size=1 from if_neg (by omega)]
 rw[if_neg h8]
 by_cases h9:s>47
 ·rw[decide_eq_true h9,hj,show chk v g i d s t.size=1 from if_neg (by omega)]
 rw[decide_eq_false h9,hj0,show chk v g i d s t.size=_ from if_pos (by omega)]
theorem rnum_q (v:Int) (h0:0≤v) {m:Int} (h1:v≤m) (hm:m≤1099511627776:=by decide) : ∃ b:ByteArray,b=B (enc v.toNat)∧b.size≤8 ∧ ∀ w:World,Calls Tryz.prog 51 #[.int .i64 v] w fun e w'=>e = .returned (.string b)∧Below w.heap.size w w':=by
 have hlt:v.toNat<2 ^ 56:=by omega
 refine⟨_,rfl,by rw[B_size];exact enc_len8 hlt,fun w=> ?_⟩
 have:=sluicegateref05_Number.calls 20 _ _ w (rnumber_f v.toNat 20 hlt (Nat.le_refl _))
 rw[Int.toNat_of_nonneg h0]at this
 exact this
theorem rtxt_q (t:ByteArray) (h:t.size≤64) : ∃ b:ByteArray,b=B (txt t.data.toList)∧b.size≤72 ∧ ∀ w:World,Calls Tryz.prog 52 #[.string t] w fun e w'=>e = .returned (.string b)∧Below w.heap.size w w':=by
 refine⟨_,rfl,by rw[B_size];exact txt_len _ (by rw[size_data];exact h),fun w=> ?_⟩
 have hf:=rtxt_f t.data.toList 20 (by rw[size_data];omega) (Nat.le_refl _)
 rw[B_eta]at hf
 exact sluicegateref05_Text.calls 20 _ _ w hf
theorem rseal_B (l:List UInt8) (w:World) (h:l.length≤200):Calls Tryz.prog 53 #[.string (B l)] w fun e w'=>e = .returned (.string (B (sealL l)))∧Below w.heap.size w w':=
 sluicegateref04_Seal.calls _ _ w (rseal_f l (by omega))
theorem rwrite_calls (v g i d s:Int) (t:ByteArray) (w:World):Calls Tryz.prog 32 #[.agg #[.int .i64 v,.int .i64 g,.int .i64 i,.int .i64 d,.int .i64 s,.string t]] w fun e w'=>e = .returned (.tuple #[.string (secW v g i d s t).1,.int .i64 (secW v g i d s t).2])∧Below w.heap.size w w':=by
 have hu25:=Tryz.underlying64
 have hu23:=Tryz.underlying59
 have HB:Aside0 (Below w.heap.size w (w.alloc (.cells #[.int .i64 v,.int .i64 g,.int .i64 i,.int .i64 d,.int .i64 s,.string t] 64))):=⟨(Below.refl _ _).alloc (Nat.le_refl _) _⟩
 by_cases hc:chk v g i d s t.size=0
 ·have hW:secW v g i d s t=(B (sealL (secT v.toNat g.toNat i.toNat d.toNat s.toNat t.data.toList)),0):=if_pos hc
  rw[hW]
  have HCK:=Lib.hid hc
  clear hW hc
  go_enter Tryz.func32,Tryz.ntmps32
  go_wp2_with fail
  refine Calls.mono (sluicegateref07_Check.calls 1 v g i d s t _ _ (rcheck_f v g i d s t)) ?_
  rintro e w1 ⟨rfl,b1⟩
  rw[HCK.out]
  have hblk:w1.heap[w.heap.size]? = some (.cells #[.int .i64 v,.int .i64 g,.int .i64 i,.int .i64 d,.int .i64 s,.string t] 64 (0,0)):=(b1.block _ (by simp)).trans (heap_alloc_new w _)
  have hlt:w.heap.size<w1.heap.size:=(Array.getElem?_eq_some_iff.1 hblk).1
  have HB:=Aside0.mk (below2 HB.out HB.out.size b1)
  obtain⟨c0,c1,c2,c3,c4,c5⟩:=six hblk
  have hr:=chk_ok HCK.out
  have HR:=Lib.hid hr.1
  have HT:=Lib.hid hr.2
  clear b1 hblk hr
  go_wp2_with fail
  obtain⟨b1,e1,z1,N1⟩:=rnum_q v HR.out.1 HR.out.2.1
  obtain⟨b2,e2,z2,N2⟩:=rnum_q g HR.out.2.2.1 HR.out.2.2.2.1
  obtain⟨b3,e3,z3,N3⟩:=rnum_q i HR.out.2.2.2.2.1 HR.out.2.2.2.2.2.1
  obtain⟨b4,e4,z4,N4⟩:=rnum_q d HR.out.2.2.2.2.2.2.1 HR.out.2.2.2.2.2.2.2.1
  obtain⟨b5,e5,z5,N5⟩:=rnum_q s HR.out.2.2.2.2.2.2.2.2.1 HR.out.2.2.2.2.2.2.2.2.2
  obtain⟨b6,e6,z6,N6⟩:=rtxt_q t HT.out
  have y1 : ¬ 9223372036854775807<2+b1.size:=by omega
  have y2 : ¬ 9223372036854775807<2+b1.size+b2.size:=by omega
  have y3 : ¬ 9223372036854775807<2+b1.size+b2.size+b3.size:=by omega
  have y4 : ¬ 9223372036854775807<2+b1.size+b2.size+b3.size+b4.size:=by omega
  have y5 : ¬ 9223372036854775807<2+b1.size+b2.size+b3.size+b4.size+b5.size:=by omega
  have y6 : ¬ 9223372036854775807<2+b1.size+b2.size+b3.size+b4.size+b5.size+b6.size:=by omega
  have HS:Hid ((⟨#[83,71]⟩:ByteArray)++b1++b2++b3++b4++b5++b6=B (secT v.toNat g.toNat i.toNat d.toNat s.toNat t.data.toList)):=Lib.hid (by
   rw[e1,e2,e3,e4,e5,e6]
   have:(⟨#[83,71]⟩:ByteArray)=B [83,71]:=rfl
   rw[this]
   simp only[B_append]
   unfold secT
   simp only[List.append_assoc])
  have HLn:=Lib.hid (secT_B HR.out HT.out).2
  clear z1 z2 z3 z4 z5 z6 e1 e2 e3 e4 e5 e6
  refine region_below_tail 26 (by kernel_rfl) (by kernel_rfl) ?_
  simp only[List.take_succ_cons,List.take_zero,List.drop_succ_cons,List.drop_zero]
  repeat (first|go_big_quiet_step (fail)|(refine BigFrame.wpQuiet_want (by rfl) (fun K hK=> ?_);go_big_quiet_op;refine⟨_,fun _ _=>rfl,hK _ ?_⟩;clear hK K)|(refine q_ld 3 _ _ _ _ rfl rfl rfl rfl (ld_int _ _) (by assumption) (by assumption) ?_;simp only[Act.put,zA,zB,zC])|(refine q_ld 9 _ _ _ _ rfl rfl rfl rfl (ld_str _ _) (by assumption) (by assumption) ?_;simp only[Act.put,zA,zB,zC])|(refine q_go (f:=51) Tryz.func51 (by kernel_rfl) rfl #[.int .i64 v] _ _ rfl rfl rfl (by simp only[List.map_toArray,List.map_cons,List.map_nil];rfl) (fun w' _=>N1 w') ?_;simp only[Act.put,zA,zB,zC])|(refine q_go (f:=51) Tryz.func51 (by kernel_rfl) rfl #[.int .i64 g] _ _ rfl rfl rfl (by simp only[List.map_toArray,List.map_cons,List.map_nil];rfl) (fun w' _=>N2 w') ?_;simp only[Act.put,zA,zB,zC])|(refine q_go (f:=51) Tryz.func51 (by kernel_rfl) rfl #[.int .i64 i] _ _ rfl rfl rfl (by simp only[List.map_toArray,List.map_cons,List.map_nil];rfl) (fun w' _=>N3 w') ?_;simp only[Act.put,zA,zB,zC])|(refine q_go (f:=51) Tryz.func51 (by kernel_rfl) rfl #[.int .i64 d] _ _ rfl rfl rfl (by simp only[List.map_toArray,List.map_cons,List.map_nil];rfl) (fun w' _=>N4 w') ?_;simp only[Act.put,zA,zB,zC])|(refine q_go (f:=51) Tryz.func51 (by kernel_rfl) rfl #[.int .i64 s] _ _ rfl rfl rfl (by simp only[List.map_toArray,List.map_cons,List.map_nil];rfl) (fun w' _=>N5 w') ?_;simp only[Act.put,zA,zB,zC])|(refine q_go (f:=52) Tryz.func52 (by kernel_rfl) rfl #[.string t] _ _ rfl rfl rfl (by simp only[List.map_toArray,List.map_cons,List.map_nil];rfl) (fun w' _=>N6 w') ?_;simp only[Act.put,zA,zB,zC]))
  refine wpQuiet_nil ?_
  intro wn hw'
  have HB:=Aside0.mk (below2 HB.out HB.out.size hw')
  clear hw' c0 c1 c2 c3 c4 c5 y1 y2 y3 y4 y5 y6 N1 N2 N3 N4 N5 N6
  go_wp2_with fail
  rw[HS.out]
  refine Calls.mono (rseal_B _ wn HLn.out) ?_
  rintro e w5 ⟨rfl,b5⟩
  have HB:=Aside0.mk (below2 HB.out HB.out.size b5)
  clear b5
  go_wp2_with fail
  go_ret2
  exact⟨rfl,HB.out⟩
 ·have hW:secW v g i d s t=(B [],chk v g i d s t.size):=if_neg hc
  rw[hW]
  generalize hk:chk v g i d s t.size=k at *
  have HK:=Lib.hid hk
  have hne:(k==0)=false:=by simpa using hc
  have hne2:(k != 0)=true:=by simp[bne,hne]
  clear hW hk hc
  go_enter Tryz.func32,Tryz.ntmps32
  go_wp2_with fail
  refine Calls.mono (sluicegateref07_Check.calls 1 v g i d s t _ _ (rcheck_f v g i d s t)) ?_
  rintro e w1 ⟨rfl,b1⟩
  rw[HK.out]
  have HB:=Aside0.mk (below2 HB.out HB.out.size b1)
  clear b1
  go_wp2_with fail
  go_ret2
  exact⟨rfl,HB.out⟩
def sluicegateref07_Write.f (a0_0 a0_1 a0_2 a0_3 a0_4:Int) (a0_5:ByteArray):Option (ByteArray×Int):=some (secW a0_0 a0_1 a0_2 a0_3 a0_4 a0_5)
theorem sluicegateref07_Write.calls (a0_0 a0_1 a0_2 a0_3 a0_4:Int) (a0_5:ByteArray) (r1:ByteArray) (r2:Int) (w:World) (h:sluicegateref07_Write.f a0_0 a0_1 a0_2 a0_3 a0_4 a0_5=some (r1,r2)) :
  Calls Tryz.prog 32 #[.agg #[.int .i64 a0_0,.int .i64 a0_1,.int .i64 a0_2,.int .i64 a0_3,.int .i64 a0_4,.string a0_5]] w fun e w'=>e = .returned (.tuple #[.string r1,.int .i64 r2])∧Below w.heap.size w w':=by
 have e:=Option.some.inj h
 have:=rwrite_calls a0_0 a0_1 a0_2 a0_3 a0_4 a0_5 w
 rw[e]at this
 exact this
end Go.Proofs.YtdcfonmjbelgbaaGreatDoor
end
section
namespace Go.Proofs.YtdcfonmjbelgbaaGreatDoor
open Go.RowKit Q YtdcfonmjbelgbaaGreatDoorW.PrintWords YtdcfonmjbelgbaaGreatDoorW.PrintLast YtdcfonmjbelgbaaGreatDoorW.PrintMore
theorem five_inv (l:List UInt8) (h:endE (tx (rdn l 5)).2=0):[83,71]++l=secT (val l 0) (val l 1) (val l 2) (val l 3) (val l 4) (tx (rdn l 5)).1:=by
 obtain⟨h5,e5⟩:=tx_inv _ h
 obtain⟨h4,e4⟩:=nx_inv (rdn l 4) h5
 obtain⟨h3,e3⟩:=nx_inv (rdn l 3) h4
 obtain⟨h2,e2⟩:=nx_inv (rdn l 2) h3
 obtain⟨h1,e1⟩:=nx_inv (rdn l 1) h2
 obtain⟨_,e0⟩:=nx_inv (rdn l 0) h1
 have e4:(rdn l 4).1=enc (val l 4)++(rdn l 5).1:=e4
 have e3:(rdn l 3).1=enc (val l 3)++(rdn l 4).1:=e3
 have e2:(rdn l 2).1=enc (val l 2)++(rdn l 3).1:=e2
 have e1:(rdn l 1).1=enc (val l 1)++(rdn l 2).1:=e1
 have e0:l=enc (val l 0)++(rdn l 1).1:=e0
 rw[e5]at e4
 rw[e4]at e3
 rw[e3]at e2
 rw[e2]at e1
 rw[e1]at e0
 unfold secT
 simp only[List.append_assoc]
 rw[←e0]
theorem short_read (m u:List UInt8) (ho:openL m=(B u,0)) (h:u.length<2):secR m=(0,0,0,0,0,B [],4):=by
 have hd:(B u).data.toList=u:=rfl
 unfold secR
 rw[ho]
 simp only[ne_eq,not_true_eq_false,if_false,hd]
 rw[if_neg]
 intro hh
 have:=hh.1
 unfold cutp at this
 split at this
 ·rename_i h2
  have:=congrArg List.length h2
  rw[List.length_take]at this
  simp only[List.length_cons,List.length_nil]at this
  omega
 ·cases this
theorem ref_read (m u:List UInt8) (ho:openL m=(B u,0)) (h:2≤u.length) (l:List UInt8) (hl:l=u.drop 2):secR m=if rend (rtx (rdn l 5)).2=0∧(secW (val l 0) (val l 1) (val l 2) (val l 3) (val l 4) (B (rtx (rdn l 5)).1)).2=0∧(secW (val l 0) (val l 1) (val l 2) (val l 3) (val l 4) (B (rtx (rdn l 5)).1)).1=B m then ((val l 0:Int),(val l 1:Int),(val l 2:Int),(val l 3:Int),(val l 4:Int),B (rtx (rdn l 5)).1,0)else (0,0,0,0,0,B [],4):=by
 have hm:m=sealL u:=by
  rcases openL_cases m with ⟨_,h⟩|⟨_,_,h⟩|⟨u',h1,h2⟩
  ·rw[ho]at h;cases h
  ·rw[ho]at h;cases h
  ·rw[ho]at h2
   have:u=u':=B_inj (congrArg Prod.fst h2)
   rw[h1,this]
 have hd:(B u).data.toList=u:=rfl
 rw[rtx_1]
 have hW : ∀ x:List UInt8,(secW (val l 0) (val l 1) (val l 2) (val l 3) (val l 4) (B x)).2=0↔chk (val l 0) (val l 1) (val l 2) (val l 3) (val l 4) x.length=0:=by
  intro x
  unfold secW
  rw[B_size]
  by_cases hc:chk (val l 0) (val l 1) (val l 2) (val l 3) (val l 4) x.length=0
  ·rw[if_pos hc];exact⟨fun _=>hc,fun _=>rfl⟩
  ·rw[if_neg hc]
 have hW1 : ∀ x:List UInt8,chk (val l 0) (val l 1) (val l 2) (val l 3) (val l 4) x.length=0→(secW (val l 0) (val l 1) (val l 2) (val l 3) (val l 4) (B x)).1=B (sealL (secT (val l 0) (val l 1) (val l 2) (val l 3) (val l 4) x)):=by
  intro x hc
  unfold secW
  rw[B_size,if_pos hc]
  simp only[Int.toNat_natCast]
  rfl
 unfold secR
 rw[ho]
 simp only[ne_eq,not_true_eq_false,if_false,hd]
 by_cases ht:u.take 2=[83,71]
 ·have hu:u=[83,71]++l:=by rw[←ht,hl,List.take_append_drop]
  have hcut:cutp u=(l,true):=by
   unfold cutp
   rw[if_pos ht,hl]
  rw[hcut]
  simp only[true_and]
  have:(endE (tx (rdn l 5)).2=0∧chk (val l 0) (val l 1) (val l 2) (val l 3) (val l 4) (tx (rdn l 5)).1.length=0)↔(rend (rtx (rdn l 5)).2=0∧(secW (val l 0) (val l 1) (val l 2) (val l 3) (val l 4) (B (tx (rdn l 5)).1)).2=0∧(secW (val l 0) (val l 1) (val l 2) (val l 3) (val l 4) (B (tx (rdn l 5)).1)).1=B m):=by
   rw[rend_iff,hW]
   constructor
   ·rintro⟨h1,h2⟩
    refine⟨h1,h2,?_⟩
    rw[hW1 _ h2,hm,hu,five_inv l h1]
   ·rintro⟨h1,h2,_⟩
    exact⟨h1,h2⟩
  by_cases hh:endE (tx (rdn l 5)).2=0∧chk (val l 0) (val l 1) (val l 2) (val l 3) (val l 4) (tx (rdn l 5)).1.length=0
  ·rw[if_pos hh,if_pos (this.1 hh)]
  ·rw[if_neg hh,if_neg (fun h=>hh (this.2 h))]
 ·have hcut:cutp u=(u,false):=if_neg ht
  rw[hcut,if_neg (by rintro⟨h,_⟩;cases h),if_neg]
  rintro⟨h1,h2,h3⟩
  rw[hW1 _ ((hW _).1 h2),hm]at h3
  have h4:=B_inj h3
  have h5:secT (val l 0) (val l 1) (val l 2) (val l 3) (val l 4) (tx (rdn l 5)).1=u:=by
   rw[←take_seal (secT _ _ _ _ _ _),h4,take_seal]
  apply ht
  rw[←h5]
  rfl
end Go.Proofs.YtdcfonmjbelgbaaGreatDoor
namespace Go.Proofs.YtdcfonmjbelgbaaGreatDoor
open Go.RowKit Q YtdcfonmjbelgbaaGreatDoorW.PrintWords YtdcfonmjbelgbaaGreatDoorW.PrintLast YtdcfonmjbelgbaaGreatDoorW.PrintMore
theorem rread_calls (m:List UInt8) (hm:m.length≤140737488355328) (w:World):Calls Tryz.prog 57 #[.string (B m)] w fun e w'=>e = .returned (.tuple #[.agg #[.int .i64 (secR m).1,.int .i64 (secR m).2.1,.int .i64 (secR m).2.2.1,.int .i64 (secR m).2.2.2.1,.int .i64 (secR m).2.2.2.2.1,.string (secR m).2.2.2.2.2.1],.int .i64 (secR m).2.2.2.2.2.2])∧Below w.heap.size w w':=by
 have hu25:=Tryz.underlying64
 have hu23:=Tryz.underlying59
 have HO:=Lib.hid (ropen_f m hm)
 have HR:Aside0 (Blk (w.alloc (.cells #[.int .i64 0,.int .i64 0,.int .i64 0,.int .i64 0,.int .i64 0,.string ⟨#[]⟩] 64)) w.heap.size #[.int .i64 0,.int .i64 0,.int .i64 0,.int .i64 0,.int .i64 0,.string ⟨#[]⟩] 64):=⟨Blk.new w _ _⟩
 have HB:Aside0 (Below w.heap.size w (w.alloc (.cells #[.int .i64 0,.int .i64 0,.int .i64 0,.int .i64 0,.int .i64 0,.string ⟨#[]⟩] 64))):=⟨(Below.refl _ _).alloc (Nat.le_refl _) _⟩
 go_enter Tryz.func57,Tryz.ntmps57
 go_wp2_with fail
 refine Calls.mono (sluicegateref04_Open.calls _ (openL m).1 (openL m).2 _ HO.out) ?_
 rintro e w1 ⟨rfl,b1⟩
 have HR:=Aside0.mk (HR.out.keep b1)
 have HB:=Aside0.mk (below2 HB.out HB.out.size b1)
 clear b1 HO
 obtain⟨o1,e1,ho⟩ : ∃ o1 e1,openL m=(o1,e1):=⟨_,_,rfl⟩
 rw[ho]
 by_cases he:e1=0
 ·subst he
  obtain⟨u,rfl⟩:=exB o1
  by_cases hu2:u.length<2
  ·have HRES:=Lib.hid (short_read m u ho hu2)
   have hs:(B u).size<2:=by rw[B_size];exact hu2
   clear ho hu2
   go_wp2_with (refine gate_ (.store 64 (.tmp 2) (.tmp 22)) rfl ?_;refine wpList_plain rfl (fun K hK=> ?_);refine wp_store_row 64 (.tmp 2) (.tmp 22) rfl w.heap.size #[.int .i64 0,.int .i64 0,.int .i64 0,.int .i64 0,.int .i64 0,.string ⟨#[]⟩] rfl rfl 64 #[.int .i64 0,.int .i64 0,.int .i64 0,.int .i64 0,.int .i64 0,.string ⟨#[]⟩] HR.out (by kernel_rfl) rfl (one6 _ _ _ _ _ _) (hK _ _ ?_);clear hK K;simp only[Act.put])
   have HF:=Aside0.mk (show Blk (w1.setRow w.heap.size #[.int .i64 0,.int .i64 0,.int .i64 0,.int .i64 0,.int .i64 0,.string ⟨#[]⟩]) w.heap.size #[.int .i64 0,.int .i64 0,.int .i64 0,.int .i64 0,.int .i64 0,.string ⟨#[]⟩] 64 from setRow_heap w1 _ _ _ _ _ HR.out)
   have HB:=Aside0.mk (below_setRow' HB.out (Nat.le_refl _) #[.int .i64 0,.int .i64 0,.int .i64 0,.int .i64 0,.int .i64 0,.string ⟨#[]⟩])
   generalize w1.setRow w.heap.size #[.int .i64 0,.int .i64 0,.int .i64 0,.int .i64 0,.int .i64 0,.string ⟨#[]⟩]=wf at *
   go_wp2_with fail
   obtain⟨r0,r1,r2,r3,r4,r5⟩:=six HF.out
   exact bodyPost_ret (v:=.tuple #[.agg #[.int .i64 0,.int .i64 0,.int .i64 0,.int .i64 0,.int .i64 0,.string ⟨#[]⟩],.int .i64 4]) (by simp[results,Tryz.results57,go_sem,r0,r1,r2,r3,r4,r5]) rfl ⟨by rw[HRES.out];rfl,HB.out⟩
  ·have HM:=Lib.hid (ref_read m u ho (by omega))
   have hs : ¬ (B u).size<2:=by rw[B_size];exact hu2
   have hs1:2≤(B u).size:=by omega
   have hul:u.length≤m.length:=by
    rcases openL_cases m with ⟨_,h⟩|⟨_,_,h⟩|⟨u',h1,h2⟩
    ·rw[ho]at h;cases h
    ·rw[ho]at h;cases h
    ·rw[ho]at h2
     have:u=u':=B_inj (congrArg Prod.fst h2)
     rw[h1,sealL_len,this]
     exact Nat.le_add_right _ _
   obtain⟨l,hl⟩ : ∃ l,l=u.drop 2:=⟨_,rfl⟩
   have HRES:=Lib.hid (HM.out l hl)
   have HX:Hid ((B u).extract 2 (B u).size=B l):=Lib.hid (by
    rw[B_extract,hl,B_size,List.take_of_length_le (by rw[List.length_drop];exact Nat.le_refl _)])
   have hll:l.length≤140737488355328:=by rw[hl,List.length_drop];omega
   clear ho hl HM
   have hRlt:=HR.out.lt
   go_wp2_with (refine gate_ (.store 64 (.tmp 7) (.tmp 27)) rfl ?_;refine wpList_plain rfl (fun K hK=> ?_);refine wp_store_row 64 (.tmp 7) (.tmp 27) rfl (w1.heap.size+1) #[.int .i64 0,.int .i64 0,.int .i64 0,.int .i64 0,.int .i64 0,.string ⟨#[]⟩] rfl rfl 64 #[.int .i64 0,.int .i64 0,.int .i64 0,.int .i64 0,.int .i64 0,.string ⟨#[]⟩] (Blk.new _ _ _) (by kernel_rfl) rfl (one6 _ _ _ _ _ _) (hK _ _ ?_);clear hK K;simp only[Act.put])
   rw[HX.out]
   have HI:Aside0 (IsS132 w ((w1.alloc (.cells #[.string (B l),.int .i64 0] 132)).alloc (.cells #[.int .i64 0,.int .i64 0,.int .i64 0,.int .i64 0,.int .i64 0,.string ⟨#[]⟩] 64)) w1.heap.size (B (rdn l 0).1) (rdn l 0).2):=⟨(Blk.new w1 _ _).alloc _,HB.out.size⟩
   have HR:=Aside0.mk ((HR.out.alloc (.cells #[.string (B l),.int .i64 0] 132)).alloc (.cells #[.int .i64 0,.int .i64 0,.int .i64 0,.int .i64 0,.int .i64 0,.string ⟨#[]⟩] 64))
   have HH:Aside0 (Blk ((w1.alloc (.cells #[.string (B l),.int .i64 0] 132)).alloc (.cells #[.int .i64 0,.int .i64 0,.int .i64 0,.int .i64 0,.int .i64 0,.string ⟨#[]⟩] 64)) (w1.heap.size+1) #[.int .i64 0,.int .i64 0,.int .i64 0,.int .i64 0,.int .i64 0,.string ⟨#[]⟩] 64):=⟨by
    have:=Blk.new (w1.alloc (.cells #[.string (B l),.int .i64 0] 132)) #[.int .i64 0,.int .i64 0,.int .i64 0,.int .i64 0,.int .i64 0,.string ⟨#[]⟩] 64
    simp only[World.size_alloc]at this
    exact this⟩
   have HB:=Aside0.mk (below_alloc (below_alloc HB.out (.cells #[.string (B l),.int .i64 0] 132)) (.cells #[.int .i64 0,.int .i64 0,.int .i64 0,.int .i64 0,.int .i64 0,.string ⟨#[]⟩] 64))
   obtain⟨g,hg⟩ : ∃ g,g=w1.heap.size:=⟨_,rfl⟩
   rw[←hg]at HI HH
   have hgg:w.heap.size<g:=by omega
   generalize (w1.alloc (.cells #[.string (B l),.int .i64 0] 132)).alloc (.cells #[.int .i64 0,.int .i64 0,.int .i64 0,.int .i64 0,.int .i64 0,.string ⟨#[]⟩] 64)=wr at *
   rw[←hg]
   clear hg hRlt HX
   have HN:=Lib.hid (rrn_f (rdn l 0) (Nat.le_trans (rdn_le l 0) hll))
   refine Calls.mono (sluicegateref05_Reader_Number.calls 20 g _ _ _ _ _ w wr HI.out HB.out HN.out) ?_
   clear HN
   rintro e w4 ⟨rfl,hI4,hB4,hK4⟩
   have HI:=Aside0.mk (show IsS132 w w4 g (B (rdn l 1).1) (rdn l 1).2 from hI4)
   have HB:=Aside0.mk hB4
   have HH:=Aside0.mk (HH.out.but hK4 (by omega))
   have HR:=Aside0.mk (HR.out.but hK4 (by omega))
   clear hI4 hB4 hK4
   have HV:Hid (((nx (rdn l 0)).1:Int)=(val l 0:Int)):=Lib.hid rfl
   rw[HV.out]
   clear HV
   have hc:=HH.out.cell (i:=0) (v:=.int .i64 0) rfl
   have hf:=HH.out.free 0
   go_wp2_with fail
   have HI:=Aside0.mk (show IsS132 w (w4.setCell ⟨g+1,0,none⟩ (.int .i64 (val l 0:Int))) g (B (rdn l 1).1) (rdn l 1).2 from⟨(Below.heap_setCell _ _ _ _ (by show g≠g+1;omega)).trans HI.out.1,HI.out.2⟩)
   have HH:=Aside0.mk (show Blk (w4.setCell ⟨g+1,0,none⟩ (.int .i64 (val l 0:Int))) (g+1) #[.int .i64 (val l 0:Int),.int .i64 0,.int .i64 0,.int .i64 0,.int .i64 0,.string ⟨#[]⟩] 64 from HH.out.set 0 (.int .i64 (val l 0:Int)))
   have HR:=Aside0.mk (HR.out.other (g':=g+1) (by omega) 0 (.int .i64 (val l 0:Int)))
   have HB:=Aside0.mk (HB.out.setCell (p:=⟨g+1,0,none⟩) (by show w.heap.size≤g+1;omega) (.int .i64 (val l 0:Int)))
   clear hc hf
   generalize w4.setCell ⟨g+1,0,none⟩ (.int .i64 (val l 0:Int))=wr at *
   have HN:=Lib.hid (rrn_f (rdn l 1) (Nat.le_trans (rdn_le l 1) hll))
   refine Calls.mono (sluicegateref05_Reader_Number.calls 20 g _ _ _ _ _ w wr HI.out HB.out HN.out) ?_
   clear HN
   rintro e w4 ⟨rfl,hI4,hB4,hK4⟩
   have HI:=Aside0.mk (show IsS132 w w4 g (B (rdn l 2).1) (rdn l 2).2 from hI4)
   have HB:=Aside0.mk hB4
   have HH:=Aside0.mk (HH.out.but hK4 (by omega))
   have HR:=Aside0.mk (HR.out.but hK4 (by omega))
   clear hI4 hB4 hK4
   have HV:Hid (((nx (rdn l 1)).1:Int)=(val l 1:Int)):=Lib.hid rfl
   rw[HV.out]
   clear HV
   have hc:=HH.out.cell (i:=1) (v:=.int .i64 0) rfl
   have hf:=HH.out.free 1
   go_wp2_with fail
   have HI:=Aside0.mk (show IsS132 w (w4.setCell ⟨g+1,1,none⟩ (.int .i64 (val l 1:Int))) g (B (rdn l 2).1) (rdn l 2).2 from⟨(Below.heap_setCell _ _ _ _ (by show g≠g+1;omega)).trans HI.out.1,HI.out.2⟩)
   have HH:=Aside0.mk (show Blk (w4.setCell ⟨g+1,1,none⟩ (.int .i64 (val l 1:Int))) (g+1) #[.int .i64 (val l 0:Int),.int .i64 (val l 1:Int),.int .i64 0,.int .i64 0,.int .i64 0,.string ⟨#[]⟩] 64 from HH.out.set 1 (.int .i64 (val l 1:Int)))
   have HR:=Aside0.mk (HR.out.other (g':=g+1) (by omega) 1 (.int .i64 (val l 1:Int)))
   have HB:=Aside0.mk (HB.out.setCell (p:=⟨g+1,1,none⟩) (by show w.heap.size≤g+1;omega) (.int .i64 (val l 1:Int)))
   clear hc hf
   generalize w4.setCell ⟨g+1,1,none⟩ (.int .i64 (val l 1:Int))=wr at *
   have HN:=Lib.hid (rrn_f (rdn l 2) (Nat.le_trans (rdn_le l 2) hll))
   refine Calls.mono (sluicegateref05_Reader_Number.calls 20 g _ _ _ _ _ w wr HI.out HB.out HN.out) ?_
   clear HN
   rintro e w4 ⟨rfl,hI4,hB4,hK4⟩
   have HI:=Aside0.mk (show IsS132 w w4 g (B (rdn l 3).1) (rdn l 3).2 from hI4)
   have HB:=Aside0.mk hB4
   have HH:=Aside0.mk (HH.out.but hK4 (by omega))
   have HR:=Aside0.mk (HR.out.but hK4 (by omega))
   clear hI4 hB4 hK4
   have HV:Hid (((nx (rdn l 2)).1:Int)=(val l 2:Int)):=Lib.hid rfl
   rw[HV.out]
   clear HV
   have hc:=HH.out.cell (i:=2) (v:=.int .i64 0) rfl
   have hf:=HH.out.free 2
   go_wp2_with fail
   have HI:=Aside0.mk (show IsS132 w (w4.setCell ⟨g+1,2,none⟩ (.int .i64 (val l 2:Int))) g (B (rdn l 3).1) (rdn l 3).2 from⟨(Below.heap_setCell _ _ _ _ (by show g≠g+1;omega)).trans HI.out.1,HI.out.2⟩)
   have HH:=Aside0.mk (show Blk (w4.setCell ⟨g+1,2,none⟩ (.int .i64 (val l 2:Int))) (g+1) #[.int .i64 (val l 0:Int),.int .i64 (val l 1:Int),.int .i64 (val l 2:Int),.int .i64 0,.int .i64 0,.string ⟨#[]⟩] 64 from HH.out.set 2 (.int .i64 (val l 2:Int)))
   have HR:=Aside0.mk (HR.out.other (g':=g+1) (by omega) 2 (.int .i64 (val l 2:Int)))
   have HB:=Aside0.mk (HB.out.setCell (p:=⟨g+1,2,none⟩) (by show w.heap.size≤g+1;omega) (.int .i64 (val l 2:Int)))
   clear hc hf
   generalize w4.setCell ⟨g+1,2,none⟩ (.int .i64 (val l 2:Int))=wr at *
   have HN:=Lib.hid (rrn_f (rdn l 3) (Nat.le_trans (rdn_le l 3) hll))
   refine Calls.mono (sluicegateref05_Reader_Number.calls 20 g _ _ _ _ _ w wr HI.out HB.out HN.out) ?_
   clear HN
   rintro e w4 ⟨rfl,hI4,hB4,hK4⟩
   have HI:=Aside0.mk (show IsS132 w w4 g (B (rdn l 4).1) (rdn l 4).2 from hI4)
   have HB:=Aside0.mk hB4
   have HH:=Aside0.mk (HH.out.but hK4 (by omega))
   have HR:=Aside0.mk (HR.out.but hK4 (by omega))
   clear hI4 hB4 hK4
   have HV:Hid (((nx (rdn l 3)).1:Int)=(val l 3:Int)):=Lib.hid rfl
   rw[HV.out]
   clear HV
   have hc:=HH.out.cell (i:=3) (v:=.int .i64 0) rfl
   have hf:=HH.out.free 3
   go_wp2_with fail
   have HI:=Aside0.mk (show IsS132 w (w4.setCell ⟨g+1,3,none⟩ (.int .i64 (val l 3:Int))) g (B (rdn l 4).1) (rdn l 4).2 from⟨(Below.heap_setCell _ _ _ _ (by show g≠g+1;omega)).trans HI.out.1,HI.out.2⟩)
   have HH:=Aside0.mk (show Blk (w4.setCell ⟨g+1,3,none⟩ (.int .i64 (val l 3:Int))) (g+1) #[.int .i64 (val l 0:Int),.int .i64 (val l 1:Int),.int .i64 (val l 2:Int),.int .i64 (val l 3:Int),.int .i64 0,.string ⟨#[]⟩] 64 from HH.out.set 3 (.int .i64 (val l 3:Int)))
   have HR:=Aside0.mk (HR.out.other (g':=g+1) (by omega) 3 (.int .i64 (val l 3:Int)))
   have HB:=Aside0.mk (HB.out.setCell (p:=⟨g+1,3,none⟩) (by show w.heap.size≤g+1;omega) (.int .i64 (val l 3:Int)))
   clear hc hf
   generalize w4.setCell ⟨g+1,3,none⟩ (.int .i64 (val l 3:Int))=wr at *
   have HN:=Lib.hid (rrn_f (rdn l 4) (Nat.le_trans (rdn_le l 4) hll))
   refine Calls.mono (sluicegateref05_Reader_Number.calls 20 g _ _ _ _ _ w wr HI.out HB.out HN.out) ?_
   clear HN
   rintro e w4 ⟨rfl,hI4,hB4,hK4⟩
   have HI:=Aside0.mk (show IsS132 w w4 g (B (rdn l 5).1) (rdn l 5).2 from hI4)
   have HB:=Aside0.mk hB4
   have HH:=Aside0.mk (HH.out.but hK4 (by omega))
   have HR:=Aside0.mk (HR.out.but hK4 (by omega))
   clear hI4 hB4 hK4
   have HV:Hid (((nx (rdn l 4)).1:Int)=(val l 4:Int)):=Lib.hid rfl
   rw[HV.out]
   clear HV
   have hc:=HH.out.cell (i:=4) (v:=.int .i64 0) rfl
   have hf:=HH.out.free 4
   go_wp2_with fail
   have HI:=Aside0.mk (show IsS132 w (w4.setCell ⟨g+1,4,none⟩ (.int .i64 (val l 4:Int))) g (B (rdn l 5).1) (rdn l 5).2 from⟨(Below.heap_setCell _ _ _ _ (by show g≠g+1;omega)).trans HI.out.1,HI.out.2⟩)
   have HH:=Aside0.mk (show Blk (w4.setCell ⟨g+1,4,none⟩ (.int .i64 (val l 4:Int))) (g+1) #[.int .i64 (val l 0:Int),.int .i64 (val l 1:Int),.int .i64 (val l 2:Int),.int .i64 (val l 3:Int),.int .i64 (val l 4:Int),.string ⟨#[]⟩] 64 from HH.out.set 4 (.int .i64 (val l 4:Int)))
   have HR:=Aside0.mk (HR.out.other (g':=g+1) (by omega) 4 (.int .i64 (val l 4:Int)))
   have HB:=Aside0.mk (HB.out.setCell (p:=⟨g+1,4,none⟩) (by show w.heap.size≤g+1;omega) (.int .i64 (val l 4:Int)))
   clear hc hf
   generalize w4.setCell ⟨g+1,4,none⟩ (.int .i64 (val l 4:Int))=wr at *
   have HX:=Lib.hid (rrt_f (rdn l 5) (Nat.le_trans (rdn_le l 5) hll))
   refine Calls.mono (sluicegateref05_Reader_Text.calls 20 g _ _ _ _ _ w wr HI.out HB.out HX.out) ?_
   clear HX
   rintro e w4 ⟨rfl,hI4,hB4,hK4⟩
   have HI:=Aside0.mk hI4
   have HB:=Aside0.mk hB4
   have HH:=Aside0.mk (HH.out.but hK4 (by omega))
   have HR:=Aside0.mk (HR.out.but hK4 (by omega))
   clear hI4 hB4 hK4
   obtain⟨x,s5,hx⟩ : ∃ x s5,rtx (rdn l 5)=(x,s5):=⟨_,_,rfl⟩
   rw[hx]at HI HRES ⊢
   clear hx
   have hc:=HH.out.cell (i:=5) (v:=.string ⟨#[]⟩) rfl
   have hf:=HH.out.free 5
   have HI:=Aside0.mk (show IsS132 w (w4.setCell ⟨g+1,5,none⟩ (.string (B x))) g (B s5.1) s5.2 from⟨(Below.heap_setCell _ _ _ _ (by show g≠g+1;omega)).trans HI.out.1,HI.out.2⟩)
   have HH:=Aside0.mk (show Blk (w4.setCell ⟨g+1,5,none⟩ (.string (B x))) (g+1) #[.int .i64 (val l 0:Int),.int .i64 (val l 1:Int),.int .i64 (val l 2:Int),.int .i64 (val l 3:Int),.int .i64 (val l 4:Int),.string (B x)] 64 from HH.out.set 5 (.string (B x)))
   have HR:=Aside0.mk (HR.out.other (g':=g+1) (by omega) 5 (.string (B x)))
   have HB:=Aside0.mk (HB.out.setCell (p:=⟨g+1,5,none⟩) (by show w.heap.size≤g+1;omega) (.string (B x)))
   obtain⟨c0,c1,c2,c3,c4,c5⟩:=six HH.out
   go_wp2_with fail
   have hHlt:=HH.out.lt
   have hRlt:=HR.out.lt
   generalize w4.setCell ⟨g+1,5,none⟩ (.string (B x))=wr at *
   obtain⟨y1,y2,hy⟩ : ∃ y1 y2,secW (val l 0) (val l 1) (val l 2) (val l 3) (val l 4) (B x)=(y1,y2):=⟨_,_,rfl⟩
   rw[hy]at HRES
   refine Calls.mono (rwrite_calls (val l 0) (val l 1) (val l 2) (val l 3) (val l 4) (B x) wr) ?_
   rintro e w6 ⟨rfl,b6⟩
   rw[hy]
   clear hy
   have HI:=Aside0.mk (HI.out.below b6)
   have HH:=Aside0.mk (HH.out.keep b6)
   have HR:=Aside0.mk (HR.out.keep b6)
   have HB:=Aside0.mk (below2 HB.out HB.out.size b6)
   clear b6 c0 c1 c2 c3 c4 c5 hRlt hHlt hc hf
   go_wp2_with fail
   refine Calls.mono (sluicegateref05_Reader_End.calls g _ _ _ _ _ w w6 HI.out HB.out (rre_f s5)) ?_
   rintro e w7 ⟨rfl,hI7,hB7,hK7⟩
   have HB:=Aside0.mk hB7
   have HH:=Aside0.mk (HH.out.but hK7 (by omega))
   have HR:=Aside0.mk (HR.out.but hK7 (by omega))
   clear hI7 hB7 hK7 HI
   generalize rend s5=z at *
   obtain⟨c0,c1,c2,c3,c4,c5⟩:=six HH.out
   by_cases hz:z=0
   ·subst hz
    by_cases hy2:y2=0
    ·subst hy2
     by_cases hy1:y1=B m
     ·subst hy1
      replace HRES:=Lib.hid (HRES.out.trans (if_pos ⟨rfl,rfl,rfl⟩))
      have t0:((B m).toList==(B m).toList)=true:=beq_self_eq_true _
      go_wp2_with (refine gate_ (.store 64 (.tmp 2) (.tmp 66)) rfl ?_;refine wpList_plain rfl (fun K hK=> ?_);refine wp_store_row 64 (.tmp 2) (.tmp 66) rfl w.heap.size #[.int .i64 (val l 0:Int),.int .i64 (val l 1:Int),.int .i64 (val l 2:Int),.int .i64 (val l 3:Int),.int .i64 (val l 4:Int),.string (B x)] rfl rfl 64 #[.int .i64 0,.int .i64 0,.int .i64 0,.int .i64 0,.int .i64 0,.string ⟨#[]⟩] HR.out (by kernel_rfl) rfl (one6 _ _ _ _ _ _) (hK _ _ ?_);clear hK K;simp only[Act.put])
      have HF:=Aside0.mk (show Blk (w7.setRow w.heap.size #[.int .i64 (val l 0:Int),.int .i64 (val l 1:Int),.int .i64 (val l 2:Int),.int .i64 (val l 3:Int),.int .i64 (val l 4:Int),.string (B x)]) w.heap.size #[.int .i64 (val l 0:Int),.int .i64 (val l 1:Int),.int .i64 (val l 2:Int),.int .i64 (val l 3:Int),.int .i64 (val l 4:Int),.string (B x)] 64 from setRow_heap w7 _ _ _ _ _ HR.out)
      have HB:=Aside0.mk (below_setRow' HB.out (Nat.le_refl _) #[.int .i64 (val l 0:Int),.int .i64 (val l 1:Int),.int .i64 (val l 2:Int),.int .i64 (val l 3:Int),.int .i64 (val l 4:Int),.string (B x)])
      generalize w7.setRow w.heap.size #[.int .i64 (val l 0:Int),.int .i64 (val l 1:Int),.int .i64 (val l 2:Int),.int .i64 (val l 3:Int),.int .i64 (val l 4:Int),.string (B x)]=wf at *
      go_wp2_with fail
      obtain⟨r0,r1,r2,r3,r4,r5⟩:=six HF.out
      exact bodyPost_ret (v:=.tuple #[.agg #[.int .i64 (val l 0:Int),.int .i64 (val l 1:Int),.int .i64 (val l 2:Int),.int .i64 (val l 3:Int),.int .i64 (val l 4:Int),.string (B x)],.int .i64 0]) (by simp[results,Tryz.results57,go_sem,r0,r1,r2,r3,r4,r5]) rfl ⟨by rw[HRES.out],HB.out⟩
     ·replace HRES:=Lib.hid (HRES.out.trans (if_neg (fun h=>hy1 h.2.2)))
      have t1:(y1.toList==(B m).toList)=false:=beq_eq_false_iff_ne.2 (fun h=>hy1 (eq_of_toList h))
      clear hy1
      go_wp2_with (refine gate_ (.store 64 (.tmp 2) (.tmp 65)) rfl ?_;refine wpList_plain rfl (fun K hK=> ?_);refine wp_store_row 64 (.tmp 2) (.tmp 65) rfl w.heap.size #[.int .i64 0,.int .i64 0,.int .i64 0,.int .i64 0,.int .i64 0,.string ⟨#[]⟩] rfl rfl 64 #[.int .i64 0,.int .i64 0,.int .i64 0,.int .i64 0,.int .i64 0,.string ⟨#[]⟩] HR.out (by kernel_rfl) rfl (one6 _ _ _ _ _ _) (hK _ _ ?_);clear hK K;simp only[Act.put])
      have HF:=Aside0.mk (show Blk (w7.setRow w.heap.size #[.int .i64 0,.int .i64 0,.int .i64 0,.int .i64 0,.int .i64 0,.string ⟨#[]⟩]) w.heap.size #[.int .i64 0,.int .i64 0,.int .i64 0,.int .i64 0,.int .i64 0,.string ⟨#[]⟩] 64 from setRow_heap w7 _ _ _ _ _ HR.out)
      have HB:=Aside0.mk (below_setRow' HB.out (Nat.le_refl _) #[.int .i64 0,.int .i64 0,.int .i64 0,.int .i64 0,.int .i64 0,.string ⟨#[]⟩])
      generalize w7.setRow w.heap.size #[.int .i64 0,.int .i64 0,.int .i64 0,.int .i64 0,.int .i64 0,.string ⟨#[]⟩]=wf at *
      go_wp2_with fail
      obtain⟨r0,r1,r2,r3,r4,r5⟩:=six HF.out
      exact bodyPost_ret (v:=.tuple #[.agg #[.int .i64 0,.int .i64 0,.int .i64 0,.int .i64 0,.int .i64 0,.string ⟨#[]⟩],.int .i64 4]) (by simp[results,Tryz.results57,go_sem,r0,r1,r2,r3,r4,r5]) rfl ⟨by rw[HRES.out];rfl,HB.out⟩
    ·replace HRES:=Lib.hid (HRES.out.trans (if_neg (fun h=>hy2 h.2.1)))
     have t1:(y2==0)=false:=by simpa using hy2
     have t2:(y2 != 0)=true:=by simp[bne,t1]
     clear hy2
     go_wp2_with (refine gate_ (.store 64 (.tmp 2) (.tmp 65)) rfl ?_;refine wpList_plain rfl (fun K hK=> ?_);refine wp_store_row 64 (.tmp 2) (.tmp 65) rfl w.heap.size #[.int .i64 0,.int .i64 0,.int .i64 0,.int .i64 0,.int .i64 0,.string ⟨#[]⟩] rfl rfl 64 #[.int .i64 0,.int .i64 0,.int .i64 0,.int .i64 0,.int .i64 0,.string ⟨#[]⟩] HR.out (by kernel_rfl) rfl (one6 _ _ _ _ _ _) (hK _ _ ?_);clear hK K;simp only[Act.put])
     have HF:=Aside0.mk (show Blk (w7.setRow w.heap.size #[.int .i64 0,.int .i64 0,.int .i64 0,.int .i64 0,.int .i64 0,.string ⟨#[]⟩]) w.heap.size #[.int .i64 0,.int .i64 0,.int .i64 0,.int .i64 0,.int .i64 0,.string ⟨#[]⟩] 64 from setRow_heap w7 _ _ _ _ _ HR.out)
     have HB:=Aside0.mk (below_setRow' HB.out (Nat.le_refl _) #[.int .i64 0,.int .i64 0,.int .i64 0,.int .i64 0,.int .i64 0,.string ⟨#[]⟩])
     generalize w7.setRow w.heap.size #[.int .i64 0,.int .i64 0,.int .i64 0,.int .i64 0,.int .i64 0,.string ⟨#[]⟩]=wf at *
     go_wp2_with fail
     obtain⟨r0,r1,r2,r3,r4,r5⟩:=six HF.out
     exact bodyPost_ret (v:=.tuple #[.agg #[.int .i64 0,.int .i64 0,.int .i64 0,.int .i64 0,.int .i64 0,.string ⟨#[]⟩],.int .i64 4]) (by simp[results,Tryz.results57,go_sem,r0,r1,r2,r3,r4,r5]) rfl ⟨by rw[HRES.out];rfl,HB.out⟩
   ·replace HRES:=Lib.hid (HRES.out.trans (if_neg (fun h=>hz h.1)))
    have t1:(z==0)=false:=by simpa using hz
    have t2:(z != 0)=true:=by simp[bne,t1]
    clear hz
    go_wp2_with (refine gate_ (.store 64 (.tmp 2) (.tmp 65)) rfl ?_;refine wpList_plain rfl (fun K hK=> ?_);refine wp_store_row 64 (.tmp 2) (.tmp 65) rfl w.heap.size #[.int .i64 0,.int .i64 0,.int .i64 0,.int .i64 0,.int .i64 0,.string ⟨#[]⟩] rfl rfl 64 #[.int .i64 0,.int .i64 0,.int .i64 0,.int .i64 0,.int .i64 0,.string ⟨#[]⟩] HR.out (by kernel_rfl) rfl (one6 _ _ _ _ _ _) (hK _ _ ?_);clear hK K;simp only[Act.put])
    have HF:=Aside0.mk (show Blk (w7.setRow w.heap.size #[.int .i64 0,.int .i64 0,.int .i64 0,.int .i64 0,.int .i64 0,.string ⟨#[]⟩]) w.heap.size #[.int .i64 0,.int .i64 0,.int .i64 0,.int .i64 0,.int .i64 0,.string ⟨#[]⟩] 64 from setRow_heap w7 _ _ _ _ _ HR.out)
    have HB:=Aside0.mk (below_setRow' HB.out (Nat.le_refl _) #[.int .i64 0,.int .i64 0,.int .i64 0,.int .i64 0,.int .i64 0,.string ⟨#[]⟩])
    generalize w7.setRow w.heap.size #[.int .i64 0,.int .i64 0,.int .i64 0,.int .i64 0,.int .i64 0,.string ⟨#[]⟩]=wf at *
    go_wp2_with fail
    obtain⟨r0,r1,r2,r3,r4,r5⟩:=six HF.out
    exact bodyPost_ret (v:=.tuple #[.agg #[.int .i64 0,.int .i64 0,.int .i64 0,.int .i64 0,.int .i64 0,.string ⟨#[]⟩],.int .i64 4]) (by simp[results,Tryz.results57,go_sem,r0,r1,r2,r3,r4,r5]) rfl ⟨by rw[HRES.out];rfl,HB.out⟩
 ·have HRES:=Lib.hid (show secR m=(0,0,0,0,0,B [],e1)by unfold secR;rw[ho,if_pos he])
  have t1:(e1==0)=false:=by simpa using he
  have t2:(e1 != 0)=true:=by simp[bne,t1]
  clear he ho
  go_wp2_with (refine gate_ (.store 64 (.tmp 2) (.tmp 17)) rfl ?_;refine wpList_plain rfl (fun K hK=> ?_);refine wp_store_row 64 (.tmp 2) (.tmp 17) rfl w.heap.size #[.int .i64 0,.int .i64 0,.int .i64 0,.int .i64 0,.int .i64 0,.string ⟨#[]⟩] rfl rfl 64 #[.int .i64 0,.int .i64 0,.int .i64 0,.int .i64 0,.int .i64 0,.string ⟨#[]⟩] HR.out (by kernel_rfl) rfl (one6 _ _ _ _ _ _) (hK _ _ ?_);clear hK K;simp only[Act.put])
  have HF:=Aside0.mk (show Blk (w1.setRow w.heap.size #[.int .i64 0,.int .i64 0,.int .i64 0,.int .i64 0,.int .i64 0,.string ⟨#[]⟩]) w.heap.size #[.int .i64 0,.int .i64 0,.int .i64 0,.int .i64 0,.int .i64 0,.string ⟨#[]⟩] 64 from setRow_heap w1 _ _ _ _ _ HR.out)
  have HB:=Aside0.mk (below_setRow' HB.out (Nat.le_refl _) #[.int .i64 0,.int .i64 0,.int .i64 0,.int .i64 0,.int .i64 0,.string ⟨#[]⟩])
  generalize w1.setRow w.heap.size #[.int .i64 0,.int .i64 0,.int .i64 0,.int .i64 0,.int .i64 0,.string ⟨#[]⟩]=wf at *
  go_wp2_with fail
  obtain⟨r0,r1,r2,r3,r4,r5⟩:=six HF.out
  exact bodyPost_ret (v:=.tuple #[.agg #[.int .i64 0,.int .i64 0,.int .i64 0,.int .i64 0,.int .i64 0,.string ⟨#[]⟩],.int .i64 e1]) (by simp[results,Tryz.results57,go_sem,r0,r1,r2,r3,r4,r5]) rfl ⟨by rw[HRES.out];rfl,HB.out⟩
end Go.Proofs.YtdcfonmjbelgbaaGreatDoor
namespace Go.Proofs.YtdcfonmjbelgbaaGreatDoor
open Go.RowKit Q YtdcfonmjbelgbaaGreatDoorW.PrintWords YtdcfonmjbelgbaaGreatDoorW.PrintLast YtdcfonmjbelgbaaGreatDoorW.PrintMore
theorem secR_back (v g i d s:Nat) (t:List UInt8) (hc:chk v g i d s t.length=0):secR (sealL (secT v g i d s t))=((v:Int),(g:Int),(i:Int),(d:Int),(s:Int),B t,0):=by
 obtain⟨⟨_,hv,_,hg,_,hi,_,hd,_,hs⟩,ht⟩:=chk_ok (v:=(v:Int)) (g:=(g:Int)) (i:=(i:Int)) (d:=(d:Int)) (s:=(s:Int)) (n:=t.length) hc
 obtain⟨l,hl⟩ : ∃ l,l=enc v++(enc g++(enc i++(enc d++(enc s++txt t)))):=⟨_,rfl⟩
 have hu:secT v g i d s t=[83,71]++l:=by
  rw[hl]
  unfold secT
  simp only[List.append_assoc]
 have r1:nx (rdn l 0)=(v,enc g++(enc i++(enc d++(enc s++txt t))),0):=by
  show nx (l,0)=_
  rw[hl]
  exact nx_enc v _ (by omega)
 have e1:rdn l 1=(enc g++(enc i++(enc d++(enc s++txt t))),0):=congrArg Prod.snd r1
 have r2:nx (rdn l 1)=(g,enc i++(enc d++(enc s++txt t)),0):=by rw[e1];exact nx_enc g _ (by omega)
 have e2:rdn l 2=(enc i++(enc d++(enc s++txt t)),0):=congrArg Prod.snd r2
 have r3:nx (rdn l 2)=(i,enc d++(enc s++txt t),0):=by rw[e2];exact nx_enc i _ (by omega)
 have e3:rdn l 3=(enc d++(enc s++txt t),0):=congrArg Prod.snd r3
 have r4:nx (rdn l 3)=(d,enc s++txt t,0):=by rw[e3];exact nx_enc d _ (by omega)
 have e4:rdn l 4=(enc s++txt t,0):=congrArg Prod.snd r4
 have r5:nx (rdn l 4)=(s,txt t,0):=by rw[e4];exact nx_enc s _ (by omega)
 have e5:rdn l 5=(txt t,0):=congrArg Prod.snd r5
 have et:tx (rdn l 5)=(t,[],0):=by
  rw[e5]
  unfold tx
  simp only[if_true]
  have:=tkT_txt t [] (by omega)
  rw[List.append_nil]at this
  exact this
 have hcut:cutp (secT v g i d s t)=(l,true):=by
  rw[hu]
  unfold cutp
  rw[if_pos (by rfl)]
  rfl
 have hdd:(B (secT v g i d s t)).data.toList=secT v g i d s t:=rfl
 unfold secR
 rw[openL_seal]
 simp only[ne_eq,not_true_eq_false,if_false,hdd,hcut,et]
 have w1:val l 0=v:=congrArg Prod.fst r1
 have w2:val l 1=g:=congrArg Prod.fst r2
 have w3:val l 2=i:=congrArg Prod.fst r3
 have w4:val l 3=d:=congrArg Prod.fst r4
 have w5:val l 4=s:=congrArg Prod.fst r5
 rw[w1,w2,w3,w4,w5,if_pos ⟨trivial,rfl,hc⟩]
theorem secR_inv (m:List UInt8) (h:(secR m).2.2.2.2.2.2=0) : ∃ (v g i d s:Nat) (t:List UInt8),secR m=((v:Int),(g:Int),(i:Int),(d:Int),(s:Int),B t,0)∧m=sealL (secT v g i d s t)∧chk v g i d s t.length=0:=by
 rcases openL_cases m with ⟨_,ho⟩|⟨_,_,ho⟩|⟨u,hm,ho⟩
 ·unfold secR at h
  rw[ho,if_pos (by decide)]at h
  exact absurd h (by decide)
 ·unfold secR at h
  rw[ho,if_pos (by decide)]at h
  exact absurd h (by decide)
 ·have hd:(B u).data.toList=u:=rfl
  unfold secR at h ⊢
  rw[ho]at h ⊢
  simp only[ne_eq,not_true_eq_false,if_false,hd]at h ⊢
  split at h
  ·rename_i hh
   rw[if_pos hh]
   refine⟨_,_,_,_,_,_,rfl,?_,hh.2.2⟩
   rw[←five_inv _ hh.2.1,hm]
   have h1:=hh.1
   congr 1
   unfold cutp at h1 ⊢
   split at h1
   ·rename_i h2
    rw[if_pos h2,←h2,List.take_append_drop]
   ·cases h1
  ·exact absurd h (by decide)
theorem secT_len (v g i d s:Int) (t:List UInt8) (h:Rng v g i d s) (ht:t.length≤64):(secT v.toNat g.toNat i.toNat d.toNat s.toNat t).length≤114:=by
 unfold secT
 rw[←encK5,List.length_append,List.length_append]
 have h1:=encK_len _ (five_lt h) 5
 have h2:=txt_len t ht
 simp only[List.length_cons,List.length_nil]
 omega
theorem secR_backI {v g i d s:Int} {t:ByteArray} (hc:chk v g i d s t.size=0):secR (sealL (secT v.toNat g.toNat i.toNat d.toNat s.toNat t.data.toList))=(v,g,i,d,s,t,0):=by
 obtain⟨⟨h0,_,h1,_,h2,_,h3,_,h4,_⟩,_⟩:=chk_ok hc
 have:=secR_back v.toNat g.toNat i.toNat d.toNat s.toNat t.data.toList (by
  rw[Int.toNat_of_nonneg h0,Int.toNat_of_nonneg h1,Int.toNat_of_nonneg h2,Int.toNat_of_nonneg h3,Int.toNat_of_nonneg h4,size_data];exact hc)
 rw[Int.toNat_of_nonneg h0,Int.toNat_of_nonneg h1,Int.toNat_of_nonneg h2,Int.toNat_of_nonneg h3,Int.toNat_of_nonneg h4,B_eta]at this
 exact this
end Go.Proofs.YtdcfonmjbelgbaaGreatDoor
end
section
namespace Go.Proofs.YtdcfonmjbelgbaaGreatDoor.Q
open Go.RowKit YtdcfonmjbelgbaaGreatDoorW.PrintWords
theorem eqA59 (d:Nat) (w:World) (x0 y0:Int) (x1 y1:Int) :
  (Op.equalIn (d+2) 59 (.agg #[.int .i64 x0,.int .i64 x1]) (.agg #[.int .i64 y0,.int .i64 y1])).run Tryz.prog w = .ok (x0==y0&&(x1==y1)) w:=by
 refine eqA_of Tryz.underlying59 (by kernel_rfl) ?_
 refine eqf_cons (by rfl) (by go_simp;rfl) (by go_simp;rfl) (by go_simp) ?_
 exact eqf_last (by rfl) (by go_simp;rfl) (by go_simp;rfl) (by go_simp)
theorem eqA61 (d:Nat) (w:World) (x0 y0:Int) (x1 y1:Int) (x2 y2:Int) (x3 y3:Int) (x4 y4:Int) (x5 y5:ByteArray) :
  (Op.equalIn (d+3) 61 (.agg #[.int .i64 x0,.int .i64 x1,.int .i64 x2,.int .i64 x3,.int .i64 x4,.string x5]) (.agg #[.int .i64 y0,.int .i64 y1,.int .i64 y2,.int .i64 y3,.int .i64 y4,.string y5])).run Tryz.prog w = .ok (x0==y0&&(x1==y1&&(x2==y2&&((x3==y3&&(x4==y4))&&(x5.toList==y5.toList))))) w:=by
 refine eqA_of Tryz.underlying61 (by kernel_rfl) ?_
 refine eqf_cons (by rfl) (by go_simp;rfl) (by go_simp;rfl) (by go_simp) ?_
 refine eqf_cons (by rfl) (by go_simp;rfl) (by go_simp;rfl) (by go_simp) ?_
 refine eqf_cons (by rfl) (by go_simp;rfl) (by go_simp;rfl) (by go_simp) ?_
 refine eqf_cons (by rfl) (by go_simp) (by go_simp) (eqA59 (d+0) w _ _ _ _) ?_
 exact eqf_last (by rfl) (by go_simp;rfl) (by go_simp;rfl) (by go_simp)
end Go.Proofs.YtdcfonmjbelgbaaGreatDoor.Q
end
section
namespace Go.Proofs.YtdcfonmjbelgbaaGreatDoor
open Go.RowKit Q YtdcfonmjbelgbaaGreatDoorW.PrintWords YtdcfonmjbelgbaaGreatDoorW.PrintLast YtdcfonmjbelgbaaGreatDoorW.PrintMore
attribute [local go_sem high] eqA61
def mineP (r:Int×Int×Int×Int×Int×ByteArray×Int) (V G:Int) (l:List S59) (ix:Int):ByteArray×Int:=
 if r.2.2.2.2.2.2=0 then (if (!(r.1==V)||(!(r.2.1==G)||(!(r.2.2.1==ix)||((!(r.2.2.2.1==(rd_T59 l ix).f0)||(!(r.2.2.2.2.1==(rd_T59 l ix).f1)))))))=true then (⟨#[]⟩,4)else (r.2.2.2.2.2.1,0))else (⟨#[]⟩,r.2.2.2.2.2.2)
theorem ld_hdr (g:Nat) (a b c d e:Int) (t:ByteArray) (w:World) (h:Blk w g #[.int .i64 a,.int .i64 b,.int .i64 c,.int .i64 d,.int .i64 e,.string t] 61):(Instr.loadAt 61 (.pointer (some ⟨g,0,none⟩))).run Tryz.prog w = .ok (.agg #[.int .i64 a,.int .i64 b,.int .i64 c,.int .i64 d,.int .i64 e,.string t]) w:=by
 have hu30:=Tryz.underlying61
 have hu23:=Tryz.underlying59
 obtain⟨c0,c1,c2,c3,c4,c5⟩:=six h
 go_simp
theorem ld_loc (ad:Addr) (a b:Int) (w:World) (h0:w.cell? ad=some (.int .i64 a)) (h1:w.cell? ⟨ad.block,ad.off+1,none⟩=some (.int .i64 b)):(Instr.loadAt 59 (.pointer (some ad))).run Tryz.prog w = .ok (.agg #[.int .i64 a,.int .i64 b]) w:=by
 have hu23:=Tryz.underlying59
 go_simp
theorem ld_locs (ad:Addr) (v:Value) (w:World) (h:w.cell? ad=some v):(Instr.loadAt 22 (.pointer (some ad))).run Tryz.prog w = .ok v w:=by
 go_simp
theorem mine_bad (s:ByteArray) (V G D:Int) (A:Option Addr) (n c:Nat) (ix:Int) (w:World) (h:(n:Int)≠9∨((n:Int)=9∧(ix<0∨9≤ix))):Calls Tryz.prog 54 #[.string s,.agg #[.int .i64 V,.int .i64 G,.int .i64 D,.slice A n c],.int .i64 ix] w fun e w'=>e = .returned (.tuple #[.string ⟨#[]⟩,.int .i64 1])∧Below w.heap.size w w':=by
 have hu36:=Tryz.underlying24
 have HB:Aside0 (Below w.heap.size w (w.alloc (.cells #[.int .i64 V,.int .i64 G,.int .i64 D,.slice A n c] 24))):=⟨(Below.refl _ _).alloc (Nat.le_refl _) _⟩
 rcases h with h|⟨h,h2⟩
 ·have t1:((n:Int)==9)=false:=by simpa using h
  have t2:((n:Int) != 9)=true:=by simp[bne,t1]
  clear h
  go_enter Tryz.func54,Tryz.ntmps54
  go_wp2_with fail
  go_ret2
  exact⟨rfl,HB.out⟩
 ·have t1:((n:Int)==9)=true:=by simpa using h
  have t2:((n:Int) != 9)=false:=by simp[bne,t1]
  clear h
  by_cases h3:ix<0
  ·clear h2
   go_enter Tryz.func54,Tryz.ntmps54
   go_wp2_with fail
   go_ret2
   exact⟨rfl,HB.out⟩
  ·have h4:9≤ix:=by omega
   clear h2
   go_enter Tryz.func54,Tryz.ntmps54
   go_wp2_with fail
   go_ret2
   exact⟨rfl,HB.out⟩
theorem mine_good (m:List UInt8) (hm:m.length≤140737488355328) (V G D:Int) (A:Option Addr) (n c:Nat) (l:List S59) (ix:Int) (w:World) (hr:Kd.C k59 w A n l) (hn:(n:Int)=9) (h0:0≤ix) (h9:ix<9):Calls Tryz.prog 54 #[.string (B m),.agg #[.int .i64 V,.int .i64 G,.int .i64 D,.slice A n c],.int .i64 ix] w fun e w'=>e = .returned (.tuple #[.string (mineP (secR m) V G l ix).1,.int .i64 (mineP (secR m) V G l ix).2])∧Below w.heap.size w w':=by
 have hu36:=Tryz.underlying24
 have hu30:=Tryz.underlying61
 have hu23:=Tryz.underlying59
 have HB:Aside0 (Below w.heap.size w (w.alloc (.cells #[.int .i64 V,.int .i64 G,.int .i64 D,.slice A n c] 24))):=⟨(Below.refl _ _).alloc (Nat.le_refl _) _⟩
 have HV:Aside0 (Blk (w.alloc (.cells #[.int .i64 V,.int .i64 G,.int .i64 D,.slice A n c] 24)) w.heap.size #[.int .i64 V,.int .i64 G,.int .i64 D,.slice A n c] 24):=⟨Blk.new w _ _⟩
 obtain⟨ad,hA,k0,k1⟩:=at_T59 hr ix h0 (by omega)
 have K0:=Lib.hid k0
 have K1:=Lib.hid k1
 have t1:((n:Int)==9)=true:=by simpa using hn
 have t2:((n:Int) != 9)=false:=by simp[bne,t1]
 have hlt:ix<(n:Int):=by omega
 clear k0 k1 hr
 subst hA
 obtain⟨⟨r1,r2,r3,r4,r5,r6,r7⟩,hR⟩ : ∃ r,secR m=r:=⟨_,rfl⟩
 rw[hR]
 have HRR:=Lib.hid hR
 clear hR
 by_cases he:r7=0
 ·subst he
  obtain⟨q,hq⟩ : ∃ q:Bool,(!(r1==V)||(!(r2==G)||(!(r3==ix)||((!(r4==(rd_T59 l ix).f0)||(!(r5==(rd_T59 l ix).f1)))))))=q:=⟨_,rfl⟩
  have HM:mineP (r1,r2,r3,r4,r5,r6,0) V G l ix=if q=true then (⟨#[]⟩,4)else (r6,0):=by subst hq;exact if_pos rfl
  rw[HM]
  clear HM
  go_enter Tryz.func54,Tryz.ntmps54
  go_wp2_with fail
  refine(read_calls m hm _).mono ?_
  rintro e w1 ⟨rfl,b1⟩
  replace HV:=Aside0.mk (HV.out.keep b1)
  replace HB:=Aside0.mk (below2 HB.out HB.out.size b1)
  clear b1
  rw[HRR.out]
  clear HRR
  have HB:=Aside0.mk (below_alloc HB.out (.cells #[.int .i64 r1,.int .i64 r2,.int .i64 r3,.int .i64 r4,.int .i64 r5,.string r6] 61))
  have HV:=Aside0.mk (HV.out.alloc (.cells #[.int .i64 r1,.int .i64 r2,.int .i64 r3,.int .i64 r4,.int .i64 r5,.string r6] 61))
  have HH:=Aside0.mk (Blk.new w1 #[.int .i64 r1,.int .i64 r2,.int .i64 r3,.int .i64 r4,.int .i64 r5,.string r6] 61)
  go_wp2_with fail
  generalize w1.alloc (.cells #[.int .i64 r1,.int .i64 r2,.int .i64 r3,.int .i64 r4,.int .i64 r5,.string r6] 61)=wz at *
  generalize w1.heap.size=gh at *
  obtain⟨d0,d1,d2,d3,d4,d5⟩:=six HH.out
  have v0:=HV.out.cell (i:=0) (v:=.int .i64 V) rfl
  have v1:=HV.out.cell (i:=1) (v:=.int .i64 G) rfl
  have v3:=HV.out.cell (i:=3) (v:=.slice (some ad) n c) rfl
  have hV:=HV.out.lt
  have hH:=HH.out.lt
  have hK:(ad.add (ix.toNat*2)).block<w.heap.size:=lt_cell K0.out
  have hK1:=lt_cell K1.out
  refine region_below_tail 14 (by kernel_rfl) (by kernel_rfl) ?_
  simp only[List.take_succ_cons,List.take_zero,List.drop_succ_cons,List.drop_zero]
  repeat (first|go_big_quiet_step (fail)|(refine BigFrame.wpQuiet_want (by rfl) (fun K hK=> ?_);go_big_quiet_op;refine⟨_,fun _ _=>rfl,hK _ ?_⟩;clear hK K)|(refine q_ld 3 _ _ _ _ rfl rfl rfl rfl (ld_int _ _) (by assumption) (by assumption) ?_;simp only[Act.put,zA,zB,zC])|(refine q_ld 9 _ _ _ _ rfl rfl rfl rfl (ld_str _ _) (by assumption) (by assumption) ?_;simp only[Act.put,zA,zB,zC])|(refine q_ld 22 _ _ _ _ rfl rfl rfl rfl (ld_locs _ _) (by assumption) (by assumption) ?_;simp only[Act.put,zA,zB,zC])|(refine q_rd 61 _ _ ⟨gh,0,none⟩ (.agg #[.int .i64 r1,.int .i64 r2,.int .i64 r3,.int .i64 r4,.int .i64 r5,.string r6]) rfl rfl rfl rfl (fun w' hw'=>ld_hdr _ _ _ _ _ _ _ w' (HH.out.keep hw')) ?_;simp only[Act.put,zA,zB,zC])|(refine q_rd 59 _ _ (ad.add (ix.toNat*2)) (.agg #[.int .i64 (rd_T59 l ix).f0,.int .i64 (rd_T59 l ix).f1]) rfl rfl rfl rfl (fun w' hw'=>ld_loc _ _ _ w' ((hw'.cell (Nat.lt_of_lt_of_le hK HB.out.size)).trans ((HB.out.cell hK).trans K0.out)) ((hw'.cell (Nat.lt_of_lt_of_le hK1 HB.out.size)).trans ((HB.out.cell hK1).trans K1.out))) ?_;simp only[Act.put,zA,zB,zC]))
  refine wpQuiet_nil ?_
  intro wn hw'
  have hb:=hw'
  replace HB:=Aside0.mk (below2 HB.out HB.out.size hb)
  replace HH:=Aside0.mk (HH.out.keep hw')
  clear hb hw' d0 d1 d2 d3 d4 d5 v0 v1 v3 hV hH hK hK1
  obtain⟨d0,d1,d2,d3,d4,d5⟩:=six HH.out
  cases q
  ·go_wp2_with fail
   go_ret2
   exact⟨rfl,HB.out⟩
  ·go_wp2_with fail
   go_ret2
   exact⟨rfl,HB.out⟩
 ·have t3:(r7==0)=false:=by simpa using he
  have t4:(r7 != 0)=true:=by simp[bne,t3]
  have HM:Hid (mineP (r1,r2,r3,r4,r5,r6,r7) V G l ix=(⟨#[]⟩,r7)):=Lib.hid (if_neg he)
  rw[HM.out]
  clear he HM
  go_enter Tryz.func54,Tryz.ntmps54
  go_wp2_with fail
  refine(read_calls m hm _).mono ?_
  rintro e w1 ⟨rfl,b1⟩
  replace HV:=Aside0.mk (HV.out.keep b1)
  replace HB:=Aside0.mk (below2 HB.out HB.out.size b1)
  clear b1
  rw[HRR.out]
  clear HRR
  have HB:=Aside0.mk (below_alloc HB.out (.cells #[.int .i64 r1,.int .i64 r2,.int .i64 r3,.int .i64 r4,.int .i64 r5,.string r6] 61))
  go_wp2_with fail
  go_ret2
  exact⟨rfl,HB.out⟩
def sector_Mine.f (a0:ByteArray) (a1_0 a1_1 _a1_2:Int) (l1_3:List S59) (a2:Int):Option (ByteArray×Int):=
 if (l1_3.length:Int)=9∧0≤a2∧a2<9 then (if a0.size≤140737488355328 then some (mineP (secR a0.data.toList) a1_0 a1_1 l1_3 a2)else none)else some (⟨#[]⟩,1)
theorem sector_Mine.calls (a0:ByteArray) (a1_0:Int) (a1_1:Int) (a1_2:Int) (A1_3:Option Addr) (c1_3:Nat) (l1_3:List S59) (a2:Int) (r1:ByteArray) (r2:Int) (w:World) (hr1_3:Kd.C k59 w A1_3 l1_3.length l1_3) (_hc1_3:l1_3.length≤c1_3) (h:sector_Mine.f a0 a1_0 a1_1 a1_2 l1_3 a2=some (r1,r2)) :
  Calls Tryz.prog 54 #[.string a0,.agg #[.int .i64 a1_0,.int .i64 a1_1,.int .i64 a1_2,.slice A1_3 l1_3.length c1_3],.int .i64 a2] w fun e w'=>e = .returned (.tuple #[.string r1,.int .i64 r2])∧Below w.heap.size w w':=by
 unfold sector_Mine.f at h
 split at h
 ·rename_i hg
  split at h
  ·rename_i hs
   have e:=Option.some.inj h
   have:=mine_good a0.data.toList (by rw[size_data];exact hs) a1_0 a1_1 a1_2 A1_3 l1_3.length c1_3 l1_3 a2 w hr1_3 hg.1 hg.2.1 hg.2.2
   rw[e,B_eta]at this
   exact this
  ·cases h
 ·rename_i hg
  have e:=Option.some.inj h
  simp only[Prod.mk.injEq]at e
  obtain⟨rfl,rfl⟩:=e
  exact mine_bad a0 a1_0 a1_1 a1_2 A1_3 l1_3.length c1_3 a2 w (by omega)
end Go.Proofs.YtdcfonmjbelgbaaGreatDoor
namespace Go.Proofs.YtdcfonmjbelgbaaGreatDoor
open Go.RowKit Q YtdcfonmjbelgbaaGreatDoorW.PrintWords YtdcfonmjbelgbaaGreatDoorW.PrintLast YtdcfonmjbelgbaaGreatDoorW.PrintMore
attribute [local go_sem high] eqA59
theorem rmine_bad (s:ByteArray) (V G D:Int) (A:Option Addr) (n c:Nat) (ix:Int) (w:World) (h:(n:Int)≠9∨((n:Int)=9∧(ix<0∨8<ix))):Calls Tryz.prog 38 #[.string s,.agg #[.int .i64 V,.int .i64 G,.int .i64 D,.slice A n c],.int .i64 ix] w fun e w'=>e = .returned (.tuple #[.string ⟨#[]⟩,.int .i64 1])∧Below w.heap.size w w':=by
 have hu36:=Tryz.underlying24
 have HB:Aside0 (Below w.heap.size w (w.alloc (.cells #[.int .i64 V,.int .i64 G,.int .i64 D,.slice A n c] 24))):=⟨(Below.refl _ _).alloc (Nat.le_refl _) _⟩
 rcases h with h|⟨h,h2⟩
 ·have t1:((n:Int)==9)=false:=by simpa using h
  have t2:((n:Int) != 9)=true:=by simp[bne,t1]
  clear h
  go_enter Tryz.func38,Tryz.ntmps38
  go_wp2_with fail
  go_ret2
  exact⟨rfl,HB.out⟩
 ·have t1:((n:Int)==9)=true:=by simpa using h
  have t2:((n:Int) != 9)=false:=by simp[bne,t1]
  clear h
  by_cases h3:ix<0
  ·clear h2
   go_enter Tryz.func38,Tryz.ntmps38
   go_wp2_with fail
   go_ret2
   exact⟨rfl,HB.out⟩
  ·have h4:8<ix:=by omega
   clear h2
   go_enter Tryz.func38,Tryz.ntmps38
   go_wp2_with fail
   go_ret2
   exact⟨rfl,HB.out⟩
theorem rmine_good (m:List UInt8) (hm:m.length≤140737488355328) (V G D:Int) (A:Option Addr) (n c:Nat) (l:List S59) (ix:Int) (w:World) (hr:Kd.C k59 w A n l) (hn:(n:Int)=9) (h0:0≤ix) (h9:ix<9):Calls Tryz.prog 38 #[.string (B m),.agg #[.int .i64 V,.int .i64 G,.int .i64 D,.slice A n c],.int .i64 ix] w fun e w'=>e = .returned (.tuple #[.string (mineP (secR m) V G l ix).1,.int .i64 (mineP (secR m) V G l ix).2])∧Below w.heap.size w w':=by
 have hu36:=Tryz.underlying24
 have hu30:=Tryz.underlying64
 have hu23:=Tryz.underlying59
 have HB:Aside0 (Below w.heap.size w (w.alloc (.cells #[.int .i64 V,.int .i64 G,.int .i64 D,.slice A n c] 24))):=⟨(Below.refl _ _).alloc (Nat.le_refl _) _⟩
 have HV:Aside0 (Blk (w.alloc (.cells #[.int .i64 V,.int .i64 G,.int .i64 D,.slice A n c] 24)) w.heap.size #[.int .i64 V,.int .i64 G,.int .i64 D,.slice A n c] 24):=⟨Blk.new w _ _⟩
 obtain⟨ad,hA,k0,k1⟩:=at_T59 hr ix h0 (by omega)
 have K0:=Lib.hid k0
 have K1:=Lib.hid k1
 have t1:((n:Int)==9)=true:=by simpa using hn
 have t2:((n:Int) != 9)=false:=by simp[bne,t1]
 have hlt:ix<(n:Int):=by omega
 clear k0 k1 hr
 subst hA
 obtain⟨⟨r1,r2,r3,r4,r5,r6,r7⟩,hR⟩ : ∃ r,secR m=r:=⟨_,rfl⟩
 rw[hR]
 have HRR:=Lib.hid hR
 clear hR
 by_cases he:r7=0
 ·subst he
  obtain⟨q,hq⟩ : ∃ q:Bool,(!(r1==V)||(!(r2==G)||(!(r3==ix)||((!(r4==(rd_T59 l ix).f0)||(!(r5==(rd_T59 l ix).f1)))))))=q:=⟨_,rfl⟩
  have HM:mineP (r1,r2,r3,r4,r5,r6,0) V G l ix=if q=true then (⟨#[]⟩,4)else (r6,0):=by subst hq;exact if_pos rfl
  rw[HM]
  clear HM
  go_enter Tryz.func38,Tryz.ntmps38
  go_wp2_with fail
  refine(rread_calls m hm _).mono ?_
  rintro e w1 ⟨rfl,b1⟩
  replace HV:=Aside0.mk (HV.out.keep b1)
  replace HB:=Aside0.mk (below2 HB.out HB.out.size b1)
  clear b1
  rw[HRR.out]
  clear HRR
  replace HB:=Aside0.mk (below_alloc HB.out (.cells #[.int .i64 r1,.int .i64 r2,.int .i64 r3,.int .i64 r4,.int .i64 r5,.string r6] 64))
  replace HV:=Aside0.mk (HV.out.alloc (.cells #[.int .i64 r1,.int .i64 r2,.int .i64 r3,.int .i64 r4,.int .i64 r5,.string r6] 64))
  have HH:=Aside0.mk (Blk.new w1 #[.int .i64 r1,.int .i64 r2,.int .i64 r3,.int .i64 r4,.int .i64 r5,.string r6] 64)
  obtain⟨d0,d1,d2,d3,d4,d5⟩:=six HH.out
  have v0:=HV.out.cell (i:=0) (v:=.int .i64 V) rfl
  have v1:=HV.out.cell (i:=1) (v:=.int .i64 G) rfl
  have v3:=HV.out.cell (i:=3) (v:=.slice (some ad) n c) rfl
  have hV:=HV.out.lt
  have hH:=HH.out.lt
  have hK:(ad.add (ix.toNat*2)).block<w.heap.size:=lt_cell K0.out
  have hK1:=lt_cell K1.out
  have e0:=(HB.out.cell hK).trans K0.out
  have e1:=(HB.out.cell hK1).trans K1.out
  cases b1:(r1==V)with
  | false=>
   have b1':(r1 != V)=true:=by simp[bne,b1]
   have hq':q=true:=by rw[←hq,b1];rfl
   subst hq'
   clear hq
   go_wp2_with fail
   generalize w1.alloc (.cells #[.int .i64 r1,.int .i64 r2,.int .i64 r3,.int .i64 r4,.int .i64 r5,.string r6] 64)=wz at *
   refine region_below_tail 27 (by kernel_rfl) (by kernel_rfl) ?_
   simp only[List.take_succ_cons,List.take_zero,List.drop_succ_cons,List.drop_zero]
   repeat (first|go_big_quiet_step (fail)|(refine BigFrame.wpQuiet_want (by rfl) (fun K hK=> ?_);go_big_quiet_op;refine⟨_,fun _ _=>rfl,hK _ ?_⟩;clear hK K)|(refine q_rdw 3 _ _ _ _ rfl rfl (by rfl) rfl (fun w' hw'=>ld_int _ _ w' ((hw'.cell (by first|exact hV|exact hH)).trans (by assumption))) ?_;simp only[Act.put,zA,zB,zC])|(refine q_rdw 22 _ _ _ _ rfl rfl (by rfl) rfl (fun w' hw'=>ld_locs _ _ w' ((hw'.cell (by first|exact hV|exact hH)).trans (by assumption))) ?_;simp only[Act.put,zA,zB,zC])|(refine q_rdw 59 _ _ (ad.add (ix.toNat*2)) (.agg #[.int .i64 (rd_T59 l ix).f0,.int .i64 (rd_T59 l ix).f1]) rfl rfl (by rfl) rfl (fun w' hw'=>ld_loc _ _ _ w' ((hw'.cell (Nat.lt_of_lt_of_le hK HB.out.size)).trans e0) ((hw'.cell (show (⟨(ad.add (ix.toNat*2)).block,(ad.add (ix.toNat*2)).off+1,none⟩:Addr).block<wz.heap.size from Nat.lt_of_lt_of_le hK HB.out.size)).trans e1)) ?_;simp only[Act.put,zA,zB,zC])|(refine q_rdw 59 _ _ ⟨w1.heap.size,3,none⟩ (.agg #[.int .i64 r4,.int .i64 r5]) rfl rfl (by rfl) rfl (fun w' hw'=>ld_loc _ _ _ w' ((hw'.cell hH).trans d3) ((hw'.cell (show (⟨w1.heap.size,3+1,none⟩:Addr).block<_ from hH)).trans d4)) ?_;simp only[Act.put,zA,zB,zC])|(refine q_val (.bool ((!(r4==(rd_T59 l ix).f0))||(!(r5==(rd_T59 l ix).f1)))) (some 56) rfl (by rfl) (fun w' _=>by unfold execOp;go_simp) ?_;simp only[Act.put,zA,zB,zC]))
   refine wpQuiet_nil ?_
   intro wn hw'
   replace HB:=Aside0.mk (below2 HB.out HB.out.size hw')
   replace HH:=Aside0.mk (HH.out.keep hw')
   clear hw' d0 d1 d2 d3 d4 d5 v0 v1 v3 hV hH hK hK1 e0 e1
   obtain⟨d0,d1,d2,d3,d4,d5⟩:=six HH.out
   go_wp2_with fail
   go_ret2
   exact⟨rfl,HB.out⟩
  | true=>
   have b1':(r1 != V)=false:=by simp[bne,b1]
   cases b2:(r2==G)with
   | false=>
    have b2':(r2 != G)=true:=by simp[bne,b2]
    have hq':q=true:=by rw[←hq,b1,b2];rfl
    subst hq'
    clear hq
    go_wp2_with fail
    generalize w1.alloc (.cells #[.int .i64 r1,.int .i64 r2,.int .i64 r3,.int .i64 r4,.int .i64 r5,.string r6] 64)=wz at *
    refine region_below_tail 27 (by kernel_rfl) (by kernel_rfl) ?_
    simp only[List.take_succ_cons,List.take_zero,List.drop_succ_cons,List.drop_zero]
    repeat (first|go_big_quiet_step (fail)|(refine BigFrame.wpQuiet_want (by rfl) (fun K hK=> ?_);go_big_quiet_op;refine⟨_,fun _ _=>rfl,hK _ ?_⟩;clear hK K)|(refine q_rdw 3 _ _ _ _ rfl rfl (by rfl) rfl (fun w' hw'=>ld_int _ _ w' ((hw'.cell (by first|exact hV|exact hH)).trans (by assumption))) ?_;simp only[Act.put,zA,zB,zC])|(refine q_rdw 22 _ _ _ _ rfl rfl (by rfl) rfl (fun w' hw'=>ld_locs _ _ w' ((hw'.cell (by first|exact hV|exact hH)).trans (by assumption))) ?_;simp only[Act.put,zA,zB,zC])|(refine q_rdw 59 _ _ (ad.add (ix.toNat*2)) (.agg #[.int .i64 (rd_T59 l ix).f0,.int .i64 (rd_T59 l ix).f1]) rfl rfl (by rfl) rfl (fun w' hw'=>ld_loc _ _ _ w' ((hw'.cell (Nat.lt_of_lt_of_le hK HB.out.size)).trans e0) ((hw'.cell (show (⟨(ad.add (ix.toNat*2)).block,(ad.add (ix.toNat*2)).off+1,none⟩:Addr).block<wz.heap.size from Nat.lt_of_lt_of_le hK HB.out.size)).trans e1)) ?_;simp only[Act.put,zA,zB,zC])|(refine q_rdw 59 _ _ ⟨w1.heap.size,3,none⟩ (.agg #[.int .i64 r4,.int .i64 r5]) rfl rfl (by rfl) rfl (fun w' hw'=>ld_loc _ _ _ w' ((hw'.cell hH).trans d3) ((hw'.cell (show (⟨w1.heap.size,3+1,none⟩:Addr).block<_ from hH)).trans d4)) ?_;simp only[Act.put,zA,zB,zC])|(refine q_val (.bool ((!(r4==(rd_T59 l ix).f0))||(!(r5==(rd_T59 l ix).f1)))) (some 56) rfl (by rfl) (fun w' _=>by unfold execOp;go_simp) ?_;simp only[Act.put,zA,zB,zC]))
    refine wpQuiet_nil ?_
    intro wn hw'
    replace HB:=Aside0.mk (below2 HB.out HB.out.size hw')
    replace HH:=Aside0.mk (HH.out.keep hw')
    clear hw' d0 d1 d2 d3 d4 d5 v0 v1 v3 hV hH hK hK1 e0 e1
    obtain⟨d0,d1,d2,d3,d4,d5⟩:=six HH.out
    go_wp2_with fail
    go_ret2
    exact⟨rfl,HB.out⟩
   | true=>
    have b2':(r2 != G)=false:=by simp[bne,b2]
    cases b3:(r3==ix)with
    | false=>
     have b3':(r3 != ix)=true:=by simp[bne,b3]
     have hq':q=true:=by rw[←hq,b1,b2,b3];rfl
     subst hq'
     clear hq
     go_wp2_with fail
     generalize w1.alloc (.cells #[.int .i64 r1,.int .i64 r2,.int .i64 r3,.int .i64 r4,.int .i64 r5,.string r6] 64)=wz at *
     refine region_below_tail 27 (by kernel_rfl) (by kernel_rfl) ?_
     simp only[List.take_succ_cons,List.take_zero,List.drop_succ_cons,List.drop_zero]
     repeat (first|go_big_quiet_step (fail)|(refine BigFrame.wpQuiet_want (by rfl) (fun K hK=> ?_);go_big_quiet_op;refine⟨_,fun _ _=>rfl,hK _ ?_⟩;clear hK K)|(refine q_rdw 3 _ _ _ _ rfl rfl (by rfl) rfl (fun w' hw'=>ld_int _ _ w' ((hw'.cell (by first|exact hV|exact hH)).trans (by assumption))) ?_;simp only[Act.put,zA,zB,zC])|(refine q_rdw 22 _ _ _ _ rfl rfl (by rfl) rfl (fun w' hw'=>ld_locs _ _ w' ((hw'.cell (by first|exact hV|exact hH)).trans (by assumption))) ?_;simp only[Act.put,zA,zB,zC])|(refine q_rdw 59 _ _ (ad.add (ix.toNat*2)) (.agg #[.int .i64 (rd_T59 l ix).f0,.int .i64 (rd_T59 l ix).f1]) rfl rfl (by rfl) rfl (fun w' hw'=>ld_loc _ _ _ w' ((hw'.cell (Nat.lt_of_lt_of_le hK HB.out.size)).trans e0) ((hw'.cell (show (⟨(ad.add (ix.toNat*2)).block,(ad.add (ix.toNat*2)).off+1,none⟩:Addr).block<wz.heap.size from Nat.lt_of_lt_of_le hK HB.out.size)).trans e1)) ?_;simp only[Act.put,zA,zB,zC])|(refine q_rdw 59 _ _ ⟨w1.heap.size,3,none⟩ (.agg #[.int .i64 r4,.int .i64 r5]) rfl rfl (by rfl) rfl (fun w' hw'=>ld_loc _ _ _ w' ((hw'.cell hH).trans d3) ((hw'.cell (show (⟨w1.heap.size,3+1,none⟩:Addr).block<_ from hH)).trans d4)) ?_;simp only[Act.put,zA,zB,zC])|(refine q_val (.bool ((!(r4==(rd_T59 l ix).f0))||(!(r5==(rd_T59 l ix).f1)))) (some 56) rfl (by rfl) (fun w' _=>by unfold execOp;go_simp) ?_;simp only[Act.put,zA,zB,zC]))
     refine wpQuiet_nil ?_
     intro wn hw'
     replace HB:=Aside0.mk (below2 HB.out HB.out.size hw')
     replace HH:=Aside0.mk (HH.out.keep hw')
     clear hw' d0 d1 d2 d3 d4 d5 v0 v1 v3 hV hH hK hK1 e0 e1
     obtain⟨d0,d1,d2,d3,d4,d5⟩:=six HH.out
     go_wp2_with fail
     go_ret2
     exact⟨rfl,HB.out⟩
    | true=>
     have b3':(r3 != ix)=false:=by simp[bne,b3]
     have hq2:((!(r4==(rd_T59 l ix).f0))||(!(r5==(rd_T59 l ix).f1)))=q:=by rw[←hq,b1,b2,b3];rfl
     clear hq
     cases q
     ·go_wp2_with fail
      generalize w1.alloc (.cells #[.int .i64 r1,.int .i64 r2,.int .i64 r3,.int .i64 r4,.int .i64 r5,.string r6] 64)=wz at *
      refine region_below_tail 27 (by kernel_rfl) (by kernel_rfl) ?_
      simp only[List.take_succ_cons,List.take_zero,List.drop_succ_cons,List.drop_zero]
      repeat (first|go_big_quiet_step (fail)|(refine BigFrame.wpQuiet_want (by rfl) (fun K hK=> ?_);go_big_quiet_op;refine⟨_,fun _ _=>rfl,hK _ ?_⟩;clear hK K)|(refine q_rdw 3 _ _ _ _ rfl rfl (by rfl) rfl (fun w' hw'=>ld_int _ _ w' ((hw'.cell (by first|exact hV|exact hH)).trans (by assumption))) ?_;simp only[Act.put,zA,zB,zC])|(refine q_rdw 22 _ _ _ _ rfl rfl (by rfl) rfl (fun w' hw'=>ld_locs _ _ w' ((hw'.cell (by first|exact hV|exact hH)).trans (by assumption))) ?_;simp only[Act.put,zA,zB,zC])|(refine q_rdw 59 _ _ (ad.add (ix.toNat*2)) (.agg #[.int .i64 (rd_T59 l ix).f0,.int .i64 (rd_T59 l ix).f1]) rfl rfl (by rfl) rfl (fun w' hw'=>ld_loc _ _ _ w' ((hw'.cell (Nat.lt_of_lt_of_le hK HB.out.size)).trans e0) ((hw'.cell (show (⟨(ad.add (ix.toNat*2)).block,(ad.add (ix.toNat*2)).off+1,none⟩:Addr).block<wz.heap.size from Nat.lt_of_lt_of_le hK HB.out.size)).trans e1)) ?_;simp only[Act.put,zA,zB,zC])|(refine q_rdw 59 _ _ ⟨w1.heap.size,3,none⟩ (.agg #[.int .i64 r4,.int .i64 r5]) rfl rfl (by rfl) rfl (fun w' hw'=>ld_loc _ _ _ w' ((hw'.cell hH).trans d3) ((hw'.cell (show (⟨w1.heap.size,3+1,none⟩:Addr).block<_ from hH)).trans d4)) ?_;simp only[Act.put,zA,zB,zC])|(refine q_val (.bool ((!(r4==(rd_T59 l ix).f0))||(!(r5==(rd_T59 l ix).f1)))) (some 56) rfl (by rfl) (fun w' _=>by unfold execOp;go_simp) ?_;simp only[Act.put,zA,zB,zC]))
      refine wpQuiet_nil ?_
      intro wn hw'
      replace HB:=Aside0.mk (below2 HB.out HB.out.size hw')
      replace HH:=Aside0.mk (HH.out.keep hw')
      clear hw' d0 d1 d2 d3 d4 d5 v0 v1 v3 hV hH hK hK1 e0 e1
      obtain⟨d0,d1,d2,d3,d4,d5⟩:=six HH.out
      go_wp2_with fail
      go_ret2
      exact⟨rfl,HB.out⟩
     ·go_wp2_with fail
      generalize w1.alloc (.cells #[.int .i64 r1,.int .i64 r2,.int .i64 r3,.int .i64 r4,.int .i64 r5,.string r6] 64)=wz at *
      refine region_below_tail 27 (by kernel_rfl) (by kernel_rfl) ?_
      simp only[List.take_succ_cons,List.take_zero,List.drop_succ_cons,List.drop_zero]
      repeat (first|go_big_quiet_step (fail)|(refine BigFrame.wpQuiet_want (by rfl) (fun K hK=> ?_);go_big_quiet_op;refine⟨_,fun _ _=>rfl,hK _ ?_⟩;clear hK K)|(refine q_rdw 3 _ _ _ _ rfl rfl (by rfl) rfl (fun w' hw'=>ld_int _ _ w' ((hw'.cell (by first|exact hV|exact hH)).trans (by assumption))) ?_;simp only[Act.put,zA,zB,zC])|(refine q_rdw 22 _ _ _ _ rfl rfl (by rfl) rfl (fun w' hw'=>ld_locs _ _ w' ((hw'.cell (by first|exact hV|exact hH)).trans (by assumption))) ?_;simp only[Act.put,zA,zB,zC])|(refine q_rdw 59 _ _ (ad.add (ix.toNat*2)) (.agg #[.int .i64 (rd_T59 l ix).f0,.int .i64 (rd_T59 l ix).f1]) rfl rfl (by rfl) rfl (fun w' hw'=>ld_loc _ _ _ w' ((hw'.cell (Nat.lt_of_lt_of_le hK HB.out.size)).trans e0) ((hw'.cell (show (⟨(ad.add (ix.toNat*2)).block,(ad.add (ix.toNat*2)).off+1,none⟩:Addr).block<wz.heap.size from Nat.lt_of_lt_of_le hK HB.out.size)).trans e1)) ?_;simp only[Act.put,zA,zB,zC])|(refine q_rdw 59 _ _ ⟨w1.heap.size,3,none⟩ (.agg #[.int .i64 r4,.int .i64 r5]) rfl rfl (by rfl) rfl (fun w' hw'=>ld_loc _ _ _ w' ((hw'.cell hH).trans d3) ((hw'.cell (show (⟨w1.heap.size,3+1,none⟩:Addr).block<_ from hH)).trans d4)) ?_;simp only[Act.put,zA,zB,zC])|(refine q_val (.bool ((!(r4==(rd_T59 l ix).f0))||(!(r5==(rd_T59 l ix).f1)))) (some 56) rfl (by rfl) (fun w' _=>by unfold execOp;go_simp) ?_;simp only[Act.put,zA,zB,zC]))
      refine wpQuiet_nil ?_
      intro wn hw'
      replace HB:=Aside0.mk (below2 HB.out HB.out.size hw')
      replace HH:=Aside0.mk (HH.out.keep hw')
      clear hw' d0 d1 d2 d3 d4 d5 v0 v1 v3 hV hH hK hK1 e0 e1
      obtain⟨d0,d1,d2,d3,d4,d5⟩:=six HH.out
      go_wp2_with fail
      go_ret2
      exact⟨rfl,HB.out⟩
 ·have t3:(r7==0)=false:=by simpa using he
  have t4:(r7 != 0)=true:=by simp[bne,t3]
  have HM:Hid (mineP (r1,r2,r3,r4,r5,r6,r7) V G l ix=(⟨#[]⟩,r7)):=Lib.hid (if_neg he)
  rw[HM.out]
  clear he HM
  go_enter Tryz.func38,Tryz.ntmps38
  go_wp2_with fail
  refine(rread_calls m hm _).mono ?_
  rintro e w1 ⟨rfl,b1⟩
  replace HV:=Aside0.mk (HV.out.keep b1)
  replace HB:=Aside0.mk (below2 HB.out HB.out.size b1)
  clear b1
  rw[HRR.out]
  clear HRR
  replace HB:=Aside0.mk (below_alloc HB.out (.cells #[.int .i64 r1,.int .i64 r2,.int .i64 r3,.int .i64 r4,.int .i64 r5,.string r6] 64))
  go_wp2_with fail
  go_ret2
  exact⟨rfl,HB.out⟩
def sluicegateref07_Mine.f (a0:ByteArray) (a1_0 a1_1 _a1_2:Int) (l1_3:List S59) (a2:Int):Option (ByteArray×Int):=
 if (l1_3.length:Int)=9∧0≤a2∧a2<9 then (if a0.size≤140737488355328 then some (mineP (secR a0.data.toList) a1_0 a1_1 l1_3 a2)else none)else some (⟨#[]⟩,1)
theorem sluicegateref07_Mine.calls (a0:ByteArray) (a1_0:Int) (a1_1:Int) (a1_2:Int) (A1_3:Option Addr) (c1_3:Nat) (l1_3:List S59) (a2:Int) (r1:ByteArray) (r2:Int) (w:World) (hr1_3:Kd.C k59 w A1_3 l1_3.length l1_3) (_hc1_3:l1_3.length≤c1_3) (h:sluicegateref07_Mine.f a0 a1_0 a1_1 a1_2 l1_3 a2=some (r1,r2)) :
  Calls Tryz.prog 38 #[.string a0,.agg #[.int .i64 a1_0,.int .i64 a1_1,.int .i64 a1_2,.slice A1_3 l1_3.length c1_3],.int .i64 a2] w fun e w'=>e = .returned (.tuple #[.string r1,.int .i64 r2])∧Below w.heap.size w w':=by
 unfold sluicegateref07_Mine.f at h
 split at h
 ·rename_i hg
  split at h
  ·rename_i hs
   have e:=Option.some.inj h
   have:=rmine_good a0.data.toList (by rw[size_data];exact hs) a1_0 a1_1 a1_2 A1_3 l1_3.length c1_3 l1_3 a2 w hr1_3 hg.1 hg.2.1 hg.2.2
   rw[e,B_eta]at this
   exact this
  ·cases h
 ·rename_i hg
  have e:=Option.some.inj h
  simp only[Prod.mk.injEq]at e
  obtain⟨rfl,rfl⟩:=e
  exact rmine_bad a0 a1_0 a1_1 a1_2 A1_3 l1_3.length c1_3 a2 w (by omega)
end Go.Proofs.YtdcfonmjbelgbaaGreatDoor
end
section
namespace Go.Proofs.YtdcfonmjbelgbaaGreatDoor
open Go.RowKit Go.Maps Q YtdcfonmjbelgbaaGreatDoorW.PrintWords YtdcfonmjbelgbaaGreatDoorW.PrintLast YtdcfonmjbelgbaaGreatDoorW.PrintMore
def inB (n m:Int):Bool:=decide (0≤n)&&decide (n≤m)
theorem in_calls (n m:Int) (w:World):Calls Tryz.prog 39 #[.int .i64 n,.int .i64 m] w fun e w'=>e = .returned (.bool (inB n m))∧Below w.heap.size w w':=by
 have h:record_in.f n m=some (inB n m):=by
  unfold record_in.f inB
  by_cases h:n≥0
  ·rw[if_pos h,decide_eq_true (p:=0≤n) h];rfl
  ·rw[if_neg h,decide_eq_false (p:=0≤n) h];rfl
 refine(record_in.calls n m _ w h).mono ?_
 rintro e w' ⟨rfl,hd⟩
 exact⟨rfl,hd.below⟩
def locOk (x:S59):Bool:=inB x.f0 11&&inB x.f1 47
def keysL (l:List S59) (k:Nat):List Lit:=(l.take k).map fun x=> .int .i64 x.f0
def Sv (l:List S59) (k:Nat):DataW Unit:=setOf (.agg []) (keysL l k)
theorem keysL_succ (l:List S59) (k:Nat) (hk:k<l.length):keysL l (k+1)=keysL l k++[.int .i64 (rd_T59 l k).f0]:=by
 unfold keysL rd_T59
 rw[List.take_add_one,List.map_append]
 simp[List.getD,List.getElem?_eq_getElem hk]
theorem Sv_succ (l:List S59) (k:Nat) (hk:k<l.length):Sv l (k+1)=(Sv l k).put (.int .i64 (rd_T59 l k).f0) (.agg []):=by
 unfold Sv
 rw[keysL_succ l k hk,setOf_snoc]
theorem Sv_zero (l:List S59):Sv l 0 = .map []:=by simp[Sv,keysL,setOf]
def volP (id gen len:Int) (l:List S59):Bool:=l.all locOk&&(inB id 1099511627776&&(inB gen 1099511627776&&(inB len 384&&(decide ((l.length:Int)=9)&&decide ((Maps.size (Sv l l.length):Int)=9)))))
theorem own_below {P:Program} {H:Type} {k:TypeId} {R:Value→Option (DataW H×List MemPlace)} {b n:Nat} {D:DataW H} {w w':World} (h:w.ownsMap P k R b n D) (hb:Below w.heap.size w w'):w'.ownsMap P k R b n D:=by
 have hlt:=h.lt
 obtain⟨es,clock,h0,F⟩:=h
 exact⟨es,clock,(hb.block _ hlt).trans h0,F⟩
theorem lawI:Keyed Tryz.prog 3:=int_keyed Tryz.underlying3
theorem all_step (l:List S59) (k:Nat) (hk:k<l.length):(l.take (k+1)).all locOk=((l.take k).all locOk&&locOk (rd_T59 l k)):=by
 have:l.take (k+1)=l.take k++[rd_T59 l k]:=by
  unfold rd_T59
  rw[List.take_add_one]
  simp[List.getD,List.getElem?_eq_getElem hk]
 rw[this,List.all_append]
 simp
theorem all_bad (l:List S59) (k:Nat) (hk:k<l.length) (h:locOk (rd_T59 l k)=false):l.all locOk=false:=by
 have h1:=all_step l k hk
 rw[h,Bool.and_false]at h1
 rw[←List.take_append_drop (k+1) l,List.all_append,h1,Bool.false_and]
theorem vol_calls (id gen len:Int) (A:Option Addr) (n c:Nat) (l:List S59) (w:World) (hr:Kd.C k59 w A n l) (hn:n=l.length) (hb:l.length≤1000):Calls Tryz.prog 25 #[.agg #[.int .i64 id,.int .i64 gen,.int .i64 len,.slice A n c]] w fun e w'=>e = .returned (.bool (volP id gen len l))∧Below w.heap.size w w':=by
 subst hn
 have hmm:= @run_makeMap Tryz.prog
 have hu:=Tryz.underlying24
 have hu23:=Tryz.underlying59
 have hs:((w.alloc (.cells #[.int .i64 id,.int .i64 gen,.int .i64 len,.slice A l.length c] 24)).alloc (.map #[] 0)).heap.size=w.heap.size+1+1:=by rw[World.size_alloc,World.size_alloc]
 have HV:Aside0 (Blk ((w.alloc (.cells #[.int .i64 id,.int .i64 gen,.int .i64 len,.slice A l.length c] 24)).alloc (.map #[] 0)) w.heap.size #[.int .i64 id,.int .i64 gen,.int .i64 len,.slice A l.length c] 24):=⟨(Blk.new w _ _).alloc _⟩
 have HB:Aside0 (Below w.heap.size w ((w.alloc (.cells #[.int .i64 id,.int .i64 gen,.int .i64 len,.slice A l.length c] 24)).alloc (.map #[] 0))):=⟨below_alloc (below_alloc (Below.refl _ _) _) _⟩
 have HO:Aside0 (((w.alloc (.cells #[.int .i64 id,.int .i64 gen,.int .i64 len,.slice A l.length c] 24)).alloc (.map #[] 0)).ownsMap Tryz.prog 3 (unitElem (H:=Unit)) (w.heap.size+1) 0 (Sv l 0)):=⟨by rw[Sv_zero];have:=World.ownsMap_made (w.alloc (.cells #[.int .i64 id,.int .i64 gen,.int .i64 len,.slice A l.length c] 24)) Tryz.prog 3 (unitElem (H:=Unit));rwa [World.size_alloc]at this⟩
 have HSZ:=Lib.hid hs
 clear hs
 go_enter Tryz.func25,Tryz.ntmps25
 go_wp2_with fail
 generalize ((w.alloc (.cells #[.int .i64 id,.int .i64 gen,.int .i64 len,.slice A l.length c] 24)).alloc (.map #[] 0))=W0 at HV HB HO HSZ ⊢
 go_loopw [10] (fun i wr=> ∃ k:Nat,k≤l.length∧i = .int .i64 k∧Aside0 ((l.take k).all locOk=true)∧Aside0 (wr.ownsMap Tryz.prog 3 (unitElem (H:=Unit)) (w.heap.size+1) k (Sv l k))∧Aside0 (Blk wr w.heap.size #[.int .i64 id,.int .i64 gen,.int .i64 len,.slice A l.length c] 24)∧Aside0 (Below w.heap.size w wr)∧Aside0 (w.heap.size+2≤wr.heap.size)) (fun i _=>l.length-(intOf i).toNat)
 case atStart=>exact⟨0,Nat.zero_le _,rfl,⟨rfl⟩,HO,HV,HB,⟨by rw[HSZ.out];omega⟩⟩
 case round=>
  clear HO HV HB
  obtain⟨k,hk,rfl,HA,HO,HV,HB,HZ⟩:=hrel
  by_cases hlt:k<l.length
  ·obtain⟨ad,hA,k0,k1⟩:=at_T59 hr k (by omega) (by omega)
   rw[Int.toNat_natCast]at k0 k1
   have hK:(ad.add (k*2)).block<w.heap.size:=lt_cell k0
   have e0:=(HB.out.cell hK).trans k0
   have e1:=(HB.out.cell (lt_cell k1)).trans k1
   clear k0 k1
   subst hA
   have hkl:k<l.length:=by omega
   have HX:=Aside0.mk (Blk.new wr #[.int .i64 (rd_T59 l k).f0,.int .i64 (rd_T59 l k).f1] 59)
   replace HV:=Aside0.mk (HV.out.alloc (.cells #[.int .i64 (rd_T59 l k).f0,.int .i64 (rd_T59 l k).f1] 59))
   replace HB:=Aside0.mk (below_alloc HB.out (.cells #[.int .i64 (rd_T59 l k).f0,.int .i64 (rd_T59 l k).f1] 59))
   replace HO:=Aside0.mk (HO.out.alloc (.cells #[.int .i64 (rd_T59 l k).f0,.int .i64 (rd_T59 l k).f1] 59))
   cases hb0:inB (rd_T59 l k).f0 11 with
   | false=>
    have HF:=Lib.hid (show volP id gen len l=false by unfold volP;rw[all_bad l k hkl (by unfold locOk;rw[hb0];rfl)];rfl)
    go_wp2_with fail
    refine(in_calls _ _ _).mono ?_
    rintro e w1 ⟨rfl,b1⟩
    rw[hb0]
    replace HB:=Aside0.mk (below2 HB.out HB.out.size b1)
    replace HV:=Aside0.mk (HV.out.keep b1)
    replace HO:=Aside0.mk (own_below HO.out b1)
    replace HZ:=Aside0.mk (Nat.le_trans HZ.out (Nat.le_trans (by rw[World.size_alloc];omega) b1.size))
    replace HX:=Aside0.mk (HX.out.keep b1)
    clear b1
    go_wp2_with fail
    go_ret
    exact⟨by rw[HF.out];rfl,HB.out⟩
   | true=>
    cases hb1:inB (rd_T59 l k).f1 47 with
    | false=>
     have HF:=Lib.hid (show volP id gen len l=false by unfold volP;rw[all_bad l k hkl (by unfold locOk;rw[hb0,hb1];rfl)];rfl)
     go_wp2_with fail
     refine(in_calls _ _ _).mono ?_
     rintro e w1 ⟨rfl,b1⟩
     rw[hb0]
     replace HB:=Aside0.mk (below2 HB.out HB.out.size b1)
     replace HV:=Aside0.mk (HV.out.keep b1)
     replace HO:=Aside0.mk (own_below HO.out b1)
     replace HZ:=Aside0.mk (Nat.le_trans HZ.out (Nat.le_trans (by rw[World.size_alloc];omega) b1.size))
     replace HX:=Aside0.mk (HX.out.keep b1)
     clear b1
     have d0:=HX.out.cell (i:=0) (v:=.int .i64 (rd_T59 l k).f0) rfl
     have d1:=HX.out.cell (i:=1) (v:=.int .i64 (rd_T59 l k).f1) rfl
     go_wp2_with fail
     clear d0 d1
     refine(in_calls _ _ _).mono ?_
     rintro e w2 ⟨rfl,b1⟩
     rw[hb1]
     replace HB:=Aside0.mk (below2 HB.out HB.out.size b1)
     replace HV:=Aside0.mk (HV.out.keep b1)
     replace HO:=Aside0.mk (own_below HO.out b1)
     replace HZ:=Aside0.mk (Nat.le_trans HZ.out b1.size)
     replace HX:=Aside0.mk (HX.out.keep b1)
     clear b1
     go_wp2_with fail
     go_ret
     exact⟨by rw[HF.out];rfl,HB.out⟩
    | true=>
     have HA2:=Aside0.mk (show (l.take (k+1)).all locOk=true by rw[all_step l k hkl,HA.out];unfold locOk;rw[hb0,hb1];rfl)
     have hkey:=Aside0.mk (show keyOf Tryz.prog 3 (.int .i64 (rd_T59 l k).f0)=some (.int .i64 (rd_T59 l k).f0)from keyOf_int_mk Tryz.underlying3 (by unfold inB at hb0;rw[Bool.and_eq_true,decide_eq_true_eq,decide_eq_true_eq]at hb0;simp[Lit.wf,IntKind.min,IntKind.max,IntKind.signed,IntKind.bits];omega))
     go_wp2_with fail
     refine(in_calls _ _ _).mono ?_
     rintro e w1 ⟨rfl,b1⟩
     rw[hb0]
     replace HB:=Aside0.mk (below2 HB.out HB.out.size b1)
     replace HV:=Aside0.mk (HV.out.keep b1)
     replace HO:=Aside0.mk (own_below HO.out b1)
     replace HZ:=Aside0.mk (Nat.le_trans HZ.out (Nat.le_trans (by rw[World.size_alloc];omega) b1.size))
     replace HX:=Aside0.mk (HX.out.keep b1)
     clear b1
     have d0:=HX.out.cell (i:=0) (v:=.int .i64 (rd_T59 l k).f0) rfl
     have d1:=HX.out.cell (i:=1) (v:=.int .i64 (rd_T59 l k).f1) rfl
     go_wp2_with fail
     clear d0 d1
     refine(in_calls _ _ _).mono ?_
     rintro e w2 ⟨rfl,b1⟩
     rw[hb1]
     replace HB:=Aside0.mk (below2 HB.out HB.out.size b1)
     replace HV:=Aside0.mk (HV.out.keep b1)
     replace HO:=Aside0.mk (own_below HO.out b1)
     replace HZ:=Aside0.mk (Nat.le_trans HZ.out b1.size)
     replace HX:=Aside0.mk (HX.out.keep b1)
     clear b1
     have d0:=HX.out.cell (i:=0) (v:=.int .i64 (rd_T59 l k).f0) rfl
     have hkm:=Aside0.mk (show k<maxLen by unfold maxLen;omega)
     go_wp2_with (at_mapUpdate;refine wpList_mapUpdate_own _ rfl _ _ _ 77 rfl 3 79 lawI Tryz.underlying77 (unitElem (H:=Unit)) (w.heap.size+1) k _ rfl HO.out hkm.out _ _ _ rfl rfl hkey.out _ [] unitElem_mk ?_;intro w9 hown1 hgrow1)
     go_roundw
     case rel=>
      refine⟨k+1,by omega,by go_num,HA2,⟨by rw[Sv_succ l k hkl];exact hown1⟩,⟨blk_grown HV.out hgrow1 (by simp)⟩,⟨HB.out.grown hgrow1 HB.out.size (fun j hj=>by cases hj;omega)⟩,⟨Nat.le_trans HZ.out hgrow1.size⟩⟩
     case measure=>simp[intOf];omega
  ·obtain rfl:k=l.length:=by omega
   have hall:l.all locOk=true:=by rw[←HA.out,List.take_of_length_le (Nat.le_refl _)]
   have HF:=Lib.hid (show volP id gen len l=_ by unfold volP;rw[hall])
   clear HA hall
   have HLT:=Lib.hid hlt
   have v0:=HV.out.cell (i:=0) (v:=.int .i64 id) rfl
   go_wp2_with fail
   cases hc0:inB id 1099511627776 with
   | false=>
    clear v0
    refine(in_calls _ _ _).mono ?_
    rintro e w3 ⟨rfl,b1⟩
    rw[hc0]
    replace HB:=Aside0.mk (below2 HB.out HB.out.size b1)
    replace HV:=Aside0.mk (HV.out.keep b1)
    replace HO:=Aside0.mk (own_below HO.out b1)
    clear b1
    go_wp2_with fail
    go_ret
    exact⟨by rw[HF.out,hc0];rfl,HB.out⟩
   | true=>
    clear v0
    refine(in_calls _ _ _).mono ?_
    rintro e w3 ⟨rfl,b1⟩
    rw[hc0]
    replace HB:=Aside0.mk (below2 HB.out HB.out.size b1)
    replace HV:=Aside0.mk (HV.out.keep b1)
    replace HO:=Aside0.mk (own_below HO.out b1)
    clear b1
    have v0:=HV.out.cell (i:=1) (v:=.int .i64 gen) rfl
    go_wp2_with fail
    cases hc1:inB gen 1099511627776 with
    | false=>
     clear v0
     refine(in_calls _ _ _).mono ?_
     rintro e w4 ⟨rfl,b1⟩
     rw[hc1]
     replace HB:=Aside0.mk (below2 HB.out HB.out.size b1)
     replace HV:=Aside0.mk (HV.out.keep b1)
     replace HO:=Aside0.mk (own_below HO.out b1)
     clear b1
     go_wp2_with fail
     go_ret
     exact⟨by rw[HF.out,hc0,hc1];rfl,HB.out⟩
    | true=>
     clear v0
     refine(in_calls _ _ _).mono ?_
     rintro e w4 ⟨rfl,b1⟩
     rw[hc1]
     replace HB:=Aside0.mk (below2 HB.out HB.out.size b1)
     replace HV:=Aside0.mk (HV.out.keep b1)
     replace HO:=Aside0.mk (own_below HO.out b1)
     clear b1
     have v0:=HV.out.cell (i:=2) (v:=.int .i64 len) rfl
     go_wp2_with fail
     cases hc2:inB len 384 with
     | false=>
      clear v0
      refine(in_calls _ _ _).mono ?_
      rintro e w5 ⟨rfl,b1⟩
      rw[hc2]
      replace HB:=Aside0.mk (below2 HB.out HB.out.size b1)
      replace HV:=Aside0.mk (HV.out.keep b1)
      replace HO:=Aside0.mk (own_below HO.out b1)
      clear b1
      go_wp2_with fail
      go_ret
      exact⟨by rw[HF.out,hc0,hc1,hc2];rfl,HB.out⟩
     | true=>
      clear v0
      refine(in_calls _ _ _).mono ?_
      rintro e w5 ⟨rfl,b1⟩
      rw[hc2]
      replace HB:=Aside0.mk (below2 HB.out HB.out.size b1)
      replace HV:=Aside0.mk (HV.out.keep b1)
      replace HO:=Aside0.mk (own_below HO.out b1)
      clear b1
      have v0:=HV.out.cell (i:=3) (v:=.slice A l.length c) rfl
      obtain⟨m,hm⟩ : ∃ m,Maps.size (Sv l l.length)=m:=⟨_,rfl⟩
      by_cases h9:(l.length:Int)=9
      ·have f9:((l.length:Int)==9)=true:=by simpa using h9
       by_cases h8:(m:Int)=9
       ·have f8:((m:Int)==9)=true:=by simpa using h8
        replace HF:=Lib.hid (HF.out.trans (show _=true by rw[hc0,hc1,hc2,decide_eq_true h9,hm,decide_eq_true h8];rfl))
        clear h9 h8
        go_wp2_with (at_len;refine gate_guard (by rfl) ?_;refine wpList_len_own _ rfl _ 77 rfl 3 79 Tryz.underlying77 _ (w.heap.size+1) l.length _ rfl HO.out ?_;rw[hm])
        go_ret
        exact⟨by rw[HF.out];rfl,HB.out⟩
       ·have f8:((m:Int)==9)=false:=by simpa using h8
        replace HF:=Lib.hid (HF.out.trans (show _=false by rw[hc0,hc1,hc2,decide_eq_true h9,hm,decide_eq_false h8];rfl))
        clear h9 h8
        go_wp2_with (at_len;refine gate_guard (by rfl) ?_;refine wpList_len_own _ rfl _ 77 rfl 3 79 Tryz.underlying77 _ (w.heap.size+1) l.length _ rfl HO.out ?_;rw[hm])
        go_ret
        exact⟨by rw[HF.out];rfl,HB.out⟩
      ·have f9:((l.length:Int)==9)=false:=by simpa using h9
       replace HF:=Lib.hid (HF.out.trans (show _=false by rw[hc0,hc1,hc2,decide_eq_false h9];rfl))
       clear h9 hm
       go_wp2_with fail
       go_ret
       exact⟨by rw[HF.out];rfl,HB.out⟩
def record_Volume.f (a0_0 a0_1 a0_2:Int) (l0_3:List S59):Option Bool:=if l0_3.length≤1000 then some (volP a0_0 a0_1 a0_2 l0_3)else none
theorem record_Volume.calls (a0_0:Int) (a0_1:Int) (a0_2:Int) (A0_3:Option Addr) (c0_3:Nat) (l0_3:List S59) (r:Bool) (w:World) (hr0_3:Kd.C k59 w A0_3 l0_3.length l0_3) (_hc0_3:l0_3.length≤c0_3) (h:record_Volume.f a0_0 a0_1 a0_2 l0_3=some r) :
  Calls Tryz.prog 25 #[.agg #[.int .i64 a0_0,.int .i64 a0_1,.int .i64 a0_2,.slice A0_3 l0_3.length c0_3]] w fun e w'=>e = .returned (.bool r)∧Below w.heap.size w w':=by
 unfold record_Volume.f at h
 split at h
 ·rename_i hb
  have:=vol_calls a0_0 a0_1 a0_2 A0_3 l0_3.length c0_3 l0_3 w hr0_3 rfl hb
  rw[Option.some.inj h]at this
  exact this
 ·cases h
end Go.Proofs.YtdcfonmjbelgbaaGreatDoor
end
section
namespace Go.Proofs.YtdcfonmjbelgbaaGreatDoor
open Go.RowKit Go.Maps Q YtdcfonmjbelgbaaGreatDoorW.PrintWords YtdcfonmjbelgbaaGreatDoorW.PrintLast
theorem nbt_at (l:List UInt8) (i:Nat) (h:i<l.length):bt (B l) (i:Int)=((l[i]).toNat:Int):=by
 rw[bt_B,List.getD,List.getElem?_eq_getElem h]
 rfl
theorem nwrap_k (i:Nat) (h:i≤140737488355328):wrap64 ((i:Int)+1)=((i+1:Nat):Int):=by unfold wrap64;omega
end Go.Proofs.YtdcfonmjbelgbaaGreatDoor
end
section
namespace Go.Proofs.YtdcfonmjbelgbaaGreatDoor
end Go.Proofs.YtdcfonmjbelgbaaGreatDoor
end
section
namespace Go.Proofs.YtdcfonmjbelgbaaGreatDoor
open Go.RowKit
theorem wpIn_range_stops {F:Fence} {n:Nat} {P:Program} {α:Type} {g:Operand} {ps:Array Tmp} {assign body:Code} {Q:Exit→Act→World→Prop} {a:Act} {w:World} (hro:F.round=none) (h1:1≤n) {gf:Nat} {lb:Array Value} (hg:a.eval g = .func (.func gf) #[] lb) (hFg:F.fn gf) (eg : ∀ args w,(callFunc gf args).run P w = .ok (.enter gf args) w)
  {encs:α→Array Value} (V:α→World→Prop) (stp:α→Prop) (S Sp:List α→Prop) (N n₀:Nat) (Bx:World→Prop) (hn₀:n₀≤w.heap.size) (hps : ∀ x,(encs x).size=ps.size)
  (hseq : ∀ (l:Nat) (J Jx:List α→World→Prop) (W:World),Below w.heap.size w W→(∀ s A B,J s A→A.grownBy B none→J s B)→(∀ s A B,Jx s A→A.grownBy B none→Jx s B)→(∀ s A,J s A→Bx A) →
   (∀ pre x W1,J pre W1→V x W1→pre.length<N→YieldAt F (n-1-1) P l (encs x) W1 fun e W'=>(e = .returned (.bool true) ∧ ¬ stp x∧J (pre++[x]) W'∧Below n₀ W1 W')∨(e = .returned (.bool false)∧stp x∧Jx (pre++[x]) W'∧Below n₀ W1 W'))→J [] W →
   CallsIn F (n-1) P gf (#[.func (.yield l) #[] #[]]++lb) W fun e W'=>(∃ v,e = .returned v)∧((∃ xs,S xs∧J xs W')∨(∃ xs,Sp xs∧Jx xs W')))
  (I Ix:List α→World→Prop) (hI:OwnFrom w.heap.size I) (hIx:OwnFrom w.heap.size Ix) (hBx : ∀ s A,I s A→Bx A) (h0:I [] w) (Ax:List α→α→Act→World→Prop) (hAx : ∀ pre x a',OwnFrom w.heap.size (fun (_:Unit) W=>Ax pre x a' W))
  (hassign : ∀ (l:Nat) (pre:List α) (x:α) (W:World) (K:Act→World→Prop),I pre W→V x W→pre.length<N→(∀ a' W',KeepsFrom w.heap.size W W'→Below n₀ W W'→Ax pre x a' W'→K a' W') →
   assign.wpIn (F.inRound l) (n-1-1) P (Exit.then K (fun _ _ _=>False)) { tmps:=(ps.zip (encs x)).foldl (fun t (p,v)=>t.setIfInBounds p v) a.tmps,defers:=[] } W)
  (hbody : ∀ (l:Nat) (pre:List α) (x:α) (a':Act) (W:World),Ax pre x a' W→body.wpIn (F.inRound l) (n-1-1) P (fun e _ W'=>KeepsFrom w.heap.size W W'∧Below n₀ W W'∧((e = .normal ∧ ¬ stp x∧I (pre++[x]) W')∨(e = .ret∧stp x∧Ix (pre++[x]) W'))) a' W)
  (hdone : ∀ (D:Nat) (xs:List α) (W:World),w.heap.size≤D→S xs→I xs W→W.heap[D]? = some (.deferred (some []))→Q .normal { a with defers:={ target:=.collected D,args:= #[] }::a.defers } W)
  (hleft : ∀ (D:Nat) (xs:List α) (W:World),w.heap.size≤D→Sp xs→Ix xs W→W.heap[D]? = some (.deferred (some []))→Q .ret { a with defers:={ target:=.collected D,args:= #[] }::a.defers } W) :
  (Code.rangeFunc g ps assign body).wpIn F n P Q a w:=by
 refine wpIn_rangeFunc fun fn hfn=> ?_
 rw[hro]
 obtain⟨mk,hmk⟩ : ∃ mk:LoopState→Option Code→Loop,mk=fun st pe=>{ state:=st,pending:=pe,fn,tmps:=a.tmps,params:=ps,assign,body,defers:=w.heap.size }:=⟨_,rfl⟩
 obtain⟨W1,hW1⟩ : ∃ W1,(w.alloc (.deferred (some []))).alloc (.loop (mk .ready none))=W1:=⟨_,rfl⟩
 have hL1:W1.heap[w.heap.size+1]? = some (.loop (mk .ready none)):=by
  have:=World.alloc_heap_new (w.alloc (.deferred (some []))) (.loop (mk .ready none))
  rwa [World.size_alloc,hW1]at this
 have hD1:W1.heap[w.heap.size]? = some (.deferred (some [])):=by
  rw[←hW1]
  exact(Below.heap_alloc _ _ _ (by simp)).trans (World.alloc_heap_new w _)
 have hI1:I [] W1:=by rw[←hW1];exact hI.alloc _ (hI.alloc _ h0)
 have hB1:Below w.heap.size w W1:=by rw[←hW1];exact((Below.refl _ w).alloc (Nat.le_refl _) _).alloc (by simp) _
 refine⟨w.heap.size+1,[{ target:=.collected w.heap.size,args:= #[] }],W1,{ target:=.fn (.func gf) lb,args:= #[.func (.yield (w.heap.size+1)) #[] #[]] },W1,gf,#[.func (.yield (w.heap.size+1)) #[] #[]]++lb,W1,?_,?_,?_,?_,fun _=>h1,?_⟩
 ·rw[←hW1,hmk]
  exact run_enterLoop_outer _ _ _ _ _
 ·simp only[resolve,hg]
  simp[go_sem]
 ·intro f' hf'
  simp[Target.leads]at hf'
  subst hf'
  exact hFg
 ·simp[invoke,go_sem,eg]
 ·refine(hseq (w.heap.size+1) (fun pre W=>I pre W∧W.heap[w.heap.size+1]? = some (.loop (mk .ready none))∧W.heap[w.heap.size]? = some (.deferred (some []))) (fun pre W=>Ix pre W∧W.heap[w.heap.size+1]? = some (.loop (mk .done (some .ret)))∧W.heap[w.heap.size]? = some (.deferred (some []))) W1 hB1 ?_ ?_ (fun s A h=>hBx s A h.1) ?_ ⟨hI1,hL1,hD1⟩).mono ?_
  ·rintro s A B ⟨hi,hl,hd⟩ hgr
   exact⟨hI s A B none hi hgr (fun r e=>by cases e),(hgr.block _ (Array.getElem?_eq_some_iff.1 hl).1 (by simp)).trans hl,(hgr.block _ (Array.getElem?_eq_some_iff.1 hd).1 (by simp)).trans hd⟩
  ·rintro s A B ⟨hi,hl,hd⟩ hgr
   exact⟨hIx s A B none hi hgr (fun r e=>by cases e),(hgr.block _ (Array.getElem?_eq_some_iff.1 hl).1 (by simp)).trans hl,(hgr.block _ (Array.getElem?_eq_some_iff.1 hd).1 (by simp)).trans hd⟩
  ·rintro pre x W ⟨hi,hl,hd⟩ hv hN
   have hy:=run_yield (P:=P) (args:=encs x) hl (by rw[hmk];exact hps x)
   rw[hmk]at hy
   refine⟨fn,_,assign,body,hy,roundIn_of_wpIn hfn (hassign _ pre x W _ hi hv hN ?_)⟩
   clear hy
   intro a' Wa hk hb hax
   have hla:=hk.same _ _ (by omega) hl rfl
   have hda:=hk.same _ _ (Nat.le_refl _) hd rfl
   have hlt:w.heap.size+1<Wa.heap.size:=(Array.getElem?_eq_some_iff.1 hla).1
   refine⟨_,run_beginRound hla (by rw[hmk]),?_⟩
   have hl2:(Wa.putObj (w.heap.size+1) (.loop { mk .ready none with state:=.busy })).heap[w.heap.size+1]? = some (.loop { mk .ready none with state:=.busy }):=World.putObj_heap_same hlt
   have hd2:(Wa.putObj (w.heap.size+1) (.loop { mk .ready none with state:=.busy })).heap[w.heap.size]? = some (.deferred (some [])):=(World.putObj_heap_other (by omega)).trans hda
   have hb2:=belowK_b (w:=w) hn₀ Wa (w.heap.size+1) _ (.loop { mk .ready none with state:=.busy }) (by omega) hla rfl rfl
   refine wpIn_mono (hbody _ pre x a' _ ((hAx pre x a').putObj (s:=()) _ hax (by omega) hla rfl)) ?_
   rintro e a3 W3 ⟨hk3,hb3,hend⟩
   have hl3:=hk3.same _ _ (by omega) hl2 rfl
   have hd3:=hk3.same _ _ (Nat.le_refl _) hd2 rfl
   rcases hend with ⟨rfl,hx,hi3⟩|⟨rfl,hx,hi3⟩
   ·have hr:=run_endRound (P:=P) none hl3
    rw[hmk]at hr hl3
    refine⟨_,_,hr,.inl ⟨rfl,hx,⟨hI.putObj _ hi3 (by omega) hl3 rfl,?_,(World.putObj_heap_other (by omega)).trans hd3⟩,?_⟩⟩
    ·rw[hmk]
     exact World.putObj_heap_same (Array.getElem?_eq_some_iff.1 hl3).1
    ·exact(hb.trans (hb2.trans hb3)).trans (belowK_b (w:=w) hn₀ W3 (w.heap.size+1) _ _ (by omega) hl3 rfl rfl)
   ·have hr:=run_endRound (P:=P) (some .ret) hl3
    rw[hmk]at hr hl3
    refine⟨_,_,hr,.inr ⟨rfl,hx,⟨hIx.putObj _ hi3 (by omega) hl3 rfl,?_,(World.putObj_heap_other (by omega)).trans hd3⟩,?_⟩⟩
    ·rw[hmk]
     exact World.putObj_heap_same (Array.getElem?_eq_some_iff.1 hl3).1
    ·exact(hb.trans (hb2.trans hb3)).trans (belowK_b (w:=w) hn₀ W3 (w.heap.size+1) _ _ (by omega) hl3 rfl rfl)
  ·rintro e W2 ⟨⟨v,rfl⟩,⟨xs,hS,hi,hl,hd⟩|⟨xs,hS,hi,hl,hd⟩⟩
   ·have hr:=run_endLoop (P:=P) hl (by rw[hmk];simp)
    rw[hmk]at hr
    exact⟨none,_,hr,hdone _ xs _ (Nat.le_refl _) hS (hI.putObj _ hi (by omega) hl rfl) ((World.putObj_heap_other (by omega)).trans hd)⟩
   ·have hr:=run_endLoop (P:=P) hl (by rw[hmk];simp)
    rw[hmk]at hr
    exact⟨some .ret,_,hr,wpIn_ret (hleft _ xs _ (Nat.le_refl _) hS (hIx.putObj _ hi (by omega) hl rfl) ((World.putObj_heap_other (by omega)).trans hd))⟩
end Go.Proofs.YtdcfonmjbelgbaaGreatDoor
end
section
namespace Go.Proofs.YtdcfonmjbelgbaaGreatDoor
open Go.RowKit Q YtdcfonmjbelgbaaGreatDoorW.PrintWords YtdcfonmjbelgbaaGreatDoorW.PrintLast YtdcfonmjbelgbaaGreatDoorW.PrintMore
attribute [local go_sem] Oper.semAt_some
theorem ngrown_of {w w':World} (b:Below w.heap.size w w'):w.grownBy w' none:=⟨b.os,b.tape,b.output,b.size,fun k hk _=>b.block k hk⟩
end Go.Proofs.YtdcfonmjbelgbaaGreatDoor
end
section
namespace Go.Proofs.YtdcfonmjbelgbaaGreatDoor
open Go.RowKit Q YtdcfonmjbelgbaaGreatDoorW.PrintWords YtdcfonmjbelgbaaGreatDoorW.PrintLast YtdcfonmjbelgbaaGreatDoorW.PrintMore
theorem ngrown_set (w:World) (g i:Nat) (v:Value):w.grownBy (w.setCell ⟨g,i,none⟩ v) (some g):=⟨rfl,rfl,rfl,by simp,fun k _ hk=>Below.heap_setCell w ⟨g,i,none⟩ v k (fun e=>hk (by rw[e]))⟩
theorem ngrown_below {w w':World} (b:Below w.heap.size w w') (r:Option Nat):w.grownBy w' r:=⟨b.os,b.tape,b.output,b.size,fun k hk _=>b.block k hk⟩
theorem nR_step {α:Type} {d:Kd α} {e base:Nat} {W W1:World} {ok:Nat→Prop} {v:Value} {xs:List α} {row:Option Nat} (h:d.R e W base ok v xs) (hg:W.grownBy W1 row) (t:TypeId) (hrow : ∀ k,row=some k → ∃ cells,W.heap[k]? = some (.cells cells t (0,0))) (ht : ∀ q,q∈e::d.E→q≠t):d.R e W1 base ok v xs:=
 Kd.R_mono (Kd.R_move (Kd.R_bound h) (fun k hk=>hg.block k hk.2.2.1 (fun e'=>by
  obtain⟨_,_,_,q,hq,cells,hc⟩:=hk
  obtain⟨cells2,hc2⟩:=hrow k e'.symm
  rw[hc]at hc2
  injection hc2 with hc2
  injection hc2 with _ hc2
  exact ht q hq hc2))) (fun _ hk=>hk.1)
theorem nbox_step {W W1:World} {B:Nat} {T:TypeId} {v:Value} {row:Option Nat} (h:Boxed W B T v) (hg:W.grownBy W1 row) (t:TypeId) (hrow : ∀ k,row=some k → ∃ cells,W.heap[k]? = some (.cells cells t (0,0))) (ht:T≠t):Boxed W1 B T v:=
 h.kept hg (fun e=>by
  obtain⟨cells2,hc2⟩:=hrow B e.symm
  rw[show W.heap[B]? = _ from h]at hc2
  injection hc2 with hc2
  injection hc2 with _ hc2
  exact ht hc2)
theorem nR_calm {α:Type} {d:Kd α} {e base:Nat} {ok:Nat→Prop} {X Y:World} {v:Value} {xs:List α} {row:Option Nat} (h:d.R e X base ok v xs) (hg:X.grownBy Y row) (hr : ∀ r,row=some r → ∃ o:Obj,X.heap[r]? = some o∧o.isCells=false):d.R e Y base ok v xs:=
 Kd.R_mono (Kd.R_move (Kd.R_bound h) (fun k hk=>hg.block k hk.2.2.1 (fun e'=>by
  obtain⟨_,_,_,q,_,cells,hc⟩:=hk
  obtain⟨o,ho,hn⟩:=hr k e'.symm
  rw[hc]at ho
  cases ho
  cases hn))) (fun _ hk=>hk.1)
theorem nblk_calm {X Y:World} {g:Nat} {c:Array Value} {T:TypeId} {row:Option Nat} (h:Blk X g c T) (hg:X.grownBy Y row) (hr : ∀ r,row=some r → ∃ o:Obj,X.heap[r]? = some o∧o.isCells=false):Blk Y g c T:=
 (hg.block g (Array.getElem?_eq_some_iff.1 (show X.heap[g]? = _ from h)).1 (fun e'=>by
  obtain⟨o,ho,hn⟩:=hr g e'.symm
  rw[show X.heap[g]? = _ from h]at ho
  cases ho
  cases hn)).trans h
theorem nbelow_between {n:Nat} {w W W1:World} (b1:Below n w W) (b2:Below n w W1) (hs:W.heap.size≤W1.heap.size):Below n W W1:=
 ⟨b2.os.trans b1.os.symm,b2.tape.trans b1.tape.symm,b2.output.trans b1.output.symm,hs,fun k hk=>(b2.block k hk).trans (b1.block k hk).symm⟩
theorem nkeeps_typed {B:Nat} {W W1:World} {row:Option Nat} (hg:W.grownBy W1 row) {t:TypeId} (hrow : ∀ k,row=some k → ∃ cells,W.heap[k]? = some (.cells cells t (0,0))):KeepsFrom B W W1:=
 ⟨hg.size,fun k o _ hk ho=>(hg.block k (Array.getElem?_eq_some_iff.1 hk).1 (fun e=>by
  obtain⟨cells,hc⟩:=hrow k e.symm
  rw[hc]at hk
  cases hk
  cases ho)).trans hk⟩
end Go.Proofs.YtdcfonmjbelgbaaGreatDoor
end
section
namespace Go.Proofs.YtdcfonmjbelgbaaGreatDoor
open Go.RowKit Q YtdcfonmjbelgbaaGreatDoorW.PrintWords YtdcfonmjbelgbaaGreatDoorW.PrintLast YtdcfonmjbelgbaaGreatDoorW.PrintMore
attribute [local go_sem] Oper.semAt_some
theorem chunk_calls (g cap:Nat) (w:World) (n:Nat):CallsIn Fence.wide n Tryz.prog 40 #[.slice (some ⟨g,0,none⟩) 384 cap,.int .i64 64] w fun e w'=>e = .returned (.func (.func 58) #[] #[.pointer (some ⟨w.heap.size,0,none⟩),.pointer (some ⟨w.heap.size+1,0,none⟩)])∧w'=(w.alloc (.cells #[.slice (some ⟨g,0,none⟩) 384 cap] 80)).alloc (.cells #[.int .i64 64] 3):=by
 refine callsIn_of_wp Tryz.func40 rfl trivial ?_ rfl
 simp only[Tryz.ntmps40,List.size_toArray,List.length_cons,List.length_nil,Nat.reduceAdd,Nat.reduceSub,Array.replicate_succ,Array.replicate_zero,List.push_toArray,List.append_toArray,List.nil_append,List.cons_append]
 gi_wp2
 go_ret
 exact⟨rfl,rfl⟩
theorem chunk_in (n:Nat) (hn:1≤n) (l B1 B2 g cap:Nat) (hcap:384≤cap) (w0:World) (J Jx:List Nat→World→Prop) (hJ : ∀ s A B,J s A→A.grownBy B none→J s B) (hBx : ∀ p A,J p A→A.cell? ⟨B1,0,none⟩=some (.slice (some ⟨g,0,none⟩) 384 cap)∧A.cell? ⟨B2,0,none⟩=some (.int .i64 64))
  (hY : ∀ pre x W1,J pre W1→x<6→pre.length<6→YieldAt Fence.wide (n-1) Tryz.prog l #[.slice (some ⟨g,64*x,none⟩) 64 64] W1 fun e W'=>(e = .returned (.bool true) ∧ ¬ False∧J (pre++[x]) W'∧Below w0.heap.size W1 W')∨(e = .returned (.bool false)∧False∧Jx (pre++[x]) W'∧Below w0.heap.size W1 W'))
  (W:World) (hb0:Below w0.heap.size w0 W) (h0:J [] W) :
  CallsIn Fence.wide n Tryz.prog 58 #[.func (.yield l) #[] #[],.pointer (some ⟨B1,0,none⟩),.pointer (some ⟨B2,0,none⟩)] W fun e W'=>(∃ v,e = .returned v)∧((∃ ys:List Nat,ys=[0,1,2,3,4,5]∧J ys W')∨(∃ ys:List Nat,False∧Jx ys W')):=by
 have HJ:=Aside0.mk h0
 have HB:=Aside0.mk hb0
 have HY:=Aside0.mk hY
 have HG:=Aside0.mk hJ
 have HX:=Aside0.mk hBx
 clear h0 hb0 hY hJ hBx
 refine callsIn_of_wp Tryz.func58 rfl trivial ?_ rfl
 simp only[Tryz.ntmps58,List.size_toArray,List.length_cons,List.length_nil,Nat.reduceAdd,Nat.reduceSub,Array.replicate_succ,Array.replicate_zero,List.push_toArray,List.append_toArray,List.nil_append,List.cons_append]
 gi_wp2
 gi_loopw [4] (fun i wr=> ∃ k:Nat,k≤6∧i = .int .i64 ((64*k:Nat):Int)∧Aside0 (J (List.range k) wr)∧Aside0 (Below w0.heap.size w0 wr)) (fun i _=>384-(intOf i).toNat)
 case atStart=>exact⟨0,Nat.zero_le _,rfl,HJ,HB⟩
 case round=>
  clear HJ HB
  obtain⟨k,hk,rfl,HJ,HB⟩:=hrel
  obtain⟨hc1,hc2⟩:=HX.out _ _ HJ.out
  by_cases h6:k=6
  case pos=>
   subst h6
   gi_wp2
   go_end0
   exact⟨⟨_,rfl⟩,.inl ⟨_,rfl,HJ.out⟩⟩
  case neg=>
   have hk5:k=0∨k=1∨k=2∨k=3∨k=4∨k=5:=by omega
   clear hk h6
   rcases hk5 with rfl|rfl|rfl|rfl|rfl|rfl
   ·gi_wp2
    refine wpIn_wide.2 ?_
    refine start_ (n:=7) (S:=fun w'=>w'.cell? ⟨B2,0,none⟩=some (.int .i64 64)∧w'.cell? ⟨B1,0,none⟩=some (.slice (some ⟨g,0,none⟩) 384 cap)) (ds:=[]) #[false,false,false,false,false,false,false] (by kernel_rfl) rfl rfl ⟨hc2,hc1⟩ (fun hHeld=> ?_)
    refine pure_ (i:=2) (N:=some 15) (v:= ?_) (a':= ?_) #[false,false,true,false,false,false,false] rfl rfl (by kernel_rfl) (fun _ _ _ h=>h) (Or.inl ⟨by rfl,?_⟩) ?_ ?_
    rotate_left
    ·intro w'
     go_simp
     with_reducible rfl
    rotate_left
    ·simp only[Act.put,zA,zB,zC]
     rfl
    refine take_ (i:=0) (N:=some 13) (v:= ?_) (a':= ?_) #[true,false,true,false,false,false,false] rfl rfl (by kernel_rfl) (fun _ _ _ h=>h) (Or.inl ⟨by rfl,?_⟩) hHeld ?_ ?_
    rotate_left
    ·rintro w' ⟨s0,s1⟩
     go_simp
     with_reducible rfl
    rotate_left
    ·simp only[Act.put,zA,zB,zC]
     rfl
    refine take_ (i:=1) (N:=some 14) (v:= ?_) (a':= ?_) #[true,true,true,false,false,false,false] rfl rfl (by kernel_rfl) (fun _ _ _ h=>h) (Or.inl ⟨by rfl,?_⟩) hHeld ?_ ?_
    rotate_left
    ·rintro w' ⟨s0,s1⟩
     go_simp
     with_reducible rfl
    rotate_left
    ·simp only[Act.put,zA,zB,zC]
     rfl
    refine pure_ (i:=3) (N:=some 16) (v:= ?_) (a':= ?_) #[true,true,true,true,false,false,false] rfl rfl (by kernel_rfl) (fun _ _ _ h=>h) (Or.inl ⟨by rfl,?_⟩) ?_ ?_
    rotate_left
    ·intro w'
     go_simp
     with_reducible rfl
    rotate_left
    ·simp only[Act.put,zA,zB,zC]
     rfl
    refine pure_ (i:=4) (N:=some 17) (v:= ?_) (a':= ?_) #[true,true,true,true,true,false,false] rfl rfl (by kernel_rfl) (fun _ _ _ h=>h) (Or.inl ⟨by rfl,?_⟩) ?_ ?_
    rotate_left
    ·intro w'
     go_simp
     with_reducible rfl
    rotate_left
    ·simp only[Act.put,zA,zB,zC]
     rfl
    refine pure_ (i:=5) (N:=some 18) (v:= ?_) (a':= ?_) #[true,true,true,true,true,true,false] rfl rfl (by kernel_rfl) (fun _ _ _ h=>h) (Or.inl ⟨by rfl,?_⟩) ?_ ?_
    rotate_left
    ·intro w'
     go_simp
     with_reducible rfl
    rotate_left
    ·simp only[Act.put,zA,zB,zC]
     rfl
    refine pure_ (i:=6) (N:=some 5) (v:= ?_) (a':= ?_) #[true,true,true,true,true,true,true] rfl rfl (by kernel_rfl) (fun _ _ _ h=>h) (Or.inl ⟨by rfl,?_⟩) ?_ ?_
    rotate_left
    ·intro w'
     go_simp
     with_reducible rfl
    rotate_left
    ·simp only[Act.put,zA,zB,zC]
     rfl
    refine done_ (by kernel_rfl) ?_
    have HJ1:=HG.out _ _ _ HJ.out (ngrown_of (Below.drew (Below.refl _ _)))
    have HB1:=Below.drew HB.out
    clear hHeld
    generalize wr.drew=wd at HJ1 HB1 ⊢
    obtain⟨hc1,hc2⟩:=HX.out _ _ HJ1
    obtain⟨fn,tmps,assign,body,hy,hRd⟩:=HY.out (List.range 0) 0 wd HJ1 (by decide) (by decide)
    simp only[Nat.reduceMul]at hy
    gi_wp2
    refine hRd.mono ?_
    rintro e3 W3 (⟨rfl,_,hJ3,hk3⟩|⟨_,hf,_,_⟩)
    ·obtain⟨hc1,hc2⟩:=HX.out _ _ hJ3
     gi_wp2
     go_roundw
     case rel=>exact⟨1,by decide,by first|rfl|go_num,⟨hJ3⟩,⟨HB1.trans hk3⟩⟩
     case measure=>simp[intOf]
    ·exact hf.elim
   ·gi_wp2
    refine wpIn_wide.2 ?_
    refine start_ (n:=7) (S:=fun w'=>w'.cell? ⟨B2,0,none⟩=some (.int .i64 64)∧w'.cell? ⟨B1,0,none⟩=some (.slice (some ⟨g,0,none⟩) 384 cap)) (ds:=[]) #[false,false,false,false,false,false,false] (by kernel_rfl) rfl rfl ⟨hc2,hc1⟩ (fun hHeld=> ?_)
    refine pure_ (i:=2) (N:=some 15) (v:= ?_) (a':= ?_) #[false,false,true,false,false,false,false] rfl rfl (by kernel_rfl) (fun _ _ _ h=>h) (Or.inl ⟨by rfl,?_⟩) ?_ ?_
    rotate_left
    ·intro w'
     go_simp
     with_reducible rfl
    rotate_left
    ·simp only[Act.put,zA,zB,zC]
     rfl
    refine take_ (i:=0) (N:=some 13) (v:= ?_) (a':= ?_) #[true,false,true,false,false,false,false] rfl rfl (by kernel_rfl) (fun _ _ _ h=>h) (Or.inl ⟨by rfl,?_⟩) hHeld ?_ ?_
    rotate_left
    ·rintro w' ⟨s0,s1⟩
     go_simp
     with_reducible rfl
    rotate_left
    ·simp only[Act.put,zA,zB,zC]
     rfl
    refine take_ (i:=1) (N:=some 14) (v:= ?_) (a':= ?_) #[true,true,true,false,false,false,false] rfl rfl (by kernel_rfl) (fun _ _ _ h=>h) (Or.inl ⟨by rfl,?_⟩) hHeld ?_ ?_
    rotate_left
    ·rintro w' ⟨s0,s1⟩
     go_simp
     with_reducible rfl
    rotate_left
    ·simp only[Act.put,zA,zB,zC]
     rfl
    refine pure_ (i:=3) (N:=some 16) (v:= ?_) (a':= ?_) #[true,true,true,true,false,false,false] rfl rfl (by kernel_rfl) (fun _ _ _ h=>h) (Or.inl ⟨by rfl,?_⟩) ?_ ?_
    rotate_left
    ·intro w'
     go_simp
     with_reducible rfl
    rotate_left
    ·simp only[Act.put,zA,zB,zC]
     rfl
    refine pure_ (i:=4) (N:=some 17) (v:= ?_) (a':= ?_) #[true,true,true,true,true,false,false] rfl rfl (by kernel_rfl) (fun _ _ _ h=>h) (Or.inl ⟨by rfl,?_⟩) ?_ ?_
    rotate_left
    ·intro w'
     go_simp
     with_reducible rfl
    rotate_left
    ·simp only[Act.put,zA,zB,zC]
     rfl
    refine pure_ (i:=5) (N:=some 18) (v:= ?_) (a':= ?_) #[true,true,true,true,true,true,false] rfl rfl (by kernel_rfl) (fun _ _ _ h=>h) (Or.inl ⟨by rfl,?_⟩) ?_ ?_
    rotate_left
    ·intro w'
     go_simp
     with_reducible rfl
    rotate_left
    ·simp only[Act.put,zA,zB,zC]
     rfl
    refine pure_ (i:=6) (N:=some 5) (v:= ?_) (a':= ?_) #[true,true,true,true,true,true,true] rfl rfl (by kernel_rfl) (fun _ _ _ h=>h) (Or.inl ⟨by rfl,?_⟩) ?_ ?_
    rotate_left
    ·intro w'
     go_simp
     with_reducible rfl
    rotate_left
    ·simp only[Act.put,zA,zB,zC]
     rfl
    refine done_ (by kernel_rfl) ?_
    have HJ1:=HG.out _ _ _ HJ.out (ngrown_of (Below.drew (Below.refl _ _)))
    have HB1:=Below.drew HB.out
    clear hHeld
    generalize wr.drew=wd at HJ1 HB1 ⊢
    obtain⟨hc1,hc2⟩:=HX.out _ _ HJ1
    obtain⟨fn,tmps,assign,body,hy,hRd⟩:=HY.out (List.range 1) 1 wd HJ1 (by decide) (by decide)
    simp only[Nat.reduceMul]at hy
    gi_wp2
    refine hRd.mono ?_
    rintro e3 W3 (⟨rfl,_,hJ3,hk3⟩|⟨_,hf,_,_⟩)
    ·obtain⟨hc1,hc2⟩:=HX.out _ _ hJ3
     gi_wp2
     go_roundw
     case rel=>exact⟨2,by decide,by first|rfl|go_num,⟨hJ3⟩,⟨HB1.trans hk3⟩⟩
     case measure=>simp[intOf]
    ·exact hf.elim
   ·gi_wp2
    refine wpIn_wide.2 ?_
    refine start_ (n:=7) (S:=fun w'=>w'.cell? ⟨B2,0,none⟩=some (.int .i64 64)∧w'.cell? ⟨B1,0,none⟩=some (.slice (some ⟨g,0,none⟩) 384 cap)) (ds:=[]) #[false,false,false,false,false,false,false] (by kernel_rfl) rfl rfl ⟨hc2,hc1⟩ (fun hHeld=> ?_)
    refine pure_ (i:=2) (N:=some 15) (v:= ?_) (a':= ?_) #[false,false,true,false,false,false,false] rfl rfl (by kernel_rfl) (fun _ _ _ h=>h) (Or.inl ⟨by rfl,?_⟩) ?_ ?_
    rotate_left
    ·intro w'
     go_simp
     with_reducible rfl
    rotate_left
    ·simp only[Act.put,zA,zB,zC]
     rfl
    refine take_ (i:=0) (N:=some 13) (v:= ?_) (a':= ?_) #[true,false,true,false,false,false,false] rfl rfl (by kernel_rfl) (fun _ _ _ h=>h) (Or.inl ⟨by rfl,?_⟩) hHeld ?_ ?_
    rotate_left
    ·rintro w' ⟨s0,s1⟩
     go_simp
     with_reducible rfl
    rotate_left
    ·simp only[Act.put,zA,zB,zC]
     rfl
    refine take_ (i:=1) (N:=some 14) (v:= ?_) (a':= ?_) #[true,true,true,false,false,false,false] rfl rfl (by kernel_rfl) (fun _ _ _ h=>h) (Or.inl ⟨by rfl,?_⟩) hHeld ?_ ?_
    rotate_left
    ·rintro w' ⟨s0,s1⟩
     go_simp
     with_reducible rfl
    rotate_left
    ·simp only[Act.put,zA,zB,zC]
     rfl
    refine pure_ (i:=3) (N:=some 16) (v:= ?_) (a':= ?_) #[true,true,true,true,false,false,false] rfl rfl (by kernel_rfl) (fun _ _ _ h=>h) (Or.inl ⟨by rfl,?_⟩) ?_ ?_
    rotate_left
    ·intro w'
     go_simp
     with_reducible rfl
    rotate_left
    ·simp only[Act.put,zA,zB,zC]
     rfl
    refine pure_ (i:=4) (N:=some 17) (v:= ?_) (a':= ?_) #[true,true,true,true,true,false,false] rfl rfl (by kernel_rfl) (fun _ _ _ h=>h) (Or.inl ⟨by rfl,?_⟩) ?_ ?_
    rotate_left
    ·intro w'
     go_simp
     with_reducible rfl
    rotate_left
    ·simp only[Act.put,zA,zB,zC]
     rfl
    refine pure_ (i:=5) (N:=some 18) (v:= ?_) (a':= ?_) #[true,true,true,true,true,true,false] rfl rfl (by kernel_rfl) (fun _ _ _ h=>h) (Or.inl ⟨by rfl,?_⟩) ?_ ?_
    rotate_left
    ·intro w'
     go_simp
     with_reducible rfl
    rotate_left
    ·simp only[Act.put,zA,zB,zC]
     rfl
    refine pure_ (i:=6) (N:=some 5) (v:= ?_) (a':= ?_) #[true,true,true,true,true,true,true] rfl rfl (by kernel_rfl) (fun _ _ _ h=>h) (Or.inl ⟨by rfl,?_⟩) ?_ ?_
    rotate_left
    ·intro w'
     go_simp
     with_reducible rfl
    rotate_left
    ·simp only[Act.put,zA,zB,zC]
     rfl
    refine done_ (by kernel_rfl) ?_
    have HJ1:=HG.out _ _ _ HJ.out (ngrown_of (Below.drew (Below.refl _ _)))
    have HB1:=Below.drew HB.out
    clear hHeld
    generalize wr.drew=wd at HJ1 HB1 ⊢
    obtain⟨hc1,hc2⟩:=HX.out _ _ HJ1
    obtain⟨fn,tmps,assign,body,hy,hRd⟩:=HY.out (List.range 2) 2 wd HJ1 (by decide) (by decide)
    simp only[Nat.reduceMul]at hy
    gi_wp2
    refine hRd.mono ?_
    rintro e3 W3 (⟨rfl,_,hJ3,hk3⟩|⟨_,hf,_,_⟩)
    ·obtain⟨hc1,hc2⟩:=HX.out _ _ hJ3
     gi_wp2
     go_roundw
     case rel=>exact⟨3,by decide,by first|rfl|go_num,⟨hJ3⟩,⟨HB1.trans hk3⟩⟩
     case measure=>simp[intOf]
    ·exact hf.elim
   ·gi_wp2
    refine wpIn_wide.2 ?_
    refine start_ (n:=7) (S:=fun w'=>w'.cell? ⟨B2,0,none⟩=some (.int .i64 64)∧w'.cell? ⟨B1,0,none⟩=some (.slice (some ⟨g,0,none⟩) 384 cap)) (ds:=[]) #[false,false,false,false,false,false,false] (by kernel_rfl) rfl rfl ⟨hc2,hc1⟩ (fun hHeld=> ?_)
    refine pure_ (i:=2) (N:=some 15) (v:= ?_) (a':= ?_) #[false,false,true,false,false,false,false] rfl rfl (by kernel_rfl) (fun _ _ _ h=>h) (Or.inl ⟨by rfl,?_⟩) ?_ ?_
    rotate_left
    ·intro w'
     go_simp
     with_reducible rfl
    rotate_left
    ·simp only[Act.put,zA,zB,zC]
     rfl
    refine take_ (i:=0) (N:=some 13) (v:= ?_) (a':= ?_) #[true,false,true,false,false,false,false] rfl rfl (by kernel_rfl) (fun _ _ _ h=>h) (Or.inl ⟨by rfl,?_⟩) hHeld ?_ ?_
    rotate_left
    ·rintro w' ⟨s0,s1⟩
     go_simp
     with_reducible rfl
    rotate_left
    ·simp only[Act.put,zA,zB,zC]
     rfl
    refine take_ (i:=1) (N:=some 14) (v:= ?_) (a':= ?_) #[true,true,true,false,false,false,false] rfl rfl (by kernel_rfl) (fun _ _ _ h=>h) (Or.inl ⟨by rfl,?_⟩) hHeld ?_ ?_
    rotate_left
    ·rintro w' ⟨s0,s1⟩
     go_simp
     with_reducible rfl
    rotate_left
    ·simp only[Act.put,zA,zB,zC]
     rfl
    refine pure_ (i:=3) (N:=some 16) (v:= ?_) (a':= ?_) #[true,true,true,true,false,false,false] rfl rfl (by kernel_rfl) (fun _ _ _ h=>h) (Or.inl ⟨by rfl,?_⟩) ?_ ?_
    rotate_left
    ·intro w'
     go_simp
     with_reducible rfl
    rotate_left
    ·simp only[Act.put,zA,zB,zC]
     rfl
    refine pure_ (i:=4) (N:=some 17) (v:= ?_) (a':= ?_) #[true,true,true,true,true,false,false] rfl rfl (by kernel_rfl) (fun _ _ _ h=>h) (Or.inl ⟨by rfl,?_⟩) ?_ ?_
    rotate_left
    ·intro w'
     go_simp
     with_reducible rfl
    rotate_left
    ·simp only[Act.put,zA,zB,zC]
     rfl
    refine pure_ (i:=5) (N:=some 18) (v:= ?_) (a':= ?_) #[true,true,true,true,true,true,false] rfl rfl (by kernel_rfl) (fun _ _ _ h=>h) (Or.inl ⟨by rfl,?_⟩) ?_ ?_
    rotate_left
    ·intro w'
     go_simp
     with_reducible rfl
    rotate_left
    ·simp only[Act.put,zA,zB,zC]
     rfl
    refine pure_ (i:=6) (N:=some 5) (v:= ?_) (a':= ?_) #[true,true,true,true,true,true,true] rfl rfl (by kernel_rfl) (fun _ _ _ h=>h) (Or.inl ⟨by rfl,?_⟩) ?_ ?_
    rotate_left
    ·intro w'
     go_simp
     with_reducible rfl
    rotate_left
    ·simp only[Act.put,zA,zB,zC]
     rfl
    refine done_ (by kernel_rfl) ?_
    have HJ1:=HG.out _ _ _ HJ.out (ngrown_of (Below.drew (Below.refl _ _)))
    have HB1:=Below.drew HB.out
    clear hHeld
    generalize wr.drew=wd at HJ1 HB1 ⊢
    obtain⟨hc1,hc2⟩:=HX.out _ _ HJ1
    obtain⟨fn,tmps,assign,body,hy,hRd⟩:=HY.out (List.range 3) 3 wd HJ1 (by decide) (by decide)
    simp only[Nat.reduceMul]at hy
    gi_wp2
    refine hRd.mono ?_
    rintro e3 W3 (⟨rfl,_,hJ3,hk3⟩|⟨_,hf,_,_⟩)
    ·obtain⟨hc1,hc2⟩:=HX.out _ _ hJ3
     gi_wp2
     go_roundw
     case rel=>exact⟨4,by decide,by first|rfl|go_num,⟨hJ3⟩,⟨HB1.trans hk3⟩⟩
     case measure=>simp[intOf]
    ·exact hf.elim
   ·gi_wp2
    refine wpIn_wide.2 ?_
    refine start_ (n:=7) (S:=fun w'=>w'.cell? ⟨B2,0,none⟩=some (.int .i64 64)∧w'.cell? ⟨B1,0,none⟩=some (.slice (some ⟨g,0,none⟩) 384 cap)) (ds:=[]) #[false,false,false,false,false,false,false] (by kernel_rfl) rfl rfl ⟨hc2,hc1⟩ (fun hHeld=> ?_)
    refine pure_ (i:=2) (N:=some 15) (v:= ?_) (a':= ?_) #[false,false,true,false,false,false,false] rfl rfl (by kernel_rfl) (fun _ _ _ h=>h) (Or.inl ⟨by rfl,?_⟩) ?_ ?_
    rotate_left
    ·intro w'
     go_simp
     with_reducible rfl
    rotate_left
    ·simp only[Act.put,zA,zB,zC]
     rfl
    refine take_ (i:=0) (N:=some 13) (v:= ?_) (a':= ?_) #[true,false,true,false,false,false,false] rfl rfl (by kernel_rfl) (fun _ _ _ h=>h) (Or.inl ⟨by rfl,?_⟩) hHeld ?_ ?_
    rotate_left
    ·rintro w' ⟨s0,s1⟩
     go_simp
     with_reducible rfl
    rotate_left
    ·simp only[Act.put,zA,zB,zC]
     rfl
    refine take_ (i:=1) (N:=some 14) (v:= ?_) (a':= ?_) #[true,true,true,false,false,false,false] rfl rfl (by kernel_rfl) (fun _ _ _ h=>h) (Or.inl ⟨by rfl,?_⟩) hHeld ?_ ?_
    rotate_left
    ·rintro w' ⟨s0,s1⟩
     go_simp
     with_reducible rfl
    rotate_left
    ·simp only[Act.put,zA,zB,zC]
     rfl
    refine pure_ (i:=3) (N:=some 16) (v:= ?_) (a':= ?_) #[true,true,true,true,false,false,false] rfl rfl (by kernel_rfl) (fun _ _ _ h=>h) (Or.inl ⟨by rfl,?_⟩) ?_ ?_
    rotate_left
    ·intro w'
     go_simp
     with_reducible rfl
    rotate_left
    ·simp only[Act.put,zA,zB,zC]
     rfl
    refine pure_ (i:=4) (N:=some 17) (v:= ?_) (a':= ?_) #[true,true,true,true,true,false,false] rfl rfl (by kernel_rfl) (fun _ _ _ h=>h) (Or.inl ⟨by rfl,?_⟩) ?_ ?_
    rotate_left
    ·intro w'
     go_simp
     with_reducible rfl
    rotate_left
    ·simp only[Act.put,zA,zB,zC]
     rfl
    refine pure_ (i:=5) (N:=some 18) (v:= ?_) (a':= ?_) #[true,true,true,true,true,true,false] rfl rfl (by kernel_rfl) (fun _ _ _ h=>h) (Or.inl ⟨by rfl,?_⟩) ?_ ?_
    rotate_left
    ·intro w'
     go_simp
     with_reducible rfl
    rotate_left
    ·simp only[Act.put,zA,zB,zC]
     rfl
    refine pure_ (i:=6) (N:=some 5) (v:= ?_) (a':= ?_) #[true,true,true,true,true,true,true] rfl rfl (by kernel_rfl) (fun _ _ _ h=>h) (Or.inl ⟨by rfl,?_⟩) ?_ ?_
    rotate_left
    ·intro w'
     go_simp
     with_reducible rfl
    rotate_left
    ·simp only[Act.put,zA,zB,zC]
     rfl
    refine done_ (by kernel_rfl) ?_
    have HJ1:=HG.out _ _ _ HJ.out (ngrown_of (Below.drew (Below.refl _ _)))
    have HB1:=Below.drew HB.out
    clear hHeld
    generalize wr.drew=wd at HJ1 HB1 ⊢
    obtain⟨hc1,hc2⟩:=HX.out _ _ HJ1
    obtain⟨fn,tmps,assign,body,hy,hRd⟩:=HY.out (List.range 4) 4 wd HJ1 (by decide) (by decide)
    simp only[Nat.reduceMul]at hy
    gi_wp2
    refine hRd.mono ?_
    rintro e3 W3 (⟨rfl,_,hJ3,hk3⟩|⟨_,hf,_,_⟩)
    ·obtain⟨hc1,hc2⟩:=HX.out _ _ hJ3
     gi_wp2
     go_roundw
     case rel=>exact⟨5,by decide,by first|rfl|go_num,⟨hJ3⟩,⟨HB1.trans hk3⟩⟩
     case measure=>simp[intOf]
    ·exact hf.elim
   ·gi_wp2
    refine wpIn_wide.2 ?_
    refine start_ (n:=7) (S:=fun w'=>w'.cell? ⟨B2,0,none⟩=some (.int .i64 64)∧w'.cell? ⟨B1,0,none⟩=some (.slice (some ⟨g,0,none⟩) 384 cap)) (ds:=[]) #[false,false,false,false,false,false,false] (by kernel_rfl) rfl rfl ⟨hc2,hc1⟩ (fun hHeld=> ?_)
    refine pure_ (i:=2) (N:=some 15) (v:= ?_) (a':= ?_) #[false,false,true,false,false,false,false] rfl rfl (by kernel_rfl) (fun _ _ _ h=>h) (Or.inl ⟨by rfl,?_⟩) ?_ ?_
    rotate_left
    ·intro w'
     go_simp
     with_reducible rfl
    rotate_left
    ·simp only[Act.put,zA,zB,zC]
     rfl
    refine take_ (i:=0) (N:=some 13) (v:= ?_) (a':= ?_) #[true,false,true,false,false,false,false] rfl rfl (by kernel_rfl) (fun _ _ _ h=>h) (Or.inl ⟨by rfl,?_⟩) hHeld ?_ ?_
    rotate_left
    ·rintro w' ⟨s0,s1⟩
     go_simp
     with_reducible rfl
    rotate_left
    ·simp only[Act.put,zA,zB,zC]
     rfl
    refine take_ (i:=1) (N:=some 14) (v:= ?_) (a':= ?_) #[true,true,true,false,false,false,false] rfl rfl (by kernel_rfl) (fun _ _ _ h=>h) (Or.inl ⟨by rfl,?_⟩) hHeld ?_ ?_
    rotate_left
    ·rintro w' ⟨s0,s1⟩
     go_simp
     with_reducible rfl
    rotate_left
    ·simp only[Act.put,zA,zB,zC]
     rfl
    refine pure_ (i:=3) (N:=some 16) (v:= ?_) (a':= ?_) #[true,true,true,true,false,false,false] rfl rfl (by kernel_rfl) (fun _ _ _ h=>h) (Or.inl ⟨by rfl,?_⟩) ?_ ?_
    rotate_left
    ·intro w'
     go_simp
     with_reducible rfl
    rotate_left
    ·simp only[Act.put,zA,zB,zC]
     rfl
    refine pure_ (i:=4) (N:=some 17) (v:= ?_) (a':= ?_) #[true,true,true,true,true,false,false] rfl rfl (by kernel_rfl) (fun _ _ _ h=>h) (Or.inl ⟨by rfl,?_⟩) ?_ ?_
    rotate_left
    ·intro w'
     go_simp
     with_reducible rfl
    rotate_left
    ·simp only[Act.put,zA,zB,zC]
     rfl
    refine pure_ (i:=5) (N:=some 18) (v:= ?_) (a':= ?_) #[true,true,true,true,true,true,false] rfl rfl (by kernel_rfl) (fun _ _ _ h=>h) (Or.inl ⟨by rfl,?_⟩) ?_ ?_
    rotate_left
    ·intro w'
     go_simp
     with_reducible rfl
    rotate_left
    ·simp only[Act.put,zA,zB,zC]
     rfl
    refine pure_ (i:=6) (N:=some 5) (v:= ?_) (a':= ?_) #[true,true,true,true,true,true,true] rfl rfl (by kernel_rfl) (fun _ _ _ h=>h) (Or.inl ⟨by rfl,?_⟩) ?_ ?_
    rotate_left
    ·intro w'
     go_simp
     with_reducible rfl
    rotate_left
    ·simp only[Act.put,zA,zB,zC]
     rfl
    refine done_ (by kernel_rfl) ?_
    have HJ1:=HG.out _ _ _ HJ.out (ngrown_of (Below.drew (Below.refl _ _)))
    have HB1:=Below.drew HB.out
    clear hHeld
    generalize wr.drew=wd at HJ1 HB1 ⊢
    obtain⟨hc1,hc2⟩:=HX.out _ _ HJ1
    obtain⟨fn,tmps,assign,body,hy,hRd⟩:=HY.out (List.range 5) 5 wd HJ1 (by decide) (by decide)
    simp only[Nat.reduceMul]at hy
    gi_wp2
    refine hRd.mono ?_
    rintro e3 W3 (⟨rfl,_,hJ3,hk3⟩|⟨_,hf,_,_⟩)
    ·obtain⟨hc1,hc2⟩:=HX.out _ _ hJ3
     gi_wp2
     go_roundw
     case rel=>exact⟨6,by decide,by first|rfl|go_num,⟨hJ3⟩,⟨HB1.trans hk3⟩⟩
     case measure=>simp[intOf]
    ·exact hf.elim
end Go.Proofs.YtdcfonmjbelgbaaGreatDoor
end
section
namespace Go.Proofs.YtdcfonmjbelgbaaGreatDoor
open Go.RowKit
section
variable {P:Program}
theorem zeros_cells (m:Nat):Builtin.zeroCells (Value.int .u8 0).cells m=(Lib.byteCells (List.replicate m 0)).toArray:=by
 apply Array.ext'
 simp[Builtin.zeroCells,Lib.byteCells,Value.cells]
 apply List.ext_getElem
 ·simp
 ·intro i h1 h2
  simp[Nat.mod_one]
theorem run_append_zerosB (w:World) (B:Nat) (t ti ty E:TypeId) (i:TypeInfo) (ht:P.underlying t=some (.slice E)) {k:IntKind} (hti:P.underlying ti=some (.int k)) (hi:P.info? E=some i) (hz:i.zero=some (.int .u8 0)) (hsize:i.size=1) (hby:i.bytes=1)
  (g cap:Nat) (l:List UInt8) (hown:RowB B E (.slice (some ⟨g,0,none⟩) l.length cap) l w) (kx:IntKind) (m:Nat)
  (hlen:l.length+m≤140737488355328) (hbase:B≤w.heap.size) :
  ∃ v' w',(Builtin.append_ #[t,ti] ty #[.slice (some ⟨g,0,none⟩) l.length cap,.int kx m]).run P w = .ok v' w'∧RowB B E v' (l++List.replicate m 0) w'∧w.grownBy w' (some g):=by
 have hm63:l.length+m≤maxLen:=by unfold maxLen;omega
 have hw:IntKind.i64.wrap (m:Int)=m:=by rw[IntKind.wrap_i64];omega
 have hw0:IntKind.i64.wrap 0=0:=by rw[IntKind.wrap_i64];rfl
 have hneg : ¬ ((m:Int)<0):=by omega
 have hbig : ¬ (281474976710656<(m:Int)*(i.bytes:Int)):=by rw[hby];omega
 rcases hown with ⟨h0,_⟩|⟨g2,cap2,cur,fz,hv,hbg,hg,hfz,hnc,hcm,hcs,htake⟩
 ·cases h0
 obtain⟨rfl,rfl⟩:g=g2∧cap=cap2:=by
  injection hv with e1 e2 e3
  injection e1 with e1
  injection e1 with e1
  exact⟨e1,e3⟩
 obtain⟨news,hnews⟩ : ∃ news,news=Lib.byteCells (List.replicate m 0):=⟨_,rfl⟩
 have hl:news.length=m:=by rw[hnews,Lib.byteCells_length,List.length_replicate]
 have hna:Builtin.zeroCells (Value.int .u8 0).cells m=news.toArray:=by rw[zeros_cells,hnews]
 have h1 : ∀ u∈news,u.oneCell'=true:=by rw[hnews];exact byteCells_one _
 by_cases hroom:l.length+m≤cap
 ·have hst:=run_storeCells_free (P:=P) g E fz news (l.length*1) 0 cur w hg (fun k hk1 hk2=>hfz k (by omega) (by omega)) (by omega) h1
  simp only[Nat.add_zero,Nat.mul_one]at hst
  have hr:(Builtin.append_ #[t,ti] ty #[.slice (some ⟨g,0,none⟩) l.length cap,.int kx m]).run P w = .ok (.slice (some ⟨g,0,none⟩) (l.length+m) cap) (w.setRow g (cur.toList.take l.length++news++cur.toList.drop (l.length+news.length)).toArray):=by
   by_cases hm:m=0
   ·subst hm
    have hnl:news=[]:=List.eq_nil_of_length_eq_zero hl
    subst hnl
    simp only[List.length_nil,Nat.add_zero]at hst
    simp[Builtin.append_,run_underlying ht,run_underlying hti,sizeOf,typeInfo,hi,asInt,asIntOf,hw0,hnc,hst,hsize,Addr.add_lit]
   ·simp[Builtin.append_,run_underlying ht,run_underlying hti,sizeOf,typeInfo,zeroValue,hi,hz,asInt,asIntOf,hw,hneg,hbig,hroom,hna,Addr.add_lit,hst,hsize,hm]
  refine⟨_,_,hr,.inr ⟨g,cap,_,fz,by rw[List.length_append,List.length_replicate],hbg,setRow_heap w g cur _ E _ hg,fun k hk1 hk2=>hfz k (by rw[List.length_append]at hk1;omega) hk2,by rw[List.length_append,List.length_replicate];exact hroom,hcm,?_,?_⟩,⟨rfl,rfl,rfl,by simp,fun k _ hk=>setRow_other w g k _ (fun e=>hk (by rw[e]))⟩⟩
  ·simp only[List.size_toArray,List.length_append,List.length_take,List.length_drop,Array.length_toList]
   omega
  ·rw[htake,hnews,Lib.byteCells_append]
   have:(l++List.replicate m 0).length=(Lib.byteCells l++Lib.byteCells (List.replicate m 0)).length:=by simp[Lib.byteCells_length]
   rw[this]
   exact List.take_left
 ·have hm : ¬ m=0:=by omega
  have holds : ∀ j u,(Lib.byteCells l)[j]? = some u→w.drew.cell? ((⟨g,0,none⟩:Addr).add j)=some u:=by
   intro j u hj
   simp only[Lib.byteCells,List.getElem?_map,Option.map_eq_some_iff]at hj
   obtain⟨x,hx,rfl⟩:=hj
   have hadd:(⟨g,0,none⟩:Addr).add j=⟨g,j,none⟩:=by unfold Addr.add;split<;>simp_all
   rw[hadd]
   exact RowB.cells (B:=B) (E:=E) (v:=.slice (some ⟨g,0,none⟩) l.length cap) (.inr ⟨g,cap,cur,fz,rfl,hbg,hg,hfz,hnc,hcm,hcs,htake⟩) rfl j x hx
  have hfo:=run_firstCells_some (P:=P) w.drew 1 l.length ⟨g,0,none⟩ l.length cap (Lib.byteCells l) (by rw[Lib.byteCells_length,Nat.mul_one]) holds
  have hn : ¬ (l.length+m≤cap):=hroom
  have h63' : ¬ (9223372036854775807<((l.length:Int)+(m:Int))):=by omega
  have hfit:=growslice_fits (need:=l.length+m) (old:=cap) (bytes:=i.bytes) (by omega) (by rw[hby];omega)
  have h48' : ¬ (281474976710656<Builtin.nextslicecap (l.length+m) cap*i.bytes):=by omega
  have hr:(Builtin.append_ #[t,ti] ty #[.slice (some ⟨g,0,none⟩) l.length cap,.int kx m]).run P w = .ok (.slice (some ⟨w.heap.size,0,none⟩) (l.length+m) (grownCap w (l.length+m) cap E)) (w.drew.alloc (.cells ((Lib.byteCells l).toArray++news.toArray++Builtin.zeroCells (Value.int .u8 0).cells (grownCap w (l.length+m) cap E-(l.length+m))) E)):=by
   simp[Builtin.append_,run_underlying ht,run_underlying hti,sizeOf,typeInfo,zeroValue,hi,hz,asInt,asIntOf,hw,hneg,hbig,hn,h63',h48',Question.forced,hfo,newRow,grownCap,hm,hna,hsize]
   congr 2
   apply Array.ext'
   simp[List.append_assoc]
  have hge:=grownCap_ge w (l.length+m) cap E
  have hcm2:grownCap w (l.length+m) cap E≤maxLen:=grownCap_le_maxLen w (l.length+m) cap E hm63
  refine⟨_,_,hr,.inr ⟨w.heap.size,_,_,(0,0),by rw[List.length_append,List.length_replicate],hbase,heap_alloc_new w.drew _,fun _ _ _ _=>by omega,by rw[List.length_append,List.length_replicate];exact hge,hcm2,?_,?_⟩,⟨rfl,rfl,rfl,by simp,fun k hk _=>Lib.alloc_old w.drew _ k hk⟩⟩
  ·simp only[Array.size_append,List.size_toArray,size_zeroCells,Lib.byteCells_length,hl]
   have:(Value.int IntKind.u8 0).cells.size=1:=rfl
   rw[this]
   omega
  ·simp only[Array.toList_append,List.append_assoc]
   rw[hnews,←List.append_assoc,←Lib.byteCells_append]
   have:(l++List.replicate m 0).length=(Lib.byteCells (l++List.replicate m 0)).length:=by rw[Lib.byteCells_length]
   rw[this]
   exact List.take_left
end
end Go.Proofs.YtdcfonmjbelgbaaGreatDoor
end
section
namespace Go.Proofs.YtdcfonmjbelgbaaGreatDoor
open Go.RowKit Q YtdcfonmjbelgbaaGreatDoorW.PrintWords YtdcfonmjbelgbaaGreatDoorW.PrintLast YtdcfonmjbelgbaaGreatDoorW.PrintMore
attribute [local go_sem] Oper.semAt_some
section
variable {F:Fence} {n:Nat} {P:Program} {ops:Array Oper} {rest:List Oper} {o:Oper} {a:Act} {Q:Exit→Act→World→Prop} {W:World}
theorem nwpListIn_append (hgd:o.guard=none) (s x:Operand) (t u:TypeId) (hop:o.op = .call { callee:=.builtin .append,args:= #[s,x],argTypes:= #[t,u] }) (v y v1:Value) (w1:World) (hs:a.eval s=v) (hx:a.eval x=y)
  (hrun:(Builtin.append_ #[t,u] o.type #[v,y]).run P W = .ok v1 w1) (h:wpListIn F n P ops Q rest (a.put o.dst v1) w1):wpListIn F n P ops Q (o::rest) a W:=by
 refine wpListIn_plain hgd fun K hK=> ?_
 unfold Oper.wpIn
 refine⟨?_,?_⟩
 ·simp[Oper.about,hop,resolve,Target.leads,Sem.run_pure]
 ·rw[Oper.semAt_plain F _ _ (by rw[hop];intro c hc';cases hc')]
  simp[execOp,hop,resolve,invoke,builtin,hs,hx,hrun,Result.andThen]
  exact hK _ _ h
theorem nappend_str (hgd:o.guard=none) (s x:Operand) (t e:TypeId) (hop:o.op = .call { callee:=.builtin .append,args:= #[s,x],argTypes:= #[t,t] }) (hu:P.underlying t=some (.slice e)) (hi:(P.info? e).map (fun i=>(i.zero,i.size,i.bytes))=some (some (.string ⟨#[]⟩),1,16))
  (base:Nat) (v:Value) (L:List ByteArray) (hs:a.eval s=v) (p:ByteArray) (hx:a.eval x = .slice (some ⟨W.heap.size,0,none⟩) 1 1) (HO:Kd.R Kd.string e W base (fun k=>base≤k) v L) (hbase:base≤W.heap.size) (hl:(L.length+1)*16≤140737488355328)
  (h : ∀ v1 w1,Kd.R Kd.string e w1 base (fun k=>base≤k) v1 (L++[p])→W.grownBy w1 v.ownBlock→wpListIn F n P ops Q rest (a.put o.dst v1) w1):wpListIn F n P ops Q (o::rest) a (W.alloc (.cells #[.string p] e)):=by
 obtain⟨i0,hi0,hzz⟩:=Option.map_eq_some_iff.1 hi
 simp only[Prod.mk.injEq]at hzz
 obtain⟨hz0,hz1,hz2⟩:=hzz
 have hown:=Kd.own_of_R (h1:=fun _=>rfl) HO
 refine wpListIn_append_own (W.alloc (.cells #[.string p] e)) hgd s x t hop base e i0 (.string ⟨#[]⟩) 1 16 hu hi0 hz0 hz1 hz2 rfl (by decide) v L.length (encs Value.string L) hs (hown.alloc _) ⟨W.heap.size,0,none⟩ 1 1 [.string p] hx rfl
  (by
   intro j u hj
   match j,hj with
   | 0,hj=>
    cases hj
    exact(Blk.new W #[.string p] e).cell (i:=0) rfl) (fun u hu=>by simp only[List.mem_singleton]at hu;subst hu;rfl) (by simp only[maxLen];omega) hl (by simp;omega) ?_
 intro v' w' r1 r2 _
 have r1':w'.ownsRow base e 1 v' (L++[p]).length (encs Value.string (L++[p])):=by
  rw[List.length_append,encs_append]
  exact r1
 exact h v' w' (Kd.R_of_own r1' (fun k hk=>own_base r1' k hk)) (World.grownBy.trans (World.grownBy_alloc W _ v.ownBlock) r2)
end
def padN (s:List UInt8):List UInt8:=s++List.replicate (384-s.length) 0
def partN (s:List UInt8) (i:Nat):ByteArray:=B (((padN s).drop (64*i)).take 64)
def shR (s:List UInt8):List ByteArray×Int:=if 384<s.length then ([],12)else ([0,1,2,3,4,5].map (partN s),0)
theorem padN_len (s:List UInt8) (h:s.length≤384):(padN s).length=384:=by
 unfold padN
 rw[List.length_append,List.length_replicate]
 omega
theorem ninfoS:(Tryz.prog.info? 9).map (fun i=>(i.zero,i.size,i.bytes))=some (some (.string ⟨#[]⟩),1,16):=by kernel_rfl
theorem ninfoU0:(Tryz.prog.info? 5).map (fun i=>(i.zero,i.size,i.bytes))=some (some (.int .u8 0),1,1):=by kernel_rfl
theorem ninfoU : ∃ i,Tryz.prog.info? 5=some i∧i.zero=some (.int .u8 0)∧i.size=1∧i.bytes=1:=by
 obtain⟨i0,hi0,hzz⟩:=Option.map_eq_some_iff.1 ninfoU0
 simp only[Prod.mk.injEq]at hzz
 exact⟨i0,hi0,hzz⟩
structure Sh (BL B1 B2 g cap:Nat) (s:List UInt8) (w0:World) (v:Value) (L:List ByteArray) (W:World):Prop where
 bl:Boxed W BL 27 v
 b1:Boxed W B1 80 (.slice (some ⟨g,0,none⟩) 384 cap)
 b2:Boxed W B2 3 (.int .i64 64)
 ro:RowB w0.heap.size 5 (.slice (some ⟨g,0,none⟩) (padN s).length cap) (padN s) W
 ol:Kd.R Kd.string 9 W w0.heap.size (fun k=>w0.heap.size≤k) v L
 bw:Below w0.heap.size w0 W
 gL:w0.heap.size≤BL
theorem rowB_typed {B:Nat} {E:TypeId} {v:Value} {l:List UInt8} {W:World} (h:RowB B E v l W) : ∀ k,v.ownBlock=some k → ∃ cells fz,W.heap[k]? = some (.cells cells E fz):=by
 intro k hk
 rcases h with ⟨rfl,_⟩|⟨g,cap,cur,fz,rfl,_,hg,_⟩
 ·cases hk
 ·injection hk with hk
  exact⟨cur,fz,by rw[←hk];exact hg⟩
section
variable {BL B1 B2 g cap:Nat} {s:List UInt8} {w0 W W1:World} {v:Value} {L:List ByteArray}
theorem Sh.calm (h:Sh BL B1 B2 g cap s w0 v L W) {row:Option Nat} (hg:W.grownBy W1 row) (hr : ∀ r,row=some r→w0.heap.size≤r ∧ ∃ o:Obj,W.heap[r]? = some o∧o.isCells=false):Sh BL B1 B2 g cap s w0 v L W1:=
 have hr2:=fun r e=>(hr r e).2
 {h with
  bl:=nblk_calm h.bl hg hr2
  b1:=nblk_calm h.b1 hg hr2
  b2:=nblk_calm h.b2 hg hr2
  ro:=h.ro.grown hg (fun k hk e=>by
   obtain⟨cells,fz,hc⟩:=rowB_typed h.ro k hk
   obtain⟨o,ho,hn⟩:=hr2 k e.symm
   rw[hc]at ho
   cases ho
   cases hn)
  ol:=nR_calm h.ol hg hr2
  bw:=h.bw.grown hg h.bw.size (fun k e=>(hr k e).1) }
theorem Sh.put (h:Sh BL B1 B2 g cap s w0 v L W) {y:Value} {p:ByteArray} (hR:Kd.R Kd.string 9 W1 w0.heap.size (fun k=>w0.heap.size≤k) y (L++[p])) (hg:W.grownBy W1 v.ownBlock):Sh BL B1 B2 g cap s w0 y (L++[p]) (W1.setCell ⟨BL,0,none⟩ y):=
 have hr : ∀ k,v.ownBlock=some k → ∃ cells,W.heap[k]? = some (.cells cells 9 (0,0)):=fun k e=>Kd.R_typed h.ol k e
 have hbl:=nbox_step h.bl hg _ hr (by decide)
 have g2:=ngrown_set W1 BL 0 y
 have q2 : ∀ k,some BL=some k → ∃ cells,W1.heap[k]? = some (.cells cells 27 (0,0)):=fun k e=>by injection e with e;subst e;exact⟨_,hbl⟩
 have h1:RowB w0.heap.size 5 (.slice (some ⟨g,0,none⟩) (padN s).length cap) (padN s) W1:=h.ro.grown hg (fun k hk e=>by
   obtain⟨cells,fz,hc⟩:=rowB_typed h.ro k hk
   obtain⟨c2,hc2⟩:=hr k e.symm
   rw[hc]at hc2
   injection hc2 with hc2
   injection hc2 with _ hc2
   exact absurd hc2 (by decide))
 {h with
  bl:=hbl.set y
  b1:=nbox_step (nbox_step h.b1 hg _ hr (by decide)) g2 _ q2 (by decide)
  b2:=nbox_step (nbox_step h.b2 hg _ hr (by decide)) g2 _ q2 (by decide)
  ro:=h1.grown g2 (fun k hk e=>by
   obtain⟨cells,fz,hc⟩:=rowB_typed h1 k hk
   obtain⟨c2,hc2⟩:=q2 k e.symm
   rw[hc]at hc2
   injection hc2 with hc2
   injection hc2 with _ hc2
   exact absurd hc2 (by decide))
  ol:=nR_step hR g2 _ q2 (fun q hq=>by rcases List.mem_cons.1 hq with rfl|hq;decide;cases hq)
  bw:=(h.bw.grown hg h.bw.size (fun k e=>h.ol.1 k e)).setCell (p:=⟨BL,0,none⟩) h.gL _ }
end
theorem nshards_calls (s:List UInt8) (w:World):Calls Tryz.prog 26 #[.string (B s)] w fun e w'=> ∃ v0:Value,e = .returned (.tuple #[v0,.int .i64 (shR s).2])∧Kd.R Kd.string 9 w' w.heap.size (fun _=>True) v0 (shR s).1∧Below w.heap.size w w':=by
 refine(callsIn_wide (n:=5)).1 ?_
 refine callsIn_of_wp_marks Tryz.func26 rfl trivial ?_ rfl
 simp only[Tryz.ntmps26,List.size_toArray,List.length_cons,List.length_nil,Nat.reduceAdd,Nat.reduceSub,Array.replicate_succ,Array.replicate_zero,List.push_toArray,List.append_toArray,List.nil_append,List.cons_append]
 have hF:Fence.wide.fn 40:=trivial
 by_cases hs:384<s.length
 case pos=>
  have hs2:384<(B s).size:=by rw[B_size];exact hs
  have hr:shR s=([],12):=if_pos hs
  gi_wp2
  refine⟨_,results_tmp2 rfl _ _ _,_,by rw[hr];rfl,by rw[hr];exact Kd.R_nil _ _ _ _ _,Below.refl _ _⟩
 case neg=>
  have hs2 : ¬ 384<(B s).size:=by rw[B_size];exact hs
  have hsl:s.length≤384:=by omega
  have hr:shR s=([0,1,2,3,4,5].map (partN s),0):=if_neg hs
  have hcv:=fun (W:World)=>Lib.run_convert_string_bytes (P:=Tryz.prog) W 9 80 5 (B s) Tryz.underlying9 Tryz.underlying80 Tryz.underlying5
  obtain⟨i0,hi0,hz0,hz1,hz2⟩:=ninfoU
  have hO0:=RowB.bytes (w.alloc (.cells #[.slice none 0 0] 27)) 5 (B s) (by rw[B_size];unfold maxLen;omega)
  have hb0:=RowB.bytesBelow (w.alloc (.cells #[.slice none 0 0] 27)) 5 (B s)
  rw[B_data,B_size,World.size_alloc]at hO0
  obtain⟨v1,w1,hrun,hO1,hg1⟩:=run_append_zerosB (P:=Tryz.prog) _ (w.heap.size+1) 80 3 80 5 i0 Tryz.underlying80 Tryz.underlying3 hi0 hz0 hz1 hz2 (w.heap.size+1) _ s hO0 .i64 (384-s.length) (by omega) (by rw[Lib.bytesWorld_size,World.size_alloc];exact Nat.le_succ _)
  have hpad:s++List.replicate (384-s.length) 0=padN s:=rfl
  rw[hpad]at hO1
  have hp384:=padN_len s hsl
  obtain⟨g,cap,rfl,hge,hglt,hcap,hcm⟩:=hO1.ne (by intro e;rw[e]at hp384;cases hp384)
  have hB1:Below w.heap.size w w1:=((below_alloc (Below.refl _ w) _).trans (hb0.mono (by rw[World.size_alloc];exact Nat.le_succ _))).grown hg1 (by rw[Lib.bytesWorld_size,World.size_alloc];omega) (fun k e=>by injection e with e;omega)
  have hL1:Boxed w1 w.heap.size 27 (.slice none 0 0):=((Boxed.new w 27 (.slice none 0 0)).kept (ngrown_below hb0 none) (by simp)).kept hg1 (fun e=>by injection e with e;omega)
  have hi2:((384-s.length:Nat):Int)=384-((B s).size:Int):=by rw[B_size];omega
  rw[hi2,←B_size s]at hrun
  rw[hp384]at hrun
  gi_wp2_with (first|(gi_at_builtin;refine nwpListIn_append rfl (.tmp 11) (.tmp 14) 80 3 rfl _ _ _ _ rfl rfl hrun ?_)|(gi_at_call 40;refine(chunk_calls g cap _ _).mono ?_;rintro e w' ⟨rfl,rfl⟩))
  have hbb:Below w1.heap.size w1 ((w1.alloc (.cells #[.slice (some ⟨g,0,none⟩) 384 cap] 80)).alloc (.cells #[.int .i64 64] 3)):=below_alloc (below_alloc (Below.refl _ w1) _) _
  have hx2:=Boxed.new (w1.alloc (.cells #[.slice (some ⟨g,0,none⟩) 384 cap] 80)) 3 (.int .i64 64)
  rw[World.size_alloc]at hx2
  have G:Sh w.heap.size w1.heap.size (w1.heap.size+1) g cap s w (.slice none 0 0) [] ((w1.alloc (.cells #[.slice (some ⟨g,0,none⟩) 384 cap] 80)).alloc (.cells #[.int .i64 64] 3)):=
   ⟨hL1.kept (ngrown_below hbb none) (by simp),(Boxed.new w1 _ _).alloc _,hx2,(hO1.below hbb).raise (Nat.le_succ _),Kd.R_nil _ _ _ _ _,below2 hB1 hB1.size hbb,Nat.le_refl _⟩
  generalize (w1.alloc (.cells #[.slice (some ⟨g,0,none⟩) 384 cap] 80)).alloc (.cells #[.int .i64 64] 3)=W0 at G ⊢
  have hn0:w.heap.size≤W0.heap.size:=G.bw.size
  refine wpIn_range_stops rfl (by decide) (gf:=58) (lb:= #[.pointer (some ⟨w1.heap.size,0,none⟩),.pointer (some ⟨w1.heap.size+1,0,none⟩)]) rfl trivial (enters_of Tryz.func58 (by kernel_rfl) rfl) (encs:=fun x:Nat=> #[.slice (some ⟨g,64*x,none⟩) 64 64]) (fun x _=>x<6) (fun _=>False) (fun ys=>ys=[0,1,2,3,4,5]) (fun _=>False) 6 w.heap.size (fun W=>W.cell? ⟨w1.heap.size,0,none⟩=some (.slice (some ⟨g,0,none⟩) 384 cap)∧W.cell? ⟨w1.heap.size+1,0,none⟩=some (.int .i64 64)) hn0 (fun _=>rfl) ?seq (fun pre W=> ∃ v,Sh w.heap.size w1.heap.size (w1.heap.size+1) g cap s w v (pre.map (partN s)) W) (fun _ _=>False) ?own (fun _ _ _ _ h _ _=>h) ?bx ⟨_,G⟩ (fun pre x a' W=> ∃ v,x<6∧pre.length<6∧a'={ tmps:= #[.string (B s),undef,.slice none 0 0,.int .i64 0,.pointer (some ⟨w.heap.size,0,none⟩),.slice (some ⟨g,0,none⟩) 384 cap,.slice (some ⟨g,64*x,none⟩) 64 64,.string (B s),.int .i64 ((B s).size:Int),.bool (decide (384<((B s).size:Int))),.string (B s),.slice (some ⟨w.heap.size+1,0,none⟩) (B s).size (grownCap (w.alloc (.cells #[.slice none 0 0] 27)) (B s).size 0 5),.string (B s),.int .i64 ((B s).size:Int),.int .i64 (384-((B s).size:Int)),.slice (some ⟨g,0,none⟩) 384 cap,.slice (some ⟨g,0,none⟩) 384 cap,.func (.func 58) #[] #[.pointer (some ⟨w1.heap.size,0,none⟩),.pointer (some ⟨w1.heap.size+1,0,none⟩)],.slice (some ⟨g,64*x,none⟩) 64 64,undef,undef,undef,undef,undef,undef],defers:=[] }∧Sh w.heap.size w1.heap.size (w1.heap.size+1) g cap s w v (pre.map (partN s)) W) ?ax ?assign ?body ?done (fun _ _ _ _ hf _ _=>hf.elim)
  case seq=>
   intro lq J Jx W hW hJ hJx hBx hY h0
   exact(chunk_in _ (by decide) lq w1.heap.size (w1.heap.size+1) g cap (by rw[←hp384];exact hcap) w J Jx hJ hBx hY W (below2 G.bw hn0 hW) h0).mono (fun e W' h=>⟨h.1,h.2.imp id (fun ⟨ys,hf,_⟩=>hf.elim)⟩)
  case own=>
   rintro pre X Y row ⟨v,h⟩ hg hr
   exact⟨v,h.calm hg (fun r e=>⟨Nat.le_trans hn0 (hr r e).1,(hr r e).2⟩)⟩
  case bx=>
   rintro ys X ⟨v,h⟩
   exact⟨h.b1.cell,h.b2.cell⟩
  case ax=>
   rintro pre x a' _ X Y row ⟨v,h1,h2,h3,h4⟩ hg hr
   exact⟨v,h1,h2,h3,h4.calm hg (fun r e=>⟨Nat.le_trans hn0 (hr r e).1,(hr r e).2⟩)⟩
  case assign=>
   rintro lq pre x W K ⟨v,HG⟩ hv hN hK
   gi_wp2
   exact hK _ _ ⟨Nat.le_refl _,fun _ _ _ hk _=>hk⟩ (Below.refl _ _) ⟨v,hv,hN,rfl,HG⟩
  case body=>
   rintro lq pre x a' W ⟨v,hx,hpl,rfl,HG⟩
   have hc:=HG.bl.cell
   have hl64:(((padN s).drop (64*x)).take 64).length=64:=by rw[List.length_take,List.length_drop,hp384];omega
   have hcv2:=run_string_bytes (P:=Tryz.prog) W 80 9 5 Tryz.underlying80 Tryz.underlying5 Tryz.underlying9 g (64*x) 64 (((padN s).drop (64*x)).take 64) (fun j y hj=>by
    have h1:(padN s)[64*x+j]? = some y:=by
     rw[List.getElem?_take]at hj
     split at hj
     ·rw[List.getElem?_drop]at hj;exact hj
     ·cases hj
    exact HG.ro.cells (g:=g) rfl _ _ h1)
   rw[hl64]at hcv2
   replace hcv2:(convert 80 9 (.slice (some ⟨g,64*x,none⟩) 64 64)).run Tryz.prog W = .ok (.string (partN s x)) W:=hcv2
   clear hcv
   gi_wp2_with (gi_at_builtin;refine nappend_str rfl (.tmp 19) (.tmp 22) 27 9 rfl Tryz.underlying27 ninfoS w.heap.size v (pre.map (partN s)) rfl (partN s x) rfl HG.ol HG.bw.size (by rw[List.length_map];omega) ?_;intro y1 w5 hR hg5;obtain⟨A1,n1,c1,rfl⟩ : ∃ A1 n1 c1,y1 = .slice A1 n1 c1:=(by obtain⟨A1,c1,e⟩:=Kd.R_slice hR;exact⟨A1,_,c1,e⟩);have hbl5:Boxed w5 w.heap.size 27 v:=nbox_step HG.bl hg5 _ (fun k e=>Kd.R_typed HG.ol k e) (by decide);have hc5:=hbl5.cell;have hf5:=hbl5.frozen)
   have hfin:=HG.put hR hg5
   have bk:KeepsFrom W0.heap.size W (w5.setCell ⟨w.heap.size,0,none⟩ (.slice A1 n1 c1)):=(nkeeps_typed hg5 (fun k e=>Kd.R_typed HG.ol k e)).trans ((KeepsOthers.setCell w5 ⟨w.heap.size,0,none⟩ (.slice A1 n1 c1)).from W0.heap.size)
   exact⟨bk,nbelow_between HG.bw hfin.bw bk.size,.slice A1 n1 c1,hfin⟩
  case done=>
   rintro D ys W hD hS ⟨v,HG⟩ hK
   subst hS
   have hc:=HG.bl.cell
   gi_wp2
   refine⟨by simp,.inl ⟨_,_,rfl,run_takeDeferred hK,?_⟩⟩
   have hfin:=HG.calm (grownBy_putObj' W D (.deferred none)) (fun r e'=>by cases e';exact⟨Nat.le_trans hn0 hD,_,hK,rfl⟩)
   refine⟨_,results_tmp2 rfl _ _ _,v,by rw[hr];rfl,?_,hfin.bw⟩
   rw[hr]
   exact Kd.R_mono hfin.ol (fun _ _=>trivial)
def needle_Shards.f (a0:ByteArray):Option (List ByteArray×Int):=some (shR a0.data.toList)
theorem needle_Shards.calls (a0:ByteArray) (r1:List ByteArray) (r2:Int) (w:World) (h:needle_Shards.f a0=some (r1,r2)) :
  Calls Tryz.prog 26 #[.string a0] w fun e w'=> ∃ v0_:Value,e = .returned (.tuple #[v0_,.int .i64 r2])∧Kd.R Kd.string 9 w' w.heap.size (fun _=>True) v0_ r1∧Below w.heap.size w w':=by
 have e:=Option.some.inj h
 have:=nshards_calls a0.data.toList w
 rw[B_eta,e]at this
 exact this
end Go.Proofs.YtdcfonmjbelgbaaGreatDoor
end
section
namespace Go.Proofs.YtdcfonmjbelgbaaGreatDoor.Q
open Go.RowKit YtdcfonmjbelgbaaGreatDoorW.PrintWords YtdcfonmjbelgbaaGreatDoorW.PrintLast YtdcfonmjbelgbaaGreatDoorW.PrintMore
attribute [local go_sem] max2_int min2_int max_two min_two max_three min_three max_four min_four
def stripe_good.f (a0_0:Int) (a0_1:Int) (a0_2:Int) (l0_3:List (S59)) (a1:Int) (a2:ByteArray):Option (ByteArray×Bool):=(sector_Mine.f a2 a0_0 a0_1 a0_2 l0_3 a1).bind fun bt143=>(if bt143.2=0 then (some (bt143.1,((bt143.1.size:Int)==64)))else (some (bt143.1,false)))
theorem stripe_good.calls (a0_0:Int) (a0_1:Int) (a0_2:Int) (A0_3:Option Addr) (c0_3:Nat) (l0_3:List (S59)) (a1:Int) (a2:ByteArray) (r1:ByteArray) (r2:Bool) (w:World) (hr0_3:Kd.C k59 w A0_3 l0_3.length l0_3) (hc0_3:l0_3.length≤c0_3) (h:stripe_good.f a0_0 a0_1 a0_2 l0_3 a1 a2=some (r1,r2)) :
  Calls Tryz.prog 33 #[.agg #[.int .i64 a0_0,.int .i64 a0_1,.int .i64 a0_2,.slice A0_3 l0_3.length c0_3],.int .i64 a1,.string a2] w fun e w'=>e = .returned (.tuple #[.string r1,.bool r2])∧Below w.heap.size w w':=by
 have hu24:=Tryz.underlying24
 have HR0_3:=Aside0.mk hr0_3
 have HC0_3:=Aside0.mk hc0_3
 clear hr0_3 hc0_3
 have HB:=Aside0.mk (Below.refl w.heap.size w)
 have H:((sector_Mine.f a2 a0_0 a0_1 a0_2 l0_3 a1).bind fun bt143=>(if bt143.2=0 then (some (bt143.1,((bt143.1.size:Int)==64)))else (some (bt143.1,false))))=some (r1,r2):=h
 clear h
 replace H:=Option.bind_eq_some_iff.mp H
 obtain⟨⟨t143,t144⟩,A40,H⟩:=H
 replace H:(if t144=0 then (some (t143,((t143.size:Int)==64)))else (some (t143,false)))=some (r1,r2):=H
 have A4:=Aside0.mk A40
 clear A40
 by_cases c5:t144=0
 ·rw[if_pos c5]at H
  have c5b0:(t144==0)=true:=beq_iff_eq.mpr c5
  have c5b1:(t144 != 0)=false:=bne_eq_false_iff_eq.mpr c5
  clear c5
  simp only[Option.some.injEq,Prod.mk.injEq]at H
  obtain⟨rfl,rfl⟩:=H
  go_enter Tryz.func33,Tryz.ntmps33
  go_wp2_with (first|((with_reducible refine gate_dst (N:=3) rfl ?_);(try (refine gate_guard (by rfl) ?_;dsimp only));refine box_event ?hg (N:=3) ?hd (cs:= #[.int .i64 a0_0,.int .i64 a0_1,.int .i64 a0_2,.slice A0_3 l0_3.length c0_3]) (t:=24) ?hr ?_;(case hd=>rfl);(case hg=>rfl);(case hr=>first|(go_simp;done)|(go_simp;rfl));intro gb142 hg w6 hbox hb;have n0_:=Aside0.mk (below_step (by repeat (first|(with_reducible first|exact HB.out|apply below_alloc|apply pw_below_drewN|apply below_drew1)|exact HB.out)) hb);have n1_:=Aside0.mk (hbox);have n2_:=Aside0.mk ((by rw[hg];exact(below_size (by repeat (first|(with_reducible first|exact HB.out|apply below_alloc|apply pw_below_drewN|apply below_drew1)|exact HB.out))):w.heap.size≤gb142));have n3_:=Aside0.mk ((by rw[hg];exact(below_size (by repeat (first|(with_reducible first|exact HB.out|apply below_alloc|apply pw_below_drewN|apply below_drew1)|exact HB.out))):w.heap.size≤gb142));clear HB;have HB:=n0_;have BK142:=n1_;have GW142:=n2_;have GE142:=n3_;clear n0_ n1_ n2_ n3_;clear hb hbox hg;have hcz7_0:w6.cell? ⟨gb142,0,none⟩=some (.int .i64 a0_0):=(blk_cell BK142.out 0).trans rfl;have hcz7_1:w6.cell? ⟨gb142,1,none⟩=some (.int .i64 a0_1):=(blk_cell BK142.out 1).trans rfl;have hcz7_2:w6.cell? ⟨gb142,2,none⟩=some (.int .i64 a0_2):=(blk_cell BK142.out 2).trans rfl;have hcz7_3:w6.cell? ⟨gb142,3,none⟩=some (.slice A0_3 l0_3.length c0_3):=(blk_cell BK142.out 3).trans rfl;have hfz7_0:=blk_frozen BK142.out 0;have hfz7_1:=blk_frozen BK142.out 1;have hfz7_2:=blk_frozen BK142.out 2;have hfz7_3:=blk_frozen BK142.out 3)|((with_reducible refine gate_callee (f:=54) rfl ?_);refine goesL_ (some 14) rfl rfl Tryz.func54 (by kernel_rfl) rfl #[.string a2,.agg #[.int .i64 a0_0,.int .i64 a0_1,.int .i64 a0_2,.slice A0_3 l0_3.length c0_3],.int .i64 a1] rfl (by (try simp only[List.map_toArray,List.map_cons,List.map_nil]);first|done|rfl|(simp only[List.length_drop,List.length_take];rfl)) ?_;(with_reducible refine(sector_Mine.calls a2 a0_0 a0_1 a0_2 _ _ l0_3 a1 t143 t144 _ ?side1 ?side2 A4.out).mono ?_);(case side1=>repeat (first|exact(Kd.C_below HR0_3.out HB.out)|(with_reducible refine Kd.C_alloc ?_ _)|(with_reducible refine Kd.C_drewN ?_ _)|(with_reducible refine Kd.C_drew ?_)));(case side2=>exact HC0_3.out);rintro e w8 ⟨rfl,hb⟩;refine⟨_,rfl,?_⟩;have n0_:=Aside0.mk (blk_below (g:=gb142) (o:=.cells #[.int .i64 a0_0,.int .i64 a0_1,.int .i64 a0_2,.slice A0_3 l0_3.length c0_3] 24 (0,0)) (by (with_reducible repeat (first|refine blk_drewN ?_ _|refine blk_drew ?_|refine blk_alloc ?_ _));exact BK142.out) hb);have n1_:=Aside0.mk (below_step (by repeat (first|(with_reducible first|exact HB.out|apply below_alloc|apply pw_below_drewN|apply below_drew1|refine below_set ?_ GE142.out)|exact HB.out)) hb);clear BK142;clear HB;have BK142:=n0_;have HB:=n1_;clear n0_ n1_;(try clear hb);(try clear hb2);(try clear hk);(try clear hi)))
  go_ret2
  exact⟨by first|rfl|(simp[errW_none,errW_some]<;>rfl)|(simp[*,errW_none,errW_some]<;>rfl),by repeat (first|(with_reducible first|exact HB.out|apply below_alloc|apply pw_below_drewN|apply below_drew1|refine below_set ?_ GE142.out)|exact HB.out)⟩
 ·rw[if_neg c5]at H
  have c5b0:(t144==0)=false:=beq_eq_false_iff_ne.mpr c5
  have c5b1:(t144 != 0)=true:=bne_iff_ne.mpr c5
  simp only[Option.some.injEq,Prod.mk.injEq]at H
  obtain⟨rfl,rfl⟩:=H
  go_enter Tryz.func33,Tryz.ntmps33
  go_wp2_with (first|((with_reducible refine gate_dst (N:=3) rfl ?_);(try (refine gate_guard (by rfl) ?_;dsimp only));refine box_event ?hg (N:=3) ?hd (cs:= #[.int .i64 a0_0,.int .i64 a0_1,.int .i64 a0_2,.slice A0_3 l0_3.length c0_3]) (t:=24) ?hr ?_;(case hd=>rfl);(case hg=>rfl);(case hr=>first|(go_simp;done)|(go_simp;rfl));intro gb142 hg w9 hbox hb;have n0_:=Aside0.mk (below_step (by repeat (first|(with_reducible first|exact HB.out|apply below_alloc|apply pw_below_drewN|apply below_drew1)|exact HB.out)) hb);have n1_:=Aside0.mk (hbox);have n2_:=Aside0.mk ((by rw[hg];exact(below_size (by repeat (first|(with_reducible first|exact HB.out|apply below_alloc|apply pw_below_drewN|apply below_drew1)|exact HB.out))):w.heap.size≤gb142));have n3_:=Aside0.mk ((by rw[hg];exact(below_size (by repeat (first|(with_reducible first|exact HB.out|apply below_alloc|apply pw_below_drewN|apply below_drew1)|exact HB.out))):w.heap.size≤gb142));clear HB;have HB:=n0_;have BK142:=n1_;have GW142:=n2_;have GE142:=n3_;clear n0_ n1_ n2_ n3_;clear hb hbox hg;have hcz10_0:w9.cell? ⟨gb142,0,none⟩=some (.int .i64 a0_0):=(blk_cell BK142.out 0).trans rfl;have hcz10_1:w9.cell? ⟨gb142,1,none⟩=some (.int .i64 a0_1):=(blk_cell BK142.out 1).trans rfl;have hcz10_2:w9.cell? ⟨gb142,2,none⟩=some (.int .i64 a0_2):=(blk_cell BK142.out 2).trans rfl;have hcz10_3:w9.cell? ⟨gb142,3,none⟩=some (.slice A0_3 l0_3.length c0_3):=(blk_cell BK142.out 3).trans rfl;have hfz10_0:=blk_frozen BK142.out 0;have hfz10_1:=blk_frozen BK142.out 1;have hfz10_2:=blk_frozen BK142.out 2;have hfz10_3:=blk_frozen BK142.out 3)|((with_reducible refine gate_callee (f:=54) rfl ?_);refine goesL_ (some 14) rfl rfl Tryz.func54 (by kernel_rfl) rfl #[.string a2,.agg #[.int .i64 a0_0,.int .i64 a0_1,.int .i64 a0_2,.slice A0_3 l0_3.length c0_3],.int .i64 a1] rfl (by (try simp only[List.map_toArray,List.map_cons,List.map_nil]);first|done|rfl|(simp only[List.length_drop,List.length_take];rfl)) ?_;(with_reducible refine(sector_Mine.calls a2 a0_0 a0_1 a0_2 _ _ l0_3 a1 t143 t144 _ ?side1 ?side2 A4.out).mono ?_);(case side1=>repeat (first|exact(Kd.C_below HR0_3.out HB.out)|(with_reducible refine Kd.C_alloc ?_ _)|(with_reducible refine Kd.C_drewN ?_ _)|(with_reducible refine Kd.C_drew ?_)));(case side2=>exact HC0_3.out);rintro e w11 ⟨rfl,hb⟩;refine⟨_,rfl,?_⟩;have n0_:=Aside0.mk (blk_below (g:=gb142) (o:=.cells #[.int .i64 a0_0,.int .i64 a0_1,.int .i64 a0_2,.slice A0_3 l0_3.length c0_3] 24 (0,0)) (by (with_reducible repeat (first|refine blk_drewN ?_ _|refine blk_drew ?_|refine blk_alloc ?_ _));exact BK142.out) hb);have n1_:=Aside0.mk (below_step (by repeat (first|(with_reducible first|exact HB.out|apply below_alloc|apply pw_below_drewN|apply below_drew1|refine below_set ?_ GE142.out)|exact HB.out)) hb);clear BK142;clear HB;have BK142:=n0_;have HB:=n1_;clear n0_ n1_;(try clear hb);(try clear hb2);(try clear hk);(try clear hi)))
  go_ret2
  exact⟨by first|rfl|(simp[errW_none,errW_some]<;>rfl)|(simp[*,errW_none,errW_some]<;>rfl),by repeat (first|(with_reducible first|exact HB.out|apply below_alloc|apply pw_below_drewN|apply below_drew1|refine below_set ?_ GE142.out)|exact HB.out)⟩
end Go.Proofs.YtdcfonmjbelgbaaGreatDoor.Q
end
section
namespace Go.Proofs.YtdcfonmjbelgbaaGreatDoor
open Go.RowKit Go.Maps Q YtdcfonmjbelgbaaGreatDoorW.PrintWords YtdcfonmjbelgbaaGreatDoorW.PrintLast
theorem vite_b (c:Prop) [Decidable c] (y:Bool):(if c then some y else some false)=some (decide c&&y):=by
 by_cases h:c<;>simp[h]
theorem vdrop_cons (l:List S59) (i:Nat) (h:i<l.length):l.drop i=rd_T59 l i::l.drop (i+1):=by
 unfold rd_T59
 rw[List.drop_eq_getElem_cons h]
 simp[List.getD,List.getElem?_eq_getElem h]
theorem vwrap_k (i:Nat) (h:i≤140737488355328):wrap64 ((i:Int)+1)=((i+1:Nat):Int):=by unfold wrap64;omega
theorem vis_f (x:S59):sluicegateref10_Is.f x.f0 x.f1=some (locOk x):=by
 unfold sluicegateref10_Is.f locOk inB
 simp only[vite_b]
 rw[Option.some.injEq,Bool.eq_iff_iff]
 simp only[Bool.and_eq_true,decide_eq_true_eq]
 omega
theorem vnum_f (n:Int):sluicegateref11_number.f n=some (inB n 1099511627776):=by
 unfold sluicegateref11_number.f inB
 rw[vite_b]
def vdis:List Int→List Int→Bool
 | _,[]=>true
 | s,x::r=> !(s.contains x)&&vdis (s++[x]) r
theorem vany_same (x:Int) : ∀ s:List Int,(s.map (Lit.int .i64)).any (fun y=>y.sameKey (.int .i64 x))=s.contains x
 | []=>rfl
 | a::r=>by
  rw[List.map_cons,List.any_cons,List.contains_cons,vany_same x r]
  congr 1
  show decide (IntKind.i64=IntKind.i64∧a=x)=(x==a)
  by_cases e:a=x
  ·subst e;simp
  ·have e' : ¬ x=a:=fun h=>e h.symm
   simp[e,e']
theorem vfold_dis : ∀ (xs s:List Int),((xs.map (Lit.int .i64)).foldl addKey (s.map (Lit.int .i64))).length≤s.length+xs.length∧(((xs.map (Lit.int .i64)).foldl addKey (s.map (Lit.int .i64))).length=s.length+xs.length↔vdis s xs=true)
 | [],s=>by simp[vdis]
 | x::r,s=>by
  have hk:addKey (s.map (Lit.int .i64)) (.int .i64 x)=if s.contains x then s.map (Lit.int .i64)else (s++[x]).map (Lit.int .i64):=by
   unfold addKey
   rw[vany_same]
   cases s.contains x<;>simp
  rw[List.map_cons,List.foldl_cons,hk]
  unfold vdis
  cases hc:s.contains x with
  | true=>
   have ih:=vfold_dis r s
   simp only[if_true,Bool.not_true,Bool.false_and,List.length_cons]
   refine⟨by omega,?_⟩
   constructor
   ·intro h;omega
   ·intro h;cases h
  | false=>
   have ih:=vfold_dis r (s++[x])
   simp only[Bool.false_eq_true,if_false,Bool.not_false,Bool.true_and,List.length_cons]
   rw[List.length_append,List.length_singleton]at ih
   refine⟨by omega,?_⟩
   rw[←ih.2]
   omega
theorem vsize_Sv (l:List S59):(Maps.size (Sv l l.length)=l.length)↔vdis [] (l.map (·.f0))=true:=by
 have h:keysL l l.length=(l.map (·.f0)).map (Lit.int .i64):=by
  unfold keysL
  rw[List.take_of_length_le (Nat.le_refl _),List.map_map]
  rfl
 unfold Sv
 rw[h,size_setOf _ _ (fun x hx=>by obtain⟨_,_,rfl⟩:=List.mem_map.1 hx;trivial)]
 have:=(vfold_dis (l.map (·.f0)) []).2
 simp only[List.map_nil,List.length_nil,Nat.zero_add,List.length_map]at this
 exact this
theorem vrd_map (l:List S59) (i:Nat) (h:i<l.length):(l.map (·.f0))[i]'(by rw[List.length_map];exact h)=(rd_T59 l i).f0:=by
 unfold rd_T59
 simp[List.getD,List.getElem?_eq_getElem h]
def vgoodV (l:List S59) (s:List Int):List S59→Bool
 | []=>true
 | x::r=>locOk x&&(!(s.contains x.f0)&&vgoodV l (s++[x.f0]) r)
theorem vgoodV_eq (l:List S59) : ∀ (r:List S59) (s:List Int),vgoodV l s r=(r.all locOk&&vdis s (r.map (·.f0)))
 | [],_=>rfl
 | x::r,s=>by
  have hd:vdis s ((x::r).map (·.f0))=(!(s.contains x.f0)&&vdis (s++[x.f0]) (r.map (·.f0))):=rfl
  have hg:vgoodV l s (x::r)=(locOk x&&(!(s.contains x.f0)&&vgoodV l (s++[x.f0]) r)):=rfl
  rw[hd,hg,vgoodV_eq l r,List.all_cons]
  generalize vdis (s++[x.f0]) (r.map (·.f0))=q
  generalize s.contains x.f0=c
  generalize r.all locOk=e
  cases locOk x<;>cases c<;>cases e<;>rfl
theorem vinner (l:List S59) (h9:l.length=9) (V G N:Int) (i:Nat) (hi:i<9) (d:Nat) : ∀ (j k:Nat),i-j=d→j≤i→d<k → ∃ k',k'+d+1=k∧sluicegateref11_Volume.l1 k (i:Int) (j:Int) V G N l=if (((l.map (·.f0)).take i).drop j).contains (rd_T59 l i).f0=true then some false else sluicegateref11_Volume.l0 k' ((i+1:Nat):Int) V G N l:=by
 induction d with
 | zero=>
  intro j k hd hj hk
  obtain⟨k,rfl⟩ : ∃ m,k=m+1:=⟨k-1,by omega⟩
  refine⟨k,by omega,?_⟩
  have:j=i:=by omega
  subst this
  simp only[sluicegateref11_Volume.l1]
  rw[if_neg (by omega),vwrap_k j (by omega),List.drop_of_length_le (by rw[List.length_take];omega)]
  simp
 | succ d ih=>
  intro j k hd hj hk
  obtain⟨k,rfl⟩ : ∃ m,k=m+1:=⟨k-1,by omega⟩
  obtain⟨k',hk',e⟩:=ih (j+1) k (by omega) (by omega) (by omega)
  refine⟨k',by omega,?_⟩
  simp only[sluicegateref11_Volume.l1]
  rw[if_pos (by omega),if_pos (by omega),if_pos (by omega),if_pos (by omega),if_pos (by omega),vwrap_k j (by omega),e]
  have hjl:j<((l.map (·.f0)).take i).length:=by rw[List.length_take,List.length_map];omega
  have hjv:((l.map (·.f0)).take i)[j]=(rd_T59 l j).f0:=by
   rw[List.getElem_take]
   exact vrd_map l j (by omega)
  rw[List.drop_eq_getElem_cons hjl,List.contains_cons,hjv]
  by_cases h:(rd_T59 l j).f0=(rd_T59 l i).f0
  ·rw[if_pos h,if_pos (by rw[h];simp)]
  ·rw[if_neg h]
   have:((rd_T59 l i).f0==(rd_T59 l j).f0)=false:=by
    rw[beq_eq_false_iff_ne]
    exact fun e=>h e.symm
   rw[this,Bool.false_or]
theorem vouter (l:List S59) (h9:l.length=9) (V G N:Int) (d:Nat) : ∀ (i k:Nat),9-i=d→i≤9→12*d<k→sluicegateref11_Volume.l0 k (i:Int) V G N l=some (vgoodV l ((l.map (·.f0)).take i) (l.drop i)):=by
 induction d with
 | zero=>
  intro i k hd hi hk
  obtain⟨k,rfl⟩ : ∃ m,k=m+1:=⟨k-1,by omega⟩
  have:i=9:=by omega
  subst this
  simp only[sluicegateref11_Volume.l0]
  rw[if_neg (by omega),List.drop_of_length_le (by omega)]
  rfl
 | succ d ih=>
  intro i k hd hi hk
  obtain⟨k,rfl⟩ : ∃ m,k=m+1:=⟨k-1,by omega⟩
  have hil:i<l.length:=by omega
  simp only[sluicegateref11_Volume.l0]
  rw[if_pos (by omega),if_pos (by omega),if_pos (by omega),vis_f,vdrop_cons l i hil]
  unfold vgoodV
  simp only[Option.bind_some]
  cases hok:locOk (rd_T59 l i)with
  | false=>rfl
  | true=>
   rw[if_pos rfl,Bool.true_and]
   obtain⟨k',hk',e⟩:=vinner l h9 V G N i (by omega) i 0 k (by omega) (by omega) (by omega)
   rw[show ((0:Nat):Int)=0 from rfl]at e
   rw[e,List.drop_zero]
   cases hc:((l.map (·.f0)).take i).contains (rd_T59 l i).f0 with
   | true=>rfl
   | false=>
    rw[if_neg (by decide),ih (i+1) k' (by omega) (by omega) (by omega)]
    have ht:(l.map (·.f0)).take (i+1)=(l.map (·.f0)).take i++[(rd_T59 l i).f0]:=by
     rw[List.take_add_one,List.getElem?_eq_getElem (by rw[List.length_map];exact hil),vrd_map l i hil]
     rfl
    rw[ht]
    rfl
theorem vrvol_f (V G N:Int) (l:List S59) (k:Nat) (hk:120≤k):sluicegateref11_Volume.f k V G N l=some (volP V G N l):=by
 obtain⟨k,rfl⟩ : ∃ m,k=m+1:=⟨k-1,by omega⟩
 unfold sluicegateref11_Volume.f volP
 rw[vnum_f,vnum_f]
 have hbad:sluicegateref11_Volume.j0 (k+1) true V G N l=some false:=by simp[sluicegateref11_Volume.j0]
 simp only[Option.bind_some]
 cases hv:inB V 1099511627776 with
 | false=>rw[if_neg (by decide),hbad];simp
 | true=>
  cases hg:inB G 1099511627776 with
  | false=>rw[if_pos rfl,if_neg (by decide),hbad];simp
  | true=>
   rw[if_pos rfl,if_pos rfl]
   by_cases h1:N<0
   ·rw[if_pos h1,hbad]
    have:inB N 384=false:=by unfold inB;rw[decide_eq_false (p:=0≤N) (by omega)];rfl
    simp[this]
   ·rw[if_neg h1]
    by_cases h2:N>384
    ·rw[if_pos h2,hbad]
     have:inB N 384=false:=by unfold inB;rw[decide_eq_false (p:=N≤384) (by omega)];simp
     simp[this]
    ·rw[if_neg h2]
     have h3:inB N 384=true:=by unfold inB;rw[decide_eq_true (p:=0≤N) (by omega),decide_eq_true (p:=N≤384) (by omega)];rfl
     by_cases h9:(l.length:Int)=9
     ·have:((l.length:Int) != 9)=false:=by simp[h9]
      rw[this]
      have h9':l.length=9:=by omega
      have ho:=vouter l h9' V G N 9 0 k rfl (by omega) (by omega)
      simp only[sluicegateref11_Volume.j0]
      rw[if_neg (by decide),show (0:Int)=((0:Nat):Int)from rfl,ho,List.take_zero,List.drop_zero,vgoodV_eq,h3,decide_eq_true h9]
      have hs:=vsize_Sv l
      rw[h9']at hs
      congr 2
      simp only[Bool.true_and]
      rw[Bool.eq_iff_iff,←hs,decide_eq_true_eq,h9']
      omega
     ·have:((l.length:Int) != 9)=true:=by simpa using h9
      rw[this,hbad,decide_eq_false h9]
      simp
end Go.Proofs.YtdcfonmjbelgbaaGreatDoor
end
