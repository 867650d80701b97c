/- Lemmas for the law StripeReads, merged out of several texts and cut down to what it names, by a program of this session (some of the first ones are of the words that print.sh wrote for this claim). -/
import Derived.Test.YtdcfonmjbelgbaaGreatDoorProg
import Derived.Ground.NamesProg
import Derived.Shelf.Strings.OnBuilder
import Derived.Deep.LoopGhost
import Derived.Test.YtdcfonmjbelgbaaGreatDoorKStripeReads1
import Derived.Test.YtdcfonmjbelgbaaGreatDoorKStripeReads2
import Derived.Test.YtdcfonmjbelgbaaGreatDoorKStripeReads3
import Derived.Test.YtdcfonmjbelgbaaGreatDoorKStripeReads4
import Derived.Test.YtdcfonmjbelgbaaGreatDoorKStripeReads5
import Derived.Test.YtdcfonmjbelgbaaGreatDoorKStripeReads6
set_option maxRecDepth 100000
set_option maxHeartbeats 8000000
set_option linter.unusedVariables false
set_option linter.unusedSimpArgs false
section
namespace Go.Proofs
open Go.Shelf
def Tryz.laysJoin_ren:Go.Shelf.Ren:=⟨fun|156=>77|165=>97|166=>66|169=>68|240=>86|241=>111|276=>107|277=>117|n=>n,fun|31=>27|9=>9|3=>3|4=>4|0=>0|20=>20|72=>112|76=>115|70=>110|37=>80|75=>114|127=>137|164=>156|5=>5|80=>117|n=>n,fun|n=>n⟩
theorem Tryz.laysJoin:Go.Proofs.Lays.n156 Tryz.prog Tryz.laysJoin_ren:={
 mixed:=by kernel_rfl
 f156:=Tryz.func77.trans (congrArg some (by kernel_rfl))
 f165:=Tryz.func97.trans (congrArg some (by kernel_rfl))
 f166:=Tryz.func66.trans (congrArg some (by kernel_rfl))
 f169:=Tryz.func68.trans (congrArg some (by kernel_rfl))
 f240:=Tryz.func86.trans (congrArg some (by kernel_rfl))
 f241:=Tryz.func111.trans (congrArg some (by kernel_rfl))
 f276:=Tryz.func107.trans (congrArg some (by kernel_rfl))
 f277:=Tryz.func117.trans (congrArg some (by kernel_rfl))
 t0:=Tryz.underlying0
 a0:=Tryz.isAgg0
 z0:=Tryz.sizeOf0
 v0:=Tryz.zeroValue0
 t3:=Tryz.underlying3
 a3:=Tryz.isAgg3
 z3:=Tryz.sizeOf3
 v3:=Tryz.zeroValue3
 t4:=Tryz.underlying4
 a4:=Tryz.isAgg4
 z4:=Tryz.sizeOf4
 v4:=Tryz.zeroValue4
 t9:=Tryz.underlying9
 a9:=Tryz.isAgg9
 z9:=Tryz.sizeOf9
 v9:=Tryz.zeroValue9
 t20:=Tryz.underlying20
 a20:=Tryz.isAgg20
 z20:=Tryz.sizeOf20
 v20:=Tryz.zeroValue20
 t31:=Tryz.underlying27
 a31:=Tryz.isAgg27
 z31:=Tryz.sizeOf27
 v31:=Tryz.zeroValue27
 t37:=Tryz.underlying80
 a37:=Tryz.isAgg80
 z37:=Tryz.sizeOf80
 v37:=Tryz.zeroValue80
 t70:=Tryz.underlying110
 a70:=Tryz.isAgg110
 z70:=Tryz.sizeOf110
 v70:=Tryz.zeroValue110
 t72:=Tryz.underlying112
 a72:=Tryz.isAgg112
 z72:=Tryz.sizeOf112
 v72:=Tryz.zeroValue112
 t75:=Tryz.underlying114
 a75:=Tryz.isAgg114
 z75:=Tryz.sizeOf114
 v75:=Tryz.zeroValue114
 t76:=Tryz.underlying115
 a76:=Tryz.isAgg115
 z76:=Tryz.sizeOf115
 v76:=Tryz.zeroValue115
 t127:=Tryz.underlying137
 a127:=Tryz.isAgg137
 z127:=Tryz.sizeOf137
 v127:=Tryz.zeroValue137
 t164:=Tryz.underlying156
 a164:=Tryz.isAgg156
 z164:=Tryz.sizeOf156
 v164:=Tryz.zeroValue156 }
end Go.Proofs
end
section
namespace Go.Proofs
open Go.Shelf Go.RowKit
theorem Tryz.u8u:Tryz.prog.underlying (Tryz.laysJoin_ren.t 5)=some (.int .u8):=by kernel_rfl
theorem Tryz.u8i:(Tryz.prog.info? (Tryz.laysJoin_ren.t 5)).map (fun i=>(i.zero,i.size,i.bytes))=some (some (.int .u8 0),1,1):=by kernel_rfl
theorem Tryz.joinExtra:Builder.Extra Tryz.prog Tryz.laysJoin_ren where
 sizeBuilder:=by kernel_rfl
 liesBuilder:=by kernel_rfl
 t5:=Tryz.u8u
 a5:=fun w=>by
  unfold isAgg
  rw[Sem.run_bind,run_underlying Tryz.u8u w]
  rfl
 z5:=fun w=>by
  obtain⟨i0,hi0,hzz⟩:=Option.map_eq_some_iff.1 Tryz.u8i
  simp only[Prod.mk.injEq]at hzz
  simp[Go.sizeOf,typeInfo,hi0,hzz.2.1]
 v5:=fun w=>by
  obtain⟨i0,hi0,hzz⟩:=Option.map_eq_some_iff.1 Tryz.u8i
  simp only[Prod.mk.injEq]at hzz
  simp[zeroValue,typeInfo,hi0,hzz.1]
 infoByte:=by kernel_rfl
 cellsByte:=by kernel_rfl
 sizeByte:=by kernel_rfl
 neB5:=by decide
end Go.Proofs
namespace Go.Proofs.YtdcfonmjbelgbaaGreatDoor
open Go.RowKit
theorem njoin_calls (bk o c:Nat) (xs:List ByteArray) (w:World) (hcells : ∀ (j:Nat) x,xs[j]? = some x→w.cell? ⟨bk,o+j,none⟩=some (.string x)) (hbk:bk<w.heap.size) (hN:xs.length≤140737488355328) (hcap:xs.length≤c) (hlen:(Lib.join (xs.map (·.data.toList)) []).length≤140737488355328) :
  Calls Tryz.prog 77 #[.slice (some ⟨bk,o,none⟩) xs.length c,.string ⟨#[]⟩] w fun e w'=>e = .returned (.string ⟨(Lib.join (xs.map (·.data.toList)) []).toArray⟩)∧Below w.heap.size w w':=
 Any.strings_Join Tryz.laysJoin Tryz.joinExtra bk o c xs ⟨#[]⟩ w hcells hbk hN hcap hlen
theorem join_flat (xs:List (List UInt8)):Lib.join xs []=xs.flatten:=by
 cases xs with
 | nil=>rfl
 | cons x r=>
  rw[Lib.join_cons]
  simp[Lib.joinTail]
end Go.Proofs.YtdcfonmjbelgbaaGreatDoor
end
section
namespace Go.Proofs.YtdcfonmjbelgbaaGreatDoor
open Go.RowKit Q YtdcfonmjbelgbaaGreatDoorW.PrintWords YtdcfonmjbelgbaaGreatDoorW.PrintLast YtdcfonmjbelgbaaGreatDoorW.PrintMore
def zeroB (m:List UInt8):Bool:=m.all (· == 0)
theorem byte0 (x:UInt8):((x.toNat:Int)=0)↔x=0:=by
 constructor
 ·intro h
  apply UInt8.toNat_inj.mp
  simpa using h
 ·rintro rfl;rfl
theorem tr_run (n:Nat) : ∀ (m:List UInt8) (k:Nat),m.length=n→n<k→n≤140737488355328 → ∃ m',strings_trimRightByte.l0 k (B m) 0=some (B m')∧m'.length≤n∧(zeroB m=true→m'=[])∧(zeroB m=false→zeroB m'=false):=by
 induction n with
 | zero=>
  intro m k hm hk _
  obtain⟨k,rfl⟩ : ∃ j,k=j+1:=⟨k-1,by omega⟩
  obtain rfl:=List.eq_nil_of_length_eq_zero hm
  refine⟨[],?_,Nat.le_refl _,fun _=>rfl,id⟩
  simp only[strings_trimRightByte.l0]
  rw[B_size,if_neg (by decide)]
 | succ n ih=>
  intro m k hm hk hn
  obtain⟨k,rfl⟩ : ∃ j,k=j+1:=⟨k-1,by omega⟩
  have hlt:n<m.length:=by omega
  have hw:wrap64 (((B m).size:Int)-1)=(n:Int):=by rw[B_size];unfold wrap64;omega
  have hsp:m=m.take n++[m[n]]:=by
   have h1:=(List.take_append_drop n m).symm
   rw[List.drop_eq_getElem_cons hlt,List.drop_of_length_le (by omega:m.length≤n+1)]at h1
   exact h1
  have hz:zeroB m=(zeroB (m.take n)&&(m[n]==0)):=by
   unfold zeroB
   conv=>lhs;rw[hsp]
   rw[List.all_append]
   simp
  simp only[strings_trimRightByte.l0]
  rw[hw,if_pos (by rw[B_size];omega),if_pos (by omega),if_pos (by rw[B_size];omega),nbt_at m n hlt]
  by_cases h0:m[n]=0
  ·rw[if_pos ((byte0 _).2 h0),if_pos (by rw[B_size];omega),Int.toNat_natCast,B_extract,List.drop_zero,Nat.sub_zero]
   obtain⟨m',h1,h2,h3,h4⟩:=ih (m.take n) k (by rw[List.length_take];omega) (by omega) (by omega)
   have hz2:zeroB m=zeroB (m.take n):=by rw[hz,h0];simp
   exact⟨m',h1,by omega,fun h=>h3 (by rw[←hz2];exact h),fun h=>h4 (by rw[←hz2];exact h)⟩
  ·rw[if_neg (fun h=>h0 ((byte0 _).1 h))]
   have hz2:zeroB m=false:=by rw[hz];simp[h0]
   exact⟨m,rfl,by omega,fun h=>(by rw[hz2]at h;cases h),id⟩
theorem tl_run (n:Nat) : ∀ (m:List UInt8) (k:Nat),m.length=n→n<k→n≤140737488355328 → ∃ m',strings_trimLeftByte.l0 k (B m) 0=some (B m')∧(zeroB m=true→m'=[])∧(zeroB m=false→m'≠[]):=by
 induction n with
 | zero=>
  intro m k hm hk _
  obtain⟨k,rfl⟩ : ∃ j,k=j+1:=⟨k-1,by omega⟩
  obtain rfl:=List.eq_nil_of_length_eq_zero hm
  refine⟨[],?_,fun _=>rfl,fun h=>(by cases h)⟩
  simp only[strings_trimLeftByte.l0]
  rw[B_size,if_neg (by decide)]
 | succ n ih=>
  intro m k hm hk hn
  obtain⟨k,rfl⟩ : ∃ j,k=j+1:=⟨k-1,by omega⟩
  match m,hm with
  | x::r,hm=>
   have hrl:r.length=n:=by simpa using hm
   have hb:bt (B (x::r)) 0=(x.toNat:Int):=nbt_at (x::r) 0 (by simp)
   have hz:zeroB (x::r)=((x==0)&&zeroB r):=rfl
   simp only[strings_trimLeftByte.l0]
   rw[B_size,hb,if_pos (by simp only[List.length_cons];omega),if_pos (by simp only[List.length_cons];omega)]
   by_cases h0:x=0
   ·rw[if_pos ((byte0 _).2 h0),if_pos (by simp only[List.length_cons];omega),B_extract,List.drop_succ_cons,List.drop_zero,List.take_of_length_le (by simp only[List.length_cons];omega)]
    obtain⟨m',h1,h3,h4⟩:=ih r k hrl (by omega) (by omega)
    have hz2:zeroB (x::r)=zeroB r:=by rw[hz,h0];rfl
    exact⟨m',h1,fun h=>h3 (by rw[←hz2];exact h),fun h=>h4 (by rw[←hz2];exact h)⟩
   ·rw[if_neg (fun h=>h0 ((byte0 _).1 h))]
    have hz2:zeroB (x::r)=false:=by rw[hz];simp[h0]
    exact⟨x::r,rfl,fun h=>(by rw[hz2]at h;cases h),fun _=>by simp⟩
theorem ntrim_calls (m:List UInt8) (hm:m.length≤140737488355328) (w:World):Calls Tryz.prog 78 #[.string (B m),.string ⟨#[0]⟩] w fun e w'=>(∃ r:List UInt8,e = .returned (.string (B r))∧(r=[]↔zeroB m=true))∧Below w.heap.size w w':=by
 obtain⟨KT,hK⟩ : ∃ K,K=m.length+1:=⟨_,rfl⟩
 obtain⟨m1,e1,hl1,hz1,hn1⟩:=tr_run m.length m KT rfl (by omega) hm
 obtain⟨m2,e2,hz2,hn2⟩:=tl_run m1.length m1 KT rfl (by omega) (by omega)
 have HT1:=Lib.hid (show strings_trimRightByte.f KT (B m) 0=some (B m1)from e1)
 have HT2:=Lib.hid (show strings_trimLeftByte.f KT (B m1) 0=some (B m2)from e2)
 have HR:Hid (m2=[]↔zeroB m=true):=Lib.hid (by
  cases hz:zeroB m with
  | true=>have:=hz1 hz;subst this;simp[hz2 rfl]
  | false=>exact⟨fun h=>absurd h (hn2 (hn1 hz)),fun h=>by cases h⟩)
 clear e1 e2 hz1 hn1 hz2 hn2 hl1 hK
 by_cases h0:m=[]
 case pos=>
  subst h0
  have hb:(B []).toList=[]:=B_toList []
  have hb2:(B []).toList.isEmpty=true:=by rw[B_toList];rfl
  go_enter Tryz.func78,Tryz.ntmps78
  go_wp2_with fail
  go_ret
  exact⟨⟨[],rfl,by simp[zeroB]⟩,Below.refl _ _⟩
 case neg=>
  have hb2:(B m).toList.isEmpty=false:=by rw[B_toList];cases m with
   | nil=>exact absurd rfl h0
   | cons a l=>rfl
  have hb3:((B m).toList==[])=false:=by rw[B_toList];simpa using h0
  have hz0:(ByteArray.toList ⟨#[0]⟩).isEmpty=false:=by
   rw[show (⟨#[0]⟩:ByteArray)=B [0]from rfl,B_toList];rfl
  have hz1:((ByteArray.toList ⟨#[0]⟩)==[])=false:=by
   rw[show (⟨#[0]⟩:ByteArray)=B [0]from rfl,B_toList];rfl
  clear h0 hm
  go_enter Tryz.func78,Tryz.ntmps78
  go_wp2_with fail
  refine start_ (n:=8) (S:=fun w'=>True) (ds:=[]) #[false,false,false,false,false,false,false,false] (by kernel_rfl) rfl rfl trivial (fun hHeld=> ?_)
  refine pure_ (i:=0) (N:=some 22) (v:= ?_) (a':= ?_) #[true,false,false,false,false,false,false,false] rfl rfl (by kernel_rfl) (fun _ _ _ h=>h) (Or.inl ⟨by rfl,?_⟩) ?_ ?_
  rotate_left
  ·intro w'
   go_simp
   with_reducible rfl
  rotate_left
  ·simp only[Act.put,zA,zB,zC]
   rfl
  refine pure_ (i:=1) (N:=some 23) (v:= ?_) (a':= ?_) #[true,true,false,false,false,false,false,false] rfl rfl (by kernel_rfl) (fun _ _ _ h=>h) (Or.inl ⟨by rfl,?_⟩) ?_ ?_
  rotate_left
  ·intro w'
   go_simp
   with_reducible rfl
  rotate_left
  ·simp only[Act.put,zA,zB,zC]
   rfl
  refine pure_ (i:=4) (N:=some 26) (v:= ?_) (a':= ?_) #[true,true,false,false,true,false,false,false] rfl rfl (by kernel_rfl) (fun _ _ _ h=>h) (Or.inl ⟨by rfl,?_⟩) ?_ ?_
  rotate_left
  ·intro w'
   go_simp
   with_reducible rfl
  rotate_left
  ·simp only[Act.put,zA,zB,zC]
   rfl
  refine take_ (i:=2) (N:=some 24) (v:= ?_) (a':= ?_) #[true,true,true,false,true,false,false,false] rfl rfl (by kernel_rfl) (fun _ _ _ h=>h) (Or.inl ⟨by rfl,?_⟩) hHeld ?_ ?_
  rotate_left
  ·intro w' _
   go_simp
   with_reducible rfl
  rotate_left
  ·simp only[Act.put,zA,zB,zC]
   rfl
  refine take_ (i:=5) (N:=some 27) (v:= ?_) (a':= ?_) #[true,true,true,false,true,true,false,false] rfl rfl (by kernel_rfl) (fun _ _ _ h=>h) (Or.inl ⟨by rfl,?_⟩) hHeld ?_ ?_
  rotate_left
  ·intro w' _
   go_simp
   with_reducible rfl
  rotate_left
  ·simp only[Act.put,zA,zB,zC]
   rfl
  refine one_ (i:=3) (N:=some 25) #[true,true,true,true,true,true,false,false] rfl rfl (by kernel_rfl) (by decide) (fun K hK=> ?_)
  refine goes_ Tryz.func99 (by kernel_rfl) rfl #[.string (B m),.int .u8 0] (by rfl) rfl rfl (by simp only[List.map_toArray,List.map_cons,List.map_nil];rfl) ?_
  with_reducible refine(strings_trimRightByte.calls KT (B m) 0 _ _ HT1.out).mono ?_
  rintro e w3 ⟨rfl,hd3⟩
  refine⟨_,rfl,?_⟩
  refine hK.out _ _ trivial (fun hHeld=> ?_)
  clear hK K
  refine norm_ (a':= ?_) ?_ ?_
  rotate_left
  ·show Act.put _ (some 25) _=_
   simp only[Act.put,zA,zB,zC]
   rfl
  refine one_ (i:=6) (N:=some 28) #[true,true,true,true,true,true,true,false] rfl rfl (by kernel_rfl) (by decide) (fun K hK=> ?_)
  refine goes_ Tryz.func98 (by kernel_rfl) rfl #[.string (B m1),.int .u8 0] (by rfl) rfl rfl (by simp only[List.map_toArray,List.map_cons,List.map_nil];rfl) ?_
  with_reducible refine(strings_trimLeftByte.calls KT (B m1) 0 _ _ HT2.out).mono ?_
  rintro e w4 ⟨rfl,hd4⟩
  refine⟨_,rfl,?_⟩
  refine hK.out _ _ trivial (fun hHeld=> ?_)
  clear hK K
  refine norm_ (a':= ?_) ?_ ?_
  rotate_left
  ·show Act.put _ (some 28) _=_
   simp only[Act.put,zA,zB,zC]
   rfl
  refine pure_ (i:=7) (N:=some 4) (v:= ?_) (a':= ?_) #[true,true,true,true,true,true,true,true] rfl rfl (by kernel_rfl) (fun _ _ _ h=>h) (Or.inl ⟨by rfl,?_⟩) ?_ ?_
  rotate_left
  ·intro w'
   go_simp
   with_reducible rfl
  rotate_left
  ·simp only[Act.put,zA,zB,zC]
   rfl
  refine done_ (by kernel_rfl) ?_
  go_wp2_with fail
  go_ret
  have b1:Below w.heap.size w w3:=below2 (Below.drew (Below.refl _ w)) (Nat.le_refl _) hd3.below
  exact⟨⟨m2,rfl,HR.out⟩,below2 b1 b1.size hd4.below⟩
theorem nother_calls (s:ByteArray) (w:World):Calls Tryz.prog 76 #[.string s] w fun e w'=>e = .returned (.bool ((s.size:Int) != 64))∧w'=w:=by
 go_enter Tryz.func76,Tryz.ntmps76
 go_wp2
 go_ret
 exact⟨rfl,rfl⟩
def all64 (l:List ByteArray):Bool:=l.all (fun s=>s.size==64)
theorem strs_get {w:World} {A:Option Addr} {l:List ByteArray} (h:Kd.C Kd.string w A l.length l) (k:Nat) (hk:k<l.length) : ∃ ad,A=some ad∧w.cell? (ad.add k)=some (.string l[k]):=by
 obtain⟨ad,e,hc⟩:=Kd.at_string h (k:Int) (by omega) (by omega)
 refine⟨ad,e,?_⟩
 have:rdOf ByteArray.empty l (k:Int)=l[k]:=by simp[rdOf,hk]
 rw[this]at hc
 exact hc
theorem nindex_calls (A:Option Addr) (c:Nat) (l:List ByteArray) (w:World) (hC:Kd.C Kd.string w A l.length l) (hc:l.length≤c):Calls Tryz.prog 83 #[.slice A l.length c,.func (.func 76) #[] #[]] w fun e w'=>(∃ r:Int,e = .returned (.int .i64 r)∧decide (0≤r) = !all64 l)∧w'=w:=by
 have HC:=Aside0.mk hC
 have HL:=Lib.hid hc
 have hmx:l.length≤9223372036854775807:=Kd.C_max hC
 clear hC hc
 go_enter Tryz.func83,Tryz.ntmps83
 go_wp2_with fail
 go_loop [8] (fun i=> ∃ k:Nat,k≤l.length∧i = .int .i64 k∧Aside0 (all64 (l.take k)=true)) (fun i=>l.length-(intOf i).toNat)
 case atStart=>exact⟨0,Nat.zero_le _,rfl,⟨rfl⟩⟩
 case round=>
  obtain⟨k,hk,rfl,HE⟩:=hrel
  by_cases hlt:k<l.length
  ·obtain⟨ad,hA,hck⟩:=strs_get HC.out k hlt
   subst hA
   have hsp:l.take (k+1)=l.take k++[l[k]]:=List.take_succ_eq_append_getElem hlt
   obtain⟨s,hs⟩ : ∃ s,l[k]=s:=⟨_,rfl⟩
   have hall:l=l.take k++(s::l.drop (k+1)):=by
    rw[←hs,←List.drop_eq_getElem_cons hlt,List.take_append_drop]
   rw[hs]at hck hsp
   clear hs
   have hHL:=Lib.hid hlt
   have CE:=nother_calls s w
   by_cases hz:s.size=64
   ·have he:((s.size:Int) != 64)=false:=by rw[hz];rfl
    rw[he]at CE
    have HN:Hid (all64 (l.take (k+1))=true):=Lib.hid (by
     rw[hsp]
     unfold all64
     rw[List.all_append,show (l.take k).all (fun s=>s.size==64)=true from HE.out]
     simp[hz])
    clear he hz hall hsp
    go_wp2_with (go_at_call 76;refine CE.mono ?_;rintro e w' ⟨rfl,rfl⟩)
    go_round
    case rel=>exact⟨k+1,hHL.out,by go_num,⟨HN.out⟩⟩
    case measure=>have:=hHL.out;simp[intOf];omega
   ·have he:((s.size:Int) != 64)=true:=by
     rw[bne_iff_ne]
     omega
    rw[he]at CE
    have HN:Hid (all64 l=false):=Lib.hid (by
     rw[hall]
     unfold all64
     rw[List.all_append,List.all_cons,show (s.size==64)=false from by simpa using hz]
     simp)
    clear he hz hall hsp
    go_wp2_with (go_at_call 76;refine CE.mono ?_;rintro e w' ⟨rfl,rfl⟩)
    go_ret
    exact⟨⟨(k:Int),rfl,by rw[HN.out];simp⟩,rfl⟩
  ·obtain rfl:k=l.length:=by omega
   have h:=HE.out
   rw[List.take_length]at h
   have HN:=Lib.hid h
   clear h
   go_wp2
   go_ret
   exact⟨⟨-1,rfl,by rw[HN.out];rfl⟩,rfl⟩
theorem ncontains_calls (A:Option Addr) (c:Nat) (l:List ByteArray) (w:World) (hC:Kd.C Kd.string w A l.length l) (hc:l.length≤c):Calls Tryz.prog 59 #[.slice A l.length c,.func (.func 76) #[] #[]] w fun e w'=>e = .returned (.bool (!all64 l))∧w'=w:=by
 have CI:=nindex_calls A c l w hC hc
 obtain⟨q,hq⟩ : ∃ q,(!all64 l)=q:=⟨_,rfl⟩
 rw[hq]at CI ⊢
 clear hq hC hc
 go_enter Tryz.func59,Tryz.ntmps59
 go_wp2_with (go_at_call 83;refine CI.mono ?_;rintro e w' ⟨⟨r,rfl,hr⟩,rfl⟩)
 go_ret
 exact⟨by rw[←hr];rfl,rfl⟩
def flatN (l:List ByteArray):List UInt8:=(l.map (fun s=>s.data.toList)).flatten
def joinR (l:List ByteArray) (n:Int):ByteArray×Int:=
 if l.length=6∧0≤n∧n≤384∧all64 l=true then (if zeroB ((flatN l).drop n.toNat)=true then (B ((flatN l).take n.toNat),0)else (⟨#[]⟩,4))else (⟨#[]⟩,1)
theorem flat_len : ∀ (l:List ByteArray),all64 l=true→(flatN l).length=64*l.length
 | [],_=>rfl
 | s::r,h=>by
  have h2:(s.size==64)=true∧all64 r=true:=by
   unfold all64 at h ⊢
   rw[List.all_cons,Bool.and_eq_true]at h
   exact h
  have ih:=flat_len r h2.2
  have h3:s.size=64:=by simpa using h2.1
  unfold flatN at ih ⊢
  rw[List.map_cons,List.flatten_cons,List.length_append,ih,size_data,h3,List.length_cons]
  omega
theorem spot_none {w:World} {ad:Addr} {v:Value} (h:w.cell? ad=some v):ad=⟨ad.block,ad.off,none⟩:=by
 obtain⟨b,o,s⟩:=ad
 cases s with
 | none=>rfl
 | some x=>
  unfold World.cell? at h
  split at h
  ·simp at h
  ·cases h
theorem njoin_walk (A:Option Addr) (c:Nat) (l:List ByteArray) (n:Int) (w:World) (hC:Kd.C Kd.string w A l.length l) (hc:l.length≤c):Calls Tryz.prog 56 #[.slice A l.length c,.int .i64 n] w fun e w'=>e = .returned (.tuple #[.string (joinR l n).1,.int .i64 (joinR l n).2])∧Below w.heap.size w w':=by
 by_cases h6:l.length=6
 case neg=>
  have hr:joinR l n=(⟨#[]⟩,1):=if_neg (fun h=>h6 h.1)
  have hq:((l.length:Int) != 6)=true:=by rw[bne_iff_ne];omega
  rw[hr]
  clear h6 hr hC hc
  go_enter Tryz.func56,Tryz.ntmps56
  go_wp2_with fail
  go_ret2
  exact⟨rfl,Below.refl _ _⟩
 have hq6:((l.length:Int) != 6)=false:=by rw[h6];rfl
 by_cases h0:n<0
 case pos=>
  have hr:joinR l n=(⟨#[]⟩,1):=if_neg (fun h=>by omega)
  have hq:decide (n<0)=true:=decide_eq_true h0
  rw[hr]
  clear h6 hr hC hc h0
  go_enter Tryz.func56,Tryz.ntmps56
  go_wp2_with fail
  go_ret2
  exact⟨rfl,Below.refl _ _⟩
 have hq0:decide (n<0)=false:=decide_eq_false h0
 by_cases h384:384<n
 case pos=>
  have hr:joinR l n=(⟨#[]⟩,1):=if_neg (fun h=>by omega)
  have hq:decide (384<n)=true:=decide_eq_true h384
  rw[hr]
  clear h6 hr hC hc h0 h384
  go_enter Tryz.func56,Tryz.ntmps56
  go_wp2_with fail
  go_ret2
  exact⟨rfl,Below.refl _ _⟩
 have hq384:decide (384<n)=false:=decide_eq_false h384
 have CC:=ncontains_calls A c l w hC hc
 cases ha:all64 l with
 | false=>
  have hr:joinR l n=(⟨#[]⟩,1):=if_neg (fun h=>by rw[ha]at h;cases h.2.2.2)
  rw[ha]at CC
  rw[hr]
  clear h6 hr hC hc h0 h384 ha
  go_enter Tryz.func56,Tryz.ntmps56
  go_wp2_with (go_at_call 59;refine CC.mono ?_;rintro e w' ⟨rfl,rfl⟩)
  go_ret2
  exact⟨rfl,Below.refl _ _⟩
 | true=>
  have hr:joinR l n=if zeroB ((flatN l).drop n.toNat)=true then (B ((flatN l).take n.toNat),0)else (⟨#[]⟩,4):=if_pos ⟨h6,by omega,by omega,ha⟩
  have hlen:=flat_len l ha
  rw[h6]at hlen
  rw[ha]at CC
  obtain⟨ad,hA,hck⟩:=strs_get hC 0 (by omega)
  subst hA
  have had:ad.add 0=ad:=rfl
  rw[had]at hck
  obtain⟨bk,o,hbo⟩ : ∃ bk o,ad=⟨bk,o,none⟩:=⟨_,_,spot_none hck⟩
  subst hbo
  have CJ:=njoin_calls bk o c l w (fun j x hj=>by
   obtain⟨hjl,hjx⟩:=List.getElem?_eq_some_iff.1 hj
   obtain⟨ad2,e2,hc2⟩:=strs_get hC j hjl
   cases e2
   rw[hjx]at hc2
   have hadd:(⟨bk,o,none⟩:Addr).add j=⟨bk,o+j,none⟩:=by unfold Addr.add;split<;>simp_all
   rw[hadd]at hc2
   exact hc2) (World.block_lt_of_cell? _ _ hck) (by omega) hc (by rw[join_flat];show (flatN l).length≤_;omega)
  rw[join_flat]at CJ
  obtain⟨F,hF⟩ : ∃ F,flatN l=F:=⟨_,rfl⟩
  replace CJ:Calls Tryz.prog 77 #[.slice (some ⟨bk,o,none⟩) l.length c,.string ⟨#[]⟩] w fun e w'=>e = .returned (.string (B F))∧Below w.heap.size w w':=by rw[←hF];exact CJ
  rw[hF]at hr hlen
  obtain⟨k,rfl⟩ : ∃ k:Nat,n=(k:Int):=⟨n.toNat,by omega⟩
  rw[Int.toNat_natCast]at hr
  have hk:k≤384:=by omega
  have hk2:k≤(B F).size:=by rw[B_size];omega
  have hd:(B F).extract k (B F).size=B (F.drop k):=by rw[B_extract,B_size,List.take_of_length_le (by rw[List.length_drop];omega)]
  have ht:(B F).extract 0 k=B (F.take k):=by rw[B_extract,List.drop_zero,Nat.sub_zero]
  have CT:=fun W:World=>ntrim_calls (F.drop k) (by rw[List.length_drop];omega) W
  have HR:=Lib.hid hr
  have HD:=Lib.hid hd
  have HT:=Lib.hid ht
  clear h6 hr hC hc h0 h384 ha hlen hF hck hk hd ht had
  go_enter Tryz.func56,Tryz.ntmps56
  go_wp2_with (first|(go_at_call 59;refine CC.mono ?_;rintro e w' ⟨rfl,rfl⟩)|(go_at_call 77;refine CJ.mono ?_;rintro e w1 ⟨rfl,hb1⟩))
  rw[HD.out]
  refine Calls.mono (CT w1) ?_
  rintro e w2 ⟨⟨r,rfl,hrr⟩,hb2⟩
  have hb:=below2 hb1 hb1.size hb2
  clear hb1 hb2
  cases hz:zeroB (F.drop k)with
  | true=>
   have hr0:r=[]:=hrr.2 hz
   subst hr0
   have hq:(B []).toList.isEmpty=true:=by rw[B_toList];rfl
   have HR2:Hid (joinR l (k:Int)=(B (F.take k),0)):=Lib.hid (by rw[HR.out,if_pos hz])
   clear hrr hz HR
   go_wp2_with fail
   go_ret2
   exact⟨by rw[HR2.out,←HT.out];rfl,hb⟩
  | false=>
   have hr0:r≠[]:=fun h=>by rw[hrr.1 h]at hz;cases hz
   have hq:(B r).toList.isEmpty=false:=by rw[B_toList];cases r with
    | nil=>exact absurd rfl hr0
    | cons a b=>rfl
   have HR2:Hid (joinR l (k:Int)=(⟨#[]⟩,4)):=Lib.hid (by rw[HR.out,if_neg (by rw[hz];simp)])
   clear hrr hz HR hr0
   go_wp2_with fail
   go_ret2
   exact⟨by rw[HR2.out];rfl,hb⟩
end Go.Proofs.YtdcfonmjbelgbaaGreatDoor
end
section
namespace Go.Proofs.YtdcfonmjbelgbaaGreatDoor
open Go.RowKit Q YtdcfonmjbelgbaaGreatDoorW.PrintWords YtdcfonmjbelgbaaGreatDoorW.PrintLast YtdcfonmjbelgbaaGreatDoorW.PrintMore
abbrev LocS:=S59
def partsN (s:List UInt8):List ByteArray:=[0,1,2,3,4,5].map (partN s)
def secX (id gen:Int) (l:List LocS) (i:Nat) (x:ByteArray):ByteArray:=(secW id gen (i:Int) (rd_T59 l (i:Int)).f0 (rd_T59 l (i:Int)).f1 x).1
def secK (id gen:Int) (l:List LocS) (d:List ByteArray) (k:Nat):List ByteArray:=(List.range k).map fun i=>secX id gen l i (strAt (encL d) i)
theorem secK_succ (id gen:Int) (l:List LocS) (d:List ByteArray) (k:Nat):secK id gen l d k++[secX id gen l k (strAt (encL d) k)]=secK id gen l d (k+1):=by
 unfold secK
 rw[List.range_succ,List.map_append]
 rfl
theorem secK_len (id gen:Int) (l:List LocS) (d:List ByteArray) (k:Nat):(secK id gen l d k).length=k:=by simp[secK]
def sectR (id gen len:Int) (l:List LocS) (t:ByteArray):List ByteArray×Int:=
 if volP id gen len l=true∧(t.size:Int)=len then (secK id gen l (partsN t.data.toList) 9,0)else ([],1)
theorem parts_even (s:List UInt8) (h:s.length≤384):evenB (partsN s)=true:=by
 have hs : ∀ i,i<6→(partN s i).size=64:=fun i hi=>by
  unfold partN
  rw[B_size,List.length_take,List.length_drop,padN_len s h]
  omega
 have hw:wid (partsN s)=64:=hs 0 (by omega)
 unfold evenB
 rw[hw]
 unfold partsN
 simp[hs]
theorem parts_size (s:List UInt8) (h:s.length≤384) : ∀ x∈partsN s,x.size≤140737488355328:=by
 intro x hx
 unfold partsN at hx
 simp only[List.map_cons,List.map_nil,List.mem_cons,List.not_mem_nil,or_false]at hx
 have hs : ∀ i,(partN s i).size≤64:=fun i=>by
  unfold partN
  rw[B_size,List.length_take]
  omega
 rcases hx with rfl|rfl|rfl|rfl|rfl|rfl<;>exact Nat.le_trans (hs _) (by decide)
theorem volP_len {id gen len:Int} {l:List LocS} (h:volP id gen len l=true):len≤384∧0≤len∧l.length=9:=by
 unfold volP inB at h
 simp only[Bool.and_eq_true,decide_eq_true_eq]at h
 omega
theorem infoSt:(Tryz.prog.info? 9).map (fun i=>(i.zero,i.size,i.bytes))=some (some (.string ⟨#[]⟩),1,16):=by kernel_rfl
theorem sectors_calls (id gen len:Int) (A:Option Addr) (c:Nat) (l:List LocS) (t:ByteArray) (w:World) (hr:Kd.C k59 w A l.length l) (hb:l.length≤1000) :
  Calls Tryz.prog 8 #[.agg #[.int .i64 id,.int .i64 gen,.int .i64 len,.slice A l.length c],.string t] w (Told w.heap.size (sectR id gen len l t) w):=by
 obtain⟨W,hW⟩ : ∃ W,w.alloc (.cells #[.int .i64 id,.int .i64 gen,.int .i64 len,.slice A l.length c] 24)=W:=⟨_,rfl⟩
 have HB:Aside0 (Below w.heap.size w W):=⟨by rw[←hW];exact below_alloc (Below.refl _ _) _⟩
 have HX:Aside0 (Blk W w.heap.size #[.int .i64 id,.int .i64 gen,.int .i64 len,.slice A l.length c] 24):=⟨by rw[←hW];exact Blk.new w _ _⟩
 have HC:=Aside0.mk (Kd.C_below hr HB.out)
 have HW:=Lib.hid hW
 have HL:=Lib.hid hb
 clear hW hr hb
 go_enter Tryz.func8,Tryz.ntmps8
 go_wp2_with (first|(refine gate_ (.load 24 (.tmp 2)) rfl ?_;rw[HW.out];clear HW;refine wpList_load_row rfl 24 (.tmp 2) rfl w.heap.size rfl _ #[.int .i64 id,.int .i64 gen,.int .i64 len,.slice A l.length c] (0,0) _ HX.out Tryz.underlying24 rfl (by kernel_rfl) ?_;simp only[Act.put,zA,zB,zC]))
 refine(vol_calls id gen len A l.length c l W HC.out rfl HL.out).mono ?_
 rintro e w1 ⟨rfl,b1⟩
 replace HB:=Aside0.mk (below2 HB.out HB.out.size b1)
 replace HX:=Aside0.mk (HX.out.keep b1)
 replace HC:=Aside0.mk (Kd.C_below HC.out b1)
 clear b1
 cases hv:volP id gen len l with
 | false=>
  have HR:=Lib.hid (show sectR id gen len l t=([],1)by unfold sectR;rw[if_neg (by rw[hv];simp)])
  clear hv
  go_wp2_with fail
  go_ret2
  exact⟨none,0,by rw[HR.out];rfl,by rw[HR.out];exact Kd.R_nil _ _ _ _ _,HB.out⟩
 | true=>
  obtain⟨x0,x1,x2,x3⟩:=cells4 HX.out
  by_cases hs:(t.size:Int)=len
  case neg=>
   have hn:((t.size:Int) != len)=true:=by rw[bne_iff_ne];exact hs
   have HR:=Lib.hid (show sectR id gen len l t=([],1)by unfold sectR;rw[if_neg (fun h=>hs h.2)])
   clear hv hs
   go_wp2_with fail
   go_ret2
   exact⟨none,0,by rw[HR.out];rfl,by rw[HR.out];exact Kd.R_nil _ _ _ _ _,HB.out⟩
  have hn:((t.size:Int) != len)=false:=by rw[hs];simp
  obtain⟨PT,hPT⟩ : ∃ PT,partsN t.data.toList=PT:=⟨_,rfl⟩
  have hz:t.data.toList.length≤384:=by rw[size_data];have:=(volP_len hv).1;omega
  have HR:=Lib.hid (show sectR id gen len l t=(secK id gen l PT 9,0)by unfold sectR;rw[if_pos ⟨hv,hs⟩,hPT])
  have HSH:=Aside0.mk (show shR t.data.toList=(PT,0)by unfold shR;rw[if_neg (by omega),←hPT];rfl)
  have HE:=Aside0.mk (show encR PT=(encL PT,0)by unfold encR;rw[if_pos ⟨by rw[←hPT];rfl,by rw[←hPT];exact parts_even _ hz⟩])
  have HZ:=Aside0.mk (show ∀ x∈PT,x.size≤140737488355328 by rw[←hPT];exact parts_size _ hz)
  have H9:=Lib.hid (volP_len hv).2.2
  clear hv hs hPT hz
  go_wp2_with fail
  refine(needle_Shards.calls t PT 0 _ (by unfold needle_Shards.f;rw[HSH.out])).mono ?_
  rintro e w2 ⟨v2,rfl,ho2,b1⟩
  replace HB:=Aside0.mk (below2 HB.out HB.out.size b1)
  replace HX:=Aside0.mk (HX.out.keep b1)
  replace HC:=Aside0.mk (Kd.C_below HC.out b1)
  have HO2:=Aside0.mk ho2
  obtain⟨A2,c2,rfl⟩:=Kd.R_slice ho2
  clear b1 ho2 x0 x1 x2 x3 hn
  go_wp2_with fail
  refine(fnew_calls _).mono ?_
  rintro e w3 ⟨g,rfl,hI,_,b1⟩
  replace HB:=Aside0.mk (below2 HB.out HB.out.size b1)
  replace HX:=Aside0.mk (HX.out.keep b1)
  replace HC:=Aside0.mk (Kd.C_below HC.out b1)
  replace HO2:=Aside0.mk (Kd.R_below HO2.out b1)
  have HI:=Aside0.mk hI
  clear b1 hI
  go_wp2_with fail
  refine(encode_calls g A2 c2 PT w3 HI.out (Kd.R_reads' HO2.out).2.2 (Kd.R_reads' HO2.out).2.1 HZ.out).mono ?_
  rintro e w4 ⟨A4,c4,he4,ho4,b1⟩
  rw[HE.out]at he4 ho4
  simp only[encL_len]at he4 ho4
  subst he4
  replace HB:=Aside0.mk (below2 HB.out HB.out.size b1)
  replace HX:=Aside0.mk (HX.out.keep b1)
  replace HC:=Aside0.mk (Kd.C_below HC.out b1)
  have HO4:=Aside0.mk (show Kd.C Kd.string w4 A4 (encL PT).length (encL PT)from(Kd.R_reads' ho4).2.2)
  have hc4:9≤c4:=(Kd.R_reads' ho4).2.1
  clear b1 ho4 HO2 HI HZ
  have HW4:Aside0 (w.heap.size≤w4.heap.size):=⟨HB.out.size⟩
  have G1:Aside0 (RS w4.heap.size (.slice none 0 0) (secK id gen l PT 0) w4):=⟨Kd.R_nil _ _ _ _ _⟩
  have G2:Aside0 (Below w4.heap.size w4 w4):=⟨Below.refl _ _⟩
  go_wp2_with fail
  go_loopw [10,41] (fun v i wr=> ∃ k:Nat,k≤9∧i = .int .i64 k∧Aside0 (RS w4.heap.size v (secK id gen l PT k) wr)∧Aside0 (Below w4.heap.size w4 wr)) (fun _ i _=>9-(intOf i).toNat)
  case atStart=>exact⟨0,by omega,rfl,G1,G2⟩
  case round=>
   clear G1 G2
   obtain⟨k,hk,rfl,G1,G2⟩:=hrel
   by_cases hlt:k<9
   ·have HK:=Lib.hid hlt
    obtain⟨ad4,hA4,hck⟩:=strs_at HO4.out k (by rw[encL_len];exact hlt)
    cases hA4
    have hck:=(G2.out.cell (World.block_lt_of_cell? _ _ hck)).trans hck
    obtain⟨sk,hsk⟩ : ∃ s,strAt (encL PT) k=s:=⟨_,rfl⟩
    rw[hsk]at hck
    have HSK:=Lib.hid hsk
    clear hsk
    go_wp2_with fail
    clear hck
    have HXr:=HX.out.keep G2.out
    have HCr:=Kd.C_below HC.out G2.out
    obtain⟨x0,x1,x2,x3⟩:=cells4 HXr
    obtain⟨adl,hAl,l0,l1⟩:=at_T59 HCr (k:Int) (by omega) (by have:=H9.out;have:=HK.out;omega)
    rw[Int.toNat_natCast]at l0 l1
    cases hAl
    have hxl:=HXr.lt
    have hl0:=lt_cell l0
    have hl1:=lt_cell l1
    have hkl:k<l.length:=by rw[H9.out];exact HK.out
    clear HXr HCr
    refine region_below_tail 17 (by kernel_rfl) (by kernel_rfl) ?_
    simp only[List.take_succ_cons,List.take_zero,List.drop_succ_cons,List.drop_zero]
    repeat (first|go_big_quiet_step (fail)|(refine BigFrame.wpQuiet_want (by rfl) (fun K hK=> ?_);go_big_quiet_op;refine⟨_,fun _ _=>rfl,hK _ ?_⟩;clear hK K)|(refine q_ld 3 _ _ _ _ rfl rfl rfl rfl (ld_int _ _) (by assumption) (by assumption) ?_;simp only[Act.put,zA,zB,zC])|(refine q_ld 22 _ _ _ _ rfl rfl rfl rfl (ld_locs _ _) (by assumption) (by assumption) ?_;simp only[Act.put,zA,zB,zC])|(refine q_rd 59 _ _ (adl.add (k*2)) (.agg #[.int .i64 (rd_T59 l (k:Int)).f0,.int .i64 (rd_T59 l (k:Int)).f1]) rfl rfl rfl rfl (fun w' hw'=>ld_loc _ _ _ w' ((hw'.cell hl0).trans l0) ((hw'.cell hl1).trans l1)) ?_;simp only[Act.put,zA,zB,zC])|(refine q_go (f:=29) Tryz.func29 (by kernel_rfl) rfl #[.agg #[.int .i64 id,.int .i64 gen,.int .i64 (k:Int),.int .i64 (rd_T59 l (k:Int)).f0,.int .i64 (rd_T59 l (k:Int)).f1,.string sk]] _ _ rfl rfl rfl (by simp only[List.map_toArray,List.map_cons,List.map_nil];rfl) (fun w' _=>write_calls id gen (k:Int) (rd_T59 l (k:Int)).f0 (rd_T59 l (k:Int)).f1 sk w') ?_;simp only[Act.put,zA,zB,zC]))
    refine wpQuiet_nil ?_
    intro wm hw'
    replace G1:=Aside0.mk (Kd.R_below G1.out hw')
    replace G2:=Aside0.mk (below2 G2.out G2.out.size hw')
    clear hw' x0 x1 x2 x3 l0 l1 hxl hl0 hl1 hkl
    obtain⟨px,hpx⟩ : ∃ px,(secW id gen (k:Int) (rd_T59 l (k:Int)).f0 (rd_T59 l (k:Int)).f1 sk).1=px:=⟨_,rfl⟩
    have HPX:Hid (px=secX id gen l k (strAt (encL PT) k)):=Lib.hid (by rw[←hpx,HSK.out];rfl)
    rw[hpx]
    clear hpx HSK
    go_wp2_with (first|(at_builtin;refine Kd.R_append Kd.string (w0:=w4) w4.heap.size rfl (.tmp 62) (.tmp 64) 27 9 (.string ⟨#[]⟩) 16 rfl Tryz.underlying27 infoSt rfl (by decide) (by decide) u10 (secK id gen l PT k) px [.string px] (fun j=>w4.heap.size≤j) (fun _=>False) rfl rfl rfl (fun _ hk=>hk.elim) (fun j hj=>Nat.le_trans G2.out.size hj) G1.out G2.out G2.out.size (by rw[secK_len];have:=HK.out;omega) ?_;intro v1 w3 hR hB hg _;rw[HPX.out,secK_succ]at hR;have G1:=Aside0.mk hR;have G2:=Aside0.mk hB;clear hR hB hg))
    go_roundw
    case rel=>exact⟨k+1,HK.out,by go_num,G1,G2⟩
    case measure=>have:=HK.out;simp[intOf];omega
   ·obtain rfl:k=9:=by omega
    have HBr:=below2 HB.out HB.out.size G2.out
    have hR:=Kd.R_mono (Kd.R_lower G1.out HW4.out) (fun k hk=>Nat.le_trans HW4.out hk)
    obtain⟨A',c',hv⟩:=Kd.R_slice hR
    subst hv
    rw[secK_len]at hR
    have HRR:=Aside0.mk hR
    clear hR
    go_wp2_with fail
    go_ret2
    exact⟨A',c',by rw[HR.out];simp only[secK_len];rfl,by rw[HR.out];simp only[secK_len];exact HRR.out,HBr⟩
def stripe_Sectors.f (a0_0 a0_1 a0_2:Int) (l0_3:List LocS) (a1:ByteArray):Option (List ByteArray×Int):=if l0_3.length≤1000 then some (sectR a0_0 a0_1 a0_2 l0_3 a1)else none
theorem stripe_Sectors.calls (a0_0 a0_1 a0_2:Int) (A0_3:Option Addr) (c0_3:Nat) (l0_3:List LocS) (a1:ByteArray) (r1:List ByteArray) (r2:Int) (w:World) (hr0_3:Kd.C k59 w A0_3 l0_3.length l0_3) (_hc0_3:l0_3.length≤c0_3) (h:stripe_Sectors.f a0_0 a0_1 a0_2 l0_3 a1=some (r1,r2)) :
  Calls Tryz.prog 8 #[.agg #[.int .i64 a0_0,.int .i64 a0_1,.int .i64 a0_2,.slice A0_3 l0_3.length c0_3],.string a1] w fun e w'=> ∃ v0_:Value,e = .returned (.tuple #[v0_,.int .i64 r2])∧Kd.R Kd.string 9 w' w.heap.size (fun _=>True) v0_ r1∧Below w.heap.size w w':=by
 unfold stripe_Sectors.f at h
 split at h
 ·rename_i hs
  have e:=Option.some.inj h
  refine(sectors_calls a0_0 a0_1 a0_2 A0_3 c0_3 l0_3 a1 w hr0_3 hs).mono ?_
  rw[e]
  rintro e w' ⟨A,c,rfl,hR,hB⟩
  exact⟨_,rfl,Kd.R_mono hR (fun _ _=>trivial),hB⟩
 ·cases h
end Go.Proofs.YtdcfonmjbelgbaaGreatDoor
end
section
namespace Go.Proofs.YtdcfonmjbelgbaaGreatDoor
open Go.RowKit Q YtdcfonmjbelgbaaGreatDoorW.PrintWords YtdcfonmjbelgbaaGreatDoorW.PrintLast YtdcfonmjbelgbaaGreatDoorW.PrintMore
def joinF (len:Int) (sh:List ByteArray) (hv:List Bool):ByteArray×Int:=if (fillR sh hv).2=0 then joinR ((fillR sh hv).1.take 6) len else (⟨#[]⟩,(fillR sh hv).2)
theorem fillR_zero {sh:List ByteArray} {hv:List Bool} (h:(fillR sh hv).2=0):(fillR sh hv).1.length=9:=by
 unfold fillR encR at h ⊢
 repeat' split at h
 all_goals first|(exact absurd h (by decide))|skip
 rw[if_pos (by assumption),if_pos (by assumption),if_neg (by assumption),if_pos (by assumption)]
 exact encL_len _
theorem strjoin_calls (id gen len:Int) (A:Option Addr) (n c:Nat) (A1:Option Addr) (c1:Nat) (sh:List ByteArray) (A2:Option Addr) (c2:Nat) (hv:List Bool) (w:World) (hr1:Kd.C Kd.string w A1 sh.length sh) (hc1:sh.length≤c1) (hr2:Kd.C Kd.bool w A2 hv.length hv) (hc2:hv.length≤c2) (hz : ∀ s∈sh,s.size≤140737488355328) :
  Calls Tryz.prog 34 #[.agg #[.int .i64 id,.int .i64 gen,.int .i64 len,.slice A n c],.slice A1 sh.length c1,.slice A2 hv.length c2] w fun e w'=>e = .returned (.tuple #[.string (joinF len sh hv).1,.int .i64 (joinF len sh hv).2])∧Below w.heap.size w w':=by
 have hb0:Below w.heap.size w (w.alloc (.cells #[.int .i64 id,.int .i64 gen,.int .i64 len,.slice A n c] 24)):=below_alloc (Below.refl _ _) _
 have hx0:=Blk.new w #[.int .i64 id,.int .i64 gen,.int .i64 len,.slice A n c] 24
 go_enter Tryz.func34,Tryz.ntmps34
 go_wp2_with fail
 generalize w.alloc (.cells #[.int .i64 id,.int .i64 gen,.int .i64 len,.slice A n c] 24)=W at *
 refine(fnew_calls _).mono ?_
 rintro e w1 ⟨g,rfl,hI,_,b1⟩
 have HB:=Aside0.mk (below2 hb0 hb0.size b1)
 have HX:=Aside0.mk (hx0.keep b1)
 have HI:=Aside0.mk hI
 have H1:=Aside0.mk (Kd.C_below hr1 HB.out)
 have H2:=Aside0.mk (Kd.C_below hr2 HB.out)
 have HZ:=Aside0.mk hz
 have HC1:=Lib.hid hc1
 have HC2:=Lib.hid hc2
 clear hb0 hx0 b1 hI hr1 hr2 hz hc1 hc2
 go_wp2_with fail
 refine(fill_calls g A1 c1 sh A2 c2 hv w1 HI.out H1.out HC1.out HZ.out H2.out HC2.out).mono ?_
 rintro e w4 ⟨A4,c4,rfl,ho4,b1⟩
 replace HB:=Aside0.mk (below2 HB.out HB.out.size b1)
 replace HX:=Aside0.mk (HX.out.keep b1)
 have HO4:=Aside0.mk ho4
 clear b1 ho4 HI H1 H2 HZ
 by_cases h0:(fillR sh hv).2=0
 ·have hl:=fillR_zero h0
  have HJ:=Lib.hid (show joinF len sh hv=joinR ((fillR sh hv).1.take 6) len by unfold joinF;rw[if_pos h0])
  rw[h0,hl]
  have HC4:=Aside0.mk (Kd.R_reads' HO4.out).2.2
  have hc4:=(Kd.R_reads' HO4.out).2.1
  rw[hl]at hc4
  generalize (fillR sh hv).1=E at *
  have H6:=Lib.hid (show (E.take 6).length=6 by rw[List.length_take];omega)
  have hT:=strs_take HC4.out 6 (by omega)
  have HT:=Aside0.mk hT
  clear HO4 HC4 hT h0 hl
  have HCL:Aside0 (∀ w',Below w4.heap.size w4 w'→Calls Tryz.prog 56 #[.slice A4 6 c4,.int .i64 len] w' fun e w''=>e = .returned (.tuple #[.string (joinR (E.take 6) len).1,.int .i64 (joinR (E.take 6) len).2])∧Below w'.heap.size w' w''):=⟨fun w' hw'=>by
   have h:=njoin_walk A4 c4 (E.take 6) len w' (Kd.C_below HT.out hw') (by rw[H6.out];omega)
   rw[H6.out]at h
   exact h⟩
  go_wp2_with fail
  obtain⟨x0,x1,x2,x3⟩:=cells4 HX.out
  have hxl:=HX.out.lt
  refine region_below_tail 8 (by kernel_rfl) (by kernel_rfl) ?_
  simp only[List.take_succ_cons,List.take_zero,List.drop_succ_cons,List.drop_zero]
  repeat (first|go_big_quiet_step (fail)|(refine BigFrame.wpQuiet_want (by rfl) (fun K hK=> ?_);go_big_quiet_op;refine⟨_,fun _ _=>rfl,hK _ ?_⟩;clear hK K)|(refine q_ld 3 _ _ _ _ rfl rfl rfl rfl (ld_int _ _) (by assumption) (by assumption) ?_;simp only[Act.put,zA,zB,zC])|(refine q_go (f:=56) Tryz.func56 (by kernel_rfl) rfl #[.slice A4 6 c4,.int .i64 len] _ _ rfl rfl rfl (by simp only[List.map_toArray,List.map_cons,List.map_nil];rfl) HCL.out ?_;simp only[Act.put,zA,zB,zC]))
  refine wpQuiet_nil ?_
  intro wm hw'
  replace HB:=Aside0.mk (below2 HB.out HB.out.size hw')
  clear hw' x0 x1 x2 x3 hxl
  go_wp2_with fail
  go_ret2
  exact⟨by rw[HJ.out];rfl,HB.out⟩
 ·have HJ:=Lib.hid (show joinF len sh hv=(⟨#[]⟩,(fillR sh hv).2)by unfold joinF;rw[if_neg h0])
  have hn:((fillR sh hv).2 != 0)=true:=by rw[bne_iff_ne];exact h0
  clear h0 HO4
  generalize (fillR sh hv).2=z at *
  go_wp2_with fail
  go_ret2
  exact⟨by rw[HJ.out];rfl,HB.out⟩
def stripe_join.f (_a0_0 _a0_1 a0_2:Int) (_l0_3:List LocS) (l1:List ByteArray) (l2:List Bool):Option (ByteArray×Int):=if l1.all (fun s=>decide (s.size≤140737488355328))=true then some (joinF a0_2 l1 l2)else none
theorem stripe_join.calls (a0_0 a0_1 a0_2:Int) (A0_3:Option Addr) (c0_3:Nat) (l0_3:List LocS) (A1:Option Addr) (c1:Nat) (l1:List ByteArray) (A2:Option Addr) (c2:Nat) (l2:List Bool) (r1:ByteArray) (r2:Int) (w:World) (_hr0_3:Kd.C k59 w A0_3 l0_3.length l0_3) (_hc0_3:l0_3.length≤c0_3) (hr1:Kd.C Kd.string w A1 l1.length l1) (hc1:l1.length≤c1) (hr2:Kd.C Kd.bool w A2 l2.length l2) (hc2:l2.length≤c2) (h:stripe_join.f a0_0 a0_1 a0_2 l0_3 l1 l2=some (r1,r2)) :
  Calls Tryz.prog 34 #[.agg #[.int .i64 a0_0,.int .i64 a0_1,.int .i64 a0_2,.slice A0_3 l0_3.length c0_3],.slice A1 l1.length c1,.slice A2 l2.length c2] w fun e w'=>e = .returned (.tuple #[.string r1,.int .i64 r2])∧Below w.heap.size w w':=by
 unfold stripe_join.f at h
 split at h
 ·rename_i hs
  have e:=Option.some.inj h
  have:=strjoin_calls a0_0 a0_1 a0_2 A0_3 l0_3.length c0_3 A1 c1 l1 A2 c2 l2 w hr1 hc1 hr2 hc2 (fun s hm=>by have:=List.all_eq_true.1 hs s hm;simpa using this)
  rw[e]at this
  exact this
 ·cases h
end Go.Proofs.YtdcfonmjbelgbaaGreatDoor
end
section
namespace Go.Proofs.YtdcfonmjbelgbaaGreatDoor
open Go.RowKit Q YtdcfonmjbelgbaaGreatDoorW.PrintWords YtdcfonmjbelgbaaGreatDoorW.PrintLast YtdcfonmjbelgbaaGreatDoorW.PrintMore
def rdr (id gen len:Int) (S:Value) (sh:List ByteArray) (hv:List Bool) (tk gd:Int):Array Value:=
 ([Value.int .i64 id,Value.int .i64 gen,Value.int .i64 len,S]++(sh.map Value.string++(hv.map Value.bool++[Value.int .i64 tk,Value.int .i64 gd]))).toArray
structure Rd (W:World) (g:Nat) (id gen len:Int) (l:List LocS) (sh:List ByteArray) (hv:List Bool) (tk gd:Int):Prop where
 ex : ∃ A c,Blk W g (rdr id gen len (.slice A l.length c) sh hv tk gd) 75∧l.length≤c ∧ ∃ W0:World,Kd.C k59 W0 A l.length l∧W0.heap.size≤g∧Below W0.heap.size W0 W
 l9:l.length=9
 sh9:sh.length=9
 hv9:hv.length=9
theorem Rd.keep {W W':World} {g:Nat} {id gen len:Int} {l:List LocS} {sh:List ByteArray} {hv:List Bool} {tk gd:Int} (h:Rd W g id gen len l sh hv tk gd) (b:Below W.heap.size W W'):Rd W' g id gen len l sh hv tk gd:=by
 obtain⟨⟨A,c,hb,hc,W0,hC,hg,hB⟩,h1,h2,h3⟩:=h
 exact⟨⟨A,c,hb.keep b,hc,W0,hC,hg,hB.trans (b.mono (Nat.le_trans hg (Nat.le_of_lt hb.lt)))⟩,h1,h2,h3⟩
theorem infoLoc:(Tryz.prog.info? 59).map (fun i=>(i.zero,i.size,i.bytes))=some (some (.agg #[(.int .i64 0),(.int .i64 0)]),2,16):=by kernel_rfl
theorem lit_zero {α:Type} (d:Kd α) (e:Nat) (w:World):d.R e (w.alloc (.cells #[] e)) w.heap.size (fun j=>w.heap.size≤j) (.slice (some ⟨w.heap.size,0,none⟩) 0 0) []:=
 ⟨fun k hk=>by
  have:w.heap.size=k:=by simpa [Value.ownBlock] using hk
  omega,OwnRow.lit w w.heap.size (inner:=[]) (Reps.none _ _) (Nat.le_refl _) (Nat.zero_le _)⟩
theorem lclone_calls (ad:Addr) (n c:Nat) (l:List LocS) (w:World) (hr:Kd.C k59 w (some ad) n l) (hn:n=l.length) (hb:l.length≤1000) :
  Calls Tryz.prog 37 #[.slice (some ad) n c] w fun e w'=> ∃ A' c',e = .returned (.slice A' l.length c')∧Kd.R k59 59 w' w.heap.size (fun j=>w.heap.size≤j) (.slice A' l.length c') l∧Below w.heap.size w w':=by
 have hnil : ∀ w,(binOp .eql 22 (.slice (some ad) n c) (.slice none 0 0)).run Tryz.prog w = .ok (.bool false) w:=fun _=>by kernel_rfl
 have HC:=Aside0.mk hr
 have HN:=Lib.hid hn
 have HL:=Lib.hid hb
 clear hr hn hb
 go_enter Tryz.func37,Tryz.ntmps37
 go_wp2_with (first|(at_builtin;refine Kd.R_append_rows k59 (Rr:=k59.K (w.alloc (.cells #[] 59))) (w0:=w) w.heap.size rfl (.tmp 5) (.tmp 6) 22 59 (.agg #[(.int .i64 0),(.int .i64 0)]) 16 rfl Tryz.underlying22 infoLoc rfl (by decide) (by decide) (.slice (some ⟨w.heap.size,0,none⟩) 0 0) [] l (some ad) n c (fun j=>w.heap.size≤j) (fun _=>False) rfl rfl (lit_zero k59 59 w) (Kd.C_below HC.out (below_alloc (Below.refl _ _) _)) (fun x cs e=>by rw[k59_open e];exact k59_mkM _ _ _ _) (fun _ hk=>hk.elim) (fun j hj=>Nat.le_trans (below_alloc (Below.refl w.heap.size w) (.cells #[] 59)).size hj) (below_alloc (Below.refl _ _) _) (below_alloc (Below.refl w.heap.size w) _).size (by have:=HN.out;have:=HL.out;simp only[List.length_nil];omega) ?_;intro v1 w1 hR hB hg _;have HR:=Aside0.mk hR;have HB:=Aside0.mk hB;clear hR hB hg))
 rw[List.nil_append]at HR
 obtain⟨A1,c1,rfl⟩:=Kd.R_slice HR.out
 go_ret
 exact⟨A1,c1,rfl,HR.out,HB.out⟩
theorem sread_calls (id gen len:Int) (A:Option Addr) (c:Nat) (l:List LocS) (w:World) (hr:Kd.C k59 w A l.length l) (hb:l.length≤1000) :
  Calls Tryz.prog 17 #[.agg #[.int .i64 id,.int .i64 gen,.int .i64 len,.slice A l.length c]] w fun e w'=>(volP id gen len l=true∧(∃ g,e = .returned (.tuple #[.pointer (some ⟨g,0,none⟩),.int .i64 0])∧Rd w' g id gen len l (List.replicate 9 ⟨#[]⟩) (List.replicate 9 false) 0 0∧w.heap.size≤g)∧Below w.heap.size w w')∨(volP id gen len l=false∧e = .returned (.tuple #[.pointer none,.int .i64 1])∧Below w.heap.size w w'):=by
 obtain⟨W,hW⟩ : ∃ W,w.alloc (.cells #[.int .i64 id,.int .i64 gen,.int .i64 len,.slice A l.length c] 24)=W:=⟨_,rfl⟩
 have HB:Aside0 (Below w.heap.size w W):=⟨by rw[←hW];exact below_alloc (Below.refl _ _) _⟩
 have HX:Aside0 (Blk W w.heap.size #[.int .i64 id,.int .i64 gen,.int .i64 len,.slice A l.length c] 24):=⟨by rw[←hW];exact Blk.new w _ _⟩
 have HC:=Aside0.mk (Kd.C_below hr HB.out)
 have HW:=Lib.hid hW
 have HL:=Lib.hid hb
 clear hW hr hb
 go_enter Tryz.func17,Tryz.ntmps17
 go_wp2_with (first|(refine gate_ (.load 24 (.tmp 1)) rfl ?_;rw[HW.out];clear HW;refine wpList_load_row rfl 24 (.tmp 1) rfl w.heap.size rfl _ #[.int .i64 id,.int .i64 gen,.int .i64 len,.slice A l.length c] (0,0) _ HX.out Tryz.underlying24 rfl (by kernel_rfl) ?_;simp only[Act.put,zA,zB,zC]))
 refine(vol_calls id gen len A l.length c l W HC.out rfl HL.out).mono ?_
 rintro e w1 ⟨rfl,b1⟩
 replace HB:=Aside0.mk (below2 HB.out HB.out.size b1)
 replace HX:=Aside0.mk (HX.out.keep b1)
 replace HC:=Aside0.mk (Kd.C_below HC.out b1)
 clear b1
 cases hv:volP id gen len l with
 | false=>
  have HV:=Lib.hid hv
  clear hv
  go_wp2_with fail
  go_ret2
  exact .inr ⟨HV.out,rfl,HB.out⟩
 | true=>
  have H9:=Lib.hid (volP_len hv).2.2
  have HV:=Lib.hid hv
  clear hv
  obtain⟨x0,x1,x2,x3⟩:=cells4 HX.out
  obtain⟨ad,hA,_⟩:=at_T59 HC.out 0 (by omega) (by rw[H9.out];decide)
  subst hA
  go_wp2_with fail
  have HX0:=Aside0.mk HX.out.lt
  refine(lclone_calls ad l.length c l _ HC.out rfl HL.out).mono ?_
  rintro e w2 ⟨A2,c2,rfl,hC2,b1⟩
  replace HB:=Aside0.mk (below2 HB.out HB.out.size b1)
  replace HX:=Aside0.mk (HX.out.keep b1)
  have HC2:=Aside0.mk (Kd.R_far (p:=⟨w.heap.size,3,none⟩) hC2 (fun k hk=>by have:=HX0.out;show k≠w.heap.size;omega) (.slice A2 l.length c2))
  clear b1 x0 x1 x2 x3 hC2 HC
  obtain⟨x0,x1,x2,x3⟩:=cells4 HX.out
  have f3:=HX.out.free 3
  go_wp2_with (first|(refine gate_ (.load 24 (.tmp 1)) rfl ?_;refine wpList_load_row rfl 24 (.tmp 1) rfl w.heap.size rfl _ #[.int .i64 id,.int .i64 gen,.int .i64 len,.slice A2 l.length c2] (0,0) _ (HX.out.set 3 (.slice A2 l.length c2)) Tryz.underlying24 rfl (by kernel_rfl) ?_;simp only[Act.put,zA,zB,zC]))
  go_ret2
  refine .inl ⟨HV.out,⟨w2.heap.size,rfl,⟨⟨A2,c2,?_,(Kd.R_reads' HC2.out).2.1,w2.setCell ⟨w.heap.size,3,none⟩ (.slice A2 l.length c2),(Kd.R_reads' HC2.out).2.2,?_,below_alloc (Below.refl _ _) _⟩,H9.out,rfl,rfl⟩,HB.out.size⟩,below_alloc (HB.out.setCell (p:=⟨w.heap.size,3,none⟩) (Nat.le_refl _) _) _⟩
  ·have h:=Blk.new (w2.setCell ⟨w.heap.size,3,none⟩ (.slice A2 l.length c2)) (rdr id gen len (.slice A2 l.length c2) (List.replicate 9 ⟨#[]⟩) (List.replicate 9 false) 0 0) 75
   rw[World.size_setCell]at h
   exact h
  ·rw[World.size_setCell]
   exact Nat.le_refl _
end Go.Proofs.YtdcfonmjbelgbaaGreatDoor
end
section
namespace Go.Proofs.YtdcfonmjbelgbaaGreatDoor
open Go.RowKit Q YtdcfonmjbelgbaaGreatDoorW.PrintWords YtdcfonmjbelgbaaGreatDoorW.PrintLast YtdcfonmjbelgbaaGreatDoorW.PrintMore
theorem nine {α:Type} {l:List α} (h:l.length=9) : ∃ a b c d e f g i j,l=[a,b,c,d,e,f,g,i,j]:=by
 match l,h with
 | [a,b,c,d,e,f,g,i,j],_=>exact⟨a,b,c,d,e,f,g,i,j,rfl⟩
section
variable {id gen len:Int} {S:Value} {sh:List ByteArray} {hv:List Bool} {tk gd:Int}
theorem rdr_sh (h1:sh.length=9) (i:Nat) (hi:i<9):(rdr id gen len S sh hv tk gd)[4+i]? = some (.string (strAt sh i)):=by
 obtain⟨a,b,c,d,e,f,g,p,q,rfl⟩:=nine h1
 match i,hi with
 | 0,_|1,_|2,_|3,_|4,_|5,_|6,_|7,_|8,_=>rfl
theorem rdr_hv (h1:sh.length=9) (h2:hv.length=9) (i:Nat) (hi:i<9):(rdr id gen len S sh hv tk gd)[13+i]? = some (.bool (hv.getD i false)):=by
 obtain⟨a,b,c,d,e,f,g,p,q,rfl⟩:=nine h1
 obtain⟨a',b',c',d',e',f',g',p',q',rfl⟩:=nine h2
 match i,hi with
 | 0,_|1,_|2,_|3,_|4,_|5,_|6,_|7,_|8,_=>rfl
theorem rdr_tk (h1:sh.length=9) (h2:hv.length=9):(rdr id gen len S sh hv tk gd)[22]? = some (.int .i64 tk):=by
 obtain⟨a,b,c,d,e,f,g,p,q,rfl⟩:=nine h1
 obtain⟨a',b',c',d',e',f',g',p',q',rfl⟩:=nine h2
 rfl
theorem rdr_gd (h1:sh.length=9) (h2:hv.length=9):(rdr id gen len S sh hv tk gd)[23]? = some (.int .i64 gd):=by
 obtain⟨a,b,c,d,e,f,g,p,q,rfl⟩:=nine h1
 obtain⟨a',b',c',d',e',f',g',p',q',rfl⟩:=nine h2
 rfl
theorem set_sh (h1:sh.length=9) (i:Nat) (hi:i<9) (s:ByteArray):(rdr id gen len S sh hv tk gd).setIfInBounds (4+i) (.string s)=rdr id gen len S (sh.set i s) hv tk gd:=by
 obtain⟨a,b,c,d,e,f,g,p,q,rfl⟩:=nine h1
 unfold rdr
 rw[List.setIfInBounds_toArray]
 match i,hi with
 | 0,_|1,_|2,_|3,_|4,_|5,_|6,_|7,_|8,_=>rfl
theorem set_hv (h1:sh.length=9) (h2:hv.length=9) (i:Nat) (hi:i<9) (x:Bool):(rdr id gen len S sh hv tk gd).setIfInBounds (13+i) (.bool x)=rdr id gen len S sh (hv.set i x) tk gd:=by
 obtain⟨a,b,c,d,e,f,g,p,q,rfl⟩:=nine h1
 obtain⟨a',b',c',d',e',f',g',p',q',rfl⟩:=nine h2
 unfold rdr
 rw[List.setIfInBounds_toArray]
 match i,hi with
 | 0,_|1,_|2,_|3,_|4,_|5,_|6,_|7,_|8,_=>rfl
theorem set_tk (h1:sh.length=9) (h2:hv.length=9) (x:Int):(rdr id gen len S sh hv tk gd).setIfInBounds 22 (.int .i64 x)=rdr id gen len S sh hv x gd:=by
 obtain⟨a,b,c,d,e,f,g,p,q,rfl⟩:=nine h1
 obtain⟨a',b',c',d',e',f',g',p',q',rfl⟩:=nine h2
 unfold rdr
 rw[List.setIfInBounds_toArray]
 rfl
theorem set_gd (h1:sh.length=9) (h2:hv.length=9) (x:Int):(rdr id gen len S sh hv tk gd).setIfInBounds 23 (.int .i64 x)=rdr id gen len S sh hv tk x:=by
 obtain⟨a,b,c,d,e,f,g,p,q,rfl⟩:=nine h1
 obtain⟨a',b',c',d',e',f',g',p',q',rfl⟩:=nine h2
 unfold rdr
 rw[List.setIfInBounds_toArray]
 rfl
end
def wantsF (tk gd:Int):Int:=if gd=6∨tk=9 then -1 else tk
theorem wants_calls {w:World} {g:Nat} {id gen len:Int} {l:List LocS} {sh:List ByteArray} {hv:List Bool} {tk gd:Int} (h:Rd w g id gen len l sh hv tk gd):Calls Tryz.prog 19 #[.pointer (some ⟨g,0,none⟩)] w fun e w'=>e = .returned (.int .i64 (wantsF tk gd))∧w=w':=by
 obtain⟨⟨A,c,hb,-⟩,-,h1,h2⟩:=h
 have c22:=hb.cell (rdr_tk h1 h2)
 have c23:=hb.cell (rdr_gd h1 h2)
 clear hb h1 h2
 unfold wantsF
 by_cases h6:gd=6
 ·have q6:(gd==6)=true:=by simpa using h6
  rw[if_pos (.inl h6)]
  clear h6
  go_enter Tryz.func19,Tryz.ntmps19
  go_wp2
  go_ret
  exact⟨rfl,rfl⟩
 ·have q6:(gd==6)=false:=by simpa using h6
  by_cases h9:tk=9
  ·have q9:(tk==9)=true:=by simpa using h9
   rw[if_pos (.inr h9)]
   clear h6 h9
   go_enter Tryz.func19,Tryz.ntmps19
   go_wp2
   go_ret
   exact⟨rfl,rfl⟩
  ·have q9:(tk==9)=false:=by simpa using h9
   rw[if_neg (by rintro(h|h);exact h6 h;exact h9 h)]
   clear h6 h9
   go_enter Tryz.func19,Tryz.ntmps19
   go_wp2
   go_ret
   exact⟨rfl,rfl⟩
def rtextF (len gd:Int) (sh:List ByteArray) (hv:List Bool):ByteArray×Int:=if gd<6 then (⟨#[]⟩,2)else joinF len sh hv
theorem C_cellsAt {α:Type} {enc:α→Value} {h1 : ∀ x,(enc x).oneCell'=true} {w:World} {g off:Nat} (xs:List α) (hn:xs.length≤9223372036854775807) (h : ∀ j p,xs[j]? = some p→w.cell? ⟨g,off+j,none⟩=some (enc p)):Kd.C (Kd.scalar enc h1) w (some ⟨g,off,none⟩) xs.length xs:=by
 refine⟨rfl,hn,fun _=>⟨_,rfl,fun j p hj=>⟨[enc p],rfl,rfl,fun i u hu=> ?_⟩⟩⟩
 have hi:i=0:=by
  rcases i with _|i
  ·rfl
  ·simp at hu
 subst hi
 have hu:enc p=u:=by simpa using hu
 subst hu
 have ha:(⟨g,off,none⟩:Addr).add (j*(Kd.scalar enc h1).sz+0)=⟨g,off+j,none⟩:=by
  show (⟨g,off,none⟩:Addr).add (j*1+0)=_
  rw[Nat.mul_one,Nat.add_zero]
  simp[Addr.add]
 rw[ha]
 exact h j p hj
theorem Rd.shC {w:World} {g:Nat} {id gen len:Int} {l:List LocS} {sh:List ByteArray} {hv:List Bool} {tk gd:Int} (h:Rd w g id gen len l sh hv tk gd):Kd.C Kd.string w (some ⟨g,4,none⟩) sh.length sh:=by
 obtain⟨⟨A,c,hb,-⟩,-,h1,h2⟩:=h
 refine C_cellsAt sh (by omega) (fun j p hj=> ?_)
 have hlt:j<sh.length:=(List.getElem?_eq_some_iff.1 hj).1
 have h3:=hb.cell (rdr_sh (id:=id) (gen:=gen) (len:=len) (S:=.slice A l.length c) (hv:=hv) (tk:=tk) (gd:=gd) h1 j (by omega))
 have e:strAt sh j=p:=by
  unfold strAt
  rw[List.getD_eq_getElem?_getD,hj]
  rfl
 rw[e]at h3
 exact h3
theorem Rd.hvC {w:World} {g:Nat} {id gen len:Int} {l:List LocS} {sh:List ByteArray} {hv:List Bool} {tk gd:Int} (h:Rd w g id gen len l sh hv tk gd):Kd.C Kd.bool w (some ⟨g,13,none⟩) hv.length hv:=by
 obtain⟨⟨A,c,hb,-⟩,-,h1,h2⟩:=h
 refine C_cellsAt hv (by omega) (fun j p hj=> ?_)
 have hlt:j<hv.length:=(List.getElem?_eq_some_iff.1 hj).1
 have h3:=hb.cell (rdr_hv (id:=id) (gen:=gen) (len:=len) (S:=.slice A l.length c) (tk:=tk) (gd:=gd) h1 h2 j (by omega))
 have e:hv.getD j false=p:=by
  rw[List.getD_eq_getElem?_getD,hj]
  rfl
 rw[e]at h3
 exact h3
theorem ld_volS {w:World} {g:Nat} {id gen len:Int} {S:Value} {sh:List ByteArray} {hv:List Bool} {tk gd:Int} (h:Blk w g (rdr id gen len S sh hv tk gd) 75) (hS:S.oneCell'=true):(Instr.loadAt 24 (.pointer (some ⟨g,0,none⟩))).run Tryz.prog w = .ok (.agg #[.int .i64 id,.int .i64 gen,.int .i64 len,S]) w:=by
 have hu:=Tryz.underlying24
 have c0:=h.cell (i:=0) (v:=.int .i64 id) rfl
 have c1:=h.cell (i:=1) (v:=.int .i64 gen) rfl
 have c2:=h.cell (i:=2) (v:=.int .i64 len) rfl
 have c3:=h.cell (i:=3) (v:=S) rfl
 go_simp
theorem rtext_calls {w:World} {g:Nat} {id gen len:Int} {l:List LocS} {sh:List ByteArray} {hv:List Bool} {tk gd:Int} (h:Rd w g id gen len l sh hv tk gd) (hz : ∀ s∈sh,s.size≤140737488355328):Calls Tryz.prog 23 #[.pointer (some ⟨g,0,none⟩)] w fun e w'=>e = .returned (.tuple #[.string (rtextF len gd sh hv).1,.int .i64 (rtextF len gd sh hv).2])∧Below w.heap.size w w':=by
 have HR:=Aside0.mk h
 obtain⟨⟨A,c,hb,-⟩,-,h1,h2⟩:=h
 have HX:=Aside0.mk hb
 have HZ:=Aside0.mk hz
 have H1:=Lib.hid h1
 have H2:=Lib.hid h2
 have c23:=hb.cell (rdr_gd h1 h2)
 clear hb h1 h2 hz
 unfold rtextF
 by_cases h6:gd<6
 ·rw[if_pos h6]
  go_enter Tryz.func23,Tryz.ntmps23
  go_wp2
  go_ret2
  exact⟨rfl,Below.refl _ _⟩
 ·rw[if_neg h6]
  have HJ:Aside0 (∀ w',Below w.heap.size w w'→Calls Tryz.prog 34 #[.agg #[.int .i64 id,.int .i64 gen,.int .i64 len,.slice A l.length c],.slice (some ⟨g,4,none⟩) 9 9,.slice (some ⟨g,13,none⟩) 9 9] w' fun e w''=>e = .returned (.tuple #[.string (joinF len sh hv).1,.int .i64 (joinF len sh hv).2])∧Below w'.heap.size w' w''):=⟨fun w' hw'=>by
   have hk:=HR.out.keep hw'
   have hh:=strjoin_calls id gen len A l.length c (some ⟨g,4,none⟩) 9 sh (some ⟨g,13,none⟩) 9 hv w' hk.shC (by rw[H1.out];decide) hk.hvC (by rw[H2.out];decide) HZ.out
   rw[H1.out,H2.out]at hh
   exact hh⟩
  go_enter Tryz.func23,Tryz.ntmps23
  go_wp2_with fail
  refine region_below_tail 15 (by kernel_rfl) (by kernel_rfl) ?_
  simp only[List.take_succ_cons,List.take_zero,List.drop_succ_cons,List.drop_zero]
  repeat (first|go_big_quiet_step (fail)|(refine BigFrame.wpQuiet_want (by rfl) (fun K hK=> ?_);go_big_quiet_op;refine⟨_,fun _ _=>rfl,hK _ ?_⟩;clear hK K)|(refine q_rd 24 _ _ ⟨g,0,none⟩ (.agg #[.int .i64 id,.int .i64 gen,.int .i64 len,.slice A l.length c]) rfl rfl rfl rfl (fun w' hw'=>ld_volS (HX.out.keep hw') rfl) ?_;simp only[Act.put,zA,zB,zC])|(refine q_go (f:=34) Tryz.func34 (by kernel_rfl) rfl #[.agg #[.int .i64 id,.int .i64 gen,.int .i64 len,.slice A l.length c],.slice (some ⟨g,4,none⟩) 9 9,.slice (some ⟨g,13,none⟩) 9 9] _ _ rfl rfl rfl (by simp only[List.map_toArray,List.map_cons,List.map_nil];rfl) HJ.out ?_;simp only[Act.put,zA,zB,zC]))
  refine wpQuiet_nil ?_
  intro wm hw'
  have HB:=Aside0.mk hw'
  clear hw'
  go_wp2_with fail
  go_ret2
  exact⟨rfl,HB.out⟩
end Go.Proofs.YtdcfonmjbelgbaaGreatDoor
end
section
namespace Go.Proofs.YtdcfonmjbelgbaaGreatDoor
open Go.RowKit Q YtdcfonmjbelgbaaGreatDoorW.PrintWords YtdcfonmjbelgbaaGreatDoorW.PrintLast YtdcfonmjbelgbaaGreatDoorW.PrintMore
def badN (hv:List Bool) (n:Nat):List Int:=((List.range n).filter fun i=> !hv.getD i false).map fun i:Nat=>(i:Int)
theorem badN_succ (hv:List Bool) (k:Nat):badN hv (k+1)=if hv.getD k false=true then badN hv k else badN hv k++[(k:Int)]:=by
 unfold badN
 rw[List.range_succ,List.filter_append,List.map_append]
 simp only[List.filter_cons,List.filter_nil]
 cases hv.getD k false
 ·rfl
 ·exact List.append_nil _
theorem badN_len (hv:List Bool) (k:Nat):(badN hv k).length≤k:=by
 unfold badN
 rw[List.length_map]
 have h:=List.length_filter_le (fun i=> !hv.getD i false) (List.range k)
 rwa [List.length_range]at h
theorem infoInt:(Tryz.prog.info? 3).map (fun i=>(i.zero,i.size,i.bytes))=some (some (.int .i64 0),1,8):=by kernel_rfl
abbrev RI (base:Nat) (v:Value) (l:List Int) (w:World):Prop:=Kd.R (Kd.int .i64) 3 w base (fun k=>base≤k) v l
theorem bad_calls {w:World} {g:Nat} {id gen len:Int} {l:List LocS} {sh:List ByteArray} {hv:List Bool} {n:Nat} {gd:Int} (h:Rd w g id gen len l sh hv (n:Int) gd) (hn:n≤9):Calls Tryz.prog 21 #[.pointer (some ⟨g,0,none⟩)] w fun e w'=> ∃ A c,e = .returned (.slice A (badN hv n).length c)∧RI w.heap.size (.slice A (badN hv n).length c) (badN hv n) w'∧Below w.heap.size w w':=by
 obtain⟨⟨A,c,hb,-⟩,-,h1,h2⟩:=h
 have HX:=Aside0.mk hb
 have H1:=Lib.hid h1
 have H2:=Lib.hid h2
 have HN:=Lib.hid hn
 have c22:=hb.cell (rdr_tk h1 h2)
 clear hb h1 h2 hn
 go_enter Tryz.func21,Tryz.ntmps21
 have G1:Aside0 (RI w.heap.size (.slice none 0 0) (badN hv 0) w):=⟨Kd.R_nil _ _ _ _ _⟩
 have G2:Aside0 (Below w.heap.size w w):=⟨Below.refl _ _⟩
 go_wp2_with fail
 clear c22
 go_loopw [3,11] (fun v i wr=> ∃ k:Nat,k≤n∧i = .int .i64 k∧Aside0 (RI w.heap.size v (badN hv k) wr)∧Aside0 (Below w.heap.size w wr)) (fun _ i _=>n-(intOf i).toNat)
 case atStart=>exact⟨0,by omega,rfl,G1,G2⟩
 case round=>
  clear G1 G2
  obtain⟨k,hk,rfl,G1,G2⟩:=hrel
  by_cases hlt:k<n
  ·have HK:=Lib.hid hlt
   have ck:=(HX.out.keep G2.out).cell (rdr_hv (id:=id) (gen:=gen) (len:=len) (S:=.slice A l.length c) (tk:=(n:Int)) (gd:=gd) H1.out H2.out k (by have:=HN.out;omega))
   have hk9:k<9:=by have:=HN.out;omega
   have hss:=badN_succ hv k
   generalize hv.getD k false=q at ck hss
   have HSS:=Lib.hid hss
   clear hss
   cases q
   ·go_wp2_with (first|(at_builtin;refine Kd.R_append (Kd.int .i64) (w0:=w) w.heap.size rfl (.tmp 21) (.tmp 23) 34 3 (.int .i64 0) 8 rfl Tryz.underlying34 infoInt rfl (by decide) (by decide) u3 (badN hv k) (k:Int) [.int .i64 (k:Int)] (fun j=>w.heap.size≤j) (fun _=>False) rfl rfl rfl (fun _ hk=>hk.elim) (fun j hj=>Nat.le_trans G2.out.size hj) G1.out G2.out G2.out.size (by have:=badN_len hv k;have:=HK.out;have:=HN.out;omega) ?_;intro v1 w3 hR hB hg _;rw[show badN hv k++[(k:Int)]=badN hv (k+1)by rw[HSS.out];rfl]at hR;have G1:=Aside0.mk hR;have G2:=Aside0.mk hB;clear hR hB hg))
    go_roundw
    case rel=>exact⟨k+1,HK.out,by go_num,G1,G2⟩
    case measure=>have:=HK.out;simp[intOf];omega
   ·replace G1:=Aside0.mk (show RI w.heap.size u3 (badN hv (k+1)) wr by rw[HSS.out];exact G1.out)
    go_wp2_with fail
    go_roundw
    case rel=>exact⟨k+1,HK.out,by go_num,G1,G2⟩
    case measure=>have:=HK.out;simp[intOf];omega
  ·obtain rfl:k=n:=by omega
   obtain⟨A',c',hv'⟩:=Kd.R_slice G1.out
   subst hv'
   go_wp2_with fail
   go_ret
   exact⟨A',c',rfl,G1.out,G2.out⟩
end Go.Proofs.YtdcfonmjbelgbaaGreatDoor
end
section
namespace Go.Proofs.YtdcfonmjbelgbaaGreatDoor
open Go.RowKit Q YtdcfonmjbelgbaaGreatDoorW.PrintWords YtdcfonmjbelgbaaGreatDoorW.PrintLast YtdcfonmjbelgbaaGreatDoorW.PrintMore
def goodR (id gen:Int) (l:List LocS) (ix:Int) (s:ByteArray):ByteArray×Bool:=
 if (mineP (secR s.data.toList) id gen l ix).2=0 then ((mineP (secR s.data.toList) id gen l ix).1,(((mineP (secR s.data.toList) id gen l ix).1.size:Int)==64))else ((mineP (secR s.data.toList) id gen l ix).1,false)
theorem good_f (id gen len:Int) (l:List LocS) (h9:l.length=9) (n:Nat) (hn:n<9) (s:ByteArray) (hs:s.size≤140737488355328):stripe_good.f id gen len l (n:Int) s=some (goodR id gen l (n:Int) s):=by
 unfold stripe_good.f sector_Mine.f
 rw[if_pos (by omega),if_pos hs,Option.bind_some]
 unfold goodR
 split<;>rfl
def TakeEnd (w:World) (g:Nat) (id gen len:Int) (l:List LocS) (sh:List ByteArray) (hv:List Bool) (n gd:Nat) (ix:Int) (s:ByteArray) (e:Ending) (w':World):Prop:=
 ((wantsF n gd<0∨ix≠(n:Int))∧e = .returned (.bool false)∧w'=w) ∨
   ((¬ wantsF n gd<0∧ix=(n:Int))∧e = .returned (.bool (goodR id gen l (n:Int) s).2)∧Rd w' g id gen len l (sh.set n (goodR id gen l (n:Int) s).1) (hv.set n (goodR id gen l (n:Int) s).2) ((n+1:Nat):Int) ((gd+(if (goodR id gen l (n:Int) s).2=true then 1 else 0):Nat):Int)∧Below g w w')
theorem take_calls {w:World} {g:Nat} {id gen len:Int} {l:List LocS} {sh:List ByteArray} {hv:List Bool} {n gd:Nat} (h:Rd w g id gen len l sh hv (n:Int) (gd:Int)) (hn:n≤9) (hg:gd≤9) (ix:Int) (s:ByteArray) (hs:s.size≤140737488355328) :
  Calls Tryz.prog 20 #[.pointer (some ⟨g,0,none⟩),.int .i64 ix,.string s] w (TakeEnd w g id gen len l sh hv n gd ix s):=by
 have HR:=Aside0.mk h
 obtain⟨⟨A,c,hb,hcc,W0,hC0,hg0,hB0⟩,h9,h1,h2⟩:=h
 have c22:=hb.cell (rdr_tk h1 h2)
 have hwt:=wants_calls HR.out
 by_cases hw:wantsF n gd<0
 ·have HW:=Lib.hid hw
  have hwb:decide (wantsF n gd<0)=true:=by simpa using hw
  obtain⟨W,hW⟩ : ∃ W,wantsF n gd=W:=⟨_,rfl⟩
  rw[hW]at hwt hwb
  clear hW
  clear hb h1 h2 h9 c22 hw
  go_enter Tryz.func20,Tryz.ntmps20
  go_wp2_with fail
  refine hwt.mono ?_
  rintro e w1 ⟨rfl,rfl⟩
  go_wp2_with fail
  go_ret
  exact .inl ⟨.inl HW.out,rfl,rfl⟩
 have hwn:wantsF n gd=(n:Int)∧n<9:=by
  unfold wantsF at hw ⊢
  by_cases hq:((gd:Int)=6∨(n:Int)=9)
  ·rw[if_pos hq]at hw;omega
  ·rw[if_neg hq];exact⟨rfl,by omega⟩
 have HNW:=Lib.hid hw
 have HCC:=Lib.hid hcc
 rw[hwn.1]at hwt
 by_cases hix:ix=(n:Int)
 case neg=>
  have HIX:=Lib.hid hix
  have hxb:(ix != (n:Int))=true:=by rw[bne_iff_ne];exact hix
  clear hb h1 h2 h9 hw hwn hix
  go_enter Tryz.func20,Tryz.ntmps20
  go_wp2_with fail
  refine hwt.mono ?_
  rintro e w1 ⟨rfl,rfl⟩
  go_wp2_with fail
  go_ret
  exact .inl ⟨.inr HIX.out,rfl,rfl⟩
 subst hix
 have hgf:=good_f id gen len l h9 n hwn.2 s hs
 obtain⟨⟨gs,gq⟩,hgr⟩ : ∃ r,goodR id gen l (n:Int) s=r:=⟨_,rfl⟩
 rw[hgr]at hgf
 have HX:=Aside0.mk hb
 have HC0:=Aside0.mk hC0
 have HG0:=Lib.hid hg0
 have HB0:=Aside0.mk hB0
 have HGR:=Lib.hid hgr
 have H1:=Lib.hid h1
 have H2:=Lib.hid h2
 have H9:=Lib.hid h9
 have HN9:=Lib.hid hwn.2
 have HLT:=Lib.hid hb.lt
 have hn9:(n:Int)<9:=by have:=hwn.2;omega
 have HGG:=Lib.hid hg
 have HC:Aside0 (∀ w',Below w.heap.size w w'→Kd.C k59 w' A l.length l):=⟨fun w' hw'=>Kd.C_below hC0 (hB0.trans (hw'.mono (Nat.le_trans hg0 (Nat.le_of_lt hb.lt))))⟩
 have HGD:Aside0 (∀ w',Below w.heap.size w w'→Calls Tryz.prog 33 #[.agg #[.int .i64 id,.int .i64 gen,.int .i64 len,.slice A l.length c],.int .i64 (n:Int),.string s] w' fun e w''=>e = .returned (.tuple #[.string gs,.bool gq])∧Below w'.heap.size w' w''):=⟨fun w' hw'=>by
  exact stripe_good.calls id gen len A c l (n:Int) s gs gq w' (HC.out w' hw') hcc hgf⟩
 have hu:=Tryz.underlying24
 have hg9:(gd:Int)≤9:=by omega
 clear hb h1 h2 h9 hwn hg hgr hgf hs hn hw hcc hC0 hg0 hB0
 go_enter Tryz.func20,Tryz.ntmps20
 go_wp2_with fail
 refine hwt.mono ?_
 rintro e w1 ⟨rfl,rfl⟩
 clear hwt
 go_wp2_with fail
 clear c22
 refine start_ (n:=22) (S:=fun w'=>w'.cell? ⟨g,0,none⟩=some (.int .i64 id)∧w'.cell? ⟨g,1,none⟩=some (.int .i64 gen)∧w'.cell? ⟨g,2,none⟩=some (.int .i64 len)∧w'.cell? ⟨g,3,none⟩=some (.slice A l.length c)) (ds:=[]) #[false,false,false,false,false,false,false,false,false,false,false,false,false,false,false,false,false,false,false,false,false,false] (by kernel_rfl) rfl rfl ⟨((HX.out.keep (Below.drew (Below.refl w.heap.size w))).cell (i:=0) rfl),((HX.out.keep (Below.drew (Below.refl w.heap.size w))).cell (i:=1) rfl),((HX.out.keep (Below.drew (Below.refl w.heap.size w))).cell (i:=2) rfl),((HX.out.keep (Below.drew (Below.refl w.heap.size w))).cell (i:=3) rfl)⟩ (fun hHeld=> ?_)
 refine pure_ (i:=0) (N:=some 19) (v:= ?_) (a':= ?_) #[true,false,false,false,false,false,false,false,false,false,false,false,false,false,false,false,false,false,false,false,false,false] rfl rfl (by kernel_rfl) (fun _ _ _ h=>h) (Or.inl ⟨by rfl,?_⟩) ?_ ?_
 rotate_left
 ·intro w'
  go_simp
  with_reducible rfl
 rotate_left
 ·simp only[Act.put,zA,zB,zC]
  rfl
 refine pure_ (i:=1) (N:=some 20) (v:= ?_) (a':= ?_) #[true,true,false,false,false,false,false,false,false,false,false,false,false,false,false,false,false,false,false,false,false,false] rfl rfl (by kernel_rfl) (fun _ _ _ h=>h) (Or.inl ⟨by rfl,?_⟩) ?_ ?_
 rotate_left
 ·intro w'
  go_simp
  with_reducible rfl
 rotate_left
 ·simp only[Act.put,zA,zB,zC]
  rfl
 refine pure_ (i:=2) (N:=some 21) (v:= ?_) (a':= ?_) #[true,true,true,false,false,false,false,false,false,false,false,false,false,false,false,false,false,false,false,false,false,false] rfl rfl (by kernel_rfl) (fun _ _ _ h=>h) (Or.inl ⟨by rfl,?_⟩) ?_ ?_
 rotate_left
 ·intro w'
  go_simp
  with_reducible rfl
 rotate_left
 ·simp only[Act.put,zA,zB,zC]
  rfl
 refine pure_ (i:=3) (N:=some 22) (v:= ?_) (a':= ?_) #[true,true,true,true,false,false,false,false,false,false,false,false,false,false,false,false,false,false,false,false,false,false] rfl rfl (by kernel_rfl) (fun _ _ _ h=>h) (Or.inl ⟨by rfl,?_⟩) ?_ ?_
 rotate_left
 ·intro w'
  go_simp
  with_reducible rfl
 rotate_left
 ·simp only[Act.put,zA,zB,zC]
  rfl
 refine pure_ (i:=4) (N:=some 23) (v:= ?_) (a':= ?_) #[true,true,true,true,true,false,false,false,false,false,false,false,false,false,false,false,false,false,false,false,false,false] rfl rfl (by kernel_rfl) (fun _ _ _ h=>h) (Or.inl ⟨by rfl,?_⟩) ?_ ?_
 rotate_left
 ·intro w'
  go_simp
  with_reducible rfl
 rotate_left
 ·simp only[Act.put,zA,zB,zC]
  rfl
 refine pure_ (i:=5) (N:=some 24) (v:= ?_) (a':= ?_) #[true,true,true,true,true,true,false,false,false,false,false,false,false,false,false,false,false,false,false,false,false,false] rfl rfl (by kernel_rfl) (fun _ _ _ h=>h) (Or.inl ⟨by rfl,?_⟩) ?_ ?_
 rotate_left
 ·intro w'
  go_simp
  with_reducible rfl
 rotate_left
 ·simp only[Act.put,zA,zB,zC]
  rfl
 refine pure_ (i:=6) (N:=some 25) (v:= ?_) (a':= ?_) #[true,true,true,true,true,true,true,false,false,false,false,false,false,false,false,false,false,false,false,false,false,false] rfl rfl (by kernel_rfl) (fun _ _ _ h=>h) (Or.inl ⟨by rfl,?_⟩) ?_ ?_
 rotate_left
 ·intro w'
  go_simp
  with_reducible rfl
 rotate_left
 ·simp only[Act.put,zA,zB,zC]
  rfl
 refine pure_ (i:=8) (N:=some 27) (v:= ?_) (a':= ?_) #[true,true,true,true,true,true,true,false,true,false,false,false,false,false,false,false,false,false,false,false,false,false] rfl rfl (by kernel_rfl) (fun _ _ _ h=>h) (Or.inl ⟨by rfl,?_⟩) ?_ ?_
 rotate_left
 ·intro w'
  go_simp
  with_reducible rfl
 rotate_left
 ·simp only[Act.put,zA,zB,zC]
  rfl
 refine pure_ (i:=9) (N:=some 28) (v:= ?_) (a':= ?_) #[true,true,true,true,true,true,true,false,true,true,false,false,false,false,false,false,false,false,false,false,false,false] rfl rfl (by kernel_rfl) (fun _ _ _ h=>h) (Or.inl ⟨by rfl,?_⟩) ?_ ?_
 rotate_left
 ·intro w'
  go_simp
  with_reducible rfl
 rotate_left
 ·simp only[Act.put,zA,zB,zC]
  rfl
 refine pure_ (i:=14) (N:=some 32) (v:= ?_) (a':= ?_) #[true,true,true,true,true,true,true,false,true,true,false,false,false,false,true,false,false,false,false,false,false,false] rfl rfl (by kernel_rfl) (fun _ _ _ h=>h) (Or.inl ⟨by rfl,?_⟩) ?_ ?_
 rotate_left
 ·intro w'
  go_simp
  with_reducible rfl
 rotate_left
 ·simp only[Act.put,zA,zB,zC]
  rfl
 refine pure_ (i:=15) (N:=some 33) (v:= ?_) (a':= ?_) #[true,true,true,true,true,true,true,false,true,true,false,false,false,false,true,true,false,false,false,false,false,false] rfl rfl (by kernel_rfl) (fun _ _ _ h=>h) (Or.inl ⟨by rfl,?_⟩) ?_ ?_
 rotate_left
 ·intro w'
  go_simp
  with_reducible rfl
 rotate_left
 ·simp only[Act.put,zA,zB,zC]
  rfl
 refine pure_ (i:=18) (N:=some 35) (v:= ?_) (a':= ?_) #[true,true,true,true,true,true,true,false,true,true,false,false,false,false,true,true,false,false,true,false,false,false] rfl rfl (by kernel_rfl) (fun _ _ _ h=>h) (Or.inl ⟨by rfl,?_⟩) ?_ ?_
 rotate_left
 ·intro w'
  go_simp
  with_reducible rfl
 rotate_left
 ·simp only[Act.put,zA,zB,zC]
  rfl
 refine pure_ (i:=19) (N:=some 36) (v:= ?_) (a':= ?_) #[true,true,true,true,true,true,true,false,true,true,false,false,false,false,true,true,false,false,true,true,false,false] rfl rfl (by kernel_rfl) (fun _ _ _ h=>h) (Or.inl ⟨by rfl,?_⟩) ?_ ?_
 rotate_left
 ·intro w'
  go_simp
  with_reducible rfl
 rotate_left
 ·simp only[Act.put,zA,zB,zC]
  rfl
 refine take_ (i:=7) (N:=some 26) (v:= ?_) (a':= ?_) #[true,true,true,true,true,true,true,true,true,true,false,false,false,false,true,true,false,false,true,true,false,false] rfl rfl (by kernel_rfl) (fun _ _ _ h=>h) (Or.inl ⟨by rfl,?_⟩) hHeld ?_ ?_
 rotate_left
 ·rintro w' ⟨s0,s1,s2,s3⟩
  go_simp
  with_reducible rfl
 rotate_left
 ·simp only[Act.put,zA,zB,zC]
  rfl
 refine one_ (i:=10) (N:=some 29) #[true,true,true,true,true,true,true,true,true,true,true,false,false,false,true,true,false,false,true,true,false,false] rfl rfl (by kernel_rfl) (by decide) (fun K hK=> ?_)
 refine goes_ Tryz.func33 (by kernel_rfl) rfl #[.agg #[.int .i64 id,.int .i64 gen,.int .i64 len,.slice A l.length c],.int .i64 (n:Int),.string s] (by rfl) rfl rfl (by simp only[List.map_toArray,List.map_cons,List.map_nil];rfl) ?_
 with_reducible refine(HGD.out _ (Below.drew (Below.refl w.heap.size w))).mono ?_
 rintro e w3 ⟨rfl,hb⟩
 refine⟨_,rfl,?_⟩
 have hb3:=below2 (Below.drew (Below.refl w.heap.size w)) (Below.drew (Below.refl w.heap.size w)).size hb
 clear hb
 have HX3:=HX.out.keep hb3
 have q3:=HX3.cell (rdr_sh H1.out n HN9.out)
 have f3:=HX3.free (4+n)
 refine hK.out _ _ ⟨(HX3.cell (i:=0) rfl),(HX3.cell (i:=1) rfl),(HX3.cell (i:=2) rfl),(HX3.cell (i:=3) rfl)⟩ (fun hHeld=> ?_)
 clear hK K
 refine norm_ (a':= ?_) ?_ ?_
 rotate_left
 ·show Act.put _ (some 29) _=_
  simp only[Act.put,zA,zB,zC]
  rfl
 refine pure_ (i:=11) (N:=some 18) (v:= ?_) (a':= ?_) #[true,true,true,true,true,true,true,true,true,true,true,true,false,false,true,true,false,false,true,true,false,false] rfl rfl (by kernel_rfl) (fun _ _ _ h=>h) (Or.inl ⟨by rfl,?_⟩) ?_ ?_
 rotate_left
 ·intro w'
  go_simp
  with_reducible rfl
 rotate_left
 ·simp only[Act.put,zA,zB,zC]
  rfl
 refine pure_ (i:=12) (N:=some 30) (v:= ?_) (a':= ?_) #[true,true,true,true,true,true,true,true,true,true,true,true,true,false,true,true,false,false,true,true,false,false] rfl rfl (by kernel_rfl) (fun _ _ _ h=>h) (Or.inl ⟨by rfl,?_⟩) ?_ ?_
 rotate_left
 ·intro w'
  go_simp
  with_reducible rfl
 rotate_left
 ·simp only[Act.put,zA,zB,zC]
  rfl
 refine pure_ (i:=13) (N:=some 31) (v:= ?_) (a':= ?_) #[true,true,true,true,true,true,true,true,true,true,true,true,true,true,true,true,false,false,true,true,false,false] rfl rfl (by kernel_rfl) (fun _ _ _ h=>h) (Or.inl ⟨by rfl,?_⟩) ?_ ?_
 rotate_left
 ·intro w'
  go_simp
  with_reducible rfl
 rotate_left
 ·simp only[Act.put,zA,zB,zC]
  rfl
 refine pure_ (i:=16) (N:=some 34) (v:= ?_) (a':= ?_) #[true,true,true,true,true,true,true,true,true,true,true,true,true,true,true,true,true,false,true,true,false,false] rfl rfl (by kernel_rfl) (fun _ _ _ h=>h) (Or.inl ⟨by rfl,?_⟩) ?_ ?_
 rotate_left
 ·intro w'
  go_simp
  with_reducible rfl
 rotate_left
 ·simp only[Act.put,zA,zB,zC]
  rfl
 refine one_ (i:=17) (N:=none) #[true,true,true,true,true,true,true,true,true,true,true,true,true,true,true,true,true,true,true,true,false,false] rfl rfl (by kernel_rfl) (by decide) (fun K hK=> ?_)
 refine skip_ (w1:= ?_) (by rfl) rfl ?_ ?_
 rotate_left
 ·go_simp
  rfl
 have HX4:=HX3.set (4+n) (.string gs)
 rw[set_sh H1.out n HN9.out]at HX4
 have q4:=HX4.cell (rdr_hv (by rw[List.length_set];exact H1.out) H2.out n HN9.out)
 have f4:=HX4.free (13+n)
 clear q3 f3
 refine hK.out _ _ ⟨(HX4.cell (i:=0) rfl),(HX4.cell (i:=1) rfl),(HX4.cell (i:=2) rfl),(HX4.cell (i:=3) rfl)⟩ (fun hHeld=> ?_)
 clear hK K
 refine pure_ (i:=20) (N:=some 37) (v:= ?_) (a':= ?_) #[true,true,true,true,true,true,true,true,true,true,true,true,true,true,true,true,true,true,true,true,true,false] rfl rfl (by kernel_rfl) (fun _ _ _ h=>h) (Or.inl ⟨by rfl,?_⟩) ?_ ?_
 rotate_left
 ·intro w'
  go_simp
  with_reducible rfl
 rotate_left
 ·simp only[Act.put,zA,zB,zC]
  rfl
 refine one_ (i:=21) (N:=none) #[true,true,true,true,true,true,true,true,true,true,true,true,true,true,true,true,true,true,true,true,true,true] rfl rfl (by kernel_rfl) (by decide) (fun K hK=> ?_)
 refine skip_ (w1:= ?_) (by rfl) rfl ?_ ?_
 rotate_left
 ·go_simp
  rfl
 have HX5:=HX4.set (13+n) (.bool gq)
 rw[set_hv (by rw[List.length_set];exact H1.out) H2.out n HN9.out]at HX5
 clear q4 f4
 refine hK.out _ _ ⟨(HX5.cell (i:=0) rfl),(HX5.cell (i:=1) rfl),(HX5.cell (i:=2) rfl),(HX5.cell (i:=3) rfl)⟩ (fun hHeld=> ?_)
 clear hK K
 refine done_ (by kernel_rfl) ?_
 have hB5:Below g w ((w3.setCell ⟨g,4+n,none⟩ (.string gs)).setCell ⟨g,13+n,none⟩ (.bool gq)):=((hb3.mono (Nat.le_of_lt HLT.out)).setCell (p:=⟨g,4+n,none⟩) (Nat.le_refl _) _).setCell (p:=⟨g,13+n,none⟩) (Nat.le_refl _) _
 clear hb3 HX3 HX4
 generalize (w3.setCell ⟨g,4+n,none⟩ (.string gs)).setCell ⟨g,13+n,none⟩ (.bool gq)=w5 at HX5 hB5 ⊢
 have H1s:=Lib.hid (show (sh.set n gs).length=9 by rw[List.length_set];exact H1.out)
 have H2s:=Lib.hid (show (hv.set n gq).length=9 by rw[List.length_set];exact H2.out)
 have c22:=HX5.cell (rdr_tk H1s.out H2s.out)
 have f22:=HX5.free 22
 have HB5:=Aside0.mk hB5
 clear hB5
 go_upto_region 5 with (fail)
 have HX6:=HX5.set 22 (.int .i64 ((n:Int)+1))
 rw[set_tk H1s.out H2s.out]at HX6
 have hB6:=HB5.out.setCell (p:=⟨g,22,none⟩) (Nat.le_refl _) (.int .i64 ((n:Int)+1))
 generalize w5.setCell ⟨g,22,none⟩ (.int .i64 ((n:Int)+1))=w6 at HX6 hB6 ⊢
 clear c22 f22 HX5 HB5
 have hget:(hv.set n gq).getD n false=gq:=by
  rw[List.getD_eq_getElem?_getD,List.getElem?_set_self (by rw[H2.out];exact HN9.out)]
  rfl
 have c13:=HX6.cell (rdr_hv H1s.out H2s.out n HN9.out)
 rw[hget]at c13
 have c23:=HX6.cell (rdr_gd H1s.out H2s.out)
 have f23:=HX6.free 23
 have HGET:=Lib.hid hget
 have HB6:=Aside0.mk hB6
 clear hB6 hget
 cases gq
 ·go_wp2
  go_ret
  unfold TakeEnd
  rw[HGR.out]
  refine .inr ⟨⟨Int.not_lt.2 HNW.out,rfl⟩,rfl,⟨⟨A,c,?_,HCC.out,W0,HC0.out,HG0.out,HB0.out.trans (HB6.out.mono HG0.out)⟩,H9.out,H1s.out,H2s.out⟩,HB6.out⟩
  exact HX6
 ·go_upto_region 7 with (fail)
  have HX7:=HX6.set 23 (.int .i64 ((gd:Int)+1))
  rw[set_gd H1s.out H2s.out]at HX7
  have hB7:=HB6.out.setCell (p:=⟨g,23,none⟩) (Nat.le_refl _) (.int .i64 ((gd:Int)+1))
  generalize w6.setCell ⟨g,23,none⟩ (.int .i64 ((gd:Int)+1))=w7 at HX7 hB7 ⊢
  clear c13 c23 f23 HX6 HB6
  have c13:=HX7.cell (rdr_hv H1s.out H2s.out n HN9.out)
  rw[HGET.out]at c13
  have HB7:=Aside0.mk hB7
  clear hB7
  go_wp2
  go_ret
  unfold TakeEnd
  rw[HGR.out]
  refine .inr ⟨⟨Int.not_lt.2 HNW.out,rfl⟩,rfl,⟨⟨A,c,?_,HCC.out,W0,HC0.out,HG0.out,HB0.out.trans (HB7.out.mono HG0.out)⟩,H9.out,H1s.out,H2s.out⟩,HB7.out⟩
  exact HX7
end Go.Proofs.YtdcfonmjbelgbaaGreatDoor
end
section
namespace Go.Proofs.YtdcfonmjbelgbaaGreatDoor.Q
open Go.RowKit YtdcfonmjbelgbaaGreatDoorW.PrintWords YtdcfonmjbelgbaaGreatDoorW.PrintLast YtdcfonmjbelgbaaGreatDoorW.PrintMore
attribute [local go_sem] max2_int min2_int max_two min_two max_three min_three max_four min_four
mutual
def stripe_Text.j0:Nat→List ByteArray→Bool→Int→Int→Int→List (S59)→Option (ByteArray×List Int×Int)
 | 0,_,_,_,_,_,_=>none
 | k+1,x1,x21,x150000,x150001,x150002,x150003=>if x21=true then (some ((⟨#[]⟩:ByteArray),([]:List Int),1))else (if 9≤17592186044416 then (if 9≤281474976710656 then (stripe_Text.l0 k (List.replicate 9 (⟨#[]⟩:ByteArray)) (List.replicate 9 false) ([]:List Int) x1 (x1.length:Int) 0 x150000 x150001 x150002 x150003)else (none))else (none))
def stripe_Text.l0:Nat→List ByteArray→List Bool→List Int→List ByteArray→Int→Int→Int→Int→Int→List (S59)→Option (ByteArray×List Int×Int)
 | 0,_,_,_,_,_,_,_,_,_,_=>none
 | k+1,x7,x8,x9,x24,x25,x26,x150000,x150001,x150002,x150003=>if x26<x25 then (if 0≤x26 then (if x26<(x24.length:Int)then ((stripe_good.f x150000 x150001 x150002 x150003 x26 (rdOf ByteArray.empty x24 x26)).bind fun bt158=>(if x26<(x7.length:Int)then ((some (x7.set (x26:Int).toNat bt158.1:List ByteArray)).bind fun y160=>(if x26<(x8.length:Int)then ((some (x8.set (x26:Int).toNat bt158.2:List Bool)).bind fun y161=>(if rdOf false y161 x26=true then (stripe_Text.l0 k y160 y161 x9 x24 x25 (wrap64 (x26+1)) x150000 x150001 x150002 x150003)else (if x9.length<17592186044416 then (stripe_Text.l0 k y160 y161 (x9++[x26]) x24 x25 (wrap64 (x26+1)) x150000 x150001 x150002 x150003)else (none))))else (none)))else (none)))else (none))else (none))else ((stripe_join.f x150000 x150001 x150002 x150003 x7 x8).bind fun bt166=>(some (bt166.1,x9,bt166.2)))
end
def stripe_Text.f (k:Nat) (a0_0:Int) (a0_1:Int) (a0_2:Int) (l0_3:List (S59)) (l1:List ByteArray):Option (ByteArray×List Int×Int):=(record_Volume.f a0_0 a0_1 a0_2 l0_3).bind fun t150=>(if t150=true then (stripe_Text.j0 k l1 ((l1.length:Int) != 9) a0_0 a0_1 a0_2 l0_3)else (stripe_Text.j0 k l1 true a0_0 a0_1 a0_2 l0_3))
theorem stripe_Text.calls (k:Nat) (a0_0:Int) (a0_1:Int) (a0_2:Int) (A0_3:Option Addr) (c0_3:Nat) (l0_3:List (S59)) (A1:Option Addr) (c1:Nat) (l1:List ByteArray) (r1:ByteArray) (r2:List Int) (r3:Int) (w:World) (hr0_3:Kd.C k59 w A0_3 l0_3.length l0_3) (hc0_3:l0_3.length≤c0_3) (hr1:Kd.C Kd.string w A1 l1.length l1) (hc1:l1.length≤c1) (h:stripe_Text.f k a0_0 a0_1 a0_2 l0_3 l1=some (r1,r2,r3)) :
  Calls Tryz.prog 12 #[.agg #[.int .i64 a0_0,.int .i64 a0_1,.int .i64 a0_2,.slice A0_3 l0_3.length c0_3],.slice A1 l1.length c1] w fun e w'=> ∃ v1_:Value,e = .returned (.tuple #[.string r1,v1_,.int .i64 r3])∧Kd.R (Kd.int .i64) 3 w' w.heap.size (fun _=>True) v1_ r2∧Below w.heap.size w w':=by
 have hu24:=Tryz.underlying24
 have HR0_3:=Aside0.mk hr0_3
 have HC0_3:=Aside0.mk hc0_3
 clear hr0_3 hc0_3
 have HR1:=Aside0.mk hr1
 have HC1:=Aside0.mk hc1
 clear hr1 hc1
 have HB:=Aside0.mk (Below.refl w.heap.size w)
 have H:((record_Volume.f a0_0 a0_1 a0_2 l0_3).bind fun t150=>(if t150=true then (stripe_Text.j0 k l1 ((l1.length:Int) != 9) a0_0 a0_1 a0_2 l0_3)else (stripe_Text.j0 k l1 true a0_0 a0_1 a0_2 l0_3)))=some (r1,r2,r3):=h
 clear h
 have HC3:=Aside0.mk H
 clear H
 go_enter Tryz.func12,Tryz.ntmps12
 go_upto_region 1 with (first|((with_reducible refine gate_dst (N:=2) rfl ?_);(try (refine gate_guard (by rfl) ?_;dsimp only));refine box_event ?hg (N:=2) ?hd (cs:= #[.int .i64 a0_0,.int .i64 a0_1,.int .i64 a0_2,.slice A0_3 l0_3.length c0_3]) (t:=24) ?hr ?_;(case hd=>rfl);(case hg=>rfl);(case hr=>first|(go_simp;done)|(go_simp;rfl));intro gb149 hg w4 hbox hb;have n0_:=Aside0.mk (below_step (by repeat (first|(with_reducible first|exact HB.out|apply below_alloc|apply pw_below_drewN|apply below_drew1)|exact HB.out)) hb);have n1_:=Aside0.mk (hbox);have n2_:=Aside0.mk ((by rw[hg];exact(below_size (by repeat (first|(with_reducible first|exact HB.out|apply below_alloc|apply pw_below_drewN|apply below_drew1)|exact HB.out))):w.heap.size≤gb149));have n3_:=Aside0.mk ((by rw[hg];exact(below_size (by repeat (first|(with_reducible first|exact HB.out|apply below_alloc|apply pw_below_drewN|apply below_drew1)|exact HB.out))):w.heap.size≤gb149));clear HB;have HB:=n0_;have BK149:=n1_;have GW149:=n2_;have GE149:=n3_;clear n0_ n1_ n2_ n3_;clear hb hbox hg))
 (try simp only[Act.put,zA,zB,zC])
 go_cut [21] (fun v21 wc=> ∃ (kq:Nat) (x21_2:Bool),v21 = .bool x21_2∧Aside0 (stripe_Text.j0 kq l1 x21_2 a0_0 a0_1 a0_2 l0_3=some (r1,r2,r3))∧Aside0 (kq≤k)∧Aside0 (wc.heap[gb149]? = some (.cells #[.int .i64 a0_0,.int .i64 a0_1,.int .i64 a0_2,(.slice A0_3 l0_3.length c0_3)] 24 (0,0)))∧Aside0 (Below w.heap.size w wc))
 case first=>
  have H:=HC3.out
  clear HC3
  replace H:=Option.bind_eq_some_iff.mp H
  obtain⟨t150,A50,H⟩:=H
  replace H:(if t150=true then (stripe_Text.j0 k l1 ((l1.length:Int) != 9) a0_0 a0_1 a0_2 l0_3)else (stripe_Text.j0 k l1 true a0_0 a0_1 a0_2 l0_3))=some (r1,r2,r3):=H
  have A5:=Aside0.mk A50
  clear A50
  by_cases c6:t150=true
  ·subst c6
   have H1:(stripe_Text.j0 k l1 ((l1.length:Int) != 9) a0_0 a0_1 a0_2 l0_3)=some (r1,r2,r3):=by rw[if_pos rfl]at H;exact H
   clear H
   have H:=H1
   clear H1
   have H':=Aside0.mk H
   clear H
   have hcz7_0:w4.cell? ⟨gb149,0,none⟩=some (.int .i64 a0_0):=(blk_cell BK149.out 0).trans rfl
   have hcz7_1:w4.cell? ⟨gb149,1,none⟩=some (.int .i64 a0_1):=(blk_cell BK149.out 1).trans rfl
   have hcz7_2:w4.cell? ⟨gb149,2,none⟩=some (.int .i64 a0_2):=(blk_cell BK149.out 2).trans rfl
   have hcz7_3:w4.cell? ⟨gb149,3,none⟩=some (.slice A0_3 l0_3.length c0_3):=(blk_cell BK149.out 3).trans rfl
   have hfz7_0:=blk_frozen BK149.out 0
   have hfz7_1:=blk_frozen BK149.out 1
   have hfz7_2:=blk_frozen BK149.out 2
   have hfz7_3:=blk_frozen BK149.out 3
   go_wp2_with (first|((with_reducible refine gate_callee (f:=25) rfl ?_);refine goesL_ (some 15) rfl rfl Tryz.func25 (by kernel_rfl) rfl #[.agg #[.int .i64 a0_0,.int .i64 a0_1,.int .i64 a0_2,.slice A0_3 l0_3.length c0_3]] rfl (by (try simp only[List.map_toArray,List.map_cons,List.map_nil]);first|done|rfl|(simp only[List.length_drop,List.length_take];rfl)) ?_;(with_reducible refine(record_Volume.calls a0_0 a0_1 a0_2 _ _ l0_3 true _ ?side1 ?side2 A5.out).mono ?_);(case side1=>repeat (first|exact(Kd.C_below HR0_3.out HB.out)|(with_reducible refine Kd.C_alloc ?_ _)|(with_reducible refine Kd.C_drewN ?_ _)|(with_reducible refine Kd.C_drew ?_)));(case side2=>exact HC0_3.out);rintro e w8 ⟨rfl,hb⟩;refine⟨_,rfl,?_⟩;have n0_:=Aside0.mk (blk_below (g:=gb149) (o:=.cells #[.int .i64 a0_0,.int .i64 a0_1,.int .i64 a0_2,.slice A0_3 l0_3.length c0_3] 24 (0,0)) (by (with_reducible repeat (first|refine blk_drewN ?_ _|refine blk_drew ?_|refine blk_alloc ?_ _));exact BK149.out) hb);have n1_:=Aside0.mk (below_step (by repeat (first|(with_reducible first|exact HB.out|apply below_alloc|apply pw_below_drewN|apply below_drew1|refine below_set ?_ GE149.out)|exact HB.out)) hb);clear BK149;clear HB;have BK149:=n0_;have HB:=n1_;clear n0_ n1_;(try clear hb);(try clear hb2);(try clear hk);(try clear hi)))
   go_meet
   case rel=>exact⟨_,(((l1.length:Int) != 9)),(by first|rfl|(simp;done)|(simp[*];done)),H',⟨by first|omega|exact Nat.le_refl _⟩,⟨by (with_reducible repeat (first|refine blk_drewN ?_ _|refine blk_drew ?_|refine blk_alloc ?_ _));exact BK149.out⟩,⟨by repeat (first|(with_reducible first|exact HB.out|apply below_alloc|apply pw_below_drewN|apply below_drew1|refine below_set ?_ GE149.out)|exact HB.out)⟩⟩
  ·replace c6:=Bool.eq_false_iff.mpr c6
   subst c6
   have H1:(stripe_Text.j0 k l1 true a0_0 a0_1 a0_2 l0_3)=some (r1,r2,r3):=by rw[if_neg (show ¬ (false=true)by decide)]at H;exact H
   clear H
   have H:=H1
   clear H1
   have H':=Aside0.mk H
   clear H
   have hcz9_0:w4.cell? ⟨gb149,0,none⟩=some (.int .i64 a0_0):=(blk_cell BK149.out 0).trans rfl
   have hcz9_1:w4.cell? ⟨gb149,1,none⟩=some (.int .i64 a0_1):=(blk_cell BK149.out 1).trans rfl
   have hcz9_2:w4.cell? ⟨gb149,2,none⟩=some (.int .i64 a0_2):=(blk_cell BK149.out 2).trans rfl
   have hcz9_3:w4.cell? ⟨gb149,3,none⟩=some (.slice A0_3 l0_3.length c0_3):=(blk_cell BK149.out 3).trans rfl
   have hfz9_0:=blk_frozen BK149.out 0
   have hfz9_1:=blk_frozen BK149.out 1
   have hfz9_2:=blk_frozen BK149.out 2
   have hfz9_3:=blk_frozen BK149.out 3
   go_wp2_with (first|((with_reducible refine gate_callee (f:=25) rfl ?_);refine goesL_ (some 15) rfl rfl Tryz.func25 (by kernel_rfl) rfl #[.agg #[.int .i64 a0_0,.int .i64 a0_1,.int .i64 a0_2,.slice A0_3 l0_3.length c0_3]] rfl (by (try simp only[List.map_toArray,List.map_cons,List.map_nil]);first|done|rfl|(simp only[List.length_drop,List.length_take];rfl)) ?_;(with_reducible refine(record_Volume.calls a0_0 a0_1 a0_2 _ _ l0_3 false _ ?side1 ?side2 A5.out).mono ?_);(case side1=>repeat (first|exact(Kd.C_below HR0_3.out HB.out)|(with_reducible refine Kd.C_alloc ?_ _)|(with_reducible refine Kd.C_drewN ?_ _)|(with_reducible refine Kd.C_drew ?_)));(case side2=>exact HC0_3.out);rintro e w10 ⟨rfl,hb⟩;refine⟨_,rfl,?_⟩;have n0_:=Aside0.mk (blk_below (g:=gb149) (o:=.cells #[.int .i64 a0_0,.int .i64 a0_1,.int .i64 a0_2,.slice A0_3 l0_3.length c0_3] 24 (0,0)) (by (with_reducible repeat (first|refine blk_drewN ?_ _|refine blk_drew ?_|refine blk_alloc ?_ _));exact BK149.out) hb);have n1_:=Aside0.mk (below_step (by repeat (first|(with_reducible first|exact HB.out|apply below_alloc|apply pw_below_drewN|apply below_drew1|refine below_set ?_ GE149.out)|exact HB.out)) hb);clear BK149;clear HB;have BK149:=n0_;have HB:=n1_;clear n0_ n1_;(try clear hb);(try clear hb2);(try clear hk);(try clear hi)))
   go_meet
   case rel=>exact⟨_,(true),(by first|rfl|(simp;done)|(simp[*];done)),H',⟨by first|omega|exact Nat.le_refl _⟩,⟨by (with_reducible repeat (first|refine blk_drewN ?_ _|refine blk_drew ?_|refine blk_alloc ?_ _));exact BK149.out⟩,⟨by repeat (first|(with_reducible first|exact HB.out|apply below_alloc|apply pw_below_drewN|apply below_drew1|refine below_set ?_ GE149.out)|exact HB.out)⟩⟩
 case rest=>
  clear HC3
  try clear c1
  try clear c2
  try clear p2
  try clear c6
  try clear hcz7_0
  try clear hcz7_1
  try clear hcz7_2
  try clear hcz7_3
  try clear hcz9_0
  try clear hcz9_1
  try clear hcz9_2
  try clear hcz9_3
  try clear hfz7_0
  try clear hfz7_1
  try clear hfz7_2
  try clear hfz7_3
  try clear hfz9_0
  try clear hfz9_1
  try clear hfz9_2
  try clear hfz9_3
  obtain⟨kq,x21_2,rfl,HA,HJ2,BK149,HB⟩:=hcut
  cases kq with
  | zero=>exact absurd HA.out (by simp[stripe_Text.j0])
  | succ kj2=>
   have H:=HA.out
   clear HA
   simp only[stripe_Text.j0]at H
   by_cases c11:x21_2=true
   ·subst c11
    have H1:(some ((⟨#[]⟩:ByteArray),([]:List Int),1))=some (r1,r2,r3):=by rw[if_pos rfl]at H;exact H
    clear H
    have H:=H1
    clear H1
    simp only[Option.some.injEq,Prod.mk.injEq]at H
    obtain⟨rfl,rfl,rfl⟩:=H
    go_wp2
    go_ret3
    exact⟨_,by first|rfl|(simp[errW_none,errW_some]<;>rfl)|(simp[*,errW_none,errW_some]<;>rfl),by first|exact Kd.R_nil _ _ _ _ _|exact Kd.N_nil _ _ _ _ _|exact Kd.V_nil _ _ _ _ _|exact Kd.Q_nil _ _ _ _ _|exact Kd.S_nil _ _ _ _ _,by repeat (first|(with_reducible first|exact HB.out|apply below_alloc|apply pw_below_drewN|apply below_drew1|refine below_set ?_ GE149.out)|exact HB.out)⟩
   ·replace c11:=Bool.eq_false_iff.mpr c11
    subst c11
    have H1:(if 9≤17592186044416 then (if 9≤281474976710656 then (stripe_Text.l0 kj2 (List.replicate 9 (⟨#[]⟩:ByteArray)) (List.replicate 9 false) ([]:List Int) l1 (l1.length:Int) 0 a0_0 a0_1 a0_2 l0_3)else (none))else (none))=some (r1,r2,r3):=by rw[if_neg (show ¬ (false=true)by decide)]at H;exact H
    clear H
    have H:=H1
    clear H1
    by_cases c12:9≤17592186044416
    ·rw[if_pos c12]at H
     have c12b0:=eq_true c12
     have c12b1:decide (9≤17592186044416)=true:=decide_eq_true c12
     clear c12
     obtain⟨y151,hy151⟩ : ∃ y_:List ByteArray,y_=(List.replicate 9 (⟨#[]⟩:ByteArray)):=⟨_,rfl⟩
     replace H:(if 9≤281474976710656 then (stripe_Text.l0 kj2 y151 (List.replicate 9 false) ([]:List Int) l1 (l1.length:Int) 0 a0_0 a0_1 a0_2 l0_3)else (none))=some (r1,r2,r3):=by first|(rw[hy151];with_reducible exact H)|(have H2_:=(Option.bind_some _ _).symm.trans H;rw[hy151];with_reducible exact H2_)|(have H2_:=(Option.bind_some _ _).symm.trans H;with_reducible exact H2_)|with_reducible exact H|(rw[hy151];exact H)|exact H
     have Ny151:=Aside0.mk hy151
     clear hy151
     by_cases c13:9≤281474976710656
     ·rw[if_pos c13]at H
      have c13b0:=eq_true c13
      have c13b1:decide (9≤281474976710656)=true:=decide_eq_true c13
      clear c13
      obtain⟨y154,hy154⟩ : ∃ y_:List Bool,y_=(List.replicate 9 false):=⟨_,rfl⟩
      replace H:(stripe_Text.l0 kj2 y151 y154 ([]:List Int) l1 (l1.length:Int) 0 a0_0 a0_1 a0_2 l0_3)=some (r1,r2,r3):=by first|(rw[hy154];with_reducible exact H)|(have H2_:=(Option.bind_some _ _).symm.trans H;rw[hy154];with_reducible exact H2_)|(have H2_:=(Option.bind_some _ _).symm.trans H;with_reducible exact H2_)|with_reducible exact H|(rw[hy154];exact H)|exact H
      have Ny154:=Aside0.mk hy154
      clear hy154
      have H':=Aside0.mk H
      clear H
      try go_wp2
      have n0_:=Aside0.mk (blk_drew BK149.out)
      have n1_:=Aside0.mk (below_drew1 HB.out)
      clear BK149
      clear HB
      have BK149:=n0_
      have HB:=n1_
      clear n0_ n1_
      refine start_ (n:=4) (S:=fun w'=>True) (ds:=[]) #[false,false,false,false] (by kernel_rfl) rfl rfl trivial (fun hHeld=> ?_)
      generalize wc.drew=w14 at BK149 HB hHeld ⊢
      refine join_ (σ:=Value×Value) 1 #[true,true,true,false] (fun s_=>[(22,s_.1),(23,s_.2),(7,s_.1)]) (fun s_ w'=>(Kd.R Kd.string 9 w' w.heap.size (fun _=>True) s_.1 y151)∧(Kd.R Kd.bool 4 w' w.heap.size (fun _=>True) s_.2 y154)∧(w'.heap[gb149]? = some (.cells #[.int .i64 a0_0,.int .i64 a0_1,.int .i64 a0_2,.slice A0_3 l0_3.length c0_3] 24 (0,0)))∧(Below w.heap.size w w')) ?_ ?_
      rotate_left
      ·intro hCont
       refine two_ (i:=0) (j:=1) (Ni:=some 22) (Nj:=some 23) #[true,false,false,false] #[false,true,false,false] rfl rfl rfl rfl (by kernel_rfl) (by decide) (by decide) (fun K hK=> ?_) (fun K hK=> ?_)
       ·skip
        refine Kd.R_make_step Kd.string _ 9 (by rfl) (N:=22) rfl 27 _ _ rfl 9 rfl rfl Tryz.underlying27 (.string ⟨#[]⟩) 16 info9 rfl (by decide) (by omega) (⟨#[]⟩:ByteArray) (ok:=fun _=>True) (okp:=fun _=>True) rfl (fun _ hk=>hk) trivial (by omega) (by omega) (Below.refl _ _) (Nat.le_refl _) ?_
        intro v152 w15 ho16 hb hg_ hnew_
        clear hg_ hnew_
        (first|rw[←Ny151.out]at ho16|(simp only[Int.reduceToNat]at ho16;rw[←Ny151.out]at ho16))
        have n0_:=Aside0.mk (Kd.R_lower ho16 (below_size (by repeat (first|(with_reducible first|exact HB.out|apply below_alloc|apply pw_below_drewN|apply below_drew1|refine below_set ?_ GE149.out)|exact HB.out))))
        have n1_:=Aside0.mk (blk_below (g:=gb149) (o:=.cells #[.int .i64 a0_0,.int .i64 a0_1,.int .i64 a0_2,.slice A0_3 l0_3.length c0_3] 24 (0,0)) (by (with_reducible repeat (first|refine blk_drewN ?_ _|refine blk_drew ?_|refine blk_alloc ?_ _));exact BK149.out) hb)
        have n2_:=Aside0.mk (below_step (by repeat (first|(with_reducible first|exact HB.out|apply below_alloc|apply pw_below_drewN|apply below_drew1|refine below_set ?_ GE149.out)|exact HB.out)) hb)
        clear BK149
        clear HB
        have HO153:=n0_
        have BK149:=n1_
        have HB:=n2_
        clear n0_ n1_ n2_
        clear hb ho16
        refine hK.out _ _ trivial (fun hHeld=> ?_)
        clear hK K
        refine norm_ (a':= ?_) ?_ ?_
        rotate_left
        ·show Act.put _ (some 22) _=_
         simp only[Act.put,zA,zB,zC,i64_w,i32_w]
         rfl
        refine pure_ (i:=2) (N:=some 7) (v:= ?_) (a':= ?_) #[true,false,true,false] rfl rfl (by kernel_rfl) (fun _ _ _ h=>h) (Or.inl ⟨by rfl,?_⟩) ?_ ?_
        rotate_left
        ·intro w'
         go_simp
         with_reducible rfl
        rotate_left
        ·simp only[Act.put,zA,zB,zC,i64_w,i32_w]
         rfl
        refine one_ (i:=1) (N:=some 23) #[true,true,true,false] rfl rfl (by kernel_rfl) (by decide) (fun K hK=> ?_)
        refine Kd.R_make_step Kd.bool _ 4 (by rfl) (N:=23) rfl 65 _ _ rfl 9 rfl rfl Tryz.underlying65 (.bool false) 1 info4 rfl (by decide) (by omega) false (ok:=fun _=>True) (okp:=fun _=>True) rfl (fun _ hk=>hk) trivial (by omega) (by omega) (Below.refl _ _) (Nat.le_refl _) ?_
        intro v155 w17 ho18 hb hg_ hnew_
        clear hg_ hnew_
        (first|rw[←Ny154.out]at ho18|(simp only[Int.reduceToNat]at ho18;rw[←Ny154.out]at ho18))
        have n0_:=Aside0.mk (Kd.R_below (by (with_reducible repeat (first|apply Kd.R_alloc|apply Kd.R_drewN|apply Kd.R_drew));exact HO153.out) hb)
        have n1_:=Aside0.mk (Kd.R_lower ho18 (below_size (by repeat (first|(with_reducible first|exact HB.out|apply below_alloc|apply pw_below_drewN|apply below_drew1|refine below_set ?_ GE149.out)|exact HB.out))))
        have n2_:=Aside0.mk (blk_below (g:=gb149) (o:=.cells #[.int .i64 a0_0,.int .i64 a0_1,.int .i64 a0_2,.slice A0_3 l0_3.length c0_3] 24 (0,0)) (by (with_reducible repeat (first|refine blk_drewN ?_ _|refine blk_drew ?_|refine blk_alloc ?_ _));exact BK149.out) hb)
        have n3_:=Aside0.mk (below_step (by repeat (first|(with_reducible first|exact HB.out|apply below_alloc|apply pw_below_drewN|apply below_drew1|refine below_set ?_ GE149.out)|exact HB.out)) hb)
        clear HO153
        clear BK149
        clear HB
        have HO153:=n0_
        have HO156:=n1_
        have BK149:=n2_
        have HB:=n3_
        clear n0_ n1_ n2_ n3_
        clear hb ho18
        refine hK.out _ _ trivial (fun hHeld=> ?_)
        clear hK K
        refine norm_ (a':= ?_) ?_ ?_
        rotate_left
        ·show Act.put _ (some 23) _=_
         simp only[Act.put,zA,zB,zC,i64_w,i32_w]
         rfl
        exact norm_ (by simp only[putAll,Act.put,zA,zB,zC]) (hCont (v152,v155) _ ⟨(by (with_reducible repeat (first|apply Kd.R_alloc|apply Kd.R_drewN|apply Kd.R_drew));exact HO153.out),(by (with_reducible repeat (first|apply Kd.R_alloc|apply Kd.R_drewN|apply Kd.R_drew));exact HO156.out),(by (with_reducible repeat (first|refine blk_drewN ?_ _|refine blk_drew ?_|refine blk_alloc ?_ _));exact BK149.out),(by repeat (first|(with_reducible first|exact HB.out|apply below_alloc|apply pw_below_drewN|apply below_drew1|refine below_set ?_ GE149.out)|exact HB.out))⟩)
       ·skip
        refine Kd.R_make_step Kd.bool _ 4 (by rfl) (N:=23) rfl 65 _ _ rfl 9 rfl rfl Tryz.underlying65 (.bool false) 1 info4 rfl (by decide) (by omega) false (ok:=fun _=>True) (okp:=fun _=>True) rfl (fun _ hk=>hk) trivial (by omega) (by omega) (Below.refl _ _) (Nat.le_refl _) ?_
        intro v155 w15 ho16 hb hg_ hnew_
        clear hg_ hnew_
        (first|rw[←Ny154.out]at ho16|(simp only[Int.reduceToNat]at ho16;rw[←Ny154.out]at ho16))
        have n0_:=Aside0.mk (Kd.R_lower ho16 (below_size (by repeat (first|(with_reducible first|exact HB.out|apply below_alloc|apply pw_below_drewN|apply below_drew1|refine below_set ?_ GE149.out)|exact HB.out))))
        have n1_:=Aside0.mk (blk_below (g:=gb149) (o:=.cells #[.int .i64 a0_0,.int .i64 a0_1,.int .i64 a0_2,.slice A0_3 l0_3.length c0_3] 24 (0,0)) (by (with_reducible repeat (first|refine blk_drewN ?_ _|refine blk_drew ?_|refine blk_alloc ?_ _));exact BK149.out) hb)
        have n2_:=Aside0.mk (below_step (by repeat (first|(with_reducible first|exact HB.out|apply below_alloc|apply pw_below_drewN|apply below_drew1|refine below_set ?_ GE149.out)|exact HB.out)) hb)
        clear BK149
        clear HB
        have HO156:=n0_
        have BK149:=n1_
        have HB:=n2_
        clear n0_ n1_ n2_
        clear hb ho16
        refine hK.out _ _ trivial (fun hHeld=> ?_)
        clear hK K
        refine norm_ (a':= ?_) ?_ ?_
        rotate_left
        ·show Act.put _ (some 23) _=_
         simp only[Act.put,zA,zB,zC,i64_w,i32_w]
         rfl
        refine one_ (i:=0) (N:=some 22) #[true,true,false,false] rfl rfl (by kernel_rfl) (by decide) (fun K hK=> ?_)
        refine Kd.R_make_step Kd.string _ 9 (by rfl) (N:=22) rfl 27 _ _ rfl 9 rfl rfl Tryz.underlying27 (.string ⟨#[]⟩) 16 info9 rfl (by decide) (by omega) (⟨#[]⟩:ByteArray) (ok:=fun _=>True) (okp:=fun _=>True) rfl (fun _ hk=>hk) trivial (by omega) (by omega) (Below.refl _ _) (Nat.le_refl _) ?_
        intro v152 w17 ho18 hb hg_ hnew_
        clear hg_ hnew_
        (first|rw[←Ny151.out]at ho18|(simp only[Int.reduceToNat]at ho18;rw[←Ny151.out]at ho18))
        have n0_:=Aside0.mk (Kd.R_below (by (with_reducible repeat (first|apply Kd.R_alloc|apply Kd.R_drewN|apply Kd.R_drew));exact HO156.out) hb)
        have n1_:=Aside0.mk (Kd.R_lower ho18 (below_size (by repeat (first|(with_reducible first|exact HB.out|apply below_alloc|apply pw_below_drewN|apply below_drew1|refine below_set ?_ GE149.out)|exact HB.out))))
        have n2_:=Aside0.mk (blk_below (g:=gb149) (o:=.cells #[.int .i64 a0_0,.int .i64 a0_1,.int .i64 a0_2,.slice A0_3 l0_3.length c0_3] 24 (0,0)) (by (with_reducible repeat (first|refine blk_drewN ?_ _|refine blk_drew ?_|refine blk_alloc ?_ _));exact BK149.out) hb)
        have n3_:=Aside0.mk (below_step (by repeat (first|(with_reducible first|exact HB.out|apply below_alloc|apply pw_below_drewN|apply below_drew1|refine below_set ?_ GE149.out)|exact HB.out)) hb)
        clear HO156
        clear BK149
        clear HB
        have HO156:=n0_
        have HO153:=n1_
        have BK149:=n2_
        have HB:=n3_
        clear n0_ n1_ n2_ n3_
        clear hb ho18
        refine hK.out _ _ trivial (fun hHeld=> ?_)
        clear hK K
        refine norm_ (a':= ?_) ?_ ?_
        rotate_left
        ·show Act.put _ (some 22) _=_
         simp only[Act.put,zA,zB,zC,i64_w,i32_w]
         rfl
        refine pure_ (i:=2) (N:=some 7) (v:= ?_) (a':= ?_) #[true,true,true,false] rfl rfl (by kernel_rfl) (fun _ _ _ h=>h) (Or.inl ⟨by rfl,?_⟩) ?_ ?_
        rotate_left
        ·intro w'
         go_simp
         with_reducible rfl
        rotate_left
        ·simp only[Act.put,zA,zB,zC,i64_w,i32_w]
         rfl
        exact norm_ (by simp only[putAll,Act.put,zA,zB,zC]) (hCont (v152,v155) _ ⟨(by (with_reducible repeat (first|apply Kd.R_alloc|apply Kd.R_drewN|apply Kd.R_drew));exact HO153.out),(by (with_reducible repeat (first|apply Kd.R_alloc|apply Kd.R_drewN|apply Kd.R_drew));exact HO156.out),(by (with_reducible repeat (first|refine blk_drewN ?_ _|refine blk_drew ?_|refine blk_alloc ?_ _));exact BK149.out),(by repeat (first|(with_reducible first|exact HB.out|apply below_alloc|apply pw_below_drewN|apply below_drew1|refine below_set ?_ GE149.out)|exact HB.out))⟩)
      rintro⟨v152,v155⟩ w19 ⟨h0_,h1_,h2_,h3_⟩
      have n0_:Aside0 (Kd.R Kd.string 9 w19 w.heap.size (fun _=>True) v152 y151):=⟨h0_⟩
      have n1_:Aside0 (Kd.R Kd.bool 4 w19 w.heap.size (fun _=>True) v155 y154):=⟨h1_⟩
      have n2_:Aside0 (w19.heap[gb149]? = some (.cells #[.int .i64 a0_0,.int .i64 a0_1,.int .i64 a0_2,.slice A0_3 l0_3.length c0_3] 24 (0,0))):=⟨h2_⟩
      have n3_:Aside0 (Below w.heap.size w w19):=⟨h3_⟩
      clear BK149
      clear HB
      clear h0_ h1_ h2_ h3_
      have HO153:=n0_
      have HO156:=n1_
      have BK149:=n2_
      have HB:=n3_
      clear n0_ n1_ n2_ n3_
      have hHeld:=trivial
      refine norm_ (a':= ?_) ?_ ?_
      rotate_left
      ·simp only[putAll,Act.put,zA,zB,zC]
       rfl
      refine pure_ (i:=3) (N:=some 8) (v:= ?_) (a':= ?_) #[true,true,true,true] rfl rfl (by kernel_rfl) (fun _ _ _ h=>h) (Or.inl ⟨by rfl,?_⟩) ?_ ?_
      rotate_left
      ·intro w'
       go_simp
       with_reducible rfl
      rotate_left
      ·simp only[Act.put,zA,zB,zC,i64_w,i32_w]
       rfl
      refine done_ (by kernel_rfl) ?_
      try go_wp2
      go_loopg [9,26] kj2 (fun kq v9 v26 w'=> ∃ (x7_2:List ByteArray) (x8_2:List Bool) (x9_2:List Int) (x26_2:Int),v26 = .int .i64 x26_2∧Aside0 (stripe_Text.l0 kq x7_2 x8_2 x9_2 l1 (l1.length:Int) x26_2 a0_0 a0_1 a0_2 l0_3=some (r1,r2,r3))∧Aside0 (kq≤kj2)∧Aside0 (Kd.R Kd.string 9 w' w.heap.size (fun _=>True) v152 x7_2)∧Aside0 (Kd.R Kd.bool 4 w' w.heap.size (fun _=>True) v155 x8_2)∧Aside0 (Kd.R (Kd.int .i64) 3 w' w.heap.size (fun _=>True) v9 x9_2)∧Aside0 (w'.heap[gb149]? = some (.cells #[.int .i64 a0_0,.int .i64 a0_1,.int .i64 a0_2,(.slice A0_3 l0_3.length c0_3)] 24 (0,0)))∧Aside0 (Below w.heap.size w w'))
      case atStart=>exact⟨(y151),(y154),(([]:List Int)),(0),(by first|rfl|(simp;done)|(simp[*];done)),H',⟨Nat.le_refl _⟩,⟨by (with_reducible repeat (first|apply Kd.R_alloc|apply Kd.R_drewN|apply Kd.R_drew));exact HO153.out⟩,⟨by (with_reducible repeat (first|apply Kd.R_alloc|apply Kd.R_drewN|apply Kd.R_drew));exact HO156.out⟩,⟨by first|exact Kd.R_nil _ _ _ _ _|exact Kd.N_nil _ _ _ _ _|exact Kd.V_nil _ _ _ _ _|exact Kd.Q_nil _ _ _ _ _|exact Kd.S_nil _ _ _ _ _⟩,⟨by (with_reducible repeat (first|refine blk_drewN ?_ _|refine blk_drew ?_|refine blk_alloc ?_ _));exact BK149.out⟩,⟨by repeat (first|(with_reducible first|exact HB.out|apply below_alloc|apply pw_below_drewN|apply below_drew1|refine below_set ?_ GE149.out)|exact HB.out)⟩⟩
      case round=>
       clear H'
       try clear c1
       try clear c2
       try clear p2
       try clear c6
       try clear c11
       try clear c12
       try clear c12b0
       try clear c12b1
       try clear c13
       try clear c13b0
       try clear c13b1
       try clear hcz7_0
       try clear hcz7_1
       try clear hcz7_2
       try clear hcz7_3
       try clear hcz9_0
       try clear hcz9_1
       try clear hcz9_2
       try clear hcz9_3
       try clear hfz7_0
       try clear hfz7_1
       try clear hfz7_2
       try clear hfz7_3
       try clear hfz9_0
       try clear hfz9_1
       try clear hfz9_2
       try clear hfz9_3
       try clear p2
       obtain⟨x7_2,x8_2,x9_2,x26_2,rfl,HA,HK2,HO_7,HO_8,HO_9,BK149,HB⟩:=hrel
       cases gk with
       | zero=>exact absurd HA.out (by simp[stripe_Text.l0])
       | succ k2=>
        have H:=HA.out
        clear HA
        simp only[stripe_Text.l0]at H
        by_cases c20:x26_2<(l1.length:Int)
        ·rw[if_pos c20]at H
         have c20b0:decide (x26_2<(l1.length:Int))=true:=decide_eq_true c20
         clear c20
         by_cases c21:0≤x26_2
         ·rw[if_pos c21]at H
          have c21b0:decide (0≤x26_2)=true:=decide_eq_true c21
          clear c21
          by_cases c22:x26_2<(l1.length:Int)
          ·rw[if_pos c22]at H
           have c22b0:decide (x26_2<(l1.length:Int))=true:=decide_eq_true c22
           clear c22
           replace H:=Option.bind_eq_some_iff.mp H
           obtain⟨⟨t158,t159⟩,A230,H⟩:=H
           replace H:(if x26_2<(x7_2.length:Int)then ((some (x7_2.set (x26_2:Int).toNat t158:List ByteArray)).bind fun y160=>(if x26_2<(x8_2.length:Int)then ((some (x8_2.set (x26_2:Int).toNat t159:List Bool)).bind fun y161=>(if rdOf false y161 x26_2=true then (stripe_Text.l0 k2 y160 y161 x9_2 l1 (l1.length:Int) (wrap64 (x26_2+1)) a0_0 a0_1 a0_2 l0_3)else (if x9_2.length<17592186044416 then (stripe_Text.l0 k2 y160 y161 (x9_2++[x26_2]) l1 (l1.length:Int) (wrap64 (x26_2+1)) a0_0 a0_1 a0_2 l0_3)else (none))))else (none)))else (none))=some (r1,r2,r3):=H
           have A23:=Aside0.mk A230
           clear A230
           by_cases c24:x26_2<(x7_2.length:Int)
           ·rw[if_pos c24]at H
            have c24b0:decide (x26_2<(x7_2.length:Int))=true:=decide_eq_true c24
            clear c24
            obtain⟨y160,hy160⟩ : ∃ y_:List ByteArray,y_=(x7_2.set (x26_2:Int).toNat t158):=⟨_,rfl⟩
            replace H:(if x26_2<(x8_2.length:Int)then ((some (x8_2.set (x26_2:Int).toNat t159:List Bool)).bind fun y161=>(if rdOf false y161 x26_2=true then (stripe_Text.l0 k2 y160 y161 x9_2 l1 (l1.length:Int) (wrap64 (x26_2+1)) a0_0 a0_1 a0_2 l0_3)else (if x9_2.length<17592186044416 then (stripe_Text.l0 k2 y160 y161 (x9_2++[x26_2]) l1 (l1.length:Int) (wrap64 (x26_2+1)) a0_0 a0_1 a0_2 l0_3)else (none))))else (none))=some (r1,r2,r3):=by first|(rw[hy160];with_reducible exact H)|(have H2_:=(Option.bind_some _ _).symm.trans H;rw[hy160];with_reducible exact H2_)|(have H2_:=(Option.bind_some _ _).symm.trans H;with_reducible exact H2_)|with_reducible exact H|(rw[hy160];exact H)|exact H
            have Ny160:=Aside0.mk hy160
            clear hy160
            by_cases c26:x26_2<(x8_2.length:Int)
            ·rw[if_pos c26]at H
             have c26b0:decide (x26_2<(x8_2.length:Int))=true:=decide_eq_true c26
             clear c26
             obtain⟨y161,hy161⟩ : ∃ y_:List Bool,y_=(x8_2.set (x26_2:Int).toNat t159):=⟨_,rfl⟩
             replace H:(if rdOf false y161 x26_2=true then (stripe_Text.l0 k2 y160 y161 x9_2 l1 (l1.length:Int) (wrap64 (x26_2+1)) a0_0 a0_1 a0_2 l0_3)else (if x9_2.length<17592186044416 then (stripe_Text.l0 k2 y160 y161 (x9_2++[x26_2]) l1 (l1.length:Int) (wrap64 (x26_2+1)) a0_0 a0_1 a0_2 l0_3)else (none)))=some (r1,r2,r3):=by first|(rw[hy161];with_reducible exact H)|(have H2_:=(Option.bind_some _ _).symm.trans H;rw[hy161];with_reducible exact H2_)|(have H2_:=(Option.bind_some _ _).symm.trans H;with_reducible exact H2_)|with_reducible exact H|(rw[hy161];exact H)|exact H
             have Ny161:=Aside0.mk hy161
             clear hy161
             obtain⟨bq28,hbq28⟩ : ∃ b_:Bool,b_=(rdOf false y161 x26_2):=⟨_,rfl⟩
             replace H:(if bq28=true then (stripe_Text.l0 k2 y160 y161 x9_2 l1 (l1.length:Int) (wrap64 (x26_2+1)) a0_0 a0_1 a0_2 l0_3)else (if x9_2.length<17592186044416 then (stripe_Text.l0 k2 y160 y161 (x9_2++[x26_2]) l1 (l1.length:Int) (wrap64 (x26_2+1)) a0_0 a0_1 a0_2 l0_3)else (none)))=some (r1,r2,r3):=by rw[←hbq28]at H;exact H
             have Nbq28:=Aside0.mk hbq28
             clear hbq28
             by_cases c29:bq28=true
             ·subst c29
              have H1:(stripe_Text.l0 k2 y160 y161 x9_2 l1 (l1.length:Int) (wrap64 (x26_2+1)) a0_0 a0_1 a0_2 l0_3)=some (r1,r2,r3):=by rw[if_pos rfl]at H;exact H
              clear H
              have H:=H1
              clear H1
              have H':=Aside0.mk H
              clear H
              have p157:0≤(x26_2:Int):=of_decide_eq_true (by first|(with_reducible assumption)|assumption)
              have q157:x26_2<(l1.length:Int):=of_decide_eq_true (by first|(with_reducible assumption)|assumption)
              obtain⟨ad157,e157,hx157_0⟩:=Kd.at_string HR1.out x26_2 p157 q157
              cases e157
              replace hx157_0:=(HB.out.cell (World.block_lt_of_cell? w _ hx157_0)).trans hx157_0
              replace p157:=eq_true p157
              replace q157:=eq_true q157
              have hcz30_0:wr.cell? ⟨gb149,0,none⟩=some (.int .i64 a0_0):=(blk_cell BK149.out 0).trans rfl
              have hcz30_1:wr.cell? ⟨gb149,1,none⟩=some (.int .i64 a0_1):=(blk_cell BK149.out 1).trans rfl
              have hcz30_2:wr.cell? ⟨gb149,2,none⟩=some (.int .i64 a0_2):=(blk_cell BK149.out 2).trans rfl
              have hcz30_3:wr.cell? ⟨gb149,3,none⟩=some (.slice A0_3 l0_3.length c0_3):=(blk_cell BK149.out 3).trans rfl
              have hfz30_0:=blk_frozen BK149.out 0
              have hfz30_1:=blk_frozen BK149.out 1
              have hfz30_2:=blk_frozen BK149.out 2
              have hfz30_3:=blk_frozen BK149.out 3
              go_wp2_with (first|((with_reducible refine gate_callee (f:=33) rfl ?_);refine goesL_ (some 39) rfl rfl Tryz.func33 (by kernel_rfl) rfl #[.agg #[.int .i64 a0_0,.int .i64 a0_1,.int .i64 a0_2,.slice A0_3 l0_3.length c0_3],.int .i64 x26_2,.string (rdOf ByteArray.empty l1 x26_2)] rfl (by (try simp only[List.map_toArray,List.map_cons,List.map_nil]);first|done|rfl|(simp only[List.length_drop,List.length_take];rfl)) ?_;(with_reducible refine(stripe_good.calls a0_0 a0_1 a0_2 _ _ l0_3 x26_2 (rdOf ByteArray.empty l1 x26_2) t158 t159 _ ?side1 ?side2 A23.out).mono ?_);(case side1=>repeat (first|exact(Kd.C_below HR0_3.out HB.out)|(with_reducible refine Kd.C_alloc ?_ _)|(with_reducible refine Kd.C_drewN ?_ _)|(with_reducible refine Kd.C_drew ?_)));(case side2=>exact HC0_3.out);rintro e w31 ⟨rfl,hb⟩;refine⟨_,rfl,?_⟩;have n0_:=Aside0.mk (Kd.R_below (by (with_reducible repeat (first|apply Kd.R_alloc|apply Kd.R_drewN|apply Kd.R_drew));exact HO_7.out) hb);have n1_:=Aside0.mk (Kd.R_below (by (with_reducible repeat (first|apply Kd.R_alloc|apply Kd.R_drewN|apply Kd.R_drew));exact HO_8.out) hb);have n2_:=Aside0.mk (Kd.R_below (by (with_reducible repeat (first|apply Kd.R_alloc|apply Kd.R_drewN|apply Kd.R_drew));exact HO_9.out) hb);have n3_:=Aside0.mk (blk_below (g:=gb149) (o:=.cells #[.int .i64 a0_0,.int .i64 a0_1,.int .i64 a0_2,.slice A0_3 l0_3.length c0_3] 24 (0,0)) (by (with_reducible repeat (first|refine blk_drewN ?_ _|refine blk_drew ?_|refine blk_alloc ?_ _));exact BK149.out) hb);have n4_:=Aside0.mk (below_step (by repeat (first|(with_reducible first|exact HB.out|apply below_alloc|apply pw_below_drewN|apply below_drew1|refine below_set ?_ GE149.out)|exact HB.out)) hb);clear HO_7;clear HO_8;clear HO_9;clear BK149;clear HB;have HO_7:=n0_;have HO_8:=n1_;have HO_9:=n2_;have BK149:=n3_;have HB:=n4_;clear n0_ n1_ n2_ n3_ n4_;(try clear hb);(try clear hb2);(try clear hk);(try clear hi);have p25:0≤(x26_2:Int):=of_decide_eq_true (by first|(with_reducible assumption)|assumption);have q25:(x26_2:Int)<((x7_2.length:Int):Int):=of_decide_eq_true (by first|(with_reducible assumption)|assumption);obtain⟨go25,co25,eo25,gb25,gl25,cl25,HG25⟩:=Kd.R_form HO_7.out (by omega);(first|cases eo25|(injection eo25 with ea_ en_ ec_;(first|subst ea_|(injection ea_ with ea_;subst ea_));subst ec_;clear en_));have GB25:=Aside0.mk gb25;have GG25:=Aside0.mk HG25;clear gb25 gl25 HG25;obtain⟨hx25_0,hf25_0⟩:=Kd.R_celln (⟨#[]⟩:ByteArray) HO_7.out (x26_2:Int) p25 q25;replace p25:=eq_true p25;replace q25:=eq_true q25;obtain⟨hy32_,hz32_⟩:=Kd.R_celln (⟨#[]⟩:ByteArray) HO_7.out (x26_2:Int) (of_decide_eq_true (by first|(with_reducible assumption)|assumption)) (of_decide_eq_true (by first|(with_reducible assumption)|assumption));have HP32:=Kd.R_putg HO_7.out (x26_2:Int) t158)|((with_reducible refine gate_store (t:=9) (p:=42) rfl ?_);refine store_event (t:=9) (p:=42) (v:= ?vo_w33) (w1:=(w31.setCell ⟨go25,(x26_2:Int).toNat,none⟩ (.string t158))) ?hg ?ho ?hn ?hr ?_;(case ho=>rfl);(case hg=>rfl);(case hn=>rfl);(case hr=>first|(go_simp;done)|(go_simp;rfl));intro w33 hw;have hg:w31.grownBy w33 (some go25):=(by rw[hw];exact HP32.2);have hp_:Kd.R Kd.string 9 w33 w.heap.size (fun _=>True) (.slice (some ⟨go25,0,none⟩) x7_2.length co25) y160:=(by rw[hw,Ny160.out];exact HP32.1);clear HP32;have n0_:=Aside0.mk (hp_);have n1_:=Aside0.mk (Kd.R_over' (v:=(.slice (some ⟨go25,0,none⟩) x7_2.length co25)) (by (with_reducible repeat (first|apply Kd.R_alloc|apply Kd.R_drewN|apply Kd.R_drew));exact HO_8.out) (Kd.R_typed HO_7.out) (by decide) hg);have n2_:=Aside0.mk (Kd.R_over' (v:=(.slice (some ⟨go25,0,none⟩) x7_2.length co25)) (by (with_reducible repeat (first|apply Kd.R_alloc|apply Kd.R_drewN|apply Kd.R_drew));exact HO_9.out) (Kd.R_typed HO_7.out) (by decide) hg);have n3_:=Aside0.mk (blk_grown (g:=gb149) (o:=.cells #[.int .i64 a0_0,.int .i64 a0_1,.int .i64 a0_2,.slice A0_3 l0_3.length c0_3] 24 (0,0)) (by (with_reducible repeat (first|refine blk_drewN ?_ _|refine blk_drew ?_|refine blk_alloc ?_ _));exact BK149.out) hg (Kd.R_ne HO_7.out BK149.out (by decide)));have n4_:=Aside0.mk ((by rw[hw];exact below_set (HB.out) GB25.out:Below w.heap.size w w33));clear HO_7;clear HO_8;clear HO_9;clear BK149;clear HB;have HO_7:=n0_;have HO_8:=n1_;have HO_9:=n2_;have BK149:=n3_;have HB:=n4_;clear n0_ n1_ n2_ n3_ n4_;clear hg hw hp_;have p27:0≤(x26_2:Int):=of_decide_eq_true (by first|(with_reducible assumption)|assumption);have q27:(x26_2:Int)<((x8_2.length:Int):Int):=of_decide_eq_true (by first|(with_reducible assumption)|assumption);obtain⟨go27,co27,eo27,gb27,gl27,cl27,HG27⟩:=Kd.R_form HO_8.out (by omega);(first|cases eo27|(injection eo27 with ea_ en_ ec_;(first|subst ea_|(injection ea_ with ea_;subst ea_));subst ec_;clear en_));have GB27:=Aside0.mk gb27;have GG27:=Aside0.mk HG27;clear gb27 gl27 HG27;obtain⟨hx27_0,hf27_0⟩:=Kd.R_celln false HO_8.out (x26_2:Int) p27 q27;replace p27:=eq_true p27;replace q27:=eq_true q27;obtain⟨hy34_,hz34_⟩:=Kd.R_celln false HO_8.out (x26_2:Int) (of_decide_eq_true (by first|(with_reducible assumption)|assumption)) (of_decide_eq_true (by first|(with_reducible assumption)|assumption));have HP34:=Kd.R_putg HO_8.out (x26_2:Int) t159)|((with_reducible refine gate_store (t:=4) (p:=43) rfl ?_);refine store_event (t:=4) (p:=43) (v:= ?vo_w35) (w1:=(w33.setCell ⟨go27,(x26_2:Int).toNat,none⟩ (.bool t159))) ?hg ?ho ?hn ?hr ?_;(case ho=>rfl);(case hg=>rfl);(case hn=>rfl);(case hr=>first|(go_simp;done)|(go_simp;rfl));intro w35 hw;have hg:w33.grownBy w35 (some go27):=(by rw[hw];exact HP34.2);have hp_:Kd.R Kd.bool 4 w35 w.heap.size (fun _=>True) (.slice (some ⟨go27,0,none⟩) x8_2.length co27) y161:=(by rw[hw,Ny161.out];exact HP34.1);clear HP34;have n0_:=Aside0.mk (Kd.R_over' (v:=(.slice (some ⟨go27,0,none⟩) x8_2.length co27)) (by (with_reducible repeat (first|apply Kd.R_alloc|apply Kd.R_drewN|apply Kd.R_drew));exact HO_7.out) (Kd.R_typed HO_8.out) (by decide) hg);have n1_:=Aside0.mk (hp_);have n2_:=Aside0.mk (Kd.R_over' (v:=(.slice (some ⟨go27,0,none⟩) x8_2.length co27)) (by (with_reducible repeat (first|apply Kd.R_alloc|apply Kd.R_drewN|apply Kd.R_drew));exact HO_9.out) (Kd.R_typed HO_8.out) (by decide) hg);have n3_:=Aside0.mk (blk_grown (g:=gb149) (o:=.cells #[.int .i64 a0_0,.int .i64 a0_1,.int .i64 a0_2,.slice A0_3 l0_3.length c0_3] 24 (0,0)) (by (with_reducible repeat (first|refine blk_drewN ?_ _|refine blk_drew ?_|refine blk_alloc ?_ _));exact BK149.out) hg (Kd.R_ne HO_8.out BK149.out (by decide)));have n4_:=Aside0.mk ((by rw[hw];exact below_set (HB.out) GB27.out:Below w.heap.size w w35));clear HO_7;clear HO_8;clear HO_9;clear BK149;clear HB;have HO_7:=n0_;have HO_8:=n1_;have HO_9:=n2_;have BK149:=n3_;have HB:=n4_;clear n0_ n1_ n2_ n3_ n4_;clear hg hw hp_;have p162:0≤(x26_2:Int):=of_decide_eq_true (by first|(with_reducible assumption)|assumption);have q162:x26_2<(y161.length:Int):=(by have h_:(x26_2:Int)<((x8_2.length:Int):Int):=of_decide_eq_true (by first|(with_reducible assumption)|assumption);first|(have e_:=(Kd.R_reads' HO_8.out).1;omega)|simpa only[Ny161.out,List.length_set] using h_);have ql162:((x26_2:Int)<((x8_2.length:Int):Int))=True:=eq_true (of_decide_eq_true (by first|(with_reducible assumption)|assumption));obtain⟨ad162,e162,hx162_0⟩:=Kd.at_bool (Kd.R_reads' HO_8.out).2.2 x26_2 p162 q162;(try rw[←Nbq28.out]at hx162_0);obtain rfl:(⟨go27,0,none⟩:Addr)=ad162:=(by injection e162);(first|simp only[add_plain]at hx162_0|simp only[add_at]at hx162_0|simp only[Addr.add,Nat.zero_add]at hx162_0|skip);replace p162:=eq_true p162;replace q162:=eq_true q162))
              go_roundg k2
              case measure=>have:=HJ2.out;have:=HK2.out;omega
              case rel=>exact⟨(y160),(y161),(x9_2),(wrap64 (x26_2+1)),(by first|rfl|(simp;done)|(simp[*];done)),H',⟨by have:=HJ2.out;have:=HK2.out;omega⟩,⟨by (with_reducible repeat (first|apply Kd.R_alloc|apply Kd.R_drewN|apply Kd.R_drew));exact HO_7.out⟩,⟨by (with_reducible repeat (first|apply Kd.R_alloc|apply Kd.R_drewN|apply Kd.R_drew));exact HO_8.out⟩,⟨by (with_reducible repeat (first|apply Kd.R_alloc|apply Kd.R_drewN|apply Kd.R_drew));exact HO_9.out⟩,⟨by (with_reducible repeat (first|refine blk_drewN ?_ _|refine blk_drew ?_|refine blk_alloc ?_ _));exact BK149.out⟩,⟨by repeat (first|(with_reducible first|exact HB.out|apply below_alloc|apply pw_below_drewN|apply below_drew1|refine below_set ?_ GE149.out)|exact HB.out)⟩⟩
             ·replace c29:=Bool.eq_false_iff.mpr c29
              subst c29
              have H1:(if x9_2.length<17592186044416 then (stripe_Text.l0 k2 y160 y161 (x9_2++[x26_2]) l1 (l1.length:Int) (wrap64 (x26_2+1)) a0_0 a0_1 a0_2 l0_3)else (none))=some (r1,r2,r3):=by rw[if_neg (show ¬ (false=true)by decide)]at H;exact H
              clear H
              have H:=H1
              clear H1
              by_cases c36:x9_2.length<17592186044416
              ·rw[if_pos c36]at H
               have LMc36:=Aside0.mk c36
               clear c36
               obtain⟨y163,hy163⟩ : ∃ y_:List Int,y_=(x9_2++[x26_2]):=⟨_,rfl⟩
               replace H:(stripe_Text.l0 k2 y160 y161 y163 l1 (l1.length:Int) (wrap64 (x26_2+1)) a0_0 a0_1 a0_2 l0_3)=some (r1,r2,r3):=by first|(rw[hy163];with_reducible exact H)|(have H2_:=(Option.bind_some _ _).symm.trans H;rw[hy163];with_reducible exact H2_)|(have H2_:=(Option.bind_some _ _).symm.trans H;with_reducible exact H2_)|with_reducible exact H|(rw[hy163];exact H)|exact H
               have Ny163:=Aside0.mk hy163
               clear hy163
               have H':=Aside0.mk H
               clear H
               have p157:0≤(x26_2:Int):=of_decide_eq_true (by first|(with_reducible assumption)|assumption)
               have q157:x26_2<(l1.length:Int):=of_decide_eq_true (by first|(with_reducible assumption)|assumption)
               obtain⟨ad157,e157,hx157_0⟩:=Kd.at_string HR1.out x26_2 p157 q157
               cases e157
               replace hx157_0:=(HB.out.cell (World.block_lt_of_cell? w _ hx157_0)).trans hx157_0
               replace p157:=eq_true p157
               replace q157:=eq_true q157
               have hcz37_0:wr.cell? ⟨gb149,0,none⟩=some (.int .i64 a0_0):=(blk_cell BK149.out 0).trans rfl
               have hcz37_1:wr.cell? ⟨gb149,1,none⟩=some (.int .i64 a0_1):=(blk_cell BK149.out 1).trans rfl
               have hcz37_2:wr.cell? ⟨gb149,2,none⟩=some (.int .i64 a0_2):=(blk_cell BK149.out 2).trans rfl
               have hcz37_3:wr.cell? ⟨gb149,3,none⟩=some (.slice A0_3 l0_3.length c0_3):=(blk_cell BK149.out 3).trans rfl
               have hfz37_0:=blk_frozen BK149.out 0
               have hfz37_1:=blk_frozen BK149.out 1
               have hfz37_2:=blk_frozen BK149.out 2
               have hfz37_3:=blk_frozen BK149.out 3
               go_wp2_with (first|((with_reducible refine gate_callee (f:=33) rfl ?_);refine goesL_ (some 39) rfl rfl Tryz.func33 (by kernel_rfl) rfl #[.agg #[.int .i64 a0_0,.int .i64 a0_1,.int .i64 a0_2,.slice A0_3 l0_3.length c0_3],.int .i64 x26_2,.string (rdOf ByteArray.empty l1 x26_2)] rfl (by (try simp only[List.map_toArray,List.map_cons,List.map_nil]);first|done|rfl|(simp only[List.length_drop,List.length_take];rfl)) ?_;(with_reducible refine(stripe_good.calls a0_0 a0_1 a0_2 _ _ l0_3 x26_2 (rdOf ByteArray.empty l1 x26_2) t158 t159 _ ?side1 ?side2 A23.out).mono ?_);(case side1=>repeat (first|exact(Kd.C_below HR0_3.out HB.out)|(with_reducible refine Kd.C_alloc ?_ _)|(with_reducible refine Kd.C_drewN ?_ _)|(with_reducible refine Kd.C_drew ?_)));(case side2=>exact HC0_3.out);rintro e w38 ⟨rfl,hb⟩;refine⟨_,rfl,?_⟩;have n0_:=Aside0.mk (Kd.R_below (by (with_reducible repeat (first|apply Kd.R_alloc|apply Kd.R_drewN|apply Kd.R_drew));exact HO_7.out) hb);have n1_:=Aside0.mk (Kd.R_below (by (with_reducible repeat (first|apply Kd.R_alloc|apply Kd.R_drewN|apply Kd.R_drew));exact HO_8.out) hb);have n2_:=Aside0.mk (Kd.R_below (by (with_reducible repeat (first|apply Kd.R_alloc|apply Kd.R_drewN|apply Kd.R_drew));exact HO_9.out) hb);have n3_:=Aside0.mk (blk_below (g:=gb149) (o:=.cells #[.int .i64 a0_0,.int .i64 a0_1,.int .i64 a0_2,.slice A0_3 l0_3.length c0_3] 24 (0,0)) (by (with_reducible repeat (first|refine blk_drewN ?_ _|refine blk_drew ?_|refine blk_alloc ?_ _));exact BK149.out) hb);have n4_:=Aside0.mk (below_step (by repeat (first|(with_reducible first|exact HB.out|apply below_alloc|apply pw_below_drewN|apply below_drew1|refine below_set ?_ GE149.out)|exact HB.out)) hb);clear HO_7;clear HO_8;clear HO_9;clear BK149;clear HB;have HO_7:=n0_;have HO_8:=n1_;have HO_9:=n2_;have BK149:=n3_;have HB:=n4_;clear n0_ n1_ n2_ n3_ n4_;(try clear hb);(try clear hb2);(try clear hk);(try clear hi);have p25:0≤(x26_2:Int):=of_decide_eq_true (by first|(with_reducible assumption)|assumption);have q25:(x26_2:Int)<((x7_2.length:Int):Int):=of_decide_eq_true (by first|(with_reducible assumption)|assumption);obtain⟨go25,co25,eo25,gb25,gl25,cl25,HG25⟩:=Kd.R_form HO_7.out (by omega);(first|cases eo25|(injection eo25 with ea_ en_ ec_;(first|subst ea_|(injection ea_ with ea_;subst ea_));subst ec_;clear en_));have GB25:=Aside0.mk gb25;have GG25:=Aside0.mk HG25;clear gb25 gl25 HG25;obtain⟨hx25_0,hf25_0⟩:=Kd.R_celln (⟨#[]⟩:ByteArray) HO_7.out (x26_2:Int) p25 q25;replace p25:=eq_true p25;replace q25:=eq_true q25;obtain⟨hy39_,hz39_⟩:=Kd.R_celln (⟨#[]⟩:ByteArray) HO_7.out (x26_2:Int) (of_decide_eq_true (by first|(with_reducible assumption)|assumption)) (of_decide_eq_true (by first|(with_reducible assumption)|assumption));have HP39:=Kd.R_putg HO_7.out (x26_2:Int) t158)|((with_reducible refine gate_store (t:=9) (p:=42) rfl ?_);refine store_event (t:=9) (p:=42) (v:= ?vo_w40) (w1:=(w38.setCell ⟨go25,(x26_2:Int).toNat,none⟩ (.string t158))) ?hg ?ho ?hn ?hr ?_;(case ho=>rfl);(case hg=>rfl);(case hn=>rfl);(case hr=>first|(go_simp;done)|(go_simp;rfl));intro w40 hw;have hg:w38.grownBy w40 (some go25):=(by rw[hw];exact HP39.2);have hp_:Kd.R Kd.string 9 w40 w.heap.size (fun _=>True) (.slice (some ⟨go25,0,none⟩) x7_2.length co25) y160:=(by rw[hw,Ny160.out];exact HP39.1);clear HP39;have n0_:=Aside0.mk (hp_);have n1_:=Aside0.mk (Kd.R_over' (v:=(.slice (some ⟨go25,0,none⟩) x7_2.length co25)) (by (with_reducible repeat (first|apply Kd.R_alloc|apply Kd.R_drewN|apply Kd.R_drew));exact HO_8.out) (Kd.R_typed HO_7.out) (by decide) hg);have n2_:=Aside0.mk (Kd.R_over' (v:=(.slice (some ⟨go25,0,none⟩) x7_2.length co25)) (by (with_reducible repeat (first|apply Kd.R_alloc|apply Kd.R_drewN|apply Kd.R_drew));exact HO_9.out) (Kd.R_typed HO_7.out) (by decide) hg);have n3_:=Aside0.mk (blk_grown (g:=gb149) (o:=.cells #[.int .i64 a0_0,.int .i64 a0_1,.int .i64 a0_2,.slice A0_3 l0_3.length c0_3] 24 (0,0)) (by (with_reducible repeat (first|refine blk_drewN ?_ _|refine blk_drew ?_|refine blk_alloc ?_ _));exact BK149.out) hg (Kd.R_ne HO_7.out BK149.out (by decide)));have n4_:=Aside0.mk ((by rw[hw];exact below_set (HB.out) GB25.out:Below w.heap.size w w40));clear HO_7;clear HO_8;clear HO_9;clear BK149;clear HB;have HO_7:=n0_;have HO_8:=n1_;have HO_9:=n2_;have BK149:=n3_;have HB:=n4_;clear n0_ n1_ n2_ n3_ n4_;clear hg hw hp_;have p27:0≤(x26_2:Int):=of_decide_eq_true (by first|(with_reducible assumption)|assumption);have q27:(x26_2:Int)<((x8_2.length:Int):Int):=of_decide_eq_true (by first|(with_reducible assumption)|assumption);obtain⟨go27,co27,eo27,gb27,gl27,cl27,HG27⟩:=Kd.R_form HO_8.out (by omega);(first|cases eo27|(injection eo27 with ea_ en_ ec_;(first|subst ea_|(injection ea_ with ea_;subst ea_));subst ec_;clear en_));have GB27:=Aside0.mk gb27;have GG27:=Aside0.mk HG27;clear gb27 gl27 HG27;obtain⟨hx27_0,hf27_0⟩:=Kd.R_celln false HO_8.out (x26_2:Int) p27 q27;replace p27:=eq_true p27;replace q27:=eq_true q27;obtain⟨hy41_,hz41_⟩:=Kd.R_celln false HO_8.out (x26_2:Int) (of_decide_eq_true (by first|(with_reducible assumption)|assumption)) (of_decide_eq_true (by first|(with_reducible assumption)|assumption));have HP41:=Kd.R_putg HO_8.out (x26_2:Int) t159)|((with_reducible refine gate_store (t:=4) (p:=43) rfl ?_);refine store_event (t:=4) (p:=43) (v:= ?vo_w42) (w1:=(w40.setCell ⟨go27,(x26_2:Int).toNat,none⟩ (.bool t159))) ?hg ?ho ?hn ?hr ?_;(case ho=>rfl);(case hg=>rfl);(case hn=>rfl);(case hr=>first|(go_simp;done)|(go_simp;rfl));intro w42 hw;have hg:w40.grownBy w42 (some go27):=(by rw[hw];exact HP41.2);have hp_:Kd.R Kd.bool 4 w42 w.heap.size (fun _=>True) (.slice (some ⟨go27,0,none⟩) x8_2.length co27) y161:=(by rw[hw,Ny161.out];exact HP41.1);clear HP41;have n0_:=Aside0.mk (Kd.R_over' (v:=(.slice (some ⟨go27,0,none⟩) x8_2.length co27)) (by (with_reducible repeat (first|apply Kd.R_alloc|apply Kd.R_drewN|apply Kd.R_drew));exact HO_7.out) (Kd.R_typed HO_8.out) (by decide) hg);have n1_:=Aside0.mk (hp_);have n2_:=Aside0.mk (Kd.R_over' (v:=(.slice (some ⟨go27,0,none⟩) x8_2.length co27)) (by (with_reducible repeat (first|apply Kd.R_alloc|apply Kd.R_drewN|apply Kd.R_drew));exact HO_9.out) (Kd.R_typed HO_8.out) (by decide) hg);have n3_:=Aside0.mk (blk_grown (g:=gb149) (o:=.cells #[.int .i64 a0_0,.int .i64 a0_1,.int .i64 a0_2,.slice A0_3 l0_3.length c0_3] 24 (0,0)) (by (with_reducible repeat (first|refine blk_drewN ?_ _|refine blk_drew ?_|refine blk_alloc ?_ _));exact BK149.out) hg (Kd.R_ne HO_8.out BK149.out (by decide)));have n4_:=Aside0.mk ((by rw[hw];exact below_set (HB.out) GB27.out:Below w.heap.size w w42));clear HO_7;clear HO_8;clear HO_9;clear BK149;clear HB;have HO_7:=n0_;have HO_8:=n1_;have HO_9:=n2_;have BK149:=n3_;have HB:=n4_;clear n0_ n1_ n2_ n3_ n4_;clear hg hw hp_;have p162:0≤(x26_2:Int):=of_decide_eq_true (by first|(with_reducible assumption)|assumption);have q162:x26_2<(y161.length:Int):=(by have h_:(x26_2:Int)<((x8_2.length:Int):Int):=of_decide_eq_true (by first|(with_reducible assumption)|assumption);first|(have e_:=(Kd.R_reads' HO_8.out).1;omega)|simpa only[Ny161.out,List.length_set] using h_);have ql162:((x26_2:Int)<((x8_2.length:Int):Int))=True:=eq_true (of_decide_eq_true (by first|(with_reducible assumption)|assumption));obtain⟨ad162,e162,hx162_0⟩:=Kd.at_bool (Kd.R_reads' HO_8.out).2.2 x26_2 p162 q162;(try rw[←Nbq28.out]at hx162_0);obtain rfl:(⟨go27,0,none⟩:Addr)=ad162:=(by injection e162);(first|simp only[add_plain]at hx162_0|simp only[add_at]at hx162_0|simp only[Addr.add,Nat.zero_add]at hx162_0|skip);replace p162:=eq_true p162;replace q162:=eq_true q162)|((with_reducible refine gate_builtin (b:=.append) (xs:= #[.tmp 49,.tmp 51]) rfl ?_);(try (refine gate_guard (by rfl) ?_;dsimp only));at_builtin;refine Kd.R_append (Kd.int .i64) (w0:=w) w.heap.size rfl (.tmp 49) (.tmp 51) 34 3 (.int .i64 0) 8 rfl Tryz.underlying34 info3 rfl (by decide) (by omega) u9 x9_2 x26_2 [.int .i64 x26_2] (fun _=>True) (fun _=>False) rfl rfl ?aP (fun _ hk=>hk.elim) ?aF ?aO ?aB ?aS ?aL ?_;(case aP=>exact rfl);(case aB=>exact(by repeat (first|(with_reducible first|exact HB.out|apply below_alloc|apply pw_below_drewN|apply below_drew1|refine below_set ?_ GE149.out)|exact HB.out)));(case aF=>exact(fun _ _=>trivial));(case aO=>exact(by (with_reducible repeat (first|apply Kd.R_alloc|apply Kd.R_drewN|apply Kd.R_drew));exact HO_9.out));(case aS=>exact(below_size (by repeat (first|(with_reducible first|exact HB.out|apply below_alloc|apply pw_below_drewN|apply below_drew1|refine below_set ?_ GE149.out)|exact HB.out))));(case aL=>have:=LMc36.out;omega);intro v164 w43 ho hb hg hat;rw[←Ny163.out]at ho;have n0_:=Aside0.mk (Kd.R_over' (by (with_reducible repeat (first|apply Kd.R_alloc|apply Kd.R_drewN|apply Kd.R_drew));exact HO_7.out) (Kd.R_typed (by (with_reducible repeat (first|apply Kd.R_alloc|apply Kd.R_drewN|apply Kd.R_drew));exact HO_9.out)) (by decide) hg);have n1_:=Aside0.mk (Kd.R_over' (by (with_reducible repeat (first|apply Kd.R_alloc|apply Kd.R_drewN|apply Kd.R_drew));exact HO_8.out) (Kd.R_typed (by (with_reducible repeat (first|apply Kd.R_alloc|apply Kd.R_drewN|apply Kd.R_drew));exact HO_9.out)) (by decide) hg);have n2_:=Aside0.mk (blk_grown (g:=gb149) (o:=.cells #[.int .i64 a0_0,.int .i64 a0_1,.int .i64 a0_2,.slice A0_3 l0_3.length c0_3] 24 (0,0)) (by (with_reducible repeat (first|refine blk_drewN ?_ _|refine blk_drew ?_|refine blk_alloc ?_ _));exact BK149.out) hg (Kd.R_ne HO_9.out BK149.out (by decide)));have n3_:=Aside0.mk (hb);have n4_:=Aside0.mk (ho);clear HO_7;clear HO_8;clear BK149;clear HB;clear HO_9;have HO_7:=n0_;have HO_8:=n1_;have BK149:=n2_;have HB:=n3_;have HO165:=n4_;clear n0_ n1_ n2_ n3_ n4_;clear ho hb hg hat))
               go_roundg k2
               case measure=>have:=HJ2.out;have:=HK2.out;omega
               case rel=>exact⟨(y160),(y161),(y163),(wrap64 (x26_2+1)),(by first|rfl|(simp;done)|(simp[*];done)),H',⟨by have:=HJ2.out;have:=HK2.out;omega⟩,⟨by (with_reducible repeat (first|apply Kd.R_alloc|apply Kd.R_drewN|apply Kd.R_drew));exact HO_7.out⟩,⟨by (with_reducible repeat (first|apply Kd.R_alloc|apply Kd.R_drewN|apply Kd.R_drew));exact HO_8.out⟩,⟨by (with_reducible repeat (first|apply Kd.R_alloc|apply Kd.R_drewN|apply Kd.R_drew));exact HO165.out⟩,⟨by (with_reducible repeat (first|refine blk_drewN ?_ _|refine blk_drew ?_|refine blk_alloc ?_ _));exact BK149.out⟩,⟨by repeat (first|(with_reducible first|exact HB.out|apply below_alloc|apply pw_below_drewN|apply below_drew1|refine below_set ?_ GE149.out)|exact HB.out)⟩⟩
              ·rw[if_neg c36]at H
               exact absurd H (by simp)
            ·rw[if_neg c26]at H
             exact absurd H (by simp)
           ·rw[if_neg c24]at H
            exact absurd H (by simp)
          ·rw[if_neg c22]at H
           exact absurd H (by simp)
         ·rw[if_neg c21]at H
          exact absurd H (by simp)
        ·rw[if_neg c20]at H
         have c20b0:decide (x26_2<(l1.length:Int))=false:=decide_eq_false c20
         clear c20
         replace H:=Option.bind_eq_some_iff.mp H
         obtain⟨⟨t166,t167⟩,A440,H⟩:=H
         replace H:(some (t166,x9_2,t167))=some (r1,r2,r3):=H
         have A44:=Aside0.mk A440
         clear A440
         simp only[Option.some.injEq,Prod.mk.injEq]at H
         obtain⟨rfl,rfl,rfl⟩:=H
         have hcz45_0:wr.cell? ⟨gb149,0,none⟩=some (.int .i64 a0_0):=(blk_cell BK149.out 0).trans rfl
         have hcz45_1:wr.cell? ⟨gb149,1,none⟩=some (.int .i64 a0_1):=(blk_cell BK149.out 1).trans rfl
         have hcz45_2:wr.cell? ⟨gb149,2,none⟩=some (.int .i64 a0_2):=(blk_cell BK149.out 2).trans rfl
         have hcz45_3:wr.cell? ⟨gb149,3,none⟩=some (.slice A0_3 l0_3.length c0_3):=(blk_cell BK149.out 3).trans rfl
         have hfz45_0:=blk_frozen BK149.out 0
         have hfz45_1:=blk_frozen BK149.out 1
         have hfz45_2:=blk_frozen BK149.out 2
         have hfz45_3:=blk_frozen BK149.out 3
         obtain⟨Ao46,co46,eo46⟩:=Kd.R_slice HO_7.out
         subst eo46
         obtain⟨Ao47,co47,eo47⟩:=Kd.R_slice HO_8.out
         subst eo47
         go_wp2_with (first|((with_reducible refine gate_callee (f:=34) rfl ?_);refine goesL_ (some 58) rfl rfl Tryz.func34 (by kernel_rfl) rfl #[.agg #[.int .i64 a0_0,.int .i64 a0_1,.int .i64 a0_2,.slice A0_3 l0_3.length c0_3],.slice Ao46 x7_2.length co46,.slice Ao47 x8_2.length co47] rfl (by (try simp only[List.map_toArray,List.map_cons,List.map_nil]);first|done|rfl|(simp only[List.length_drop,List.length_take];rfl)) ?_;(with_reducible refine(stripe_join.calls a0_0 a0_1 a0_2 _ _ l0_3 _ _ x7_2 _ _ x8_2 t166 t167 _ ?side1 ?side2 ?side3 ?side4 ?side5 ?side6 A44.out).mono ?_);(case side1=>repeat (first|exact(Kd.C_below HR0_3.out HB.out)|(with_reducible refine Kd.C_alloc ?_ _)|(with_reducible refine Kd.C_drewN ?_ _)|(with_reducible refine Kd.C_drew ?_)));(case side2=>exact HC0_3.out);(case side3=>repeat (first|exact(Kd.R_reads' HO_7.out).2.2|(with_reducible refine Kd.C_alloc ?_ _)|(with_reducible refine Kd.C_drewN ?_ _)|(with_reducible refine Kd.C_drew ?_)));(case side4=>exact(Kd.R_reads' HO_7.out).2.1);(case side5=>repeat (first|exact(Kd.R_reads' HO_8.out).2.2|(with_reducible refine Kd.C_alloc ?_ _)|(with_reducible refine Kd.C_drewN ?_ _)|(with_reducible refine Kd.C_drew ?_)));(case side6=>exact(Kd.R_reads' HO_8.out).2.1);rintro e w48 ⟨rfl,hb⟩;refine⟨_,rfl,?_⟩;have n0_:=Aside0.mk (Kd.R_below (by (with_reducible repeat (first|apply Kd.R_alloc|apply Kd.R_drewN|apply Kd.R_drew));exact HO_7.out) hb);have n1_:=Aside0.mk (Kd.R_below (by (with_reducible repeat (first|apply Kd.R_alloc|apply Kd.R_drewN|apply Kd.R_drew));exact HO_8.out) hb);have n2_:=Aside0.mk (Kd.R_below (by (with_reducible repeat (first|apply Kd.R_alloc|apply Kd.R_drewN|apply Kd.R_drew));exact HO_9.out) hb);have n3_:=Aside0.mk (blk_below (g:=gb149) (o:=.cells #[.int .i64 a0_0,.int .i64 a0_1,.int .i64 a0_2,.slice A0_3 l0_3.length c0_3] 24 (0,0)) (by (with_reducible repeat (first|refine blk_drewN ?_ _|refine blk_drew ?_|refine blk_alloc ?_ _));exact BK149.out) hb);have n4_:=Aside0.mk (below_step (by repeat (first|(with_reducible first|exact HB.out|apply below_alloc|apply pw_below_drewN|apply below_drew1|refine below_set ?_ GE149.out)|exact HB.out)) hb);clear HO_7;clear HO_8;clear HO_9;clear BK149;clear HB;have HO_7:=n0_;have HO_8:=n1_;have HO_9:=n2_;have BK149:=n3_;have HB:=n4_;clear n0_ n1_ n2_ n3_ n4_;(try clear hb);(try clear hb2);(try clear hk);(try clear hi)))
         go_ret3
         exact⟨_,by first|rfl|(simp[errW_none,errW_some]<;>rfl)|(simp[*,errW_none,errW_some]<;>rfl),by (with_reducible repeat (first|apply Kd.R_alloc|apply Kd.R_drewN|apply Kd.R_drew));exact HO_9.out,by repeat (first|(with_reducible first|exact HB.out|apply below_alloc|apply pw_below_drewN|apply below_drew1|refine below_set ?_ GE149.out)|exact HB.out)⟩
     ·rw[if_neg c13]at H
      exact absurd H (by simp)
    ·rw[if_neg c12]at H
     exact absurd H (by simp)
end Go.Proofs.YtdcfonmjbelgbaaGreatDoor.Q
end
section
namespace Go.Proofs.YtdcfonmjbelgbaaGreatDoor
open Go.RowKit Q YtdcfonmjbelgbaaGreatDoorW.PrintWords YtdcfonmjbelgbaaGreatDoorW.PrintLast YtdcfonmjbelgbaaGreatDoorW.PrintMore
abbrev rdL (l:List LocS) (i:Nat):LocS:=rd_T59 l (i:Int)
theorem rdL_get (l:List LocS) (i:Nat) (h:i<l.length):rdL l i=l[i]:=by
 unfold rdL rd_T59
 rw[Int.toNat_natCast,List.getD_eq_getElem?_getD,List.getElem?_eq_getElem h]
 rfl
theorem chk_zero {v g i d s:Int} {n:Nat} (h:0≤v∧v≤1099511627776∧0≤g∧g≤1099511627776∧0≤i∧i≤8∧0≤d∧d≤11∧0≤s∧s≤47) (hn:n≤64):chk v g i d s n=0:=by
 unfold chk
 rw[if_pos h,if_pos hn]
theorem chk_has {v g i d s:Int} {n:Nat} (h:chk v g i d s n=0):(0≤v∧v≤1099511627776∧0≤g∧g≤1099511627776∧0≤i∧i≤8∧0≤d∧d≤11∧0≤s∧s≤47)∧n≤64:=by
 unfold chk at h
 split at h
 ·rename_i h1
  split at h
  ·rename_i h2;exact⟨h1,h2⟩
  ·cases h
 ·cases h
theorem volP_has {id gen len:Int} {l:List LocS} (h:volP id gen len l=true):0≤id∧id≤1099511627776∧0≤gen∧gen≤1099511627776∧0≤len∧len≤384∧l.length=9 ∧ ∀ i,i<9→0≤(rdL l i).f0∧(rdL l i).f0≤11∧0≤(rdL l i).f1∧(rdL l i).f1≤47:=by
 have h9:=(volP_len h).2.2
 unfold volP at h
 simp only[Bool.and_eq_true]at h
 obtain⟨h0,h1,h2,h3,_⟩:=h
 unfold inB at h1 h2 h3
 simp only[Bool.and_eq_true,decide_eq_true_eq]at h1 h2 h3
 refine⟨h1.1,h1.2,h2.1,h2.2,h3.1,h3.2,h9,fun i hi=> ?_⟩
 have hm:=List.all_eq_true.1 h0 (rdL l i) (by rw[rdL_get l i (by omega)];exact List.getElem_mem _)
 unfold locOk inB at hm
 simp only[Bool.and_eq_true,decide_eq_true_eq]at hm
 exact⟨hm.1.1,hm.1.2,hm.2.1,hm.2.2⟩
theorem vol_chk {id gen len:Int} {l:List LocS} (h:volP id gen len l=true) (i:Nat) (hi:i<9) (n:Nat) (hn:n≤64):chk id gen (i:Int) (rdL l i).f0 (rdL l i).f1 n=0:=by
 obtain⟨a1,a2,a3,a4,_,_,_,hl⟩:=volP_has h
 obtain⟨b1,b2,b3,b4⟩:=hl i hi
 exact chk_zero ⟨a1,a2,a3,a4,by omega,by omega,b1,b2,b3,b4⟩ hn
theorem secX_eq {id gen:Int} {l:List LocS} {i:Nat} {x:ByteArray} (h:chk id gen (i:Int) (rdL l i).f0 (rdL l i).f1 x.size=0):secX id gen l i x=B (sealL (secT id.toNat gen.toNat (i:Int).toNat (rdL l i).f0.toNat (rdL l i).f1.toNat x.data.toList)):=by
 unfold secX secW
 rw[if_pos h]
theorem mine_own {id gen:Int} {l:List LocS} {i:Nat} {x:ByteArray} (h:chk id gen (i:Int) (rdL l i).f0 (rdL l i).f1 x.size=0):secR (secX id gen l i x).data.toList=(id,gen,(i:Int),(rdL l i).f0,(rdL l i).f1,x,0):=by
 rw[secX_eq h,B_data]
 exact secR_backI h
theorem good_own {id gen len:Int} {l:List LocS} (hv:volP id gen len l=true) (i:Nat) (hi:i<9) (x:ByteArray) (hx:x.size=64):goodR id gen l (i:Int) (secX id gen l i x)=(x,true):=by
 have hm:=mine_own (x:=x) (vol_chk hv i hi x.size (by omega))
 unfold goodR mineP
 rw[hm]
 simp[hx]
theorem good_inv {id gen len:Int} {l:List LocS} (hv:volP id gen len l=true) (i:Nat) (hi:i<9) (s:ByteArray) (h:(goodR id gen l (i:Int) s).2=true):s=secX id gen l i (goodR id gen l (i:Int) s).1∧(goodR id gen l (i:Int) s).1.size=64:=by
 obtain⟨m,rfl⟩:=exB s
 unfold goodR at h ⊢
 rw[B_data]at h ⊢
 split at h
 case isFalse=>cases h
 rename_i h0
 rw[if_pos h0]
 simp only at h ⊢
 have hsz:(mineP (secR m) id gen l (i:Int)).1.size=64:=by
  have:=eq_of_beq h
  omega
 refine⟨?_,hsz⟩
 unfold mineP at h0 hsz ⊢
 split at h0
 case isFalse he=>exact absurd h0 he
 rename_i he
 rw[if_pos he]at hsz ⊢
 split at h0
 case isTrue=>cases h0
 rename_i hq
 rw[if_neg hq]at hsz ⊢
 obtain⟨v,g,j,d,t,u,hr,hm,hc⟩:=secR_inv m he
 rw[hr]at hq hsz ⊢
 simp only[Bool.or_eq_true,Bool.not_eq_true',beq_eq_false_iff_ne,ne_eq,not_or,Decidable.not_not]at hq hsz ⊢
 obtain⟨q1,q2,q3,q4,q5⟩:=hq
 have hbu:(B u).size=u.length:=B_size u
 have hc2:chk id gen (i:Int) (rdL l i).f0 (rdL l i).f1 (B u).size=0:=by
  rw[←q1,←q2,←q3,←q4,←q5,hbu]
  exact hc
 rw[secX_eq hc2,hm,B_data,←q1,←q2,←q3,←q4,←q5]
 simp only[Int.toNat_natCast]
theorem good_small (id gen:Int) (l:List LocS) (ix:Int) (s:ByteArray):(goodR id gen l ix s).1.size≤64:=by
 have key:(mineP (secR s.data.toList) id gen l ix).1.size≤64:=by
  unfold mineP
  split
  ·rename_i he
   split
   ·exact Nat.zero_le _
   ·obtain⟨v,g,j,d,t,u,hr,_,hc⟩:=secR_inv _ he
    rw[hr]
    have h1:=(chk_has hc).2
    have h2:=B_size u
    show (B u).size≤64
    omega
  ·exact Nat.zero_le _
 unfold goodR
 split<;>exact key
def shF (id gen:Int) (l:List LocS) (xs:List ByteArray) (i:Nat):ByteArray:=(goodR id gen l (i:Int) (strAt xs i)).1
def hvF (id gen:Int) (l:List LocS) (xs:List ByteArray) (i:Nat):Bool:=(goodR id gen l (i:Int) (strAt xs i)).2
def partL {α:Type} (f:Nat→α) (z:α) (k:Nat):List α:=(List.range 9).map fun i=>if i<k then f i else z
theorem partL_len {α:Type} (f:Nat→α) (z:α) (k:Nat):(partL f z k).length=9:=by simp[partL]
theorem partL_get {α:Type} (f:Nat→α) (z:α) (k i:Nat) (hi:i<9):(partL f z k)[i]? = some (if i<k then f i else z):=by
 unfold partL
 rw[List.getElem?_map,List.getElem?_range hi]
 rfl
theorem partL_set {α:Type} (f:Nat→α) (z:α) (k:Nat) (hk:k<9):(partL f z k).set k (f k)=partL f z (k+1):=by
 apply List.ext_getElem?
 intro i
 rcases Nat.lt_or_ge i 9 with hi|hi
 ·rw[partL_get _ _ _ _ hi]
  by_cases he:k=i
  ·subst he
   rw[List.getElem?_set_self (by rw[partL_len];exact hk),if_pos (by omega)]
  ·rw[List.getElem?_set_ne he,partL_get _ _ _ _ hi]
   by_cases h:i<k
   ·rw[if_pos h,if_pos (by omega)]
   ·rw[if_neg h,if_neg (by omega)]
 ·rw[List.getElem?_eq_none (by rw[List.length_set,partL_len];exact hi),List.getElem?_eq_none (by rw[partL_len];exact hi)]
theorem partL_nine {α:Type} (f:Nat→α) (z:α):partL f z 9=(List.range 9).map f:=rfl
def shL (id gen:Int) (l:List LocS) (xs:List ByteArray):List ByteArray:=(List.range 9).map (shF id gen l xs)
def hvL (id gen:Int) (l:List LocS) (xs:List ByteArray):List Bool:=(List.range 9).map (hvF id gen l xs)
theorem hvL_get (id gen:Int) (l:List LocS) (xs:List ByteArray) (i:Nat) (hi:i<9):(hvL id gen l xs).getD i false=hvF id gen l xs i:=by
 unfold hvL
 rw[List.getD_eq_getElem?_getD,List.getElem?_map,List.getElem?_range hi]
 rfl
theorem shL_get (id gen:Int) (l:List LocS) (xs:List ByteArray) (i:Nat) (hi:i<9):strAt (shL id gen l xs) i=shF id gen l xs i:=by
 unfold shL strAt
 rw[List.getD_eq_getElem?_getD,List.getElem?_map,List.getElem?_range hi]
 rfl
def textR (id gen len:Int) (l:List LocS) (xs:List ByteArray):ByteArray×List Int×Int:=
 if volP id gen len l=true∧xs.length=9 then ((joinF len (shL id gen l xs) (hvL id gen l xs)).1,badN (hvL id gen l xs) 9,(joinF len (shL id gen l xs) (hvL id gen l xs)).2)else (⟨#[]⟩,[],1)
theorem rdOf_str (xs:List ByteArray) (k:Nat) (h:k<xs.length):rdOf ByteArray.empty xs (k:Int)=strAt xs k:=by simp[rdOf,strAt_eq h,h]
theorem join_all (len:Int) (id gen:Int) (l:List LocS) (xs:List ByteArray):(shL id gen l xs).all (fun s=>decide (s.size≤140737488355328))=true:=by
 rw[List.all_eq_true]
 intro s hs
 unfold shL at hs
 obtain⟨i,_,rfl⟩:=List.mem_map.1 hs
 have:=good_small id gen l (i:Int) (strAt xs i)
 unfold shF
 exact decide_eq_true (by omega)
theorem wrap_k (k:Nat) (h:k<9):wrap64 ((k:Int)+1)=((k+1:Nat):Int):=by unfold wrap64;omega
theorem text_l0 (id gen len:Int) (l:List LocS) (h9:l.length=9) (xs:List ByteArray) (hx:xs.length=9) (hz : ∀ s∈xs,s.size≤140737488355328) : ∀ (d k K:Nat),9-k=d→k≤9→d<K →
  stripe_Text.l0 K (partL (shF id gen l xs) ⟨#[]⟩ k) (partL (hvF id gen l xs) false k) (badN ((List.range 9).map (hvF id gen l xs)) k) xs 9 (k:Int) id gen len l=some ((joinF len (shL id gen l xs) (hvL id gen l xs)).1,badN (hvL id gen l xs) 9,(joinF len (shL id gen l xs) (hvL id gen l xs)).2):=by
 intro d
 induction d with
 | zero=>
  intro k K hd hk hK
  obtain⟨K,rfl⟩ : ∃ m,K=m+1:=⟨K-1,by omega⟩
  obtain rfl:k=9:=by omega
  rw[stripe_Text.l0]
  rw[if_neg (by omega),partL_nine,partL_nine]
  have e:stripe_join.f id gen len l (shL id gen l xs) (hvL id gen l xs)=some (joinF len (shL id gen l xs) (hvL id gen l xs)):=by
   unfold stripe_join.f
   rw[if_pos (join_all len id gen l xs)]
  rw[show (List.range 9).map (shF id gen l xs)=shL id gen l xs from rfl,show (List.range 9).map (hvF id gen l xs)=hvL id gen l xs from rfl,e,Option.bind_some]
 | succ d ih=>
  intro k K hd hk hK
  obtain⟨K,rfl⟩ : ∃ m,K=m+1:=⟨K-1,by omega⟩
  have hk9:k<9:=by omega
  have hg:=good_f id gen len l h9 k hk9 (strAt xs k) (by rw[strAt_eq (by omega)];exact hz _ (List.getElem_mem _))
  rw[stripe_Text.l0]
  rw[if_pos (by omega),if_pos (by omega),if_pos (by rw[hx];omega),rdOf_str xs k (by omega),hg,Option.bind_some]
  rw[if_pos (by rw[partL_len];omega),Option.bind_some,if_pos (by rw[partL_len];omega),Option.bind_some,Int.toNat_natCast]
  have e1:(partL (shF id gen l xs) ⟨#[]⟩ k).set k (goodR id gen l (k:Int) (strAt xs k)).1=partL (shF id gen l xs) ⟨#[]⟩ (k+1):=partL_set (shF id gen l xs) _ k hk9
  have e2:(partL (hvF id gen l xs) false k).set k (goodR id gen l (k:Int) (strAt xs k)).2=partL (hvF id gen l xs) false (k+1):=partL_set (hvF id gen l xs) _ k hk9
  rw[e1,e2]
  have e3:rdOf false (partL (hvF id gen l xs) false (k+1)) (k:Int)=hvF id gen l xs k:=by
   unfold rdOf
   rw[Int.toNat_natCast,List.getD_eq_getElem?_getD,partL_get _ _ _ _ hk9,if_pos (by omega)]
   rfl
  rw[e3,wrap_k k hk9]
  have hb:=badN_succ ((List.range 9).map (hvF id gen l xs)) k
  have hgd:((List.range 9).map (hvF id gen l xs)).getD k false=hvF id gen l xs k:=hvL_get id gen l xs k hk9
  rw[hgd]at hb
  have hbl:=badN_len ((List.range 9).map (hvF id gen l xs)) k
  cases hq:hvF id gen l xs k with
  | true=>
   rw[hq,if_pos rfl]at hb
   rw[if_pos rfl,←hb]
   exact ih (k+1) K (by omega) (by omega) (by omega)
  | false=>
   rw[hq,if_neg (by simp)]at hb
   rw[if_neg (by simp),if_pos (by omega),←hb]
   exact ih (k+1) K (by omega) (by omega) (by omega)
theorem stext_f (id gen len:Int) (l:List LocS) (hl:l.length≤1000) (xs:List ByteArray) (hz : ∀ s∈xs,s.size≤140737488355328) (K:Nat) (hK:20≤K):stripe_Text.f K id gen len l xs=some (textR id gen len l xs):=by
 obtain⟨K,rfl⟩ : ∃ m,K=m+1:=⟨K-1,by omega⟩
 unfold stripe_Text.f textR record_Volume.f
 rw[if_pos hl,Option.bind_some]
 have hJ:stripe_Text.j0 (K+1) xs true id gen len l=some (⟨#[]⟩,[],1):=by
  rw[stripe_Text.j0]
  rw[if_pos rfl]
 cases hv:volP id gen len l with
 | false=>
  rw[if_neg (by simp),hJ,if_neg (by simp)]
 | true=>
  rw[if_pos rfl]
  by_cases hx:xs.length=9
  ·have hne:(((xs.length:Int)) != 9)=false:=by rw[hx];rfl
   rw[hne,if_pos ⟨rfl,hx⟩,stripe_Text.j0]
   rw[if_neg (by simp),if_pos (by decide),if_pos (by decide),hx]
   have h9:=(volP_len hv).2.2
   exact text_l0 id gen len l h9 xs hx hz 9 0 K rfl (by omega) (by omega)
  ·have hne:(((xs.length:Int)) != 9)=true:=by rw[bne_iff_ne];omega
   rw[hne,hJ,if_neg (fun h=>hx h.2)]
end Go.Proofs.YtdcfonmjbelgbaaGreatDoor
end
section
namespace Go.Proofs.YtdcfonmjbelgbaaGreatDoor
open Go.RowKit Q YtdcfonmjbelgbaaGreatDoorW.PrintWords YtdcfonmjbelgbaaGreatDoorW.PrintLast YtdcfonmjbelgbaaGreatDoorW.PrintMore
abbrev P2:=List UInt8×List UInt8
theorem six_parts (L:List UInt8) (h:L.length=384):((L.drop (64*0)).take 64)++(((L.drop (64*1)).take 64)++(((L.drop (64*2)).take 64)++(((L.drop (64*3)).take 64)++(((L.drop (64*4)).take 64)++((L.drop (64*5)).take 64)))))=L:=by
 have s : ∀ k,(L.drop (64*k)).take 64++L.drop (64*(k+1))=L.drop (64*k):=fun k=>by
  have:=List.take_append_drop 64 (L.drop (64*k))
  rw[List.drop_drop]at this
  rw[show 64*(k+1)=64*k+64 by omega]
  exact this
 have s5:(L.drop (64*5)).take 64=L.drop (64*5):=List.take_of_length_le (by rw[List.length_drop,h];decide)
 rw[s5,s 4,s 3,s 2,s 1,s 0]
 rfl
theorem flat_parts (s:List UInt8) (h:s.length≤384):flatN ([0,1,2,3,4,5].map (partN s))=padN s:=by
 have:=six_parts (padN s) (padN_len s h)
 unfold flatN
 simp only[List.map_cons,List.map_nil,List.flatten_cons,List.flatten_nil,List.append_nil,partN,B_data]
 exact this
theorem part_size (s:List UInt8) (h:s.length≤384) (i:Nat) (hi:i<6):(partN s i).size=64:=by
 unfold partN
 rw[B_size,List.length_take,List.length_drop,padN_len s h]
 omega
theorem all64_parts (s:List UInt8) (h:s.length≤384):all64 ([0,1,2,3,4,5].map (partN s))=true:=by
 unfold all64
 simp[part_size s h]
theorem join_parts (s:List UInt8) (h:s.length≤384) (n:Nat) (hn:n≤384):joinR ([0,1,2,3,4,5].map (partN s)) (n:Int)=if zeroB ((padN s).drop n)=true then (B ((padN s).take n),0)else (⟨#[]⟩,4):=by
 unfold joinR
 rw[if_pos ⟨rfl,by omega,by omega,all64_parts s h⟩,flat_parts s h,Int.toNat_natCast]
theorem ints_self (l:List Int) (hl:l.length≤140737488355328) : ∀ (d i k:Nat),l.length-i=d→i≤l.length→d<k→sluicegateref06_Ints.l0 k l l (i:Int)=some true:=by
 intro d
 induction d with
 | zero=>
  intro i k hd hi hk
  obtain⟨k,rfl⟩ : ∃ j,k=j+1:=⟨k-1,by omega⟩
  simp only[sluicegateref06_Ints.l0]
  rw[if_neg (by omega)]
 | succ d ih=>
  intro i k hd hi hk
  obtain⟨k,rfl⟩ : ∃ j,k=j+1:=⟨k-1,by omega⟩
  simp only[sluicegateref06_Ints.l0]
  rw[if_pos (by omega),if_pos (by omega),if_pos (by omega),if_pos trivial,nwrap_k i (by omega)]
  exact ih (i+1) k (by omega) (by omega) (by omega)
theorem ints_f (l:List Int) (hl:l.length≤140737488355328) (k:Nat) (hk:l.length<k):sluicegateref06_Ints.f k l l=some true:=by
 unfold sluicegateref06_Ints.f
 rw[if_pos rfl]
 exact ints_self l hl _ 0 k rfl (Nat.zero_le _) (by omega)
end Go.Proofs.YtdcfonmjbelgbaaGreatDoor
end
section
namespace Go.Proofs.YtdcfonmjbelgbaaGreatDoor
open Go.RowKit Q YtdcfonmjbelgbaaGreatDoorW.PrintWords YtdcfonmjbelgbaaGreatDoorW.PrintLast YtdcfonmjbelgbaaGreatDoorW.PrintMore
theorem parts_len (s:List UInt8):(partsN s).length=6:=rfl
theorem parts_wid (s:List UInt8) (h:s.length≤384):wid (partsN s)=64:=part_size s h 0 (by omega)
theorem enc64 (s:List UInt8) (h:s.length≤384) (i:Nat) (hi:i<9):(strAt (encL (partsN s)) i).size=64:=by
 rw[strAt_enc _ i hi,mixS_size,parts_wid s h]
def ownX (id gen:Int) (l:List LocS) (s:List UInt8) (i:Nat):ByteArray:=secX id gen l i (strAt (encL (partsN s)) i)
theorem secK_nine (id gen:Int) (l:List LocS) (s:List UInt8) (i:Nat) (hi:i<9):strAt (secK id gen l (partsN s) 9) i=ownX id gen l s i:=by
 unfold secK strAt
 rw[List.getD_eq_getElem?_getD,List.getElem?_map,List.getElem?_range hi]
 rfl
theorem own_good {id gen len:Int} {l:List LocS} (hv:volP id gen len l=true) (s:List UInt8) (h:s.length≤384) (i:Nat) (hi:i<9):goodR id gen l (i:Int) (ownX id gen l s i)=(strAt (encL (partsN s)) i,true):=
 good_own hv i hi _ (enc64 s h i hi)
theorem own_fill {id gen len:Int} {l:List LocS} (hv:volP id gen len l=true) (s:List UInt8) (h:s.length≤384) {sh:List ByteArray} {hb:List Bool} (h1:sh.length=9) (h2:hb.length=9) (hx : ∀ i,i<9→hb.getD i false=true→strAt sh i=strAt (encL (partsN s)) i) :
  fillR sh hb=if (idx hb).length<6 then ([],2)else (encL (partsN s),0):=
 fillR_code (parts_len s) (parts_even s h) h1 h2 hx
theorem szero_drop (s:List UInt8):zeroB ((padN s).drop s.length)=true:=by
 unfold padN zeroB
 rw[List.drop_append_of_le_length (Nat.le_refl _),List.drop_length,List.nil_append,List.all_eq_true]
 intro x hx
 rw[List.eq_of_mem_replicate hx]
 rfl
theorem join_back (s:List UInt8) (h:s.length≤384):joinR (partsN s) (s.length:Int)=(B s,0):=by
 have:=join_parts s h s.length h
 rw[szero_drop,if_pos rfl]at this
 have ht:(padN s).take s.length=s:=by
  unfold padN
  rw[List.take_append_of_le_length (Nat.le_refl _),List.take_length]
 rw[ht]at this
 exact this
theorem own_join {id gen len:Int} {l:List LocS} (hv:volP id gen len l=true) (s:List UInt8) (hl:(s.length:Int)=len) {sh:List ByteArray} {hb:List Bool} (h1:sh.length=9) (h2:hb.length=9) (hx : ∀ i,i<9→hb.getD i false=true→strAt sh i=strAt (encL (partsN s)) i) :
  joinF len sh hb=if (idx hb).length<6 then (⟨#[]⟩,2)else (B s,0):=by
 have h384:s.length≤384:=by have:=(volP_len hv).1;omega
 unfold joinF
 rw[own_fill hv s h384 h1 h2 hx]
 by_cases h6:(idx hb).length<6
 ·rw[if_pos h6,if_pos h6,if_neg (by decide)]
 ·rw[if_neg h6,if_neg h6,if_pos rfl,enc_take _ (parts_len s) (parts_even s h384),←hl]
  exact join_back s h384
theorem filt_two (p:Nat→Bool) : ∀ l:List Nat,(l.filter fun i=> !p i).length+(l.filter p).length=l.length
 | []=>rfl
 | a::l=>by
  have ih:=filt_two p l
  simp only[List.filter_cons,List.length_cons]
  cases p a
  ·show (a::l.filter fun i=> !p i).length+(l.filter p).length=_
   rw[List.length_cons]
   omega
  ·show (l.filter fun i=> !p i).length+(a::l.filter p).length=_
   rw[List.length_cons]
   omega
theorem idx_bad (hb:List Bool) (h:hb.length=9):(badN hb 9).length+(idx hb).length=9:=by
 unfold badN idx
 rw[List.length_map,h]
 have:=filt_two (fun i=>hb.getD i false) (List.range 9)
 rw[List.length_range]at this
 exact this
theorem own_text {id gen len:Int} {l:List LocS} (hv:volP id gen len l=true) (s:List UInt8) (hl:(s.length:Int)=len) (xs:List ByteArray) (h9:xs.length=9) (hx : ∀ i,i<9→hvF id gen l xs i=true→strAt xs i=ownX id gen l s i) :
  textR id gen len l xs=if 3<(badN (hvL id gen l xs) 9).length then (⟨#[]⟩,badN (hvL id gen l xs) 9,2)else (B s,badN (hvL id gen l xs) 9,0):=by
 have h384:s.length≤384:=by have:=(volP_len hv).1;omega
 have hlen:(hvL id gen l xs).length=9:=by simp[hvL]
 have hj:=own_join hv s hl (sh:=shL id gen l xs) (hb:=hvL id gen l xs) (by simp[shL]) hlen (fun i hi hg=>by
  rw[hvL_get _ _ _ _ i hi]at hg
  rw[shL_get _ _ _ _ i hi]
  unfold shF
  rw[hx i hi hg,own_good hv s h384 i hi])
 have hb:=idx_bad _ hlen
 unfold textR
 rw[if_pos ⟨hv,h9⟩,hj]
 by_cases h6:(idx (hvL id gen l xs)).length<6
 ·rw[if_pos h6,if_pos (by omega)]
 ·rw[if_neg h6,if_neg (by omega)]
theorem short_bad {id gen len:Int} {l:List LocS} (hv:volP id gen len l=true) (i:Nat) (hi:i<9) (s:ByteArray) (h:s.size≤60):(goodR id gen l (i:Int) s).2=false:=by
 rw[Bool.eq_false_iff]
 intro hg
 obtain⟨e,h64⟩:=good_inv hv i hi s hg
 have hc:=vol_chk hv i hi (goodR id gen l (i:Int) s).1.size (by omega)
 rw[secX_eq hc]at e
 have hz:=congrArg ByteArray.size e
 rw[B_size,sealL_len]at hz
 have ht:(goodR id gen l (i:Int) s).1.data.toList.length≤(secT id.toNat gen.toNat (i:Int).toNat (rdL l i).f0.toNat (rdL l i).f1.toNat (goodR id gen l (i:Int) s).1.data.toList).length:=by
  unfold secT txt
  simp only[List.length_append]
  omega
 rw[size_data]at ht
 omega
theorem hvF_own {id gen len:Int} {l:List LocS} (hv:volP id gen len l=true) (s:List UInt8) (h:s.length≤384) (xs:List ByteArray) (i:Nat) (hi:i<9) (he:strAt xs i=ownX id gen l s i):hvF id gen l xs i=true:=by
 unfold hvF
 rw[he,own_good hv s h i hi]
theorem hvF_short {id gen len:Int} {l:List LocS} (hv:volP id gen len l=true) (xs:List ByteArray) (i:Nat) (hi:i<9) (he:(strAt xs i).size≤60):hvF id gen l xs i=false:=short_bad hv i hi _ he
theorem own_size (id gen:Int) (l:List LocS) (s:List UInt8) (i:Nat):(ownX id gen l s i).size≤140737488355328:=by
 unfold ownX secX secW
 split
 ·rename_i hc
  have hck:=chk_has hc
  have ht:=secT_len id gen (i:Int) _ _ (strAt (encL (partsN s)) i).data.toList (⟨hck.1.1,hck.1.2.1,hck.1.2.2.1,hck.1.2.2.2.1,hck.1.2.2.2.2.1,hck.1.2.2.2.2.2.1,hck.1.2.2.2.2.2.2.1,hck.1.2.2.2.2.2.2.2.1,hck.1.2.2.2.2.2.2.2.2.1,hck.1.2.2.2.2.2.2.2.2.2⟩) (by rw[size_data];exact hck.2)
  rw[B_size,sealL_len]
  omega
 ·exact Nat.zero_le _
end Go.Proofs.YtdcfonmjbelgbaaGreatDoor
end
section
namespace Go.Proofs.YtdcfonmjbelgbaaGreatDoor
open Go.RowKit Q YtdcfonmjbelgbaaGreatDoorW.PrintWords YtdcfonmjbelgbaaGreatDoorW.PrintLast YtdcfonmjbelgbaaGreatDoorW.PrintMore
def locs9:List LocS:=[⟨0,3⟩,⟨1,3⟩,⟨2,3⟩,⟨3,3⟩,⟨4,3⟩,⟨5,3⟩,⟨6,3⟩,⟨7,3⟩,⟨8,3⟩]
theorem laid_f:sluicegatelaw19_laid.f 20 3 5=some (3,0,5,locs9):=by kernel_rfl
theorem vol9:volP 3 0 5 locs9=true:=by kernel_rfl
theorem vol0:volP 0 0 0 []=false:=by kernel_rfl
def hello:List UInt8:=[104,101,108,108,111]
abbrev L9:List ByteArray:=secK 3 0 locs9 (partsN hello) 9
theorem sect_ok:sectR 3 0 5 locs9 (B hello)=(L9,0):=by
 unfold sectR
 rw[if_pos ⟨vol9,by rw[B_size];rfl⟩,B_data]
theorem sect_no:sectR 3 0 5 locs9 (B [104,101,108,108])=([],1):=by
 unfold sectR
 rw[if_neg (fun h=>by have:=h.2;rw[B_size]at this;revert this;decide)]
def X1 (x1 x3 x4 x5 x6 x7 x8:ByteArray):List ByteArray:=[⟨#[]⟩,x1,⟨#[120]⟩,x3,x4,x5,x6,x7,x8]
theorem text_1 (x0 x1 x2 x3 x4 x5 x6 x7 x8:ByteArray) (h:L9=[x0,x1,x2,x3,x4,x5,x6,x7,x8]):textR 3 0 5 locs9 (X1 x1 x3 x4 x5 x6 x7 x8)=(B hello,[0,2],0):=by
 have ho : ∀ i,i<9→strAt L9 i=ownX 3 0 locs9 hello i:=fun i hi=>secK_nine _ _ _ _ i hi
 rw[h]at ho
 have e : ∀ i,i<9→i≠0→i≠2→strAt (X1 x1 x3 x4 x5 x6 x7 x8) i=ownX 3 0 locs9 hello i:=fun i hi h0 h2=>by
  rw[←ho i hi]
  match i,hi with
  | 0,_=>exact absurd rfl h0
  | 2,_=>exact absurd rfl h2
  | 1,_|3,_|4,_|5,_|6,_|7,_|8,_=>rfl
 have s0:hvF 3 0 locs9 (X1 x1 x3 x4 x5 x6 x7 x8) 0=false:=hvF_short vol9 _ 0 (by omega) (show (⟨#[]⟩:ByteArray).size≤60 by decide)
 have s2:hvF 3 0 locs9 (X1 x1 x3 x4 x5 x6 x7 x8) 2=false:=hvF_short vol9 _ 2 (by omega) (show (⟨#[120]⟩:ByteArray).size≤60 by decide)
 have g : ∀ i,i<9→i≠0→i≠2→hvF 3 0 locs9 (X1 x1 x3 x4 x5 x6 x7 x8) i=true:=fun i hi h0 h2=>hvF_own vol9 hello (by decide) _ i hi (e i hi h0 h2)
 have hb:hvL 3 0 locs9 (X1 x1 x3 x4 x5 x6 x7 x8)=[false,true,false,true,true,true,true,true,true]:=by
  show [hvF 3 0 locs9 (X1 x1 x3 x4 x5 x6 x7 x8) 0,hvF 3 0 locs9 (X1 x1 x3 x4 x5 x6 x7 x8) 1,hvF 3 0 locs9 (X1 x1 x3 x4 x5 x6 x7 x8) 2,hvF 3 0 locs9 (X1 x1 x3 x4 x5 x6 x7 x8) 3,hvF 3 0 locs9 (X1 x1 x3 x4 x5 x6 x7 x8) 4,hvF 3 0 locs9 (X1 x1 x3 x4 x5 x6 x7 x8) 5,hvF 3 0 locs9 (X1 x1 x3 x4 x5 x6 x7 x8) 6,hvF 3 0 locs9 (X1 x1 x3 x4 x5 x6 x7 x8) 7,hvF 3 0 locs9 (X1 x1 x3 x4 x5 x6 x7 x8) 8]=_
  rw[s0,s2,g 1 (by decide) (by decide) (by decide),g 3 (by decide) (by decide) (by decide),g 4 (by decide) (by decide) (by decide),g 5 (by decide) (by decide) (by decide),g 6 (by decide) (by decide) (by decide),g 7 (by decide) (by decide) (by decide),g 8 (by decide) (by decide) (by decide)]
 have hbad:badN [false,true,false,true,true,true,true,true,true] 9=[0,2]:=by decide
 rw[own_text vol9 hello rfl (X1 x1 x3 x4 x5 x6 x7 x8) rfl (fun i hi hg=>by
  by_cases h0:i=0
  ·subst h0;rw[s0]at hg;cases hg
  ·by_cases h2:i=2
   ·subst h2;rw[s2]at hg;cases hg
   ·exact e i hi h0 h2),hb,hbad]
 rfl
def X2:List ByteArray:=List.replicate 9 ⟨#[]⟩
theorem text_2:textR 3 0 5 locs9 X2=(⟨#[]⟩,[0,1,2,3,4,5,6,7,8],2):=by
 have s : ∀ i,i<9→hvF 3 0 locs9 X2 i=false:=fun i hi=>hvF_short vol9 _ i hi (by
  match i,hi with
  | 0,_|1,_|2,_|3,_|4,_|5,_|6,_|7,_|8,_=>exact Nat.zero_le _)
 have hb:hvL 3 0 locs9 X2=[false,false,false,false,false,false,false,false,false]:=by
  show [hvF 3 0 locs9 X2 0,hvF 3 0 locs9 X2 1,hvF 3 0 locs9 X2 2,hvF 3 0 locs9 X2 3,hvF 3 0 locs9 X2 4,hvF 3 0 locs9 X2 5,hvF 3 0 locs9 X2 6,hvF 3 0 locs9 X2 7,hvF 3 0 locs9 X2 8]=_
  rw[s 0 (by decide),s 1 (by decide),s 2 (by decide),s 3 (by decide),s 4 (by decide),s 5 (by decide),s 6 (by decide),s 7 (by decide),s 8 (by decide)]
 have hbad:badN [false,false,false,false,false,false,false,false,false] 9=[0,1,2,3,4,5,6,7,8]:=by decide
 rw[own_text vol9 hello rfl X2 rfl (fun i hi hg=>by rw[s i hi]at hg;cases hg),hb,hbad]
 rfl
theorem sf1:stripe_Sectors.f 3 0 5 locs9 (B hello)=some (L9,0):=by
 unfold stripe_Sectors.f
 rw[if_pos (by decide),sect_ok]
theorem sf2:stripe_Sectors.f 3 0 5 locs9 (B [104,101,108,108])=some ([],1):=by
 unfold stripe_Sectors.f
 rw[if_pos (by decide),sect_no]
theorem make9 (w:World):(Instr.makeSlice 27 (.int .i64 9) (.int .i64 9)).run Tryz.prog w = .ok (.slice (some ⟨w.heap.size,0,none⟩) 9 9) (w.alloc (.cells (X2.map Value.string).toArray 9)):=by kernel_rfl
theorem C_str {w:World} {g T:Nat} (xs:List ByteArray) (hn:xs.length≤9223372036854775807) (h:Blk w g (xs.map Value.string).toArray T):Kd.C Kd.string w (some ⟨g,0,none⟩) xs.length xs:=by
 refine C_cellsAt xs hn (fun j p hj=> ?_)
 rw[Nat.zero_add]
 exact h.cell (by simp[hj])
theorem C_int {w:World} {g T:Nat} (xs:List Int) (hn:xs.length≤9223372036854775807) (h:Blk w g (xs.map (Value.int .i64)).toArray T):Kd.C (Kd.int .i64) w (some ⟨g,0,none⟩) xs.length xs:=by
 refine C_cellsAt xs hn (fun j p hj=> ?_)
 rw[Nat.zero_add]
 exact h.cell (by simp[hj])
theorem vput_new (w:World) (z x:Array Value) (T:TypeId):Blk ((w.alloc (.cells z T)).setRow w.heap.size x) w.heap.size x T∧Below w.heap.size w ((w.alloc (.cells z T)).setRow w.heap.size x):=
 ⟨setRow_heap _ _ _ _ _ _ (Blk.new w z T),below_setRow' (below_alloc (Below.refl _ _) _) (Nat.le_refl _) _⟩
theorem slive_calls (w:World):Calls Tryz.prog 7 #[] w fun e w'=>e = .returned (.bool true)∧Below w.heap.size w w':=by
 go_enter Tryz.func7,Tryz.ntmps7
 go_wp2_with fail
 refine(sluicegatelaw19_laid.calls 20 3 5 3 0 5 locs9 w laid_f).mono ?_
 rintro e w1 ⟨vv,rfl,hov,hb⟩
 obtain⟨AV,cV,rfl⟩:=Kd.R_slice hov
 have HB:=Aside0.mk hb
 have HV:Aside0 (Kd.C k59 w1 AV locs9.length locs9∧locs9.length≤cV):=⟨(Kd.R_reads' hov).2.2,(Kd.R_reads' hov).2.1⟩
 clear hb hov
 rw[show locs9.length=9 from rfl]
 go_wp2_with (first|(refine gate_ (.store 24 (.tmp 1) (.tmp 23)) rfl ?_;refine wpList_store_row rfl 24 (.tmp 1) (.tmp 23) rfl w1.heap.size #[.int .i64 3,.int .i64 0,.int .i64 5,.slice AV 9 cV] rfl rfl 24 _ (Blk.new _ _ _) (by kernel_rfl) rfl (by simp[Value.oneCell']) ?_;simp only[Act.put,zA,zB,zC];have hp:=vput_new w1 #[.int .i64 0,.int .i64 0,.int .i64 0,.slice none 0 0] #[.int .i64 3,.int .i64 0,.int .i64 5,.slice AV 9 cV] 24;generalize (w1.alloc (.cells #[.int .i64 0,.int .i64 0,.int .i64 0,.slice none 0 0] 24)).setRow w1.heap.size #[.int .i64 3,.int .i64 0,.int .i64 5,.slice AV 9 cV]=wx at hp ⊢;replace HV:=Aside0.mk (And.intro (Kd.C_below HV.out.1 hp.2) HV.out.2);replace HB:=Aside0.mk (below2 HB.out HB.out.size hp.2);have HX:=Aside0.mk hp.1;clear hp;generalize w1.heap.size=gv at HX ⊢)|(refine gate_ (.load 24 (.tmp 1)) rfl ?_;refine wpList_load_row rfl 24 (.tmp 1) rfl gv rfl _ #[.int .i64 3,.int .i64 0,.int .i64 5,.slice AV 9 cV] (0,0) _ HX.out Tryz.underlying24 rfl (by kernel_rfl) ?_;simp only[Act.put,zA,zB,zC]))
 refine(stripe_Sectors.calls 3 0 5 AV cV locs9 (B hello) L9 0 wx HV.out.1 HV.out.2 sf1).mono ?_
 rintro e w2 ⟨v2,rfl,hR2,hb⟩
 replace HB:=Aside0.mk (below2 HB.out HB.out.size hb)
 replace HX:=Aside0.mk (HX.out.keep hb)
 replace HV:=Aside0.mk (And.intro (Kd.C_below HV.out.1 hb) HV.out.2)
 obtain⟨ad,c2,rfl⟩:=Kd.R_slice1 hR2 (by decide)
 have HL:=Aside0.mk hR2
 rw[show L9.length=9 from rfl]at HL ⊢
 clear hb hR2
 go_wp2_with (first|(refine gate_ (.load 24 (.tmp 1)) rfl ?_;refine wpList_load_row rfl 24 (.tmp 1) rfl gv rfl _ #[.int .i64 3,.int .i64 0,.int .i64 5,.slice AV 9 cV] (0,0) _ HX.out Tryz.underlying24 rfl (by kernel_rfl) ?_;simp only[Act.put,zA,zB,zC]))
 refine(stripe_Sectors.calls 3 0 5 AV cV locs9 (B [104,101,108,108]) [] 1 w2 HV.out.1 HV.out.2 sf2).mono ?_
 rintro e wq ⟨v4,rfl,hR4,hb⟩
 replace HB:=Aside0.mk (below2 HB.out HB.out.size hb)
 replace HX:=Aside0.mk (HX.out.keep hb)
 replace HV:=Aside0.mk (And.intro (Kd.C_below HV.out.1 hb) HV.out.2)
 replace HL:=Aside0.mk (Kd.R_below HL.out hb)
 clear hb hR4
 obtain⟨x0,x1,x2,x3,x4,x5,x6,x7,x8,hx⟩:=nine (show L9.length=9 from rfl)
 have hC:Kd.C Kd.string wq (some ad) L9.length L9:=(Kd.R_reads' HL.out).2.2
 obtain⟨_,ea,hx0⟩:=strs_at hC 0 (by decide)
 cases ea
 obtain⟨_,ea,hx1⟩:=strs_at hC 1 (by decide)
 cases ea
 obtain⟨_,ea,hx3⟩:=strs_at hC 3 (by decide)
 cases ea
 obtain⟨_,ea,hx4⟩:=strs_at hC 4 (by decide)
 cases ea
 obtain⟨_,ea,hx5⟩:=strs_at hC 5 (by decide)
 cases ea
 obtain⟨_,ea,hx6⟩:=strs_at hC 6 (by decide)
 cases ea
 obtain⟨_,ea,hx7⟩:=strs_at hC 7 (by decide)
 cases ea
 obtain⟨_,ea,hx8⟩:=strs_at hC 8 (by decide)
 cases ea
 have ht1:=text_1 x0 x1 x2 x3 x4 x5 x6 x7 x8 hx
 have hown : ∀ i,i<9→ownX 3 0 locs9 hello i=strAt [x0,x1,x2,x3,x4,x5,x6,x7,x8] i:=fun i hi=>by rw[←hx];exact(secK_nine 3 0 locs9 hello i hi).symm
 have ho0:ownX 3 0 locs9 hello 0=x0:=hown 0 (by decide)
 have ho1:ownX 3 0 locs9 hello 1=x1:=hown 1 (by decide)
 have hz : ∀ s∈X1 x1 x3 x4 x5 x6 x7 x8,s.size≤140737488355328:=fun s hs=>by
  have hsz : ∀ i,i<9→(strAt [x0,x1,x2,x3,x4,x5,x6,x7,x8] i).size≤140737488355328:=fun i hi=>by rw[←hown i hi];exact own_size 3 0 locs9 hello i
  simp only[X1,List.mem_cons,List.not_mem_nil,or_false]at hs
  rcases hs with rfl|rfl|rfl|rfl|rfl|rfl|rfl|rfl|rfl
  ·exact Nat.zero_le _
  ·exact hsz 1 (by decide)
  ·exact(by decide:(⟨#[120]⟩:ByteArray).size≤140737488355328)
  ·exact hsz 3 (by decide)
  ·exact hsz 4 (by decide)
  ·exact hsz 5 (by decide)
  ·exact hsz 6 (by decide)
  ·exact hsz 7 (by decide)
  ·exact hsz 8 (by decide)
 rw[hx]at hx0 hx1 hx3 hx4 hx5 hx6 hx7 hx8
 simp only[strAt,List.getD_cons_zero,List.getD_cons_succ]at hx0 hx1 hx3 hx4 hx5 hx6 hx7 hx8
 rw[add_zero']at hx0
 obtain⟨ab,ao,ea⟩ : ∃ ab ao,ad=⟨ab,ao,none⟩:=⟨_,_,spot_none hx0⟩
 subst ea
 simp only[Addr.add]at hx1 hx3 hx4 hx5 hx6 hx7 hx8
 have HT1:Aside0 (∀ (w':World) (g':Nat),Blk w' g' #[.string ⟨#[]⟩,.string x1,.string ⟨#[120]⟩,.string x3,.string x4,.string x5,.string x6,.string x7,.string x8] 9→Below wq.heap.size wq w'→Calls Tryz.prog 12 #[.agg #[.int .i64 3,.int .i64 0,.int .i64 5,.slice AV 9 cV],.slice (some ⟨g',0,none⟩) 9 9] w' fun e w''=> ∃ A c,e = .returned (.tuple #[.string (B hello),.slice A 2 c,.int .i64 0])∧Kd.R (Kd.int .i64) 3 w'' w'.heap.size (fun _=>True) (.slice A 2 c) [0,2]∧Below w'.heap.size w' w''):=⟨fun w' g' hg hb=>by
  refine(stripe_Text.calls 20 3 0 5 AV cV locs9 (some ⟨g',0,none⟩) 9 (X1 x1 x3 x4 x5 x6 x7 x8) (B hello) [0,2] 0 w' (Kd.C_below HV.out.1 hb) HV.out.2 (C_str (X1 x1 x3 x4 x5 x6 x7 x8) (show 9≤_ by decide) hg) (Nat.le_refl 9) (by rw[stext_f 3 0 5 locs9 (by decide) _ hz 20 (by decide),ht1])).mono ?_
  rintro e w'' ⟨v,rfl,hR,hB⟩
  obtain⟨A,c,rfl⟩:=Kd.R_slice hR
  exact⟨A,c,rfl,hR,hB⟩⟩
 have HT2:Aside0 (∀ (w':World) (g':Nat),Blk w' g' (X2.map Value.string).toArray 9→Below wq.heap.size wq w'→Calls Tryz.prog 12 #[.agg #[.int .i64 3,.int .i64 0,.int .i64 5,.slice AV 9 cV],.slice (some ⟨g',0,none⟩) 9 9] w' fun e w''=> ∃ A c,e = .returned (.tuple #[.string ⟨#[]⟩,.slice A 9 c,.int .i64 2])∧Below w'.heap.size w' w''):=⟨fun w' g' hg hb=>by
  refine(stripe_Text.calls 20 3 0 5 AV cV locs9 (some ⟨g',0,none⟩) 9 X2 ⟨#[]⟩ [0,1,2,3,4,5,6,7,8] 2 w' (Kd.C_below HV.out.1 hb) HV.out.2 (C_str X2 (by decide) hg) (by decide) (by rw[stext_f 3 0 5 locs9 (by decide) X2 (fun s hs=>by rw[List.eq_of_mem_replicate hs];exact Nat.zero_le _) 20 (by decide),text_2])).mono ?_
  rintro e w'' ⟨v,rfl,hR,hB⟩
  obtain⟨A,c,rfl⟩:=Kd.R_slice hR
  exact⟨A,c,rfl,hB⟩⟩
 have HO0:=Lib.hid ho0
 have HO1:=Lib.hid ho1
 clear ht1 hown ho0 ho1 hz hC hx HL
 have hu:=Tryz.underlying24
 go_wp2_with fail
 refine start_ (n:=31) (S:=fun w'=>w'.cell? ⟨gv,0,none⟩=some (.int .i64 3)∧w'.cell? ⟨gv,1,none⟩=some (.int .i64 0)∧w'.cell? ⟨gv,2,none⟩=some (.int .i64 5)∧w'.cell? ⟨gv,3,none⟩=some (.slice AV 9 cV)∧w'.cell? ⟨ab,ao+1,none⟩=some (.string x1)∧w'.cell? ⟨ab,ao+3,none⟩=some (.string x3)∧w'.cell? ⟨ab,ao+4,none⟩=some (.string x4)∧w'.cell? ⟨ab,ao+5,none⟩=some (.string x5)∧w'.cell? ⟨ab,ao+6,none⟩=some (.string x6)∧w'.cell? ⟨ab,ao+7,none⟩=some (.string x7)∧w'.cell? ⟨ab,ao+8,none⟩=some (.string x8)) (ds:=[]) #[false,false,false,false,false,false,false,false,false,false,false,false,false,false,false,false,false,false,false,false,false,false,false,false,false,false,false,false,false,false,false] (by kernel_rfl) rfl rfl ⟨((HX.out.keep (Below.drew (Below.refl wq.heap.size wq))).cell (i:=0) rfl),((HX.out.keep (Below.drew (Below.refl wq.heap.size wq))).cell (i:=1) rfl),((HX.out.keep (Below.drew (Below.refl wq.heap.size wq))).cell (i:=2) rfl),((HX.out.keep (Below.drew (Below.refl wq.heap.size wq))).cell (i:=3) rfl),(((Below.drew (Below.refl wq.heap.size wq)).cell (lt_cell hx1)).trans hx1),(((Below.drew (Below.refl wq.heap.size wq)).cell (lt_cell hx3)).trans hx3),(((Below.drew (Below.refl wq.heap.size wq)).cell (lt_cell hx4)).trans hx4),(((Below.drew (Below.refl wq.heap.size wq)).cell (lt_cell hx5)).trans hx5),(((Below.drew (Below.refl wq.heap.size wq)).cell (lt_cell hx6)).trans hx6),(((Below.drew (Below.refl wq.heap.size wq)).cell (lt_cell hx7)).trans hx7),(((Below.drew (Below.refl wq.heap.size wq)).cell (lt_cell hx8)).trans hx8)⟩ (fun hHeld=> ?_)
 refine pure_ (i:=1) (N:=some 39) (v:= ?_) (a':= ?_) #[false,true,false,false,false,false,false,false,false,false,false,false,false,false,false,false,false,false,false,false,false,false,false,false,false,false,false,false,false,false,false] rfl rfl (by kernel_rfl) (fun _ _ _ h=>h) (Or.inl ⟨by rfl,?_⟩) ?_ ?_
 rotate_left
 ·intro w'
  go_simp
  with_reducible rfl
 rotate_left
 ·simp only[Act.put,zA,zB,zC]
  rfl
 refine pure_ (i:=2) (N:=some 40) (v:= ?_) (a':= ?_) #[false,true,true,false,false,false,false,false,false,false,false,false,false,false,false,false,false,false,false,false,false,false,false,false,false,false,false,false,false,false,false] rfl rfl (by kernel_rfl) (fun _ _ _ h=>h) (Or.inl ⟨by rfl,?_⟩) ?_ ?_
 rotate_left
 ·intro w'
  go_simp
  with_reducible rfl
 rotate_left
 ·simp only[Act.put,zA,zB,zC]
  rfl
 refine pure_ (i:=4) (N:=some 42) (v:= ?_) (a':= ?_) #[false,true,true,false,true,false,false,false,false,false,false,false,false,false,false,false,false,false,false,false,false,false,false,false,false,false,false,false,false,false,false] rfl rfl (by kernel_rfl) (fun _ _ _ h=>h) (Or.inl ⟨by rfl,?_⟩) ?_ ?_
 rotate_left
 ·intro w'
  go_simp
  with_reducible rfl
 rotate_left
 ·simp only[Act.put,zA,zB,zC]
  rfl
 refine pure_ (i:=5) (N:=some 43) (v:= ?_) (a':= ?_) #[false,true,true,false,true,true,false,false,false,false,false,false,false,false,false,false,false,false,false,false,false,false,false,false,false,false,false,false,false,false,false] rfl rfl (by kernel_rfl) (fun _ _ _ h=>h) (Or.inl ⟨by rfl,?_⟩) ?_ ?_
 rotate_left
 ·intro w'
  go_simp
  with_reducible rfl
 rotate_left
 ·simp only[Act.put,zA,zB,zC]
  rfl
 refine pure_ (i:=7) (N:=some 45) (v:= ?_) (a':= ?_) #[false,true,true,false,true,true,false,true,false,false,false,false,false,false,false,false,false,false,false,false,false,false,false,false,false,false,false,false,false,false,false] rfl rfl (by kernel_rfl) (fun _ _ _ h=>h) (Or.inl ⟨by rfl,?_⟩) ?_ ?_
 rotate_left
 ·intro w'
  go_simp
  with_reducible rfl
 rotate_left
 ·simp only[Act.put,zA,zB,zC]
  rfl
 refine pure_ (i:=8) (N:=some 46) (v:= ?_) (a':= ?_) #[false,true,true,false,true,true,false,true,true,false,false,false,false,false,false,false,false,false,false,false,false,false,false,false,false,false,false,false,false,false,false] rfl rfl (by kernel_rfl) (fun _ _ _ h=>h) (Or.inl ⟨by rfl,?_⟩) ?_ ?_
 rotate_left
 ·intro w'
  go_simp
  with_reducible rfl
 rotate_left
 ·simp only[Act.put,zA,zB,zC]
  rfl
 refine pure_ (i:=10) (N:=some 48) (v:= ?_) (a':= ?_) #[false,true,true,false,true,true,false,true,true,false,true,false,false,false,false,false,false,false,false,false,false,false,false,false,false,false,false,false,false,false,false] rfl rfl (by kernel_rfl) (fun _ _ _ h=>h) (Or.inl ⟨by rfl,?_⟩) ?_ ?_
 rotate_left
 ·intro w'
  go_simp
  with_reducible rfl
 rotate_left
 ·simp only[Act.put,zA,zB,zC]
  rfl
 refine pure_ (i:=11) (N:=some 49) (v:= ?_) (a':= ?_) #[false,true,true,false,true,true,false,true,true,false,true,true,false,false,false,false,false,false,false,false,false,false,false,false,false,false,false,false,false,false,false] rfl rfl (by kernel_rfl) (fun _ _ _ h=>h) (Or.inl ⟨by rfl,?_⟩) ?_ ?_
 rotate_left
 ·intro w'
  go_simp
  with_reducible rfl
 rotate_left
 ·simp only[Act.put,zA,zB,zC]
  rfl
 refine pure_ (i:=13) (N:=some 51) (v:= ?_) (a':= ?_) #[false,true,true,false,true,true,false,true,true,false,true,true,false,true,false,false,false,false,false,false,false,false,false,false,false,false,false,false,false,false,false] rfl rfl (by kernel_rfl) (fun _ _ _ h=>h) (Or.inl ⟨by rfl,?_⟩) ?_ ?_
 rotate_left
 ·intro w'
  go_simp
  with_reducible rfl
 rotate_left
 ·simp only[Act.put,zA,zB,zC]
  rfl
 refine pure_ (i:=14) (N:=some 52) (v:= ?_) (a':= ?_) #[false,true,true,false,true,true,false,true,true,false,true,true,false,true,true,false,false,false,false,false,false,false,false,false,false,false,false,false,false,false,false] rfl rfl (by kernel_rfl) (fun _ _ _ h=>h) (Or.inl ⟨by rfl,?_⟩) ?_ ?_
 rotate_left
 ·intro w'
  go_simp
  with_reducible rfl
 rotate_left
 ·simp only[Act.put,zA,zB,zC]
  rfl
 refine pure_ (i:=16) (N:=some 54) (v:= ?_) (a':= ?_) #[false,true,true,false,true,true,false,true,true,false,true,true,false,true,true,false,true,false,false,false,false,false,false,false,false,false,false,false,false,false,false] rfl rfl (by kernel_rfl) (fun _ _ _ h=>h) (Or.inl ⟨by rfl,?_⟩) ?_ ?_
 rotate_left
 ·intro w'
  go_simp
  with_reducible rfl
 rotate_left
 ·simp only[Act.put,zA,zB,zC]
  rfl
 refine pure_ (i:=17) (N:=some 55) (v:= ?_) (a':= ?_) #[false,true,true,false,true,true,false,true,true,false,true,true,false,true,true,false,true,true,false,false,false,false,false,false,false,false,false,false,false,false,false] rfl rfl (by kernel_rfl) (fun _ _ _ h=>h) (Or.inl ⟨by rfl,?_⟩) ?_ ?_
 rotate_left
 ·intro w'
  go_simp
  with_reducible rfl
 rotate_left
 ·simp only[Act.put,zA,zB,zC]
  rfl
 refine pure_ (i:=19) (N:=some 57) (v:= ?_) (a':= ?_) #[false,true,true,false,true,true,false,true,true,false,true,true,false,true,true,false,true,true,false,true,false,false,false,false,false,false,false,false,false,false,false] rfl rfl (by kernel_rfl) (fun _ _ _ h=>h) (Or.inl ⟨by rfl,?_⟩) ?_ ?_
 rotate_left
 ·intro w'
  go_simp
  with_reducible rfl
 rotate_left
 ·simp only[Act.put,zA,zB,zC]
  rfl
 refine pure_ (i:=20) (N:=some 58) (v:= ?_) (a':= ?_) #[false,true,true,false,true,true,false,true,true,false,true,true,false,true,true,false,true,true,false,true,true,false,false,false,false,false,false,false,false,false,false] rfl rfl (by kernel_rfl) (fun _ _ _ h=>h) (Or.inl ⟨by rfl,?_⟩) ?_ ?_
 rotate_left
 ·intro w'
  go_simp
  with_reducible rfl
 rotate_left
 ·simp only[Act.put,zA,zB,zC]
  rfl
 refine take_ (i:=0) (N:=some 38) (v:= ?_) (a':= ?_) #[true,true,true,false,true,true,false,true,true,false,true,true,false,true,true,false,true,true,false,true,true,false,false,false,false,false,false,false,false,false,false] rfl rfl (by kernel_rfl) (fun _ _ _ h=>h) (Or.inl ⟨by rfl,?_⟩) hHeld ?_ ?_
 rotate_left
 ·rintro w' ⟨s0,s1,s2,s3,s4,s5,s6,s7,s8,s9,s10⟩
  go_simp
  with_reducible rfl
 rotate_left
 ·simp only[Act.put,zA,zB,zC]
  rfl
 refine take_ (i:=3) (N:=some 41) (v:= ?_) (a':= ?_) #[true,true,true,true,true,true,false,true,true,false,true,true,false,true,true,false,true,true,false,true,true,false,false,false,false,false,false,false,false,false,false] rfl rfl (by kernel_rfl) (fun _ _ _ h=>h) (Or.inl ⟨by rfl,?_⟩) hHeld ?_ ?_
 rotate_left
 ·rintro w' ⟨s0,s1,s2,s3,s4,s5,s6,s7,s8,s9,s10⟩
  go_simp
  with_reducible rfl
 rotate_left
 ·simp only[Act.put,zA,zB,zC]
  rfl
 refine take_ (i:=6) (N:=some 44) (v:= ?_) (a':= ?_) #[true,true,true,true,true,true,true,true,true,false,true,true,false,true,true,false,true,true,false,true,true,false,false,false,false,false,false,false,false,false,false] rfl rfl (by kernel_rfl) (fun _ _ _ h=>h) (Or.inl ⟨by rfl,?_⟩) hHeld ?_ ?_
 rotate_left
 ·rintro w' ⟨s0,s1,s2,s3,s4,s5,s6,s7,s8,s9,s10⟩
  go_simp
  with_reducible rfl
 rotate_left
 ·simp only[Act.put,zA,zB,zC]
  rfl
 refine take_ (i:=9) (N:=some 47) (v:= ?_) (a':= ?_) #[true,true,true,true,true,true,true,true,true,true,true,true,false,true,true,false,true,true,false,true,true,false,false,false,false,false,false,false,false,false,false] rfl rfl (by kernel_rfl) (fun _ _ _ h=>h) (Or.inl ⟨by rfl,?_⟩) hHeld ?_ ?_
 rotate_left
 ·rintro w' ⟨s0,s1,s2,s3,s4,s5,s6,s7,s8,s9,s10⟩
  go_simp
  with_reducible rfl
 rotate_left
 ·simp only[Act.put,zA,zB,zC]
  rfl
 refine take_ (i:=12) (N:=some 50) (v:= ?_) (a':= ?_) #[true,true,true,true,true,true,true,true,true,true,true,true,true,true,true,false,true,true,false,true,true,false,false,false,false,false,false,false,false,false,false] rfl rfl (by kernel_rfl) (fun _ _ _ h=>h) (Or.inl ⟨by rfl,?_⟩) hHeld ?_ ?_
 rotate_left
 ·rintro w' ⟨s0,s1,s2,s3,s4,s5,s6,s7,s8,s9,s10⟩
  go_simp
  with_reducible rfl
 rotate_left
 ·simp only[Act.put,zA,zB,zC]
  rfl
 refine take_ (i:=15) (N:=some 53) (v:= ?_) (a':= ?_) #[true,true,true,true,true,true,true,true,true,true,true,true,true,true,true,true,true,true,false,true,true,false,false,false,false,false,false,false,false,false,false] rfl rfl (by kernel_rfl) (fun _ _ _ h=>h) (Or.inl ⟨by rfl,?_⟩) hHeld ?_ ?_
 rotate_left
 ·rintro w' ⟨s0,s1,s2,s3,s4,s5,s6,s7,s8,s9,s10⟩
  go_simp
  with_reducible rfl
 rotate_left
 ·simp only[Act.put,zA,zB,zC]
  rfl
 refine take_ (i:=18) (N:=some 56) (v:= ?_) (a':= ?_) #[true,true,true,true,true,true,true,true,true,true,true,true,true,true,true,true,true,true,true,true,true,false,false,false,false,false,false,false,false,false,false] rfl rfl (by kernel_rfl) (fun _ _ _ h=>h) (Or.inl ⟨by rfl,?_⟩) hHeld ?_ ?_
 rotate_left
 ·rintro w' ⟨s0,s1,s2,s3,s4,s5,s6,s7,s8,s9,s10⟩
  go_simp
  with_reducible rfl
 rotate_left
 ·simp only[Act.put,zA,zB,zC]
  rfl
 refine take_ (i:=21) (N:=some 59) (v:= ?_) (a':= ?_) #[true,true,true,true,true,true,true,true,true,true,true,true,true,true,true,true,true,true,true,true,true,true,false,false,false,false,false,false,false,false,false] rfl rfl (by kernel_rfl) (fun _ _ _ h=>h) (Or.inl ⟨by rfl,?_⟩) hHeld ?_ ?_
 rotate_left
 ·rintro w' ⟨s0,s1,s2,s3,s4,s5,s6,s7,s8,s9,s10⟩
  go_simp
  with_reducible rfl
 rotate_left
 ·simp only[Act.put,zA,zB,zC]
  rfl
 refine one_ (i:=22) (N:=some 60) #[true,true,true,true,true,true,true,true,true,true,true,true,true,true,true,true,true,true,true,true,true,true,true,false,false,false,false,false,false,false,false] rfl rfl (by kernel_rfl) (by decide) (fun K hK=> ?_)
 refine value_ (w1:= ?_) (v:= ?_) (by rfl) rfl ?_ ?_
 rotate_left 2
 ·go_simp
  constructor
  ·rfl
  ·rfl
 have hA:Below wq.heap.size wq (wq.alloc (.cells #[.string ⟨#[]⟩,.string x1,.string ⟨#[120]⟩,.string x3,.string x4,.string x5,.string x6,.string x7,.string x8] 9)).drew:=Below.drew (below_alloc (Below.refl _ _) _)
 refine hK.out _ _ ⟨((HX.out.keep hA).cell (i:=0) rfl),((HX.out.keep hA).cell (i:=1) rfl),((HX.out.keep hA).cell (i:=2) rfl),((HX.out.keep hA).cell (i:=3) rfl),((hA.cell (lt_cell hx1)).trans hx1),((hA.cell (lt_cell hx3)).trans hx3),((hA.cell (lt_cell hx4)).trans hx4),((hA.cell (lt_cell hx5)).trans hx5),((hA.cell (lt_cell hx6)).trans hx6),((hA.cell (lt_cell hx7)).trans hx7),((hA.cell (lt_cell hx8)).trans hx8)⟩ (fun hHeld=> ?_)
 clear hK K
 refine norm_ (a':= ?_) ?_ ?_
 rotate_left
 ·show Act.put _ (some 60) _=_
  simp only[Act.put,zA,zB,zC]
  rfl
 refine one_ (i:=23) (N:=some 61) #[true,true,true,true,true,true,true,true,true,true,true,true,true,true,true,true,true,true,true,true,true,true,true,true,false,false,false,false,false,false,false] rfl rfl (by kernel_rfl) (by decide) (fun K hK=> ?_)
 refine goes_ Tryz.func12 (by kernel_rfl) rfl #[.agg #[.int .i64 3,.int .i64 0,.int .i64 5,.slice AV 9 cV],.slice (some ⟨wq.heap.size,0,none⟩) 9 9] (by rfl) rfl rfl (by simp only[List.map_toArray,List.map_cons,List.map_nil];rfl) ?_
 with_reducible refine(HT1.out _ _ ((Blk.new wq _ _).keep (Below.drew (Below.refl _ _))) hA).mono ?_
 rintro e w6 ⟨Ab,cb,rfl,hob,hb⟩
 refine⟨_,rfl,?_⟩
 have hb6:=below2 hA hA.size hb
 have HOB:=Aside0.mk hob
 clear hA hb hob
 refine hK.out _ _ ⟨((HX.out.keep hb6).cell (i:=0) rfl),((HX.out.keep hb6).cell (i:=1) rfl),((HX.out.keep hb6).cell (i:=2) rfl),((HX.out.keep hb6).cell (i:=3) rfl),((hb6.cell (lt_cell hx1)).trans hx1),((hb6.cell (lt_cell hx3)).trans hx3),((hb6.cell (lt_cell hx4)).trans hx4),((hb6.cell (lt_cell hx5)).trans hx5),((hb6.cell (lt_cell hx6)).trans hx6),((hb6.cell (lt_cell hx7)).trans hx7),((hb6.cell (lt_cell hx8)).trans hx8)⟩ (fun hHeld=> ?_)
 clear hK K
 refine norm_ (a':= ?_) ?_ ?_
 rotate_left
 ·show Act.put _ (some 61) _=_
  simp only[Act.put,zA,zB,zC]
  rfl
 refine pure_ (i:=24) (N:=some 37) (v:= ?_) (a':= ?_) #[true,true,true,true,true,true,true,true,true,true,true,true,true,true,true,true,true,true,true,true,true,true,true,true,true,false,false,false,false,false,false] rfl rfl (by kernel_rfl) (fun _ _ _ h=>h) (Or.inl ⟨by rfl,?_⟩) ?_ ?_
 rotate_left
 ·intro w'
  go_simp
  with_reducible rfl
 rotate_left
 ·simp only[Act.put,zA,zB,zC]
  rfl
 refine pure_ (i:=25) (N:=some 62) (v:= ?_) (a':= ?_) #[true,true,true,true,true,true,true,true,true,true,true,true,true,true,true,true,true,true,true,true,true,true,true,true,true,true,false,false,false,false,false] rfl rfl (by kernel_rfl) (fun _ _ _ h=>h) (Or.inl ⟨by rfl,?_⟩) ?_ ?_
 rotate_left
 ·intro w'
  go_simp
  with_reducible rfl
 rotate_left
 ·simp only[Act.put,zA,zB,zC]
  rfl
 refine pure_ (i:=26) (N:=some 63) (v:= ?_) (a':= ?_) #[true,true,true,true,true,true,true,true,true,true,true,true,true,true,true,true,true,true,true,true,true,true,true,true,true,true,true,false,false,false,false] rfl rfl (by kernel_rfl) (fun _ _ _ h=>h) (Or.inl ⟨by rfl,?_⟩) ?_ ?_
 rotate_left
 ·intro w'
  go_simp
  with_reducible rfl
 rotate_left
 ·simp only[Act.put,zA,zB,zC]
  rfl
 refine pure_ (i:=27) (N:=some 64) (v:= ?_) (a':= ?_) #[true,true,true,true,true,true,true,true,true,true,true,true,true,true,true,true,true,true,true,true,true,true,true,true,true,true,true,true,false,false,false] rfl rfl (by kernel_rfl) (fun _ _ _ h=>h) (Or.inl ⟨by rfl,?_⟩) ?_ ?_
 rotate_left
 ·intro w'
  go_simp
  with_reducible rfl
 rotate_left
 ·simp only[Act.put,zA,zB,zC]
  rfl
 refine pure_ (i:=28) (N:=some 6) (v:= ?_) (a':= ?_) #[true,true,true,true,true,true,true,true,true,true,true,true,true,true,true,true,true,true,true,true,true,true,true,true,true,true,true,true,true,false,false] rfl rfl (by kernel_rfl) (fun _ _ _ h=>h) (Or.inl ⟨by rfl,?_⟩) ?_ ?_
 rotate_left
 ·intro w'
  go_simp
  with_reducible rfl
 rotate_left
 ·simp only[Act.put,zA,zB,zC]
  rfl
 refine pure_ (i:=29) (N:=some 7) (v:= ?_) (a':= ?_) #[true,true,true,true,true,true,true,true,true,true,true,true,true,true,true,true,true,true,true,true,true,true,true,true,true,true,true,true,true,true,false] rfl rfl (by kernel_rfl) (fun _ _ _ h=>h) (Or.inl ⟨by rfl,?_⟩) ?_ ?_
 rotate_left
 ·intro w'
  go_simp
  with_reducible rfl
 rotate_left
 ·simp only[Act.put,zA,zB,zC]
  rfl
 refine pure_ (i:=30) (N:=some 8) (v:= ?_) (a':= ?_) #[true,true,true,true,true,true,true,true,true,true,true,true,true,true,true,true,true,true,true,true,true,true,true,true,true,true,true,true,true,true,true] rfl rfl (by kernel_rfl) (fun _ _ _ h=>h) (Or.inl ⟨by rfl,?_⟩) ?_ ?_
 rotate_left
 ·intro w'
  go_simp
  with_reducible rfl
 rotate_left
 ·simp only[Act.put,zA,zB,zC]
  rfl
 refine done_ (by kernel_rfl) ?_
 replace HB:=Aside0.mk (below2 HB.out HB.out.size hb6)
 replace HX:=Aside0.mk (HX.out.keep hb6)
 replace HV:=Aside0.mk (And.intro (Kd.C_below HV.out.1 hb6) HV.out.2)
 have HT3:Aside0 (∀ (w':World) (g':Nat),Blk w' g' (X2.map Value.string).toArray 9→Below w6.heap.size w6 w'→Calls Tryz.prog 12 #[.agg #[.int .i64 3,.int .i64 0,.int .i64 5,.slice AV 9 cV],.slice (some ⟨g',0,none⟩) 9 9] w' fun e w''=> ∃ A c,e = .returned (.tuple #[.string ⟨#[]⟩,.slice A 9 c,.int .i64 2])∧Below w'.heap.size w' w''):=⟨fun w' g' hg hb=>HT2.out w' g' hg (below2 hb6 hb6.size hb)⟩
 have HT2:=HT3
 have k0:w6.cell? ⟨ab,ao,none⟩=some (.string x0):=(hb6.cell (lt_cell hx0)).trans hx0
 have k1:w6.cell? ⟨ab,ao+1,none⟩=some (.string x1):=(hb6.cell (lt_cell hx1)).trans hx1
 clear HT1 HT3 hx0 hx1 hx3 hx4 hx5 hx6 hx7 hx8 hb6
 have hmk:=make9
 go_wp2_with fail
 refine start_ (n:=10) (S:=fun w'=>w'.cell? ⟨gv,0,none⟩=some (.int .i64 3)∧w'.cell? ⟨gv,1,none⟩=some (.int .i64 0)∧w'.cell? ⟨gv,2,none⟩=some (.int .i64 5)∧w'.cell? ⟨gv,3,none⟩=some (.slice AV 9 cV)) (ds:=[]) #[false,false,false,false,false,false,false,false,false,false] (by kernel_rfl) rfl rfl ⟨((HX.out.keep (Below.drew (Below.refl w6.heap.size w6))).cell (i:=0) rfl),((HX.out.keep (Below.drew (Below.refl w6.heap.size w6))).cell (i:=1) rfl),((HX.out.keep (Below.drew (Below.refl w6.heap.size w6))).cell (i:=2) rfl),((HX.out.keep (Below.drew (Below.refl w6.heap.size w6))).cell (i:=3) rfl)⟩ (fun hHeld=> ?_)
 refine take_ (i:=0) (N:=some 66) (v:= ?_) (a':= ?_) #[true,false,false,false,false,false,false,false,false,false] rfl rfl (by kernel_rfl) (fun _ _ _ h=>h) (Or.inl ⟨by rfl,?_⟩) hHeld ?_ ?_
 rotate_left
 ·rintro w' ⟨s0,s1,s2,s3⟩
  go_simp
  with_reducible rfl
 rotate_left
 ·simp only[Act.put,zA,zB,zC]
  rfl
 refine one_ (i:=1) (N:=some 67) #[true,true,false,false,false,false,false,false,false,false] rfl rfl (by kernel_rfl) (by decide) (fun K hK=> ?_)
 refine value_ (w1:= ?_) (v:= ?_) (by rfl) rfl ?_ ?_
 rotate_left 2
 ·go_simp
  constructor
  ·rfl
  ·rfl
 have hA:Below w6.heap.size w6 (w6.alloc (.cells (X2.map Value.string).toArray 9)).drew:=Below.drew (below_alloc (Below.refl _ _) _)
 refine hK.out _ _ ⟨((HX.out.keep hA).cell (i:=0) rfl),((HX.out.keep hA).cell (i:=1) rfl),((HX.out.keep hA).cell (i:=2) rfl),((HX.out.keep hA).cell (i:=3) rfl)⟩ (fun hHeld=> ?_)
 clear hK K
 refine norm_ (a':= ?_) ?_ ?_
 rotate_left
 ·show Act.put _ (some 67) _=_
  simp only[Act.put,zA,zB,zC]
  rfl
 refine one_ (i:=2) (N:=some 68) #[true,true,true,false,false,false,false,false,false,false] rfl rfl (by kernel_rfl) (by decide) (fun K hK=> ?_)
 refine goes_ Tryz.func12 (by kernel_rfl) rfl #[.agg #[.int .i64 3,.int .i64 0,.int .i64 5,.slice AV 9 cV],.slice (some ⟨w6.heap.size,0,none⟩) 9 9] (by rfl) rfl rfl (by simp only[List.map_toArray,List.map_cons,List.map_nil];rfl) ?_
 with_reducible refine(HT2.out _ _ ((Blk.new w6 _ _).keep (Below.drew (Below.refl _ _))) hA).mono ?_
 rintro e w7 ⟨Am,cm,rfl,hb⟩
 refine⟨_,rfl,?_⟩
 have hb7:=below2 hA hA.size hb
 clear hA hb
 refine hK.out _ _ ⟨((HX.out.keep hb7).cell (i:=0) rfl),((HX.out.keep hb7).cell (i:=1) rfl),((HX.out.keep hb7).cell (i:=2) rfl),((HX.out.keep hb7).cell (i:=3) rfl)⟩ (fun hHeld=> ?_)
 clear hK K
 refine norm_ (a':= ?_) ?_ ?_
 rotate_left
 ·show Act.put _ (some 68) _=_
  simp only[Act.put,zA,zB,zC]
  rfl
 refine pure_ (i:=3) (N:=some 65) (v:= ?_) (a':= ?_) #[true,true,true,true,false,false,false,false,false,false] rfl rfl (by kernel_rfl) (fun _ _ _ h=>h) (Or.inl ⟨by rfl,?_⟩) ?_ ?_
 rotate_left
 ·intro w'
  go_simp
  with_reducible rfl
 rotate_left
 ·simp only[Act.put,zA,zB,zC]
  rfl
 refine pure_ (i:=4) (N:=some 69) (v:= ?_) (a':= ?_) #[true,true,true,true,true,false,false,false,false,false] rfl rfl (by kernel_rfl) (fun _ _ _ h=>h) (Or.inl ⟨by rfl,?_⟩) ?_ ?_
 rotate_left
 ·intro w'
  go_simp
  with_reducible rfl
 rotate_left
 ·simp only[Act.put,zA,zB,zC]
  rfl
 refine pure_ (i:=5) (N:=some 70) (v:= ?_) (a':= ?_) #[true,true,true,true,true,true,false,false,false,false] rfl rfl (by kernel_rfl) (fun _ _ _ h=>h) (Or.inl ⟨by rfl,?_⟩) ?_ ?_
 rotate_left
 ·intro w'
  go_simp
  with_reducible rfl
 rotate_left
 ·simp only[Act.put,zA,zB,zC]
  rfl
 refine pure_ (i:=6) (N:=some 71) (v:= ?_) (a':= ?_) #[true,true,true,true,true,true,true,false,false,false] rfl rfl (by kernel_rfl) (fun _ _ _ h=>h) (Or.inl ⟨by rfl,?_⟩) ?_ ?_
 rotate_left
 ·intro w'
  go_simp
  with_reducible rfl
 rotate_left
 ·simp only[Act.put,zA,zB,zC]
  rfl
 refine pure_ (i:=7) (N:=some 9) (v:= ?_) (a':= ?_) #[true,true,true,true,true,true,true,true,false,false] rfl rfl (by kernel_rfl) (fun _ _ _ h=>h) (Or.inl ⟨by rfl,?_⟩) ?_ ?_
 rotate_left
 ·intro w'
  go_simp
  with_reducible rfl
 rotate_left
 ·simp only[Act.put,zA,zB,zC]
  rfl
 refine pure_ (i:=8) (N:=some 10) (v:= ?_) (a':= ?_) #[true,true,true,true,true,true,true,true,true,false] rfl rfl (by kernel_rfl) (fun _ _ _ h=>h) (Or.inl ⟨by rfl,?_⟩) ?_ ?_
 rotate_left
 ·intro w'
  go_simp
  with_reducible rfl
 rotate_left
 ·simp only[Act.put,zA,zB,zC]
  rfl
 refine pure_ (i:=9) (N:=some 11) (v:= ?_) (a':= ?_) #[true,true,true,true,true,true,true,true,true,true] rfl rfl (by kernel_rfl) (fun _ _ _ h=>h) (Or.inl ⟨by rfl,?_⟩) ?_ ?_
 rotate_left
 ·intro w'
  go_simp
  with_reducible rfl
 rotate_left
 ·simp only[Act.put,zA,zB,zC]
  rfl
 refine done_ (by kernel_rfl) ?_
 clear hmk
 replace HB:=Aside0.mk (below2 HB.out HB.out.size hb7)
 replace HX:=Aside0.mk (HX.out.keep hb7)
 replace HV:=Aside0.mk (And.intro (Kd.C_below HV.out.1 hb7) HV.out.2)
 replace HOB:=Aside0.mk (Kd.R_below HOB.out hb7)
 replace k0:=(hb7.cell (lt_cell k0)).trans k0
 replace k1:=(hb7.cell (lt_cell k1)).trans k1
 clear HT2 hb7
 go_wp2_with fail
 refine(sread_calls 0 0 0 none 0 [] w7 (Kd.C_nil _ _) (by decide)).mono ?_
 rintro e w8 (⟨hv,-⟩|⟨-,rfl,hb⟩)
 ·rw[vol0]at hv;cases hv
 replace HB:=Aside0.mk (below2 HB.out HB.out.size hb)
 replace HX:=Aside0.mk (HX.out.keep hb)
 replace HV:=Aside0.mk (And.intro (Kd.C_below HV.out.1 hb) HV.out.2)
 replace HOB:=Aside0.mk (Kd.R_below HOB.out hb)
 replace k0:=(hb.cell (lt_cell k0)).trans k0
 replace k1:=(hb.cell (lt_cell k1)).trans k1
 clear hb
 go_wp2_with (first|(refine gate_ (.load 24 (.tmp 1)) rfl ?_;refine wpList_load_row rfl 24 (.tmp 1) rfl gv rfl _ #[.int .i64 3,.int .i64 0,.int .i64 5,.slice AV 9 cV] (0,0) _ HX.out Tryz.underlying24 rfl (by kernel_rfl) ?_;simp only[Act.put,zA,zB,zC]))
 refine(sread_calls 3 0 5 AV cV locs9 w8 HV.out.1 (by decide)).mono ?_
 rintro e w9 (⟨-,⟨g,rfl,hrd,hg⟩,hb⟩|⟨hv,-⟩)
 case inr=>rw[vol9]at hv;cases hv
 have HRD:=Aside0.mk hrd
 have HG:=Lib.hid hg
 have HBG:=Aside0.mk hb
 have HX8:=HX
 have HOB8:=HOB
 have HK0:=Lib.hid k0
 have HK1:=Lib.hid k1
 clear hb hrd hg HX HV HOB k0 k1
 go_wp2_with fail
 refine(wants_calls HRD.out).mono ?_
 rintro e w10 ⟨rfl,rfl⟩
 rw[show wantsF 0 0=0 from rfl]
 have j1:=(HBG.out.cell (lt_cell HK1.out)).trans HK1.out
 go_wp2_with fail
 refine(take_calls (n:=0) (gd:=0) HRD.out (by decide) (by decide) 1 x1 (by rw[←HO1.out];exact own_size 3 0 locs9 hello 1)).mono ?_
 rintro e w11 (⟨-,rfl,rfl⟩|⟨⟨-,hn⟩,-⟩)
 case inr=>exact absurd hn (by decide)
 clear j1
 have j0:=(HBG.out.cell (lt_cell HK0.out)).trans HK0.out
 go_wp2_with fail
 have hg0:=own_good vol9 hello (by decide) 0 (by decide)
 rw[HO0.out]at hg0
 have HG0:=Lib.hid hg0
 clear hg0
 refine(take_calls (n:=0) (gd:=0) HRD.out (by decide) (by decide) 0 x0 (by rw[←HO0.out];exact own_size 3 0 locs9 hello 0)).mono ?_
 rintro e w12 (⟨hw,-⟩|⟨-,rfl,hrd,hb⟩)
 case inl=>exact absurd hw (by decide)
 rw[HG0.out]at hrd ⊢
 simp only at hrd ⊢
 replace HRD:=Aside0.mk hrd
 replace HBG:=Aside0.mk (HBG.out.trans (hb.mono HG.out))
 clear hrd hb j0 HG0
 go_wp2_with fail
 have hb1:=short_bad vol9 1 (by decide) ⟨#[120]⟩ (by decide)
 have HB1:=Lib.hid hb1
 clear hb1
 refine(take_calls (n:=1) (gd:=1) HRD.out (by decide) (by decide) 1 ⟨#[120]⟩ (by decide)).mono ?_
 rintro e w13 (⟨hw,-⟩|⟨-,rfl,hrd,hb⟩)
 case inl=>exact absurd hw (by decide)
 rw[HB1.out]at hrd ⊢
 have hsz : ∀ s∈((List.replicate 9 (⟨#[]⟩:ByteArray)).set 0 (strAt (encL (partsN hello)) 0)).set 1 (goodR 3 0 locs9 ((1:Nat):Int) ⟨#[120]⟩).1,s.size≤140737488355328:=fun s hs=>by
  have h1:=good_small 3 0 locs9 ((1:Nat):Int) ⟨#[120]⟩
  have h0:=enc64 hello (by decide) 0 (by decide)
  generalize strAt (encL (partsN hello)) 0=p at hs h0
  generalize (goodR 3 0 locs9 ((1:Nat):Int) ⟨#[120]⟩).1=q at hs h1
  simp only[List.replicate_succ,List.replicate_zero,List.set_cons_zero,List.set_cons_succ,List.mem_cons,List.not_mem_nil,or_false]at hs
  rcases hs with rfl|rfl|rfl|rfl|rfl|rfl|rfl|rfl|rfl
  all_goals first|omega|exact Nat.zero_le _
 generalize ((List.replicate 9 (⟨#[]⟩:ByteArray)).set 0 (strAt (encL (partsN hello)) 0)).set 1 (goodR 3 0 locs9 ((1:Nat):Int) ⟨#[120]⟩).1=sh at hrd hsz
 replace HRD:=Aside0.mk (show Rd w13 g 3 0 5 locs9 sh [true,false,false,false,false,false,false,false,false] ((2:Nat):Int) ((1:Nat):Int)from hrd)
 replace HBG:=Aside0.mk (HBG.out.trans (hb.mono HG.out))
 have HSZ:=Aside0.mk hsz
 clear hrd hb hsz HB1
 go_wp2_with fail
 refine(wants_calls HRD.out).mono ?_
 rintro e w14 ⟨rfl,rfl⟩
 rw[show wantsF ((2:Nat):Int) ((1:Nat):Int)=2 from rfl]
 go_wp2_with fail
 refine(rtext_calls HRD.out HSZ.out).mono ?_
 rintro e w15 ⟨rfl,hb⟩
 rw[show rtextF 5 ((1:Nat):Int) sh [true,false,false,false,false,false,false,false,false]=(⟨#[]⟩,2)from rfl]
 replace HRD:=Aside0.mk (HRD.out.keep hb)
 replace HBG:=Aside0.mk (HBG.out.trans (hb.mono HBG.out.size))
 have HOB:=Aside0.mk (Kd.R_below HOB8.out HBG.out)
 clear hb HSZ
 have HOBC:=Aside0.mk (Kd.R_reads' HOB.out)
 have HBA:=Aside0.mk (below_alloc (Below.refl w15.heap.size w15) (.cells #[.int .i64 0,.int .i64 2] 3))
 have HAA:=Aside0.mk (Blk.new w15 #[.int .i64 0,.int .i64 2] 3)
 rw[show B hello=(⟨#[104,101,108,108,111]⟩:ByteArray)from rfl]
 go_wp2_with fail
 refine(sluicegateref06_Ints.calls 10 Ab cb [0,2] (some ⟨w15.heap.size,0,none⟩) 2 [0,2] true _ (Kd.C_below HOBC.out.2.2 HBA.out) HOBC.out.2.1 (C_int [0,2] (by decide) HAA.out) (by decide) (ints_f [0,2] (by decide) 10 (by decide))).mono ?_
 rintro e w16 ⟨rfl,hd⟩
 have hb2:=below2 HBA.out HBA.out.size hd.below
 replace HRD:=Aside0.mk (HRD.out.keep hb2)
 replace HBG:=Aside0.mk (HBG.out.trans (hb2.mono HBG.out.size))
 clear hd hb2 HBA HAA HOB HOB8 HOBC
 go_wp2_with fail
 refine(bad_calls (n:=2) HRD.out (by decide)).mono ?_
 rintro e w17 ⟨Ac,cc,rfl,hR,hb⟩
 rw[show badN [true,false,false,false,false,false,false,false,false] 2=[1]from rfl]at hR ⊢
 replace HBG:=Aside0.mk (HBG.out.trans (hb.mono HBG.out.size))
 have HRC:=Aside0.mk (Kd.R_reads' hR)
 have HBA:=Aside0.mk (below_alloc (Below.refl w17.heap.size w17) (.cells #[.int .i64 1] 3))
 have HAA:=Aside0.mk (Blk.new w17 #[.int .i64 1] 3)
 clear hR hb
 go_wp2_with fail
 refine(sluicegateref06_Ints.calls 10 Ac cc [1] (some ⟨w17.heap.size,0,none⟩) 1 [1] true _ (Kd.C_below HRC.out.2.2 HBA.out) HRC.out.2.1 (C_int [1] (by decide) HAA.out) (by decide) (ints_f [1] (by decide) 10 (by decide))).mono ?_
 rintro e w18 ⟨rfl,hd⟩
 have hb2:=below2 HBA.out HBA.out.size hd.below
 replace HBG:=Aside0.mk (HBG.out.trans (hb2.mono HBG.out.size))
 clear hd hb2 HBA HAA HRC
 go_wp2_with fail
 go_ret
 exact⟨rfl,below2 HB.out HB.out.size HBG.out⟩
end Go.Proofs.YtdcfonmjbelgbaaGreatDoor
end
section
namespace Go.Proofs.YtdcfonmjbelgbaaGreatDoor.Q
open Go.RowKit YtdcfonmjbelgbaaGreatDoorW.PrintWords YtdcfonmjbelgbaaGreatDoorW.PrintLast YtdcfonmjbelgbaaGreatDoorW.PrintMore
attribute [local go_sem] max2_int min2_int max_two min_two max_three min_three max_four min_four
mutual
def sluicegateref19_Sectors.j0:Nat→ByteArray→Bool→Int→Int→Int→List (S59)→Option (List ByteArray×Int)
 | 0,_,_,_,_,_,_=>none
 | k+1,x1,x23,x221000,x221001,x221002,x221003=>if x23=true then (some (([]:List ByteArray),1))else ((sluicegateref08_Shards.f k x1).bind fun bt222=>((sluicegateref02_Encode.f k bt222.1).bind fun bt226=>(sluicegateref19_Sectors.l0 k bt226.1 ([]:List ByteArray) 0 x221000 x221001 x221002 x221003)))
def sluicegateref19_Sectors.l0:Nat→List ByteArray→List ByteArray→Int→Int→Int→Int→List (S59)→Option (List ByteArray×Int)
 | 0,_,_,_,_,_,_,_=>none
 | k+1,x8,x10,x11,x221000,x221001,x221002,x221003=>if x11<9 then (if 0≤x11 then (if x11<(x221003.length:Int)then (if x11<(x8.length:Int)then ((sluicegateref07_Write.f x221000 x221001 x11 ((rd_T59 x221003 x11).f0) ((rd_T59 x221003 x11).f1) (rdOf ByteArray.empty x8 x11)).bind fun bt232=>(if x10.length<8796093022208 then (sluicegateref19_Sectors.l0 k x8 (x10++[bt232.1]) (wrap64 (x11+1)) x221000 x221001 x221002 x221003)else (none)))else (none))else (none))else (none))else (some (x10,0))
end
def sluicegateref19_Sectors.f (k:Nat) (a0_0:Int) (a0_1:Int) (a0_2:Int) (l0_3:List (S59)) (a1:ByteArray):Option (List ByteArray×Int):=(sluicegateref11_Volume.f k a0_0 a0_1 a0_2 l0_3).bind fun t221=>(if t221=true then (sluicegateref19_Sectors.j0 k a1 ((a1.size:Int) != a0_2) a0_0 a0_1 a0_2 l0_3)else (sluicegateref19_Sectors.j0 k a1 true a0_0 a0_1 a0_2 l0_3))
def sluicegateref19_Sectors.T9:Bool×List (List Nat×List Nat):=(true,[([],[]),([0],[0]),([],[]),([2],[2]),([],[]),([],[]),([5],[5]),([],[]),([6,7],[6,7]),([8],[8]),([],[]),([],[]),([10,11],[10,11]),([12],[12]),([1,3,4,9,13],[1,3,4,9,13]),([14],[14]),([15],[15]),([16],[16]),([16],[16]),([17,15,0,1,2,3,4,5,6,7,8,9,10,11,12,13,14,15,16,17],[17]),([18,19,0,1,2,3,4,5,6,7,8,9,10,11,12,13,14,15,16,17,18,19],[18])])
def sluicegateref19_Sectors.B9:List Nat:=[0,1,0,4,0,0,32,0,224,480,0,0,3072,7168,16383,32767,65535,131071,131071,262143,1048575]
theorem sluicegateref19_Sectors.tab9:rtab .any (opsOf Tryz.f9 9)=sluicegateref19_Sectors.T9:=by kernel_rfl
theorem sluicegateref19_Sectors.bits9:waitsOk sluicegateref19_Sectors.T9.2 sluicegateref19_Sectors.B9=true:=by kernel_rfl
theorem sluicegateref19_Sectors.calls (k:Nat) (a0_0:Int) (a0_1:Int) (a0_2:Int) (A0_3:Option Addr) (c0_3:Nat) (l0_3:List (S59)) (a1:ByteArray) (r1:List ByteArray) (r2:Int) (w:World) (hr0_3:Kd.C k59 w A0_3 l0_3.length l0_3) (hc0_3:l0_3.length≤c0_3) (h:sluicegateref19_Sectors.f k a0_0 a0_1 a0_2 l0_3 a1=some (r1,r2)) :
  Calls Tryz.prog 9 #[.agg #[.int .i64 a0_0,.int .i64 a0_1,.int .i64 a0_2,.slice A0_3 l0_3.length c0_3],.string a1] w fun e w'=> ∃ v0_:Value,e = .returned (.tuple #[v0_,.int .i64 r2])∧Kd.R Kd.string 9 w' w.heap.size (fun _=>True) v0_ r1∧Below w.heap.size w w':=by
 have hu24:=Tryz.underlying24
 have hu59:=Tryz.underlying59
 have hu64:=Tryz.underlying64
 have HR0_3:=Aside0.mk hr0_3
 have HC0_3:=Aside0.mk hc0_3
 clear hr0_3 hc0_3
 have HB:=Aside0.mk (Below.refl w.heap.size w)
 have H:((sluicegateref11_Volume.f k a0_0 a0_1 a0_2 l0_3).bind fun t221=>(if t221=true then (sluicegateref19_Sectors.j0 k a1 ((a1.size:Int) != a0_2) a0_0 a0_1 a0_2 l0_3)else (sluicegateref19_Sectors.j0 k a1 true a0_0 a0_1 a0_2 l0_3)))=some (r1,r2):=h
 clear h
 have HC3:=Aside0.mk H
 clear H
 go_enter Tryz.func9,Tryz.ntmps9
 go_upto_region 1 with (first|((with_reducible refine gate_dst (N:=2) rfl ?_);(try (refine gate_guard (by rfl) ?_;dsimp only));refine box_event ?hg (N:=2) ?hd (cs:= #[.int .i64 a0_0,.int .i64 a0_1,.int .i64 a0_2,.slice A0_3 l0_3.length c0_3]) (t:=24) ?hr ?_;(case hd=>rfl);(case hg=>rfl);(case hr=>first|(go_simp;done)|(go_simp;rfl));intro gb220 hg w4 hbox hb;have n0_:=Aside0.mk (below_step (by repeat (first|(with_reducible first|exact HB.out|apply below_alloc|apply pw_below_drewN|apply below_drew1)|exact HB.out)) hb);have n1_:=Aside0.mk (hbox);have n2_:=Aside0.mk ((by rw[hg];exact(below_size (by repeat (first|(with_reducible first|exact HB.out|apply below_alloc|apply pw_below_drewN|apply below_drew1)|exact HB.out))):w.heap.size≤gb220));have n3_:=Aside0.mk ((by rw[hg];exact(below_size (by repeat (first|(with_reducible first|exact HB.out|apply below_alloc|apply pw_below_drewN|apply below_drew1)|exact HB.out))):w.heap.size≤gb220));clear HB;have HB:=n0_;have BK220:=n1_;have GW220:=n2_;have GE220:=n3_;clear n0_ n1_ n2_ n3_;clear hb hbox hg))
 (try simp only[Act.put,zA,zB,zC])
 go_cut [23] (fun v23 wc=> ∃ (kq:Nat) (x23_2:Bool),v23 = .bool x23_2∧Aside0 (sluicegateref19_Sectors.j0 kq a1 x23_2 a0_0 a0_1 a0_2 l0_3=some (r1,r2))∧Aside0 (kq≤k)∧Aside0 (wc.heap[gb220]? = some (.cells #[.int .i64 a0_0,.int .i64 a0_1,.int .i64 a0_2,(.slice A0_3 l0_3.length c0_3)] 24 (0,0)))∧Aside0 (Below w.heap.size w wc))
 case first=>
  have H:=HC3.out
  clear HC3
  replace H:=Option.bind_eq_some_iff.mp H
  obtain⟨t221,A50,H⟩:=H
  replace H:(if t221=true then (sluicegateref19_Sectors.j0 k a1 ((a1.size:Int) != a0_2) a0_0 a0_1 a0_2 l0_3)else (sluicegateref19_Sectors.j0 k a1 true a0_0 a0_1 a0_2 l0_3))=some (r1,r2):=H
  have A5:=Aside0.mk A50
  clear A50
  by_cases c6:t221=true
  ·subst c6
   have H1:(sluicegateref19_Sectors.j0 k a1 ((a1.size:Int) != a0_2) a0_0 a0_1 a0_2 l0_3)=some (r1,r2):=by rw[if_pos rfl]at H;exact H
   clear H
   have H:=H1
   clear H1
   have H':=Aside0.mk H
   clear H
   have hcz7_0:w4.cell? ⟨gb220,0,none⟩=some (.int .i64 a0_0):=(blk_cell BK220.out 0).trans rfl
   have hcz7_1:w4.cell? ⟨gb220,1,none⟩=some (.int .i64 a0_1):=(blk_cell BK220.out 1).trans rfl
   have hcz7_2:w4.cell? ⟨gb220,2,none⟩=some (.int .i64 a0_2):=(blk_cell BK220.out 2).trans rfl
   have hcz7_3:w4.cell? ⟨gb220,3,none⟩=some (.slice A0_3 l0_3.length c0_3):=(blk_cell BK220.out 3).trans rfl
   have hfz7_0:=blk_frozen BK220.out 0
   have hfz7_1:=blk_frozen BK220.out 1
   have hfz7_2:=blk_frozen BK220.out 2
   have hfz7_3:=blk_frozen BK220.out 3
   go_wp2_with (first|((with_reducible refine gate_callee (f:=13) rfl ?_);refine goesL_ (some 15) rfl rfl Tryz.func13 (by kernel_rfl) rfl #[.agg #[.int .i64 a0_0,.int .i64 a0_1,.int .i64 a0_2,.slice A0_3 l0_3.length c0_3]] rfl (by (try simp only[List.map_toArray,List.map_cons,List.map_nil]);first|done|rfl|(simp only[List.length_drop,List.length_take];rfl)) ?_;(with_reducible refine(sluicegateref11_Volume.calls k a0_0 a0_1 a0_2 _ _ l0_3 true _ ?side1 ?side2 A5.out).mono ?_);(case side1=>repeat (first|exact(Kd.C_below HR0_3.out HB.out)|(with_reducible refine Kd.C_alloc ?_ _)|(with_reducible refine Kd.C_drewN ?_ _)|(with_reducible refine Kd.C_drew ?_)));(case side2=>exact HC0_3.out);rintro e w8 ⟨rfl,hb⟩;refine⟨_,rfl,?_⟩;have n0_:=Aside0.mk (blk_below (g:=gb220) (o:=.cells #[.int .i64 a0_0,.int .i64 a0_1,.int .i64 a0_2,.slice A0_3 l0_3.length c0_3] 24 (0,0)) (by (with_reducible repeat (first|refine blk_drewN ?_ _|refine blk_drew ?_|refine blk_alloc ?_ _));exact BK220.out) hb);have n1_:=Aside0.mk (below_step (by repeat (first|(with_reducible first|exact HB.out|apply below_alloc|apply pw_below_drewN|apply below_drew1|refine below_set ?_ GE220.out)|exact HB.out)) hb);clear BK220;clear HB;have BK220:=n0_;have HB:=n1_;clear n0_ n1_;(try clear hb);(try clear hb2);(try clear hk);(try clear hi);have hcz9_0:w8.cell? ⟨gb220,0,none⟩=some (.int .i64 a0_0):=(blk_cell BK220.out 0).trans rfl;have hcz9_1:w8.cell? ⟨gb220,1,none⟩=some (.int .i64 a0_1):=(blk_cell BK220.out 1).trans rfl;have hcz9_2:w8.cell? ⟨gb220,2,none⟩=some (.int .i64 a0_2):=(blk_cell BK220.out 2).trans rfl;have hcz9_3:w8.cell? ⟨gb220,3,none⟩=some (.slice A0_3 l0_3.length c0_3):=(blk_cell BK220.out 3).trans rfl;have hfz9_0:=blk_frozen BK220.out 0;have hfz9_1:=blk_frozen BK220.out 1;have hfz9_2:=blk_frozen BK220.out 2;have hfz9_3:=blk_frozen BK220.out 3))
   go_meet
   case rel=>exact⟨_,(((a1.size:Int) != a0_2)),(by first|rfl|(simp;done)|(simp[*];done)),H',⟨by first|omega|exact Nat.le_refl _⟩,⟨by (with_reducible repeat (first|refine blk_drewN ?_ _|refine blk_drew ?_|refine blk_alloc ?_ _));exact BK220.out⟩,⟨by repeat (first|(with_reducible first|exact HB.out|apply below_alloc|apply pw_below_drewN|apply below_drew1|refine below_set ?_ GE220.out)|exact HB.out)⟩⟩
  ·replace c6:=Bool.eq_false_iff.mpr c6
   subst c6
   have H1:(sluicegateref19_Sectors.j0 k a1 true a0_0 a0_1 a0_2 l0_3)=some (r1,r2):=by rw[if_neg (show ¬ (false=true)by decide)]at H;exact H
   clear H
   have H:=H1
   clear H1
   have H':=Aside0.mk H
   clear H
   have hcz10_0:w4.cell? ⟨gb220,0,none⟩=some (.int .i64 a0_0):=(blk_cell BK220.out 0).trans rfl
   have hcz10_1:w4.cell? ⟨gb220,1,none⟩=some (.int .i64 a0_1):=(blk_cell BK220.out 1).trans rfl
   have hcz10_2:w4.cell? ⟨gb220,2,none⟩=some (.int .i64 a0_2):=(blk_cell BK220.out 2).trans rfl
   have hcz10_3:w4.cell? ⟨gb220,3,none⟩=some (.slice A0_3 l0_3.length c0_3):=(blk_cell BK220.out 3).trans rfl
   have hfz10_0:=blk_frozen BK220.out 0
   have hfz10_1:=blk_frozen BK220.out 1
   have hfz10_2:=blk_frozen BK220.out 2
   have hfz10_3:=blk_frozen BK220.out 3
   go_wp2_with (first|((with_reducible refine gate_callee (f:=13) rfl ?_);refine goesL_ (some 15) rfl rfl Tryz.func13 (by kernel_rfl) rfl #[.agg #[.int .i64 a0_0,.int .i64 a0_1,.int .i64 a0_2,.slice A0_3 l0_3.length c0_3]] rfl (by (try simp only[List.map_toArray,List.map_cons,List.map_nil]);first|done|rfl|(simp only[List.length_drop,List.length_take];rfl)) ?_;(with_reducible refine(sluicegateref11_Volume.calls k a0_0 a0_1 a0_2 _ _ l0_3 false _ ?side1 ?side2 A5.out).mono ?_);(case side1=>repeat (first|exact(Kd.C_below HR0_3.out HB.out)|(with_reducible refine Kd.C_alloc ?_ _)|(with_reducible refine Kd.C_drewN ?_ _)|(with_reducible refine Kd.C_drew ?_)));(case side2=>exact HC0_3.out);rintro e w11 ⟨rfl,hb⟩;refine⟨_,rfl,?_⟩;have n0_:=Aside0.mk (blk_below (g:=gb220) (o:=.cells #[.int .i64 a0_0,.int .i64 a0_1,.int .i64 a0_2,.slice A0_3 l0_3.length c0_3] 24 (0,0)) (by (with_reducible repeat (first|refine blk_drewN ?_ _|refine blk_drew ?_|refine blk_alloc ?_ _));exact BK220.out) hb);have n1_:=Aside0.mk (below_step (by repeat (first|(with_reducible first|exact HB.out|apply below_alloc|apply pw_below_drewN|apply below_drew1|refine below_set ?_ GE220.out)|exact HB.out)) hb);clear BK220;clear HB;have BK220:=n0_;have HB:=n1_;clear n0_ n1_;(try clear hb);(try clear hb2);(try clear hk);(try clear hi)))
   go_meet
   case rel=>exact⟨_,(true),(by first|rfl|(simp;done)|(simp[*];done)),H',⟨by first|omega|exact Nat.le_refl _⟩,⟨by (with_reducible repeat (first|refine blk_drewN ?_ _|refine blk_drew ?_|refine blk_alloc ?_ _));exact BK220.out⟩,⟨by repeat (first|(with_reducible first|exact HB.out|apply below_alloc|apply pw_below_drewN|apply below_drew1|refine below_set ?_ GE220.out)|exact HB.out)⟩⟩
 case rest=>
  clear HC3
  try clear c1
  try clear p2
  try clear c6
  try clear c9
  try clear hcz10_0
  try clear hcz10_1
  try clear hcz10_2
  try clear hcz10_3
  try clear hcz7_0
  try clear hcz7_1
  try clear hcz7_2
  try clear hcz7_3
  try clear hcz9_0
  try clear hcz9_1
  try clear hcz9_2
  try clear hcz9_3
  try clear hfz10_0
  try clear hfz10_1
  try clear hfz10_2
  try clear hfz10_3
  try clear hfz7_0
  try clear hfz7_1
  try clear hfz7_2
  try clear hfz7_3
  try clear hfz9_0
  try clear hfz9_1
  try clear hfz9_2
  try clear hfz9_3
  obtain⟨kq,x23_2,rfl,HA,HJ2,BK220,HB⟩:=hcut
  cases kq with
  | zero=>exact absurd HA.out (by simp[sluicegateref19_Sectors.j0])
  | succ kj2=>
   have H:=HA.out
   clear HA
   simp only[sluicegateref19_Sectors.j0]at H
   by_cases c12:x23_2=true
   ·subst c12
    have H1:(some (([]:List ByteArray),1))=some (r1,r2):=by rw[if_pos rfl]at H;exact H
    clear H
    have H:=H1
    clear H1
    simp only[Option.some.injEq,Prod.mk.injEq]at H
    obtain⟨rfl,rfl⟩:=H
    go_wp2
    go_ret2
    exact⟨_,by first|rfl|(simp[errW_none,errW_some]<;>rfl)|(simp[*,errW_none,errW_some]<;>rfl),by first|exact Kd.R_nil _ _ _ _ _|exact Kd.N_nil _ _ _ _ _|exact Kd.V_nil _ _ _ _ _|exact Kd.Q_nil _ _ _ _ _|exact Kd.S_nil _ _ _ _ _,by repeat (first|(with_reducible first|exact HB.out|apply below_alloc|apply pw_below_drewN|apply below_drew1|refine below_set ?_ GE220.out)|exact HB.out)⟩
   ·replace c12:=Bool.eq_false_iff.mpr c12
    subst c12
    have H1:((sluicegateref08_Shards.f kj2 a1).bind fun bt222=>((sluicegateref02_Encode.f kj2 bt222.1).bind fun bt226=>(sluicegateref19_Sectors.l0 kj2 bt226.1 ([]:List ByteArray) 0 a0_0 a0_1 a0_2 l0_3)))=some (r1,r2):=by rw[if_neg (show ¬ (false=true)by decide)]at H;exact H
    clear H
    have H:=H1
    clear H1
    replace H:=Option.bind_eq_some_iff.mp H
    obtain⟨⟨t222,t223⟩,A130,H⟩:=H
    replace H:((sluicegateref02_Encode.f kj2 t222).bind fun bt226=>(sluicegateref19_Sectors.l0 kj2 bt226.1 ([]:List ByteArray) 0 a0_0 a0_1 a0_2 l0_3))=some (r1,r2):=H
    have A13:=Aside0.mk A130
    clear A130
    replace H:=Option.bind_eq_some_iff.mp H
    obtain⟨⟨t226,t227⟩,A140,H⟩:=H
    replace H:(sluicegateref19_Sectors.l0 kj2 t226 ([]:List ByteArray) 0 a0_0 a0_1 a0_2 l0_3)=some (r1,r2):=H
    have A14:=Aside0.mk A140
    clear A140
    have H':=Aside0.mk H
    clear H
    go_wp2_with (first|((with_reducible refine gate_callee (f:=30) rfl ?_);refine goesL_ (some 26) rfl rfl Tryz.func30 (by kernel_rfl) rfl #[.string a1] rfl (by (try simp only[List.map_toArray,List.map_cons,List.map_nil]);first|done|rfl|(simp only[List.length_drop,List.length_take];rfl)) ?_;(with_reducible refine(sluicegateref08_Shards.calls kj2 a1 t222 t223 _ A13.out).mono ?_);rintro e w15 ⟨v224,rfl,ho0,hb⟩;refine⟨_,rfl,?_⟩;have n0_:=Aside0.mk (Kd.R_lower ho0 (below_size (by repeat (first|(with_reducible first|exact HB.out|apply below_alloc|apply pw_below_drewN|apply below_drew1|refine below_set ?_ GE220.out)|exact HB.out))));have n1_:=Aside0.mk (blk_below (g:=gb220) (o:=.cells #[.int .i64 a0_0,.int .i64 a0_1,.int .i64 a0_2,.slice A0_3 l0_3.length c0_3] 24 (0,0)) (by (with_reducible repeat (first|refine blk_drewN ?_ _|refine blk_drew ?_|refine blk_alloc ?_ _));exact BK220.out) hb);have n2_:=Aside0.mk (below_step (by repeat (first|(with_reducible first|exact HB.out|apply below_alloc|apply pw_below_drewN|apply below_drew1|refine below_set ?_ GE220.out)|exact HB.out)) hb);clear BK220;clear HB;have HO225:=n0_;have BK220:=n1_;have HB:=n2_;clear n0_ n1_ n2_;(try clear hb);(try clear hb2);(try clear hk);(try clear hi);(try clear ho0);obtain⟨Ao16,co16,eo16⟩:=Kd.R_slice HO225.out;subst eo16)|((with_reducible refine gate_callee (f:=31) rfl ?_);refine goesL_ (some 31) rfl rfl Tryz.func31 (by kernel_rfl) rfl #[.slice Ao16 t222.length co16] rfl (by (try simp only[List.map_toArray,List.map_cons,List.map_nil]);first|done|rfl|(simp only[List.length_drop,List.length_take];rfl)) ?_;(with_reducible refine(sluicegateref02_Encode.calls kj2 _ _ t222 t226 t227 _ ?side1 ?side2 A14.out).mono ?_);(case side1=>repeat (first|exact(Kd.R_reads' HO225.out).2.2|(with_reducible refine Kd.C_alloc ?_ _)|(with_reducible refine Kd.C_drewN ?_ _)|(with_reducible refine Kd.C_drew ?_)));(case side2=>exact(Kd.R_reads' HO225.out).2.1);rintro e w17 ⟨v228,rfl,ho0,hb⟩;refine⟨_,rfl,?_⟩;have n0_:=Aside0.mk (Kd.R_elder' (by (with_reducible repeat (first|apply Kd.R_alloc|apply Kd.R_drewN|apply Kd.R_drew));exact HO225.out) (Kd.R_base ho0) hb);have n1_:=Aside0.mk (Kd.R_lower (Kd.R_new' ho0 (Kd.R_lt (by (with_reducible repeat (first|apply Kd.R_alloc|apply Kd.R_drewN|apply Kd.R_drew));exact HO225.out))) (below_size (by repeat (first|(with_reducible first|exact HB.out|apply below_alloc|apply pw_below_drewN|apply below_drew1|refine below_set ?_ GE220.out)|exact HB.out))));have n2_:=Aside0.mk (blk_below (g:=gb220) (o:=.cells #[.int .i64 a0_0,.int .i64 a0_1,.int .i64 a0_2,.slice A0_3 l0_3.length c0_3] 24 (0,0)) (by (with_reducible repeat (first|refine blk_drewN ?_ _|refine blk_drew ?_|refine blk_alloc ?_ _));exact BK220.out) hb);have n3_:=Aside0.mk (below_step (by repeat (first|(with_reducible first|exact HB.out|apply below_alloc|apply pw_below_drewN|apply below_drew1|refine below_set ?_ GE220.out)|exact HB.out)) hb);clear HO225;clear BK220;clear HB;have HO225:=n0_;have HO229:=n1_;have BK220:=n2_;have HB:=n3_;clear n0_ n1_ n2_ n3_;(try clear hb);(try clear hb2);(try clear hk);(try clear hi);(try clear ho0)))
    go_loopg [10,11] kj2 (fun kq v10 v11 w'=> ∃ (x10_2:List ByteArray) (x11_2:Int),v11 = .int .i64 x11_2∧Aside0 (sluicegateref19_Sectors.l0 kq t226 x10_2 x11_2 a0_0 a0_1 a0_2 l0_3=some (r1,r2))∧Aside0 (kq≤kj2)∧Aside0 (Kd.R Kd.string 9 w' w.heap.size (fun k_=>some k_≠(v10:Value).ownBlock) v228 t226)∧Aside0 (Kd.R Kd.string 9 w' w.heap.size (fun k_=>some k_≠(v228:Value).ownBlock) v10 x10_2)∧Aside0 (w'.heap[gb220]? = some (.cells #[.int .i64 a0_0,.int .i64 a0_1,.int .i64 a0_2,(.slice A0_3 l0_3.length c0_3)] 24 (0,0)))∧Aside0 (Below w.heap.size w w'))
    case atStart=>exact⟨(([]:List ByteArray)),(0),(by first|rfl|(simp;done)|(simp[*];done)),H',⟨Nat.le_refl _⟩,⟨by (with_reducible repeat (first|apply Kd.R_alloc|apply Kd.R_drewN|apply Kd.R_drew));exact Kd.R_mono HO229.out (fun _ hk=>(by simp[Value.ownBlock]))⟩,⟨by first|exact Kd.R_nil _ _ _ _ _|exact Kd.N_nil _ _ _ _ _|exact Kd.V_nil _ _ _ _ _|exact Kd.Q_nil _ _ _ _ _|exact Kd.S_nil _ _ _ _ _⟩,⟨by (with_reducible repeat (first|refine blk_drewN ?_ _|refine blk_drew ?_|refine blk_alloc ?_ _));exact BK220.out⟩,⟨by repeat (first|(with_reducible first|exact HB.out|apply below_alloc|apply pw_below_drewN|apply below_drew1|refine below_set ?_ GE220.out)|exact HB.out)⟩⟩
    case round=>
     clear H'
     try clear c1
     try clear p2
     try clear c3
     try clear c6
     try clear c9
     try clear c12
     try clear c13
     try clear hcz10_0
     try clear hcz10_1
     try clear hcz10_2
     try clear hcz10_3
     try clear hcz7_0
     try clear hcz7_1
     try clear hcz7_2
     try clear hcz7_3
     try clear hcz9_0
     try clear hcz9_1
     try clear hcz9_2
     try clear hcz9_3
     try clear hfz10_0
     try clear hfz10_1
     try clear hfz10_2
     try clear hfz10_3
     try clear hfz7_0
     try clear hfz7_1
     try clear hfz7_2
     try clear hfz7_3
     try clear hfz9_0
     try clear hfz9_1
     try clear hfz9_2
     try clear hfz9_3
     try clear p2
     obtain⟨x10_2,x11_2,rfl,HA,HK2,HO_8,HO_10,BK220,HB⟩:=hrel
     cases gk with
     | zero=>exact absurd HA.out (by simp[sluicegateref19_Sectors.l0])
     | succ k2=>
      have H:=HA.out
      clear HA
      simp only[sluicegateref19_Sectors.l0]at H
      by_cases c18:x11_2<9
      ·rw[if_pos c18]at H
       have c18b0:decide (x11_2<9)=true:=decide_eq_true c18
       clear c18
       by_cases c19:0≤x11_2
       ·rw[if_pos c19]at H
        have c19b0:decide (0≤x11_2)=true:=decide_eq_true c19
        clear c19
        by_cases c20:x11_2<(l0_3.length:Int)
        ·rw[if_pos c20]at H
         have c20b0:decide (x11_2<(l0_3.length:Int))=true:=decide_eq_true c20
         clear c20
         by_cases c21:x11_2<(t226.length:Int)
         ·rw[if_pos c21]at H
          have c21b0:decide (x11_2<(t226.length:Int))=true:=decide_eq_true c21
          clear c21
          replace H:=Option.bind_eq_some_iff.mp H
          obtain⟨⟨t232,t233⟩,A220,H⟩:=H
          replace H:(if x10_2.length<8796093022208 then (sluicegateref19_Sectors.l0 k2 t226 (x10_2++[t232]) (wrap64 (x11_2+1)) a0_0 a0_1 a0_2 l0_3)else (none))=some (r1,r2):=H
          have A22:=Aside0.mk A220
          clear A220
          by_cases c23:x10_2.length<8796093022208
          ·rw[if_pos c23]at H
           have LMc23:=Aside0.mk c23
           clear c23
           obtain⟨y234,hy234⟩ : ∃ y_:List ByteArray,y_=(x10_2++[t232]):=⟨_,rfl⟩
           replace H:(sluicegateref19_Sectors.l0 k2 t226 y234 (wrap64 (x11_2+1)) a0_0 a0_1 a0_2 l0_3)=some (r1,r2):=by first|(rw[hy234];with_reducible exact H)|(have H2_:=(Option.bind_some _ _).symm.trans H;rw[hy234];with_reducible exact H2_)|(have H2_:=(Option.bind_some _ _).symm.trans H;with_reducible exact H2_)|with_reducible exact H|(rw[hy234];exact H)|exact H
           have Ny234:=Aside0.mk hy234
           clear hy234
           have H':=Aside0.mk H
           clear H
           try go_wp2
           have n0_:=Aside0.mk (Kd.R_drew HO_8.out)
           have n1_:=Aside0.mk (Kd.R_drew HO_10.out)
           have n2_:=Aside0.mk (blk_drew BK220.out)
           have n3_:=Aside0.mk (below_drew1 HB.out)
           clear HO_8
           clear HO_10
           clear BK220
           clear HB
           have HO_8:=n0_
           have HO_10:=n1_
           have BK220:=n2_
           have HB:=n3_
           clear n0_ n1_ n2_ n3_
           have p230:0≤(x11_2:Int):=of_decide_eq_true (by first|(with_reducible assumption)|assumption)
           have q230:x11_2<(l0_3.length:Int):=of_decide_eq_true (by first|(with_reducible assumption)|assumption)
           obtain⟨ad230,e230,hx230_0,hx230_1⟩:=at_T59 HR0_3.out x11_2 p230 q230
           have hw230_1:=hx230_1
           have hw230_0:=hx230_0
           cases e230
           replace hx230_0:=(HB.out.cell (World.block_lt_of_cell? w _ hx230_0)).trans hx230_0
           replace hx230_1:=(HB.out.cell (World.block_lt_of_cell? w _ hx230_1)).trans hx230_1
           replace p230:=eq_true p230
           replace q230:=eq_true q230
           obtain⟨Ao25,co25,eo25⟩:=Kd.R_slice HO_8.out
           (first|subst eo25|(injection eo25 with f1_ f2_ f3_;have f4_:=f1_.symm;have f5_:=f3_.symm;clear f1_ f2_ f3_;subst f4_;subst f5_))
           have p231:0≤(x11_2:Int):=of_decide_eq_true (by first|(with_reducible assumption)|assumption)
           have q231:x11_2<(t226.length:Int):=of_decide_eq_true (by first|(with_reducible assumption)|assumption)
           obtain⟨ad231,e231,hx231_0⟩:=Kd.at_string (Kd.R_reads' HO_8.out).2.2 x11_2 p231 q231
           cases e231
           replace p231:=eq_true p231
           replace q231:=eq_true q231
           refine start_ (n:=21) (S:=fun w'=>w'.cell? ⟨gb220,0,none⟩=some (.int .i64 a0_0)∧w'.cell? ⟨gb220,1,none⟩=some (.int .i64 a0_1)∧w'.cell? ⟨gb220,2,none⟩=some (.int .i64 a0_2)∧w'.cell? ⟨gb220,3,none⟩=some (.slice (some ad230) l0_3.length c0_3)∧w'.cell? (ad230.add ((x11_2).toNat*2))=some (.int .i64 ((rd_T59 l0_3 x11_2).f0))∧w'.cell? ⟨(ad230.add ((x11_2).toNat*2)).block,(ad230.add ((x11_2).toNat*2)).off+1,none⟩=some (.int .i64 ((rd_T59 l0_3 x11_2).f1))∧w'.cell? (ad231.add (x11_2).toNat)=some (.string (rdOf ByteArray.empty t226 x11_2))) (ds:=[]) #[false,false,false,false,false,false,false,false,false,false,false,false,false,false,false,false,false,false,false,false,false] (by kernel_rfl) rfl rfl ⟨(blk_cell BK220.out 0).trans rfl,(blk_cell BK220.out 1).trans rfl,(blk_cell BK220.out 2).trans rfl,(blk_cell BK220.out 3).trans rfl,((HB.out.cell (World.block_lt_of_cell? w _ hw230_0)).trans hw230_0),((HB.out.cell (World.block_lt_of_cell? w _ hw230_1)).trans hw230_1),hx231_0⟩ (fun hHeld=> ?_);refine with_tabW sluicegateref19_Sectors.tab9 sluicegateref19_Sectors.bits9 (fun HT_ HW_=> ?_)
           generalize wr.drew=w24 at HO_8 HO_10 BK220 HB hx230_0 hx230_1 hx231_0 hHeld ⊢
           refine pure_ (i:=0) (N:=some 39) (v:= ?_) (a':= ?_) #[true,false,false,false,false,false,false,false,false,false,false,false,false,false,false,false,false,false,false,false,false] rfl rfl (any_of HT_.out (by kernel_rfl)) (fun _ _ _ h=>h) (Or.inl ⟨by rfl,?_⟩) ?_ ?_
           rotate_left
           ·intro w'
            go_simp
            with_reducible rfl
           rotate_left
           ·simp only[Act.put,zA,zB,zC,i64_w,i32_w]
            rfl
           refine pure_ (i:=2) (N:=some 41) (v:= ?_) (a':= ?_) #[true,false,true,false,false,false,false,false,false,false,false,false,false,false,false,false,false,false,false,false,false] rfl rfl (any_of HT_.out (by kernel_rfl)) (fun _ _ _ h=>h) (Or.inl ⟨by rfl,?_⟩) ?_ ?_
           rotate_left
           ·intro w'
            go_simp
            with_reducible rfl
           rotate_left
           ·simp only[Act.put,zA,zB,zC,i64_w,i32_w]
            rfl
           refine pure_ (i:=4) (N:=some 43) (v:= ?_) (a':= ?_) #[true,false,true,false,true,false,false,false,false,false,false,false,false,false,false,false,false,false,false,false,false] rfl rfl (any_of HT_.out (by kernel_rfl)) (fun _ _ _ h=>h) (Or.inl ⟨by rfl,?_⟩) ?_ ?_
           rotate_left
           ·intro w'
            go_simp
            with_reducible rfl
           rotate_left
           ·simp only[Act.put,zA,zB,zC,i64_w,i32_w]
            rfl
           refine pure_ (i:=5) (N:=some 44) (v:= ?_) (a':= ?_) #[true,false,true,false,true,true,false,false,false,false,false,false,false,false,false,false,false,false,false,false,false] rfl rfl (any_of HT_.out (by kernel_rfl)) (fun _ _ _ h=>h) (Or.inl ⟨by rfl,?_⟩) ?_ ?_
           rotate_left
           ·intro w'
            go_simp
            with_reducible rfl
           rotate_left
           ·simp only[Act.put,zA,zB,zC,i64_w,i32_w]
            rfl
           refine pure_ (i:=7) (N:=some 46) (v:= ?_) (a':= ?_) #[true,false,true,false,true,true,false,true,false,false,false,false,false,false,false,false,false,false,false,false,false] rfl rfl (any_of HT_.out (by kernel_rfl)) (fun _ _ _ h=>h) (Or.inl ⟨by rfl,?_⟩) ?_ ?_
           rotate_left
           ·intro w'
            go_simp
            with_reducible rfl
           rotate_left
           ·simp only[Act.put,zA,zB,zC,i64_w,i32_w]
            rfl
           refine pure_ (i:=10) (N:=some 49) (v:= ?_) (a':= ?_) #[true,false,true,false,true,true,false,true,false,false,true,false,false,false,false,false,false,false,false,false,false] rfl rfl (any_of HT_.out (by kernel_rfl)) (fun _ _ _ h=>h) (Or.inl ⟨by rfl,?_⟩) ?_ ?_
           rotate_left
           ·intro w'
            go_simp
            with_reducible rfl
           rotate_left
           ·simp only[Act.put,zA,zB,zC,i64_w,i32_w]
            rfl
           refine pure_ (i:=11) (N:=some 50) (v:= ?_) (a':= ?_) #[true,false,true,false,true,true,false,true,false,false,true,true,false,false,false,false,false,false,false,false,false] rfl rfl (any_of HT_.out (by kernel_rfl)) (fun _ _ _ h=>h) (Or.inl ⟨by rfl,?_⟩) ?_ ?_
           rotate_left
           ·intro w'
            go_simp
            with_reducible rfl
           rotate_left
           ·simp only[Act.put,zA,zB,zC,i64_w,i32_w]
            rfl
           refine pure_ (i:=12) (N:=some 51) (v:= ?_) (a':= ?_) #[true,false,true,false,true,true,false,true,false,false,true,true,true,false,false,false,false,false,false,false,false] rfl rfl (any_of HT_.out (by kernel_rfl)) (fun _ _ _ h=>h) (Or.inl ⟨by rfl,?_⟩) ?_ ?_
           rotate_left
           ·intro w'
            go_simp
            with_reducible rfl
           rotate_left
           ·simp only[Act.put,zA,zB,zC,i64_w,i32_w]
            rfl
           refine take_ (i:=1) (N:=some 40) (v:= ?_) (a':= ?_) #[true,true,true,false,true,true,false,true,false,false,true,true,true,false,false,false,false,false,false,false,false] rfl rfl (take_ofW HT_.out HW_.out (by kernel_rfl)) (fun _ _ _ h=>h) (Or.inl ⟨by rfl,?_⟩) hHeld ?_ ?_
           rotate_left
           ·rintro w' ⟨s0,s1,s2,s3,s4,s5,s6⟩
            go_simp
            with_reducible rfl
           rotate_left
           ·simp only[Act.put,zA,zB,zC,i64_w,i32_w]
            rfl
           refine take_ (i:=3) (N:=some 42) (v:= ?_) (a':= ?_) #[true,true,true,true,true,true,false,true,false,false,true,true,true,false,false,false,false,false,false,false,false] rfl rfl (take_ofW HT_.out HW_.out (by kernel_rfl)) (fun _ _ _ h=>h) (Or.inl ⟨by rfl,?_⟩) hHeld ?_ ?_
           rotate_left
           ·rintro w' ⟨s0,s1,s2,s3,s4,s5,s6⟩
            go_simp
            with_reducible rfl
           rotate_left
           ·simp only[Act.put,zA,zB,zC,i64_w,i32_w]
            rfl
           refine take_ (i:=6) (N:=some 45) (v:= ?_) (a':= ?_) #[true,true,true,true,true,true,true,true,false,false,true,true,true,false,false,false,false,false,false,false,false] rfl rfl (take_ofW HT_.out HW_.out (by kernel_rfl)) (fun _ _ _ h=>h) (Or.inl ⟨by rfl,?_⟩) hHeld ?_ ?_
           rotate_left
           ·rintro w' ⟨s0,s1,s2,s3,s4,s5,s6⟩
            go_simp
            with_reducible rfl
           rotate_left
           ·simp only[Act.put,zA,zB,zC,i64_w,i32_w]
            rfl
           refine pure_ (i:=8) (N:=some 47) (v:= ?_) (a':= ?_) #[true,true,true,true,true,true,true,true,true,false,true,true,true,false,false,false,false,false,false,false,false] rfl rfl (any_of HT_.out (by kernel_rfl)) (fun _ _ _ h=>h) (Or.inl ⟨by rfl,?_⟩) ?_ ?_
           rotate_left
           ·intro w'
            go_simp
            with_reducible rfl
           rotate_left
           ·simp only[Act.put,zA,zB,zC,i64_w,i32_w]
            rfl
           refine take_ (i:=9) (N:=some 48) (v:= ?_) (a':= ?_) #[true,true,true,true,true,true,true,true,true,true,true,true,true,false,false,false,false,false,false,false,false] rfl rfl (take_ofW HT_.out HW_.out (by kernel_rfl)) (fun _ _ _ h=>h) (Or.inl ⟨by rfl,?_⟩) hHeld ?_ ?_
           rotate_left
           ·rintro w' ⟨s0,s1,s2,s3,s4,s5,s6⟩
            go_simp
            with_reducible rfl
           rotate_left
           ·simp only[Act.put,zA,zB,zC,i64_w,i32_w]
            rfl
           refine take_ (i:=13) (N:=some 52) (v:= ?_) (a':= ?_) #[true,true,true,true,true,true,true,true,true,true,true,true,true,true,false,false,false,false,false,false,false] rfl rfl (take_ofW HT_.out HW_.out (by kernel_rfl)) (fun _ _ _ h=>h) (Or.inl ⟨by rfl,?_⟩) hHeld ?_ ?_
           rotate_left
           ·rintro w' ⟨s0,s1,s2,s3,s4,s5,s6⟩
            go_simp
            with_reducible rfl
           rotate_left
           ·simp only[Act.put,zA,zB,zC,i64_w,i32_w]
            rfl
           refine pure_ (i:=14) (N:=some 53) (v:= ?_) (a':= ?_) #[true,true,true,true,true,true,true,true,true,true,true,true,true,true,true,false,false,false,false,false,false] rfl rfl (any_of HT_.out (by kernel_rfl)) (fun _ _ _ h=>h) (Or.inl ⟨by rfl,?_⟩) ?_ ?_
           rotate_left
           ·intro w'
            go_simp
            with_reducible rfl
           rotate_left
           ·simp only[Act.put,zA,zB,zC,i64_w,i32_w]
            rfl
           refine one_ (i:=15) (N:=some 54) #[true,true,true,true,true,true,true,true,true,true,true,true,true,true,true,true,false,false,false,false,false] rfl rfl (one_of HT_.out (by kernel_rfl)) (by decide) (fun K hK=> ?_)
           refine goes_ Tryz.func32 (by kernel_rfl) rfl #[.agg #[.int .i64 a0_0,.int .i64 a0_1,.int .i64 x11_2,.int .i64 ((rd_T59 l0_3 x11_2).f0),.int .i64 ((rd_T59 l0_3 x11_2).f1),.string (rdOf ByteArray.empty t226 x11_2)]] (by rfl) rfl rfl (by (try simp only[List.map_toArray,List.map_cons,List.map_nil]);first|done|rfl|(simp only[List.length_drop,List.length_take];rfl)) ?_
           with_reducible refine(sluicegateref07_Write.calls a0_0 a0_1 x11_2 ((rd_T59 l0_3 x11_2).f0) ((rd_T59 l0_3 x11_2).f1) (rdOf ByteArray.empty t226 x11_2) t232 t233 _ A22.out).mono ?_
           rintro e w26 ⟨rfl,hb⟩
           have HS6_:=(hb.cell (World.block_lt_of_cell? _ _ (hHeld.2.2.2.2.2.2))).trans (hHeld.2.2.2.2.2.2)
           refine⟨_,rfl,?_⟩
           have n0_:=Aside0.mk (Kd.R_below (by (with_reducible repeat (first|apply Kd.R_alloc|apply Kd.R_drewN|apply Kd.R_drew));exact HO_8.out) hb)
           have n1_:=Aside0.mk (Kd.R_below (by (with_reducible repeat (first|apply Kd.R_alloc|apply Kd.R_drewN|apply Kd.R_drew));exact HO_10.out) hb)
           have n2_:=Aside0.mk (blk_below (g:=gb220) (o:=.cells #[.int .i64 a0_0,.int .i64 a0_1,.int .i64 a0_2,.slice (some ad230) l0_3.length c0_3] 24 (0,0)) (by (with_reducible repeat (first|refine blk_drewN ?_ _|refine blk_drew ?_|refine blk_alloc ?_ _));exact BK220.out) hb)
           have n3_:=Aside0.mk (below_step (by repeat (first|(with_reducible first|exact HB.out|apply below_alloc|apply pw_below_drewN|apply below_drew1|refine below_set ?_ GE220.out)|exact HB.out)) hb)
           clear HO_8
           clear HO_10
           clear BK220
           clear HB
           have HO_8:=n0_
           have HO_10:=n1_
           have BK220:=n2_
           have HB:=n3_
           clear n0_ n1_ n2_ n3_
           (try clear hb)
           (try clear hb2)
           (try clear hk)
           (try clear hi)
           refine hK.out _ _ ⟨(blk_cell BK220.out 0).trans rfl,(blk_cell BK220.out 1).trans rfl,(blk_cell BK220.out 2).trans rfl,(blk_cell BK220.out 3).trans rfl,((HB.out.cell (World.block_lt_of_cell? w _ hw230_0)).trans hw230_0),((HB.out.cell (World.block_lt_of_cell? w _ hw230_1)).trans hw230_1),HS6_⟩ (fun hHeld=> ?_)
           clear hK K
           refine norm_ (a':= ?_) ?_ ?_
           rotate_left
           ·show Act.put _ (some 54) _=_
            simp only[Act.put,zA,zB,zC,i64_w,i32_w]
            rfl
           refine pure_ (i:=16) (N:=some 38) (v:= ?_) (a':= ?_) #[true,true,true,true,true,true,true,true,true,true,true,true,true,true,true,true,true,false,false,false,false] rfl rfl (any_of HT_.out (by kernel_rfl)) (fun _ _ _ h=>h) (Or.inl ⟨by rfl,?_⟩) ?_ ?_
           rotate_left
           ·intro w'
            go_simp
            with_reducible rfl
           rotate_left
           ·simp only[Act.put,zA,zB,zC,i64_w,i32_w]
            rfl
           refine pure_ (i:=17) (N:=some 55) (v:= ?_) (a':= ?_) #[true,true,true,true,true,true,true,true,true,true,true,true,true,true,true,true,true,true,false,false,false] rfl rfl (any_of HT_.out (by kernel_rfl)) (fun _ _ _ h=>h) (Or.inl ⟨by rfl,?_⟩) ?_ ?_
           rotate_left
           ·intro w'
            go_simp
            with_reducible rfl
           rotate_left
           ·simp only[Act.put,zA,zB,zC,i64_w,i32_w]
            rfl
           refine pure_ (i:=18) (N:=some 56) (v:= ?_) (a':= ?_) #[true,true,true,true,true,true,true,true,true,true,true,true,true,true,true,true,true,true,true,false,false] rfl rfl (any_of HT_.out (by kernel_rfl)) (fun _ _ _ h=>h) (Or.inl ⟨by rfl,?_⟩) ?_ ?_
           rotate_left
           ·intro w'
            go_simp
            with_reducible rfl
           rotate_left
           ·simp only[Act.put,zA,zB,zC,i64_w,i32_w]
            rfl
           refine pure_ (i:=19) (N:=some 12) (v:= ?_) (a':= ?_) #[true,true,true,true,true,true,true,true,true,true,true,true,true,true,true,true,true,true,true,true,false] rfl rfl (any_of HT_.out (by kernel_rfl)) (fun _ _ _ h=>h) (Or.inl ⟨by rfl,?_⟩) ?_ ?_
           rotate_left
           ·intro w'
            go_simp
            with_reducible rfl
           rotate_left
           ·simp only[Act.put,zA,zB,zC,i64_w,i32_w]
            rfl
           refine pure_ (i:=20) (N:=some 13) (v:= ?_) (a':= ?_) #[true,true,true,true,true,true,true,true,true,true,true,true,true,true,true,true,true,true,true,true,true] rfl rfl (any_of HT_.out (by kernel_rfl)) (fun _ _ _ h=>h) (Or.inl ⟨by rfl,?_⟩) ?_ ?_
           rotate_left
           ·intro w'
            go_simp
            with_reducible rfl
           rotate_left
           ·simp only[Act.put,zA,zB,zC,i64_w,i32_w]
            rfl
           refine done_ (done_of HT_.out (by kernel_rfl)) ?_
           try go_wp2_with (first|((with_reducible refine gate_builtin (b:=.append) (xs:= #[.tmp 57,.tmp 59]) rfl ?_);(try (refine gate_guard (by rfl) ?_;dsimp only));at_builtin;refine Kd.R_append Kd.string (w0:=w) w.heap.size rfl (.tmp 57) (.tmp 59) 27 9 (.string ⟨#[]⟩) 16 rfl Tryz.underlying27 info9 rfl (by decide) (by omega) u10 x10_2 t232 [.string t232] (fun k_=>some k_≠(.slice (some ad231) t226.length co25:Value).ownBlock) (fun _=>False) rfl rfl ?aP (fun _ hk=>hk.elim) ?aF ?aO ?aB ?aS ?aL ?_;(case aP=>exact rfl);(case aB=>exact(by repeat (first|(with_reducible first|exact HB.out|apply below_alloc|apply pw_below_drewN|apply below_drew1|refine below_set ?_ GE220.out)|exact HB.out)));(case aF=>exact(fun k_ hk=>Kd.fresh' (Kd.R_lt (by (with_reducible repeat (first|apply Kd.R_alloc|apply Kd.R_drewN|apply Kd.R_drew));exact HO_8.out)) k_ hk));(case aO=>exact(by (with_reducible repeat (first|apply Kd.R_alloc|apply Kd.R_drewN|apply Kd.R_drew));exact HO_10.out));(case aS=>exact(below_size (by repeat (first|(with_reducible first|exact HB.out|apply below_alloc|apply pw_below_drewN|apply below_drew1|refine below_set ?_ GE220.out)|exact HB.out))));(case aL=>have:=LMc23.out;omega);intro v235 w27 ho hb hg hat;rw[←Ny234.out]at ho;have n0_:=Aside0.mk (Kd.R_after (ok:=(fun _=>True)) (by (with_reducible repeat (first|apply Kd.R_alloc|apply Kd.R_drewN|apply Kd.R_drew));exact Kd.R_mono HO_8.out (fun _ hk=>⟨trivial,hk⟩)) hg hat);have n1_:=Aside0.mk (blk_grown (g:=gb220) (o:=.cells #[.int .i64 a0_0,.int .i64 a0_1,.int .i64 a0_2,.slice (some ad230) l0_3.length c0_3] 24 (0,0)) (by (with_reducible repeat (first|refine blk_drewN ?_ _|refine blk_drew ?_|refine blk_alloc ?_ _));exact BK220.out) hg (Kd.R_ne HO_10.out BK220.out (by decide)));have n2_:=Aside0.mk (hb);have n3_:=Aside0.mk (ho);clear HO_8;clear BK220;clear HB;clear HO_10;have HO_8:=n0_;have BK220:=n1_;have HB:=n2_;have HO236:=n3_;clear n0_ n1_ n2_ n3_;clear ho hb hg hat))
           go_roundg k2
           case measure=>have:=HJ2.out;have:=HK2.out;omega
           case rel=>exact⟨(y234),(wrap64 (x11_2+1)),(by first|rfl|(simp;done)|(simp[*];done)),H',⟨by have:=HJ2.out;have:=HK2.out;omega⟩,⟨by (with_reducible repeat (first|apply Kd.R_alloc|apply Kd.R_drewN|apply Kd.R_drew));exact Kd.R_mono HO_8.out (fun _ hk=>hk.2)⟩,⟨by (with_reducible repeat (first|apply Kd.R_alloc|apply Kd.R_drewN|apply Kd.R_drew));exact HO236.out⟩,⟨by (with_reducible repeat (first|refine blk_drewN ?_ _|refine blk_drew ?_|refine blk_alloc ?_ _));exact BK220.out⟩,⟨by repeat (first|(with_reducible first|exact HB.out|apply below_alloc|apply pw_below_drewN|apply below_drew1|refine below_set ?_ GE220.out)|exact HB.out)⟩⟩
          ·rw[if_neg c23]at H
           exact absurd H (by simp)
         ·rw[if_neg c21]at H
          exact absurd H (by simp)
        ·rw[if_neg c20]at H
         exact absurd H (by simp)
       ·rw[if_neg c19]at H
        exact absurd H (by simp)
      ·rw[if_neg c18]at H
       have c18b0:decide (x11_2<9)=false:=decide_eq_false c18
       clear c18
       simp only[Option.some.injEq,Prod.mk.injEq]at H
       obtain⟨rfl,rfl⟩:=H
       go_wp2
       go_ret2
       exact⟨_,by first|rfl|(simp[errW_none,errW_some]<;>rfl)|(simp[*,errW_none,errW_some]<;>rfl),by (with_reducible repeat (first|apply Kd.R_alloc|apply Kd.R_drewN|apply Kd.R_drew));exact Kd.R_mono HO_10.out (fun _ hk=>trivial),by repeat (first|(with_reducible first|exact HB.out|apply below_alloc|apply pw_below_drewN|apply below_drew1|refine below_set ?_ GE220.out)|exact HB.out)⟩
end Go.Proofs.YtdcfonmjbelgbaaGreatDoor.Q
end
