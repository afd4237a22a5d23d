/- Problems compared with themselves; the law over contracts. -/
import Derived.Test.YtcmphhedaefcgaaGreatDoorProg
import Derived.WalkKit
import Derived.Handy
import Derived.ProofKit
import Derived.Deep.Draws
import Derived.Deep.QuietTactic
import Derived.BigQuiet
import Derived.LoopTactic
import Derived.RegionTactic
import Derived.ChangeAlike
import Derived.BigRegion
import Derived.Test.YtcmphhedaefcgaaGreatDoorK3
import Derived.Test.YtcmphhedaefcgaaGreatDoorK5
import Derived.Test.YtcmphhedaefcgaaGreatDoorK6
import Derived.Test.YtcmphhedaefcgaaGreatDoorK8
set_option linter.unusedVariables false
set_option linter.unusedSimpArgs false
section
namespace Go.Proofs.YtcmphhedaefcgaaGreatDoor
open Av
set_option maxRecDepth 100000
def kd_CEqual (f:Nat):Nat:=0
def c_law08_Doms:AFunc:=⟨27,[.tmp 4],
 .seq (.region (zo 4 (.mov (.val (.bool false)))::[])) <|
 .seq (.seq (.region (zm 6 0::zo 7 (.len false (.tmp 6))::zm 8 1::zo 9 (.len false (.tmp 8))::zo 10 (.bin .neq (.tmp 7) (.tmp 9))::[])) <|
 .cond (.tmp 10) (.seq (.region (zo 4 (.mov (.val (.bool false)))::[])) <|
  .ret) <|
 .skip) <|
 .seq (.seq (.region (zm 11 0::zo 12 (.len false (.tmp 11))::zo 13 (.mov (.val (.int .i64 0)))::[])) <|
 .block 0 (.loop (.seq (.region (zo 14 (.bin .lss (.tmp 13) (.tmp 12))::[])) <|
  .seq (.cond (.tmp 14) (.skip) <|
  .exit 0) <|
  .seq (.block 1 (.seq (.region (zm 15 13::zm 5 15::[])) <|
   .seq (.draw (zm 16 0::zm 17 5::zo 18 (.iaddr 1 (.tmp 16) (.tmp 17))::zl 19 1 18::zm 20 1::zm 21 5::zo 22 (.iaddr 1 (.tmp 20) (.tmp 21))::zl 23 1 22::zo 24 (.call (.val (.fn (.func 81) [])) [(.tmp 19),(.tmp 23)])::zo 25 (.un .not (.tmp 24))::[])) <|
   .cond (.tmp 25) (.seq (.region (zo 4 (.mov (.val (.bool false)))::[])) <|
    .ret) <|
   .skip)) <|
  .region (zo 26 (.bin .add (.tmp 13) (.val (.int .i64 1)))::zm 13 26::[])))) <|
 .seq (.region (zo 4 (.mov (.val (.bool true)))::[])) <|
 .ret⟩
theorem e_law08_Doms:AgY Tryz.prog kd_CEqual Tryz.f36=some c_law08_Doms:=by kernel_rfl
def c_law08_Ranges:AFunc:=⟨26,[.tmp 4],
 .seq (.region (zo 4 (.mov (.val (.bool false)))::[])) <|
 .seq (.seq (.region (zm 6 0::zo 7 (.len false (.tmp 6))::zm 8 1::zo 9 (.len false (.tmp 8))::zo 10 (.bin .neq (.tmp 7) (.tmp 9))::[])) <|
 .cond (.tmp 10) (.seq (.region (zo 4 (.mov (.val (.bool false)))::[])) <|
  .ret) <|
 .skip) <|
 .seq (.seq (.region (zm 11 0::zo 12 (.len false (.tmp 11))::zo 13 (.mov (.val (.int .i64 0)))::[])) <|
 .block 0 (.loop (.seq (.region (zo 14 (.bin .lss (.tmp 13) (.tmp 12))::[])) <|
  .seq (.cond (.tmp 14) (.skip) <|
  .exit 0) <|
  .seq (.block 1 (.seq (.region (zm 15 13::zm 5 15::[])) <|
   .seq (.draw (zm 16 0::zm 17 5::zo 18 (.iaddr 2 (.tmp 16) (.tmp 17))::zo 19 (.load true 2 (.tmp 18))::zm 20 1::zm 21 5::zo 22 (.iaddr 2 (.tmp 20) (.tmp 21))::zo 23 (.load true 2 (.tmp 22))::zo 24 (.eqs true 2 (.tmp 19) (.tmp 23))::[])) <|
   .cond (.tmp 24) (.seq (.region (zo 4 (.mov (.val (.bool false)))::[])) <|
    .ret) <|
   .skip)) <|
  .region (zo 25 (.bin .add (.tmp 13) (.val (.int .i64 1)))::zm 13 25::[])))) <|
 .seq (.region (zo 4 (.mov (.val (.bool true)))::[])) <|
 .ret⟩
theorem e_law08_Ranges:AgY Tryz.prog kd_CEqual Tryz.f81=some c_law08_Ranges:=by kernel_rfl
def c_law08_ints:AFunc:=⟨26,[.tmp 4],
 .seq (.region (zo 4 (.mov (.val (.bool false)))::[])) <|
 .seq (.seq (.region (zm 6 0::zo 7 (.len false (.tmp 6))::zm 8 1::zo 9 (.len false (.tmp 8))::zo 10 (.bin .neq (.tmp 7) (.tmp 9))::[])) <|
 .cond (.tmp 10) (.seq (.region (zo 4 (.mov (.val (.bool false)))::[])) <|
  .ret) <|
 .skip) <|
 .seq (.seq (.region (zm 11 0::zo 12 (.len false (.tmp 11))::zo 13 (.mov (.val (.int .i64 0)))::[])) <|
 .block 0 (.loop (.seq (.region (zo 14 (.bin .lss (.tmp 13) (.tmp 12))::[])) <|
  .seq (.cond (.tmp 14) (.skip) <|
  .exit 0) <|
  .seq (.block 1 (.seq (.region (zm 15 13::zm 5 15::[])) <|
   .seq (.draw (zm 16 0::zm 17 5::zo 18 (.iaddr 1 (.tmp 16) (.tmp 17))::zl 19 1 18::zm 20 1::zm 21 5::zo 22 (.iaddr 1 (.tmp 20) (.tmp 21))::zl 23 1 22::zo 24 (.bin .neq (.tmp 19) (.tmp 23))::[])) <|
   .cond (.tmp 24) (.seq (.region (zo 4 (.mov (.val (.bool false)))::[])) <|
    .ret) <|
   .skip)) <|
  .region (zo 25 (.bin .add (.tmp 13) (.val (.int .i64 1)))::zm 13 25::[])))) <|
 .seq (.region (zo 4 (.mov (.val (.bool true)))::[])) <|
 .ret⟩
theorem e_law08_ints:AgY Tryz.prog kd_CEqual Tryz.f18=some c_law08_ints:=by kernel_rfl
def c_law08_nums:AFunc:=⟨26,[.tmp 4],
 .seq (.region (zo 4 (.mov (.val (.bool false)))::[])) <|
 .seq (.seq (.region (zm 6 0::zo 7 (.len false (.tmp 6))::zm 8 1::zo 9 (.len false (.tmp 8))::zo 10 (.bin .neq (.tmp 7) (.tmp 9))::[])) <|
 .cond (.tmp 10) (.seq (.region (zo 4 (.mov (.val (.bool false)))::[])) <|
  .ret) <|
 .skip) <|
 .seq (.seq (.region (zm 11 0::zo 12 (.len false (.tmp 11))::zo 13 (.mov (.val (.int .i64 0)))::[])) <|
 .block 0 (.loop (.seq (.region (zo 14 (.bin .lss (.tmp 13) (.tmp 12))::[])) <|
  .seq (.cond (.tmp 14) (.skip) <|
  .exit 0) <|
  .seq (.block 1 (.seq (.region (zm 15 13::zm 5 15::[])) <|
   .seq (.draw (zm 16 0::zm 17 5::zo 18 (.iaddr 1 (.tmp 16) (.tmp 17))::zl 19 1 18::zm 20 1::zm 21 5::zo 22 (.iaddr 1 (.tmp 20) (.tmp 21))::zl 23 1 22::zo 24 (.bin .neq (.tmp 19) (.tmp 23))::[])) <|
   .cond (.tmp 24) (.seq (.region (zo 4 (.mov (.val (.bool false)))::[])) <|
    .ret) <|
   .skip)) <|
  .region (zo 25 (.bin .add (.tmp 13) (.val (.int .i64 1)))::zm 13 25::[])))) <|
 .seq (.region (zo 4 (.mov (.val (.bool true)))::[])) <|
 .ret⟩
theorem e_law08_nums:AgY Tryz.prog kd_CEqual Tryz.f37=some c_law08_nums:=by kernel_rfl
def c_top_built:AFunc:=⟨32,[.cell 2 true 5],
 .seq (.region (zo 1 (.box 5 (.tmp 0))::zo 2 (.alloc (.agg [.nils,.nils,(.int .i64 0),(.int .i64 0),.nils]))::[])) <|
 .seq (.region (zf 6 0 1::zo 7 (.load true 4 (.tmp 6))::zo 8 (.build [.nils,.nils,(.int .i64 0),(.int .i64 0),.nils] [(0,4,(.tmp 7))])::zo 3 (.alloc (.agg [.nils,.nils,(.int .i64 0),(.int .i64 0),.nils]))::zs 5 3 8::[])) <|
 .seq (.seq (.region (zf 9 4 1::zl 10 1 9::zo 11 (.len false (.tmp 10))::zo 12 (.mov (.val (.int .i64 0)))::[])) <|
 .block 0 (.loop (.seq (.region (zo 13 (.bin .lss (.tmp 12) (.tmp 11))::[])) <|
  .seq (.cond (.tmp 13) (.skip) <|
  .exit 0) <|
  .seq (.block 1 (.seq (.region (zo 14 (.iaddr 4 (.tmp 10) (.tmp 12))::zo 15 (.load true 4 (.tmp 14))::zo 5 (.alloc (.agg [(.str (S8 [])),(.bool false),(.bool false),.nils]))::zs 4 5 15::[])) <|
   .region (zf 16 4 3::zl 17 1 16::zf 18 0 5::zl 19 1 18::zf 20 1 5::zl 21 1 20::zf 22 2 5::zl 23 1 22::zf 24 3 5::zl 25 1 24::zo 26 (.build [(.str (S8 [])),(.bool false),(.bool false),.nils] [(0,1,(.tmp 19)),(1,1,(.tmp 21)),(2,1,(.tmp 23)),(3,1,(.tmp 25))])::zo 27 (.bslice 4 [(.tmp 26)])::zo 28 (.app 4 48 (.tmp 17) (.tmp 27))::zf 29 4 3::zs 1 29 28::[]))) <|
  .region (zo 30 (.bin .add (.tmp 12) (.val (.int .i64 1)))::zm 12 30::[])))) <|
 .seq (.region (zo 31 (.load true 5 (.tmp 3))::zs 5 2 31::[])) <|
 .ret⟩
theorem e_top_built:AgY Tryz.prog kd_CEqual Tryz.f8=some c_top_built:=by kernel_rfl
def c_top_WholeShown:AFunc:=⟨108,[.tmp 2],
 .seq (.region (zo 2 (.mov (.val (.bool false)))::[])) <|
 .seq (.region (zo 22 (.call (.val (.fn (.func 4) [])) [(.val (.str (S8 [115,111,108,118,101,32,115,97,116,105,115,102,121,59])))])::zm 21 22::zx 23 21 0::zx 24 21 1::zx 25 21 2::zm 3 23::zm 4 24::zm 5 25::[])) <|
 .seq (.region (zm 27 3::zo 28 (.call (.val (.fn (.func 5) [])) [(.tmp 27)])::zm 26 28::zx 29 26 0::zx 30 26 1::zx 31 26 2::zo 6 (.alloc (.agg [.nils,.nils,(.int .i64 0),(.int .i64 0),.nils]))::zs 5 6 29::zm 7 30::zm 8 31::[])) <|
 .seq (.seq (.region (zm 32 5::zo 33 (.bin .neq (.tmp 32) (.val (.int .i64 0)))::zm 34 33::zg 35 (.mov (.tmp 8)) 34 false::zg 36 (.bin .neq (.tmp 35) (.val (.int .i64 0))) 34 false::zo 37 (.pick (.tmp 34) (.val (.bool true)) (.tmp 36))::zm 38 37::zg 39 (.faddr 0 (.tmp 6)) 38 false::zg 40 (.faddr 0 (.tmp 39)) 38 false::zg 41 (.load false 1 (.tmp 40)) 38 false::zg 42 (.len false (.tmp 41)) 38 false::zg 43 (.bin .neq (.tmp 42) (.val (.int .i64 0))) 38 false::zo 44 (.pick (.tmp 38) (.val (.bool true)) (.tmp 43))::zm 45 44::zg 46 (.mov (.tmp 3)) 45 false::zg 47 (.len false (.tmp 46)) 45 false::zg 48 (.bin .neq (.tmp 47) (.val (.int .i64 1))) 45 false::zo 49 (.pick (.tmp 45) (.val (.bool true)) (.tmp 48))::[])) <|
 .cond (.tmp 49) (.seq (.region (zo 2 (.mov (.val (.bool false)))::[])) <|
  .ret) <|
 .skip) <|
 .seq (.seq (.region (zm 50 0::zo 51 (.len true (.tmp 50))::zo 52 (.bin .gtr (.tmp 51) (.val (.int .i64 2000)))::[])) <|
 .cond (.tmp 52) (.seq (.region (zo 2 (.mov (.val (.bool true)))::[])) <|
  .ret) <|
 .skip) <|
 .seq (.region (zm 54 0::zo 55 (.call (.val (.fn (.func 4) [])) [(.tmp 54)])::zm 53 55::zx 56 53 0::zx 57 53 1::zx 58 53 2::zm 9 56::zm 10 57::zm 5 58::[])) <|
 .seq (.region (zm 60 9::zo 61 (.call (.val (.fn (.func 6) [])) [(.tmp 60)])::zm 59 61::zx 62 59 0::zx 63 59 1::zm 11 62::zm 8 63::[])) <|
 .seq (.seq (.region (zm 64 5::zo 65 (.bin .neq (.tmp 64) (.val (.int .i64 0)))::zm 66 65::zg 67 (.mov (.tmp 8)) 66 false::zg 68 (.bin .neq (.tmp 67) (.val (.int .i64 0))) 66 false::zo 69 (.pick (.tmp 66) (.val (.bool true)) (.tmp 68))::[])) <|
 .cond (.tmp 69) (.seq (.region (zm 70 5::zo 71 (.bin .neq (.tmp 70) (.val (.int .i64 0)))::zm 2 71::[])) <|
  .ret) <|
 .skip) <|
 .seq (.region (zm 73 11::zo 74 (.call (.val (.fn (.func 4) [])) [(.tmp 73)])::zm 72 74::zx 75 72 0::zx 76 72 1::zx 77 72 2::zm 12 75::zm 13 76::zm 14 77::[])) <|
 .seq (.region (zm 79 9::zo 80 (.call (.val (.fn (.func 5) [])) [(.tmp 79)])::zm 78 80::zx 81 78 0::zx 82 78 1::zx 83 78 2::zo 15 (.alloc (.agg [.nils,.nils,(.int .i64 0),(.int .i64 0),.nils]))::zs 5 15 81::zm 16 82::zm 17 83::[])) <|
 .seq (.region (zm 85 12::zo 86 (.call (.val (.fn (.func 5) [])) [(.tmp 85)])::zm 84 86::zx 87 84 0::zx 88 84 1::zx 89 84 2::zo 18 (.alloc (.agg [.nils,.nils,(.int .i64 0),(.int .i64 0),.nils]))::zs 5 18 87::zm 19 88::zm 20 89::[])) <|
 .seq (.draw (zm 90 14::zq 91 90 0::zm 92 91::zg 93 (.mov (.tmp 16)) 92 true::zg 94 (.mov (.tmp 19)) 92 true::zg 95 (.bin .eql (.tmp 93) (.tmp 94)) 92 true::zo 96 (.pick (.tmp 92) (.tmp 95) (.val (.bool false)))::zm 97 96::zg 98 (.mov (.tmp 17)) 97 true::zg 99 (.mov (.tmp 20)) 97 true::zg 100 (.bin .eql (.tmp 98) (.tmp 99)) 97 true::zo 101 (.pick (.tmp 97) (.tmp 100) (.val (.bool false)))::zm 102 101::zg 103 (.load true 5 (.tmp 15)) 102 true::zg 104 (.load true 5 (.tmp 18)) 102 true::zg 105 (.call (.val (.fn (.func 8) [])) [(.tmp 104)]) 102 true::zg 106 (.call (.val (.fn (.func 7) [])) [(.tmp 103),(.tmp 105)]) 102 true::zo 107 (.pick (.tmp 102) (.tmp 106) (.val (.bool false)))::zm 2 107::[])) <|
 .ret⟩
theorem e_top_WholeShown:AgY Tryz.prog kd_CEqual Tryz.f3=some c_top_WholeShown:=by kernel_rfl
end Go.Proofs.YtcmphhedaefcgaaGreatDoor
end
section
namespace Go.Proofs.YtcmphhedaefcgaaGreatDoor
open Av
attribute [local irreducible] awp AbX
attribute [local irreducible] awX opX
set_option maxRecDepth 100000
set_option maxHeartbeats 4000000
theorem top_built (b:Bd) (hl:b.O.length≤1000000000000):Ctr Tryz.prog 8 [eProb b] [] (eProb b) []:=by
 refine AcZ Tryz.func8 Tryz.call8 e_top_built ?_
 simp +contextual -implicitDefEqProofs only [sm,c_top_built,eProb_eq,seval,AhX,AdZ,AdY]
 refine loop_ruleF [(2,4,4)] [] (fun k:Nat=>k≤b.O.length) (fun k=>tm 32 [(2,.ptr 5 0 0 0),(3,.ptr 5 1 0 0),(10,.list 4 (b.O.map eOt)),(11,.int .i64 b.O.length),(12,.int .i64 k)])
  (fun k=>[some (5,[.agg [.nils,.nils,.int .i64 0,.int .i64 0,.nils]]),some (5,[.agg [.list 1 (b.D.map eRgs),.list 4 (b.C.map eCon),.int .i64 b.ask,.int .i64 b.goal,.sl 4 2 0 k]]),some (4,(b.O.take k).map eOt)]) (fun k=>b.O.length-k) 0 (by simp +contextual -implicitDefEqProofs only [sm,seval]) (by simp +contextual -implicitDefEqProofs only [sm,seval]) (Nat.zero_le _) ⟨[1,2,3],by decide,rfl,?_,?_⟩ ?_
 · simp +contextual -implicitDefEqProofs only [sm,seval,AhX,AdZ,AdY]
 · simp +contextual -implicitDefEqProofs only [sm,seval,Int.natCast_zero]
 intro k hk
 have htl:(b.O.take k).length=k:=by rw [List.length_take];omega
 by_cases hlt:k<b.O.length
 · have hlt':(k:Int)<(b.O.length:Int):=by omega
   have e2:IntKind.i64.wrap ((k:Int)+1)=((k+1:Nat):Int):=by rw [AiY] <;> omega
   obtain ⟨y,hx⟩:∃ y,b.O[k]? = some y:=⟨_,List.getElem?_eq_getElem hlt⟩
   have hs:b.O.take k++[y]=b.O.take (k+1):=by rw [List.take_add_one,hx];rfl
   have c1:(k+1) * 48≤140737488355328:=by omega
   have c2:k+1≤maxLen:=by unfold maxLen;omega
   have hsn:(b.O.take k).map eOt++[AV.agg [.str (S8 y.name),.bool y.bool,.bool y.arr,.list 1 (y.x.map eI)]]=(b.O.take (k+1)).map eOt:=by rw [← hs,List.map_append];rfl
   simp +contextual -implicitDefEqProofs only [sm,seval,hlt',hlt,hx,Option.map_some,eOt_eq,AhX,AdZ,AdY,htl,c1,c2,hsn,e2]
   refine ⟨k+1,by omega,by omega,[0,1,4],by decide,rfl,?_,?_⟩
   · simp +contextual -implicitDefEqProofs only [sm,seval,AhX,AdZ,AdY]
   · simp +contextual -implicitDefEqProofs only [sm,seval]
 · have hkn:k=b.O.length:=by omega
   subst hkn
   have ht:List.take b.O.length (b.O.map eOt)=b.O.map eOt:=BqQ _ _
   rw [List.take_length]
   simp +contextual -implicitDefEqProofs only [sm,seval,Int.lt_irrefl,AhX,AdZ,AdY,ht]
end Go.Proofs.YtcmphhedaefcgaaGreatDoor
end
section
namespace Go.Proofs.YtcmphhedaefcgaaGreatDoor
open Av
attribute [local irreducible] awp AbX
attribute [local irreducible] awX opX
set_option maxRecDepth 100000
set_option maxHeartbeats 4000000
theorem refl_Ranges (a:List Rg) (ha:a.length≤1000000000000):Ctr Tryz.prog 81 [eRgs a,eRgs a] [] (.bool true) []:=by
 refine AcZ Tryz.func81 Tryz.call81 e_law08_Ranges ?_
 simp +contextual -implicitDefEqProofs only [sm,c_law08_Ranges,eRgs,seval]
 refine BbZ (fun k:Nat=>k≤a.length) (fun k=>tm 26 [(0,.list 2 (a.map eRg)),(1,.list 2 (a.map eRg)),(12,.int .i64 a.length),(13,.int .i64 k)]) (fun _=>[]) (fun k=>a.length-k) 0 (Nat.zero_le _) ⟨[],by decide,rfl,?_,?_⟩ ?_
 · simp +contextual -implicitDefEqProofs only [sm,seval]
 · simp +contextual -implicitDefEqProofs only [sm,seval,Int.natCast_zero]
 intro k hk
 by_cases hlt:k<a.length
 · have hlt':(k:Int)<((a.length:Nat):Int):=by omega
   have e2:IntKind.i64.wrap ((k:Int)+1)=((k+1:Nat):Int):=by rw [AiY] <;> omega
   obtain ⟨x,hx⟩:∃ r,a[k]? = some r:=⟨_,List.getElem?_eq_getElem hlt⟩
   obtain ⟨p,q⟩:=x
   simp +contextual -implicitDefEqProofs only [sm,seval,hlt',hx,e2]
   refine ⟨k+1,by omega,by omega,[],by decide,rfl,?_,?_⟩
   iterate 2 simp +contextual -implicitDefEqProofs only [sm,seval]
 · have hkn:k=a.length:=by omega
   subst hkn
   simp +contextual -implicitDefEqProofs only [sm,seval,Int.lt_irrefl]
theorem refl_ints (a:List Int) (ha:a.length≤1000000000000):Ctr Tryz.prog 18 [.list 1 (a.map eI),.list 1 (a.map eI)] [] (.bool true) []:=by
 refine AcZ Tryz.func18 Tryz.call18 e_law08_ints ?_
 simp +contextual -implicitDefEqProofs only [sm,c_law08_ints,seval]
 refine BbZ (fun k:Nat=>k≤a.length) (fun k=>tm 26 [(0,.list 1 (a.map eI)),(1,.list 1 (a.map eI)),(12,.int .i64 a.length),(13,.int .i64 k)]) (fun _=>[]) (fun k=>a.length-k) 0 (Nat.zero_le _) ⟨[],by decide,rfl,?_,?_⟩ ?_
 · simp +contextual -implicitDefEqProofs only [sm,seval]
 · simp +contextual -implicitDefEqProofs only [sm,seval,Int.natCast_zero]
 intro k hk
 by_cases hlt:k<a.length
 · have hlt':(k:Int)<((a.length:Nat):Int):=by omega
   have e2:IntKind.i64.wrap ((k:Int)+1)=((k+1:Nat):Int):=by rw [AiY] <;> omega
   obtain ⟨x,hx⟩:∃ r,a[k]? = some r:=⟨_,List.getElem?_eq_getElem hlt⟩
   simp +contextual -implicitDefEqProofs only [sm,seval,hlt',hx,e2]
   refine ⟨k+1,by omega,by omega,[],by decide,rfl,?_,?_⟩
   iterate 2 simp +contextual -implicitDefEqProofs only [sm,seval]
 · have hkn:k=a.length:=by omega
   subst hkn
   simp +contextual -implicitDefEqProofs only [sm,seval,Int.lt_irrefl]
theorem refl_nums (a:List Int) (ha:a.length≤1000000000000):Ctr Tryz.prog 37 [.list 1 (a.map eI),.list 1 (a.map eI)] [] (.bool true) []:=by
 refine AcZ Tryz.func37 Tryz.call37 e_law08_nums ?_
 simp +contextual -implicitDefEqProofs only [sm,c_law08_nums,seval]
 refine BbZ (fun k:Nat=>k≤a.length) (fun k=>tm 26 [(0,.list 1 (a.map eI)),(1,.list 1 (a.map eI)),(12,.int .i64 a.length),(13,.int .i64 k)]) (fun _=>[]) (fun k=>a.length-k) 0 (Nat.zero_le _) ⟨[],by decide,rfl,?_,?_⟩ ?_
 · simp +contextual -implicitDefEqProofs only [sm,seval]
 · simp +contextual -implicitDefEqProofs only [sm,seval,Int.natCast_zero]
 intro k hk
 by_cases hlt:k<a.length
 · have hlt':(k:Int)<((a.length:Nat):Int):=by omega
   have e2:IntKind.i64.wrap ((k:Int)+1)=((k+1:Nat):Int):=by rw [AiY] <;> omega
   obtain ⟨x,hx⟩:∃ r,a[k]? = some r:=⟨_,List.getElem?_eq_getElem hlt⟩
   simp +contextual -implicitDefEqProofs only [sm,seval,hlt',hx,e2]
   refine ⟨k+1,by omega,by omega,[],by decide,rfl,?_,?_⟩
   iterate 2 simp +contextual -implicitDefEqProofs only [sm,seval]
 · have hkn:k=a.length:=by omega
   subst hkn
   simp +contextual -implicitDefEqProofs only [sm,seval,Int.lt_irrefl]
theorem refl_Doms (a:List (List Rg)) (ha:a.length≤1000000000000) (hr:∀ d∈a,d.length≤1000000000000):Ctr Tryz.prog 36 [eDoms a,eDoms a] [] (.bool true) []:=by
 refine AcZ Tryz.func36 Tryz.call36 e_law08_Doms ?_
 simp +contextual -implicitDefEqProofs only [sm,c_law08_Doms,eDoms,seval]
 refine BbZ (fun k:Nat=>k≤a.length) (fun k=>tm 27 [(0,.list 1 (a.map eRgs)),(1,.list 1 (a.map eRgs)),(12,.int .i64 a.length),(13,.int .i64 k)]) (fun _=>[]) (fun k=>a.length-k) 0 (Nat.zero_le _) ⟨[],by decide,rfl,?_,?_⟩ ?_
 · simp +contextual -implicitDefEqProofs only [sm,seval]
 · simp +contextual -implicitDefEqProofs only [sm,seval,Int.natCast_zero]
 intro k hk
 by_cases hlt:k<a.length
 · have hlt':(k:Int)<((a.length:Nat):Int):=by omega
   have e2:IntKind.i64.wrap ((k:Int)+1)=((k+1:Nat):Int):=by rw [AiY] <;> omega
   obtain ⟨x,hx⟩:∃ r,a[k]? = some r:=⟨_,List.getElem?_eq_getElem hlt⟩
   simp +contextual -implicitDefEqProofs only [sm,seval,hlt',hx]
   refine AaY (refl_Ranges x (hr x (List.mem_of_getElem? hx))) (AaQ _) rfl ?_
   simp +contextual -implicitDefEqProofs only [sm,seval,e2]
   refine ⟨k+1,by omega,by omega,[],by decide,rfl,?_,?_⟩
   iterate 2 simp +contextual -implicitDefEqProofs only [sm,seval]
 · have hkn:k=a.length:=by omega
   subst hkn
   simp +contextual -implicitDefEqProofs only [sm,seval,Int.lt_irrefl]
end Go.Proofs.YtcmphhedaefcgaaGreatDoor
end
section
namespace Go.Proofs.YtcmphhedaefcgaaGreatDoor
open Av Go.RowKit
set_option maxRecDepth 100000
def TrueAt (f : FuncId) (a b : Value) (w : World) : Prop := ∀ W, Below w.heap.size w W → Calls Tryz.prog f #[a, b] W (fun e w' => e = .returned (.bool true) ∧ Below W.heap.size W w')
def ConAt (w : World) (b off b' off' j : Nat) : Prop := ∃ (kd c : Int) (xo xo' yo yo' : Option Addr) (xl xl' yl yl' xc xc' yc yc' : Nat), w.cell? ⟨b, off + j * 4, none⟩ = some (.int .i64 kd) ∧ w.cell? ⟨b, off + j * 4 + 1, none⟩ = some (.slice xo xl xc) ∧ w.cell? ⟨b, off + j * 4 + 2, none⟩ = some (.slice yo yl yc) ∧ w.cell? ⟨b, off + j * 4 + 3, none⟩ = some (.int .i64 c) ∧ w.cell? ⟨b', off' + j * 4, none⟩ = some (.int .i64 kd) ∧ w.cell? ⟨b', off' + j * 4 + 1, none⟩ = some (.slice xo' xl' xc') ∧ w.cell? ⟨b', off' + j * 4 + 2, none⟩ = some (.slice yo' yl' yc') ∧ w.cell? ⟨b', off' + j * 4 + 3, none⟩ = some (.int .i64 c) ∧
  TrueAt 18 (.slice xo xl xc) (.slice xo' xl' xc') w ∧ TrueAt 37 (.slice yo yl yc) (.slice yo' yl' yc') w
set_option maxHeartbeats 4000000 in
theorem same_walk (w : World) (vD vD' : Value) (ao ao' : Option Addr) (n cap cap' : Nat) (ask goal : Int) (hn : n ≤ 1000000000000) (hD : TrueAt 36 vD vD' w)
    (hC : 0 < n → ∃ b off b' off', ao = some ⟨b, off, none⟩ ∧ ao' = some ⟨b', off', none⟩ ∧ b < w.heap.size ∧ b' < w.heap.size ∧ ∀ j, j < n → ConAt w b off b' off' j) :
    Calls Tryz.prog 17 #[.agg #[vD, .slice ao n cap, .int .i64 ask, .int .i64 goal], .agg #[vD', .slice ao' n cap', .int .i64 ask, .int .i64 goal]] w (fun e w' => e = .returned (.bool true) ∧ Below w.heap.size w w') := by
  have HD : Hid _ := hD
  have HC : Hid _ := hC
  clear hD hC
  go_enter Tryz.func17, Tryz.ntmps17
  go_wp2_with (go_at_call 36; refine ((show TrueAt 36 vD vD' w from HD) _ (((Below.refl _ w).alloc (Nat.le_refl _) _).alloc (by simp) _)).mono ?_)
  rintro e w1 ⟨rfl, hb⟩
  have hw1 : w1.heap[w.heap.size]? = some (.cells #[vD, .slice ao n cap, .int .i64 ask, .int .i64 goal] 29 (0, 0)) := (hb.block _ (by simp; omega)).trans (by
    show ((w.heap.push _).push _)[w.heap.size]? = _
    rw [Array.getElem?_push, if_neg (by simp), Array.getElem?_push, if_pos rfl])
  have hw2 : w1.heap[w.heap.size + 1]? = some (.cells #[vD', .slice ao' n cap', .int .i64 ask, .int .i64 goal] 29 (0, 0)) := (hb.block _ (by simp)).trans (by
    show ((w.heap.push _).push _)[w.heap.size + 1]? = _
    rw [Array.getElem?_push, if_pos (by simp)])
  have B1 : Below w.heap.size w w1 := (((Below.refl _ w).alloc (Nat.le_refl _) _).alloc (by simp) _).trans (hb.mono (by simp; omega))
  have hsz : w.heap.size + 2 ≤ w1.heap.size := by have := hb.size; simp at this; omega
  have a1 : w1.cell? ⟨w.heap.size, 1, none⟩ = some (.slice ao n cap) := by simp [World.cell?, hw1]
  have a2 : w1.cell? ⟨w.heap.size, 2, none⟩ = some (.int .i64 ask) := by simp [World.cell?, hw1]
  have a3 : w1.cell? ⟨w.heap.size, 3, none⟩ = some (.int .i64 goal) := by simp [World.cell?, hw1]
  have b1 : w1.cell? ⟨w.heap.size + 1, 1, none⟩ = some (.slice ao' n cap') := by simp [World.cell?, hw2]
  have b2 : w1.cell? ⟨w.heap.size + 1, 2, none⟩ = some (.int .i64 ask) := by simp [World.cell?, hw2]
  have b3 : w1.cell? ⟨w.heap.size + 1, 3, none⟩ = some (.int .i64 goal) := by simp [World.cell?, hw2]
  have HB1 : Hid _ := B1
  clear B1 hb hw1 hw2
  go_wp2_with fail
  go_loopw [40] (fun vk wr => ∃ k : Nat, k ≤ n ∧ vk = .int .i64 k ∧ Hid (Below w1.heap.size w1 wr)) (fun vk wr => (n - (intOf vk).toNat))
  case atStart => exact ⟨0, Nat.zero_le _, rfl, Below.refl _ _⟩
  case round =>
    obtain ⟨k, hk, rfl, hB⟩ := hrel
    have hB' : Below w1.heap.size w1 wr := hB
    have HB' : Below w.heap.size w wr := (show Below w.heap.size w w1 from HB1).trans (hB'.mono (by omega))
    have a1' := (hB'.cell (p := ⟨w.heap.size, 1, none⟩) (by show w.heap.size < _; omega)).trans a1
    have b1' := (hB'.cell (p := ⟨w.heap.size + 1, 1, none⟩) (by show w.heap.size + 1 < _; omega)).trans b1
    by_cases hlt : k < n
    · have hlt' : (k : Int) < (n : Int) := by omega
      obtain ⟨b, off, b', off', rfl, rfl, hbl, hbl', hcs⟩ := (show 0 < n → _ from HC) (by omega)
      obtain ⟨kd, c, xo, xo', yo, yo', xl, xl', yl, yl', xc, xc', yc, yc', e0, e1, e2, e3, g0, g1, g2, g3, hX, hA⟩ := hcs k hlt
      replace e0 := (HB'.cell (p := ⟨b, _, none⟩) hbl).trans e0
      replace e1 := (HB'.cell (p := ⟨b, _, none⟩) hbl).trans e1
      replace e2 := (HB'.cell (p := ⟨b, _, none⟩) hbl).trans e2
      replace e3 := (HB'.cell (p := ⟨b, _, none⟩) hbl).trans e3
      replace g0 := (HB'.cell (p := ⟨b', _, none⟩) hbl').trans g0
      replace g1 := (HB'.cell (p := ⟨b', _, none⟩) hbl').trans g1
      replace g2 := (HB'.cell (p := ⟨b', _, none⟩) hbl').trans g2
      replace g3 := (HB'.cell (p := ⟨b', _, none⟩) hbl').trans g3
      have HX : Hid _ := hX
      have HA : Hid _ := hA
      have hW : IntKind.i64.wrap ((k : Int) + 1) = ((k + 1 : Nat) : Int) := by rw [AiY] <;> omega
      have hs0 := hB'.size
      have z1 : w.heap.size < wr.heap.size := by omega
      have z2 : w.heap.size + 1 < wr.heap.size := by omega
      have z3 : b < wr.heap.size := by omega
      have z4 : b' < wr.heap.size := by omega
      clear hcs hX hA a1 b1 hB'
      go_wp2_with fail
      go_region
      · have q0 : Below wr.heap.size wr (((wr.alloc (.cells #[.int .i64 kd, .slice xo xl xc, .slice yo yl yc, .int .i64 c] 108)).alloc (.cells #[.int .i64 kd, .slice xo' xl' xc', .slice yo' yl' yc', .int .i64 c] 108)).drew) := Below.drew (((Below.refl _ wr).alloc (Nat.le_refl _) _).alloc (by simp) _)
        have q1 : ((wr.alloc (.cells #[.int .i64 kd, .slice xo xl xc, .slice yo yl yc, .int .i64 c] 108)).alloc (.cells #[.int .i64 kd, .slice xo' xl' xc', .slice yo' yl' yc', .int .i64 c] 108)).drew.heap[wr.heap.size]? = some (.cells #[.int .i64 kd, .slice xo xl xc, .slice yo yl yc, .int .i64 c] 108 (0, 0)) := by
          show ((wr.heap.push _).push _)[wr.heap.size]? = _
          rw [Array.getElem?_push, if_neg (by simp), Array.getElem?_push, if_pos rfl]
        have q2 : ((wr.alloc (.cells #[.int .i64 kd, .slice xo xl xc, .slice yo yl yc, .int .i64 c] 108)).alloc (.cells #[.int .i64 kd, .slice xo' xl' xc', .slice yo' yl' yc', .int .i64 c] 108)).drew.heap[wr.heap.size + 1]? = some (.cells #[.int .i64 kd, .slice xo' xl' xc', .slice yo' yl' yc', .int .i64 c] 108 (0, 0)) := by
          show ((wr.heap.push _).push _)[wr.heap.size + 1]? = _
          rw [Array.getElem?_push, if_pos (by simp)]
        have q3 : ((wr.alloc (.cells #[.int .i64 kd, .slice xo xl xc, .slice yo yl yc, .int .i64 c] 108)).alloc (.cells #[.int .i64 kd, .slice xo' xl' xc', .slice yo' yl' yc', .int .i64 c] 108)).drew.heap.size = wr.heap.size + 2 := by
          show ((wr.heap.push _).push _).size = _
          simp
        generalize ((wr.alloc (.cells #[.int .i64 kd, .slice xo xl xc, .slice yo yl yc, .int .i64 c] 108)).alloc (.cells #[.int .i64 kd, .slice xo' xl' xc', .slice yo' yl' yc', .int .i64 c] 108)).drew = w2 at q0 q1 q2 q3 ⊢
        have p0 : w2.cell? ⟨wr.heap.size, 0, none⟩ = some (.int .i64 kd) := by simp [World.cell?, q1]
        have p1 : w2.cell? ⟨wr.heap.size, 1, none⟩ = some (.slice xo xl xc) := by simp [World.cell?, q1]
        have p3 : w2.cell? ⟨wr.heap.size, 3, none⟩ = some (.int .i64 c) := by simp [World.cell?, q1]
        have r0 : w2.cell? ⟨wr.heap.size + 1, 0, none⟩ = some (.int .i64 kd) := by simp [World.cell?, q2]
        have r1 : w2.cell? ⟨wr.heap.size + 1, 1, none⟩ = some (.slice xo' xl' xc') := by simp [World.cell?, q2]
        have r3 : w2.cell? ⟨wr.heap.size + 1, 3, none⟩ = some (.int .i64 c) := by simp [World.cell?, q2]
        have HQ : Hid (Below w.heap.size w w2) := HB'.trans (q0.mono (by omega))
        have HQ1 : Hid (Below w1.heap.size w1 w2) := (show Below w1.heap.size w1 wr from hB).trans (q0.mono hs0)
        clear q0
        go_wp2_with (go_at_call 18; refine ((show TrueAt 18 (.slice xo xl xc) (.slice xo' xl' xc') w from HX) _ HQ).mono ?_)
        rintro e w3 ⟨rfl, hb3⟩
        have p2 : w3.cell? ⟨wr.heap.size, 2, none⟩ = some (.slice yo yl yc) := by
          rw [hb3.cell (p := ⟨wr.heap.size, 2, none⟩) (by show wr.heap.size < _; omega)]; simp [World.cell?, q1]
        have r2 : w3.cell? ⟨wr.heap.size + 1, 2, none⟩ = some (.slice yo' yl' yc') := by
          rw [hb3.cell (p := ⟨wr.heap.size + 1, 2, none⟩) (by show wr.heap.size + 1 < _; omega)]; simp [World.cell?, q2]
        have HR : Hid (Below w.heap.size w w3) := (show Below w.heap.size w w2 from HQ).trans (hb3.mono (by omega))
        have HR1 : Hid (Below w1.heap.size w1 w3) := (show Below w1.heap.size w1 w2 from HQ1).trans (hb3.mono (by omega))
        have hs3 := hb3.size
        clear hb3 q1 q2
        go_wp2_with (go_at_call 37; refine ((show TrueAt 37 (.slice yo yl yc) (.slice yo' yl' yc') w from HA) _ HR).mono ?_)
        rintro e w4 ⟨rfl, hb4⟩
        have HS : Hid (Below w1.heap.size w1 w4) := (show Below w1.heap.size w1 w3 from HR1).trans (hb4.mono (by omega))
        clear hb4
        go_wp2_with fail
        go_roundw
        case rel => exact ⟨k + 1, by omega, rfl, HS⟩
        case measure => simp [intOf]; omega
      · have q0 : Below wr.heap.size wr (((wr.alloc (.cells #[.int .i64 kd, .slice xo' xl' xc', .slice yo' yl' yc', .int .i64 c] 108)).alloc (.cells #[.int .i64 kd, .slice xo xl xc, .slice yo yl yc, .int .i64 c] 108)).drew) := Below.drew (((Below.refl _ wr).alloc (Nat.le_refl _) _).alloc (by simp) _)
        have q1 : ((wr.alloc (.cells #[.int .i64 kd, .slice xo' xl' xc', .slice yo' yl' yc', .int .i64 c] 108)).alloc (.cells #[.int .i64 kd, .slice xo xl xc, .slice yo yl yc, .int .i64 c] 108)).drew.heap[wr.heap.size]? = some (.cells #[.int .i64 kd, .slice xo' xl' xc', .slice yo' yl' yc', .int .i64 c] 108 (0, 0)) := by
          show ((wr.heap.push _).push _)[wr.heap.size]? = _
          rw [Array.getElem?_push, if_neg (by simp), Array.getElem?_push, if_pos rfl]
        have q2 : ((wr.alloc (.cells #[.int .i64 kd, .slice xo' xl' xc', .slice yo' yl' yc', .int .i64 c] 108)).alloc (.cells #[.int .i64 kd, .slice xo xl xc, .slice yo yl yc, .int .i64 c] 108)).drew.heap[wr.heap.size + 1]? = some (.cells #[.int .i64 kd, .slice xo xl xc, .slice yo yl yc, .int .i64 c] 108 (0, 0)) := by
          show ((wr.heap.push _).push _)[wr.heap.size + 1]? = _
          rw [Array.getElem?_push, if_pos (by simp)]
        have q3 : ((wr.alloc (.cells #[.int .i64 kd, .slice xo' xl' xc', .slice yo' yl' yc', .int .i64 c] 108)).alloc (.cells #[.int .i64 kd, .slice xo xl xc, .slice yo yl yc, .int .i64 c] 108)).drew.heap.size = wr.heap.size + 2 := by
          show ((wr.heap.push _).push _).size = _
          simp
        generalize ((wr.alloc (.cells #[.int .i64 kd, .slice xo' xl' xc', .slice yo' yl' yc', .int .i64 c] 108)).alloc (.cells #[.int .i64 kd, .slice xo xl xc, .slice yo yl yc, .int .i64 c] 108)).drew = w2 at q0 q1 q2 q3 ⊢
        have p0 : w2.cell? ⟨wr.heap.size, 0, none⟩ = some (.int .i64 kd) := by simp [World.cell?, q1]
        have p1 : w2.cell? ⟨wr.heap.size, 1, none⟩ = some (.slice xo' xl' xc') := by simp [World.cell?, q1]
        have p3 : w2.cell? ⟨wr.heap.size, 3, none⟩ = some (.int .i64 c) := by simp [World.cell?, q1]
        have r0 : w2.cell? ⟨wr.heap.size + 1, 0, none⟩ = some (.int .i64 kd) := by simp [World.cell?, q2]
        have r1 : w2.cell? ⟨wr.heap.size + 1, 1, none⟩ = some (.slice xo xl xc) := by simp [World.cell?, q2]
        have r3 : w2.cell? ⟨wr.heap.size + 1, 3, none⟩ = some (.int .i64 c) := by simp [World.cell?, q2]
        have HQ : Hid (Below w.heap.size w w2) := HB'.trans (q0.mono (by omega))
        have HQ1 : Hid (Below w1.heap.size w1 w2) := (show Below w1.heap.size w1 wr from hB).trans (q0.mono hs0)
        clear q0
        go_wp2_with (go_at_call 18; refine ((show TrueAt 18 (.slice xo xl xc) (.slice xo' xl' xc') w from HX) _ HQ).mono ?_)
        rintro e w3 ⟨rfl, hb3⟩
        have p2 : w3.cell? ⟨wr.heap.size, 2, none⟩ = some (.slice yo' yl' yc') := by
          rw [hb3.cell (p := ⟨wr.heap.size, 2, none⟩) (by show wr.heap.size < _; omega)]; simp [World.cell?, q1]
        have r2 : w3.cell? ⟨wr.heap.size + 1, 2, none⟩ = some (.slice yo yl yc) := by
          rw [hb3.cell (p := ⟨wr.heap.size + 1, 2, none⟩) (by show wr.heap.size + 1 < _; omega)]; simp [World.cell?, q2]
        have HR : Hid (Below w.heap.size w w3) := (show Below w.heap.size w w2 from HQ).trans (hb3.mono (by omega))
        have HR1 : Hid (Below w1.heap.size w1 w3) := (show Below w1.heap.size w1 w2 from HQ1).trans (hb3.mono (by omega))
        have hs3 := hb3.size
        clear hb3 q1 q2
        go_wp2_with (go_at_call 37; refine ((show TrueAt 37 (.slice yo yl yc) (.slice yo' yl' yc') w from HA) _ HR).mono ?_)
        rintro e w4 ⟨rfl, hb4⟩
        have HS : Hid (Below w1.heap.size w1 w4) := (show Below w1.heap.size w1 w3 from HR1).trans (hb4.mono (by omega))
        clear hb4
        go_wp2_with fail
        go_roundw
        case rel => exact ⟨k + 1, by omega, rfl, HS⟩
        case measure => simp [intOf]; omega
    · have hkn : k = n := by omega
      subst hkn
      go_wp2_with fail
      go_ret
      exact ⟨rfl, HB'⟩
end Go.Proofs.YtcmphhedaefcgaaGreatDoor
end
section
namespace Go.Proofs.YtcmphhedaefcgaaGreatDoor
open Av Go.RowKit
set_option maxRecDepth 100000
def OutAt (w : World) (b off b' off' j : Nat) : Prop := ∃ (nm : ByteArray) (bo ar : Bool) (xo xo' : Option Addr) (xl xl' xc xc' : Nat), w.cell? ⟨b, off + j * 4, none⟩ = some (.string nm) ∧ w.cell? ⟨b, off + j * 4 + 1, none⟩ = some (.bool bo) ∧ w.cell? ⟨b, off + j * 4 + 2, none⟩ = some (.bool ar) ∧ w.cell? ⟨b, off + j * 4 + 3, none⟩ = some (.slice xo xl xc) ∧ w.cell? ⟨b', off' + j * 4, none⟩ = some (.string nm) ∧ w.cell? ⟨b', off' + j * 4 + 1, none⟩ = some (.bool bo) ∧ w.cell? ⟨b', off' + j * 4 + 2, none⟩ = some (.bool ar) ∧ w.cell? ⟨b', off' + j * 4 + 3, none⟩ = some (.slice xo' xl' xc') ∧
  TrueAt 18 (.slice xo xl xc) (.slice xo' xl' xc') w
set_option maxHeartbeats 4000000 in
theorem equal_walk (w : World) (vD vD' vC vC' : Value) (ao ao' : Option Addr) (n cap cap' : Nat) (ask goal : Int) (hn : n ≤ 1000000000000) (hM : TrueAt 17 (.agg #[vD, vC, .int .i64 ask, .int .i64 goal]) (.agg #[vD', vC', .int .i64 ask, .int .i64 goal]) w)
    (hC : 0 < n → ∃ b off b' off', ao = some ⟨b, off, none⟩ ∧ ao' = some ⟨b', off', none⟩ ∧ b < w.heap.size ∧ b' < w.heap.size ∧ ∀ j, j < n → OutAt w b off b' off' j) :
    Calls Tryz.prog 7 #[.agg #[vD, vC, .int .i64 ask, .int .i64 goal, .slice ao n cap], .agg #[vD', vC', .int .i64 ask, .int .i64 goal, .slice ao' n cap']] w (fun e w' => e = .returned (.bool true) ∧ Below w.heap.size w w') := by
  have HM : Hid _ := hM
  have HC : Hid _ := hC
  clear hM hC
  go_enter Tryz.func7, Tryz.ntmps7
  go_wp2_with (go_at_call 17; refine ((show TrueAt 17 (.agg #[vD, vC, .int .i64 ask, .int .i64 goal]) (.agg #[vD', vC', .int .i64 ask, .int .i64 goal]) w from HM) _ (((Below.refl _ w).alloc (Nat.le_refl _) _).alloc (by simp) _)).mono ?_)
  rintro e w1 ⟨rfl, hb⟩
  have hw1 : w1.heap[w.heap.size]? = some (.cells #[vD, vC, .int .i64 ask, .int .i64 goal, .slice ao n cap] 32 (0, 0)) := (hb.block _ (by simp; omega)).trans (by
    show ((w.heap.push _).push _)[w.heap.size]? = _
    rw [Array.getElem?_push, if_neg (by simp), Array.getElem?_push, if_pos rfl])
  have hw2 : w1.heap[w.heap.size + 1]? = some (.cells #[vD', vC', .int .i64 ask, .int .i64 goal, .slice ao' n cap'] 40 (0, 0)) := (hb.block _ (by simp)).trans (by
    show ((w.heap.push _).push _)[w.heap.size + 1]? = _
    rw [Array.getElem?_push, if_pos (by simp)])
  have B1 : Below w.heap.size w w1 := (((Below.refl _ w).alloc (Nat.le_refl _) _).alloc (by simp) _).trans (hb.mono (by simp; omega))
  have hsz : w.heap.size + 2 ≤ w1.heap.size := by have := hb.size; simp at this; omega
  have a1 : w1.cell? ⟨w.heap.size, 4, none⟩ = some (.slice ao n cap) := by simp [World.cell?, hw1]
  have b1 : w1.cell? ⟨w.heap.size + 1, 4, none⟩ = some (.slice ao' n cap') := by simp [World.cell?, hw2]
  have HB1 : Hid _ := B1
  clear B1 hb hw1 hw2
  go_wp2_with fail
  go_loopw [26] (fun vk wr => ∃ k : Nat, k ≤ n ∧ vk = .int .i64 k ∧ Hid (Below w1.heap.size w1 wr)) (fun vk wr => (n - (intOf vk).toNat))
  case atStart => exact ⟨0, Nat.zero_le _, rfl, Below.refl _ _⟩
  case round =>
    obtain ⟨k, hk, rfl, hB⟩ := hrel
    have hB' : Below w1.heap.size w1 wr := hB
    have HB' : Below w.heap.size w wr := (show Below w.heap.size w w1 from HB1).trans (hB'.mono (by omega))
    have a1' := (hB'.cell (p := ⟨w.heap.size, 4, none⟩) (by show w.heap.size < _; omega)).trans a1
    have b1' := (hB'.cell (p := ⟨w.heap.size + 1, 4, none⟩) (by show w.heap.size + 1 < _; omega)).trans b1
    by_cases hlt : k < n
    · have hlt' : (k : Int) < (n : Int) := by omega
      obtain ⟨b, off, b', off', rfl, rfl, hbl, hbl', hcs⟩ := (show 0 < n → _ from HC) (by omega)
      obtain ⟨nm, bo, ar, xo, xo', xl, xl', xc, xc', e0, e1, e2, e3, g0, g1, g2, g3, hX⟩ := hcs k hlt
      replace e0 := (HB'.cell (p := ⟨b, _, none⟩) hbl).trans e0
      replace e1 := (HB'.cell (p := ⟨b, _, none⟩) hbl).trans e1
      replace e2 := (HB'.cell (p := ⟨b, _, none⟩) hbl).trans e2
      replace e3 := (HB'.cell (p := ⟨b, _, none⟩) hbl).trans e3
      replace g0 := (HB'.cell (p := ⟨b', _, none⟩) hbl').trans g0
      replace g1 := (HB'.cell (p := ⟨b', _, none⟩) hbl').trans g1
      replace g2 := (HB'.cell (p := ⟨b', _, none⟩) hbl').trans g2
      replace g3 := (HB'.cell (p := ⟨b', _, none⟩) hbl').trans g3
      have HX : Hid _ := hX
      have hW : IntKind.i64.wrap ((k : Int) + 1) = ((k + 1 : Nat) : Int) := by rw [AiY] <;> omega
      have hs0 := hB'.size
      have z1 : w.heap.size < wr.heap.size := by omega
      have z2 : w.heap.size + 1 < wr.heap.size := by omega
      have z3 : b < wr.heap.size := by omega
      have z4 : b' < wr.heap.size := by omega
      clear hcs hX a1 b1 hB'
      go_wp2_with fail
      go_region
      · have q0 : Below wr.heap.size wr (((wr.alloc (.cells #[.string nm, .bool bo, .bool ar, .slice xo xl xc] 77)).alloc (.cells #[.string nm, .bool bo, .bool ar, .slice xo' xl' xc'] 78)).drew) := Below.drew (((Below.refl _ wr).alloc (Nat.le_refl _) _).alloc (by simp) _)
        have q1 : ((wr.alloc (.cells #[.string nm, .bool bo, .bool ar, .slice xo xl xc] 77)).alloc (.cells #[.string nm, .bool bo, .bool ar, .slice xo' xl' xc'] 78)).drew.heap[wr.heap.size]? = some (.cells #[.string nm, .bool bo, .bool ar, .slice xo xl xc] 77 (0, 0)) := by
          show ((wr.heap.push _).push _)[wr.heap.size]? = _
          rw [Array.getElem?_push, if_neg (by simp), Array.getElem?_push, if_pos rfl]
        have q2 : ((wr.alloc (.cells #[.string nm, .bool bo, .bool ar, .slice xo xl xc] 77)).alloc (.cells #[.string nm, .bool bo, .bool ar, .slice xo' xl' xc'] 78)).drew.heap[wr.heap.size + 1]? = some (.cells #[.string nm, .bool bo, .bool ar, .slice xo' xl' xc'] 78 (0, 0)) := by
          show ((wr.heap.push _).push _)[wr.heap.size + 1]? = _
          rw [Array.getElem?_push, if_pos (by simp)]
        have q3 : ((wr.alloc (.cells #[.string nm, .bool bo, .bool ar, .slice xo xl xc] 77)).alloc (.cells #[.string nm, .bool bo, .bool ar, .slice xo' xl' xc'] 78)).drew.heap.size = wr.heap.size + 2 := by
          show ((wr.heap.push _).push _).size = _
          simp
        generalize ((wr.alloc (.cells #[.string nm, .bool bo, .bool ar, .slice xo xl xc] 77)).alloc (.cells #[.string nm, .bool bo, .bool ar, .slice xo' xl' xc'] 78)).drew = w2 at q0 q1 q2 q3 ⊢
        have p0 : w2.cell? ⟨wr.heap.size, 0, none⟩ = some (.string nm) := by simp [World.cell?, q1]
        have p1 : w2.cell? ⟨wr.heap.size, 1, none⟩ = some (.bool bo) := by simp [World.cell?, q1]
        have p2 : w2.cell? ⟨wr.heap.size, 2, none⟩ = some (.bool ar) := by simp [World.cell?, q1]
        have p3 : w2.cell? ⟨wr.heap.size, 3, none⟩ = some (.slice xo xl xc) := by simp [World.cell?, q1]
        have r0 : w2.cell? ⟨wr.heap.size + 1, 0, none⟩ = some (.string nm) := by simp [World.cell?, q2]
        have r1 : w2.cell? ⟨wr.heap.size + 1, 1, none⟩ = some (.bool bo) := by simp [World.cell?, q2]
        have r2 : w2.cell? ⟨wr.heap.size + 1, 2, none⟩ = some (.bool ar) := by simp [World.cell?, q2]
        have r3 : w2.cell? ⟨wr.heap.size + 1, 3, none⟩ = some (.slice xo' xl' xc') := by simp [World.cell?, q2]
        have HQ : Hid (Below w.heap.size w w2) := HB'.trans (q0.mono (by omega))
        have HQ1 : Hid (Below w1.heap.size w1 w2) := (show Below w1.heap.size w1 wr from hB).trans (q0.mono hs0)
        clear q0 q1 q2
        go_wp2_with (go_at_call 18; refine ((show TrueAt 18 (.slice xo xl xc) (.slice xo' xl' xc') w from HX) _ HQ).mono ?_)
        rintro e w4 ⟨rfl, hb4⟩
        have HS : Hid (Below w1.heap.size w1 w4) := (show Below w1.heap.size w1 w2 from HQ1).trans (hb4.mono (by omega))
        clear hb4
        go_wp2_with fail
        go_roundw
        case rel => exact ⟨k + 1, by omega, rfl, HS⟩
        case measure => simp [intOf]; omega
      · have q0 : Below wr.heap.size wr (((wr.alloc (.cells #[.string nm, .bool bo, .bool ar, .slice xo' xl' xc'] 78)).alloc (.cells #[.string nm, .bool bo, .bool ar, .slice xo xl xc] 77)).drew) := Below.drew (((Below.refl _ wr).alloc (Nat.le_refl _) _).alloc (by simp) _)
        have q1 : ((wr.alloc (.cells #[.string nm, .bool bo, .bool ar, .slice xo' xl' xc'] 78)).alloc (.cells #[.string nm, .bool bo, .bool ar, .slice xo xl xc] 77)).drew.heap[wr.heap.size]? = some (.cells #[.string nm, .bool bo, .bool ar, .slice xo' xl' xc'] 78 (0, 0)) := by
          show ((wr.heap.push _).push _)[wr.heap.size]? = _
          rw [Array.getElem?_push, if_neg (by simp), Array.getElem?_push, if_pos rfl]
        have q2 : ((wr.alloc (.cells #[.string nm, .bool bo, .bool ar, .slice xo' xl' xc'] 78)).alloc (.cells #[.string nm, .bool bo, .bool ar, .slice xo xl xc] 77)).drew.heap[wr.heap.size + 1]? = some (.cells #[.string nm, .bool bo, .bool ar, .slice xo xl xc] 77 (0, 0)) := by
          show ((wr.heap.push _).push _)[wr.heap.size + 1]? = _
          rw [Array.getElem?_push, if_pos (by simp)]
        have q3 : ((wr.alloc (.cells #[.string nm, .bool bo, .bool ar, .slice xo' xl' xc'] 78)).alloc (.cells #[.string nm, .bool bo, .bool ar, .slice xo xl xc] 77)).drew.heap.size = wr.heap.size + 2 := by
          show ((wr.heap.push _).push _).size = _
          simp
        generalize ((wr.alloc (.cells #[.string nm, .bool bo, .bool ar, .slice xo' xl' xc'] 78)).alloc (.cells #[.string nm, .bool bo, .bool ar, .slice xo xl xc] 77)).drew = w2 at q0 q1 q2 q3 ⊢
        have p0 : w2.cell? ⟨wr.heap.size, 0, none⟩ = some (.string nm) := by simp [World.cell?, q1]
        have p1 : w2.cell? ⟨wr.heap.size, 1, none⟩ = some (.bool bo) := by simp [World.cell?, q1]
        have p2 : w2.cell? ⟨wr.heap.size, 2, none⟩ = some (.bool ar) := by simp [World.cell?, q1]
        have p3 : w2.cell? ⟨wr.heap.size, 3, none⟩ = some (.slice xo' xl' xc') := by simp [World.cell?, q1]
        have r0 : w2.cell? ⟨wr.heap.size + 1, 0, none⟩ = some (.string nm) := by simp [World.cell?, q2]
        have r1 : w2.cell? ⟨wr.heap.size + 1, 1, none⟩ = some (.bool bo) := by simp [World.cell?, q2]
        have r2 : w2.cell? ⟨wr.heap.size + 1, 2, none⟩ = some (.bool ar) := by simp [World.cell?, q2]
        have r3 : w2.cell? ⟨wr.heap.size + 1, 3, none⟩ = some (.slice xo xl xc) := by simp [World.cell?, q2]
        have HQ : Hid (Below w.heap.size w w2) := HB'.trans (q0.mono (by omega))
        have HQ1 : Hid (Below w1.heap.size w1 w2) := (show Below w1.heap.size w1 wr from hB).trans (q0.mono hs0)
        clear q0 q1 q2
        go_wp2_with (go_at_call 18; refine ((show TrueAt 18 (.slice xo xl xc) (.slice xo' xl' xc') w from HX) _ HQ).mono ?_)
        rintro e w4 ⟨rfl, hb4⟩
        have HS : Hid (Below w1.heap.size w1 w4) := (show Below w1.heap.size w1 w2 from HQ1).trans (hb4.mono (by omega))
        clear hb4
        go_wp2_with fail
        go_roundw
        case rel => exact ⟨k + 1, by omega, rfl, HS⟩
        case measure => simp [intOf]; omega
    · have hkn : k = n := by omega
      subst hkn
      go_wp2_with fail
      go_ret
      exact ⟨rfl, HB'⟩
end Go.Proofs.YtcmphhedaefcgaaGreatDoor
end
section
namespace Go.Proofs.YtcmphhedaefcgaaGreatDoor
open Av Go.RowKit
theorem true_of {f : FuncId} {a b : AV} (h : Ctr Tryz.prog f [a, b] [] (.bool true) []) {w0 : World} {pr fz : Fz} {pl : Pl} {w : World} (hS : Sim w0 pr fz pl [] w) {va vb : Value} (ra : RepF fz a va) (rb : RepF fz b vb) : TrueAt f va vb w :=
  fun W hB => ctr_two h (sim_below hS hB) ra rb
theorem two_rows {fz : Fz} {L : List AV} {va vb : Value} (ra : RepF fz (.list 4 L) va) (rb : RepF fz (.list 4 L) vb) : ∃ ao ao' cap cap', va = .slice ao L.length cap ∧ vb = .slice ao' L.length cap' ∧
    (0 < L.length → ∃ b off b' off' o o', ao = some ⟨b, off, none⟩ ∧ ao' = some ⟨b', off', none⟩ ∧ fz b = some o ∧ fz b' = some o' ∧ ∀ (W : World), W.heap[b]? = some o → W.heap[b']? = some o' → ∀ (j : Nat) (x : AV), L[j]? = some x → ∀ (t : Nat) (v : AV), x.cells[t]? = some v → ∃ u u', W.cell? ⟨b, off + (j * 4 + t), none⟩ = some u ∧ W.cell? ⟨b', off' + (j * 4 + t), none⟩ = some u' ∧ RepF fz v u ∧ RepF fz v u') := by
  obtain ⟨ao, cap, ea⟩ := ra.list_len
  obtain ⟨ao', cap', eb⟩ := rb.list_len
  refine ⟨ao, ao', cap, cap', ea, eb, fun h0 => ?_⟩
  obtain ⟨x0, hx0⟩ : ∃ x, L[0]? = some x := ⟨_, List.getElem?_eq_getElem h0⟩
  obtain ⟨b, off, c1, o, e1, f1, -, -⟩ := list_at ra hx0
  obtain ⟨b', off', c2, o', e2, f2, -, -⟩ := list_at rb hx0
  rw [ea] at e1
  rw [eb] at e2
  injection e1 with e1 _ _
  injection e2 with e2 _ _
  refine ⟨b, off, b', off', o, o', e1, e2, f1, f2, fun W hW hW' j x hx t v hv => ?_⟩
  obtain ⟨b3, off3, c3, o3, e3, f3, -, k3⟩ := list_at ra hx
  obtain ⟨b4, off4, c4, o4, e4, f4, -, k4⟩ := list_at rb hx
  rw [ea, e1] at e3
  rw [eb, e2] at e4
  injection e3 with e3 _ _
  injection e4 with e4 _ _
  injection e3 with e3
  injection e4 with e4
  injection e3 with e31 e32
  injection e4 with e41 e42
  subst e31; subst e32; subst e41; subst e42
  rw [f1] at f3
  rw [f2] at f4
  injection f3 with f3
  injection f4 with f4
  subst f3; subst f4
  obtain ⟨u, u1, u2, -⟩ := k3 W hW t v hv
  obtain ⟨u', u3, u4, -⟩ := k4 W hW' t v hv
  exact ⟨u, u', u1, u3, u2, u4⟩
theorem slice_I {fz : Fz} {l : List Int} {u : Value} (h : RepF fz (.list 1 (l.map eI)) u) : ∃ xo xc, u = .slice xo l.length xc := by
  obtain ⟨ao, cap, e⟩ := h.list_len
  exact ⟨ao, cap, by rw [e, List.length_map]⟩
structure ModOk (D : List (List Rg)) (C : List Con) : Prop where
  d : D.length ≤ 1000000000000
  dr : ∀ d ∈ D, d.length ≤ 1000000000000
  c : C.length ≤ 1000000000000
  cx : ∀ c ∈ C, c.2.1.length ≤ 1000000000000 ∧ c.2.2.1.length ≤ 1000000000000
theorem same_at {D : List (List Rg)} {C : List Con} {ask goal : Int} (h : ModOk D C) {w0 : World} {pr fz : Fz} {pl : Pl} {w : World} (hS : Sim w0 pr fz pl [] w) {vD vD' vC vC' : Value} (rD : RepF fz (eDoms D) vD) (rD' : RepF fz (eDoms D) vD') (rC : RepF fz (.list 4 (C.map eCon)) vC) (rC' : RepF fz (.list 4 (C.map eCon)) vC') :
    TrueAt 17 (.agg #[vD, vC, .int .i64 ask, .int .i64 goal]) (.agg #[vD', vC', .int .i64 ask, .int .i64 goal]) w := by
  intro W hB
  have hSW := sim_below hS hB
  obtain ⟨ao, ao', cap, cap', rfl, rfl, hrow⟩ := two_rows rC rC'
  rw [List.length_map] at hrow ⊢
  refine same_walk W vD vD' ao ao' C.length cap cap' ask goal (by have := h.c; simpa using this) (true_of (refl_Doms D h.d h.dr) hSW rD rD') (fun h0 => ?_)
  obtain ⟨b, off, b', off', o, o', e1, e2, f1, f2, hc⟩ := hrow h0
  refine ⟨b, off, b', off', e1, e2, sim_lt hSW f1, sim_lt hSW f2, fun j hj => ?_⟩
  obtain ⟨x, hx⟩ : ∃ x, C[j]? = some x := ⟨_, List.getElem?_eq_getElem hj⟩
  obtain ⟨hx1, hx2⟩ := h.cx x (List.mem_of_getElem? hx)
  have hx' : (C.map eCon)[j]? = some (eCon x) := by rw [List.getElem?_map, hx]; rfl
  have hc' := hc W (hSW.frz b o f1) (hSW.frz b' o' f2) j (eCon x) hx'
  obtain ⟨u0, v0, p0, q0, r0, s0⟩ := hc' 0 (.int .i64 x.1) rfl
  obtain ⟨u1, v1, p1, q1, r1, s1⟩ := hc' 1 (.list 1 (x.2.1.map eI)) rfl
  obtain ⟨u2, v2, p2, q2, r2, s2⟩ := hc' 2 (.list 1 (x.2.2.1.map eI)) rfl
  obtain ⟨u3, v3, p3, q3, r3, s3⟩ := hc' 3 (.int .i64 x.2.2.2) rfl
  rw [rF_int r0] at p0
  rw [rF_int s0] at q0
  rw [rF_int r3] at p3
  rw [rF_int s3] at q3
  have t1 := true_of (refl_ints x.2.1 hx1) hSW r1 s1
  have t2 := true_of (refl_nums x.2.2.1 hx2) hSW r2 s2
  obtain ⟨xo, xc, rfl⟩ := slice_I r1
  obtain ⟨xo', xc', rfl⟩ := slice_I s1
  obtain ⟨yo, yc, rfl⟩ := slice_I r2
  obtain ⟨yo', yc', rfl⟩ := slice_I s2
  exact ⟨x.1, x.2.2.2, xo, xo', yo, yo', _, _, _, _, xc, xc', yc, yc', p0, p1, p2, p3, q0, q1, q2, q3, t1, t2⟩
structure BdOk (b : Bd) : Prop where
  m : ModOk b.D b.C
  o : b.O.length ≤ 1000000000000
  ox : ∀ o ∈ b.O, o.x.length ≤ 1000000000000
theorem law_Equal (b : Bd) (h : BdOk b) : Ctr Tryz.prog 7 [eProb b, eProb b] [] (.bool true) [] := by
  refine ctr_by Tryz.call7 (fun fz w0 pr w cs hS hl hr => ?_)
  obtain ⟨vs⟩ := cs
  match vs, hl, hr with
  | [c0, c1], hl, hr =>
    have hflat : (eProb b).flat = true := by rw [eProb_eq]; rfl
    have r0 := (hr 0 _ c0 rfl rfl).flat hflat
    have r1 := (hr 1 _ c1 rfl rfl).flat hflat
    rw [eProb_eq] at r0 r1
    obtain ⟨ps, rfl, hp, -, hpr⟩ := rF_agg r0
    obtain ⟨qs, rfl, hq, -, hqr⟩ := rF_agg r1
    obtain ⟨ps⟩ := ps
    obtain ⟨qs⟩ := qs
    match ps, qs, hp, hq, hpr, hqr with
    | [p0, p1, p2, p3, p4], [q0, q1, q2, q3, q4], hp, hq, hpr, hqr =>
      have a0 := hpr 0 _ p0 rfl rfl
      have a1 := hpr 1 _ p1 rfl rfl
      have a2 := rF_int (hpr 2 _ p2 rfl rfl)
      have a3 := rF_int (hpr 3 _ p3 rfl rfl)
      have a4 := hpr 4 _ p4 rfl rfl
      have b0 := hqr 0 _ q0 rfl rfl
      have b1 := hqr 1 _ q1 rfl rfl
      have b2 := rF_int (hqr 2 _ q2 rfl rfl)
      have b3 := rF_int (hqr 3 _ q3 rfl rfl)
      have b4 := hqr 4 _ q4 rfl rfl
      subst a2; subst a3; subst b2; subst b3
      obtain ⟨ao, ao', cap, cap', rfl, rfl, hrow⟩ := two_rows a4 b4
      rw [List.length_map] at hrow ⊢
      refine equal_walk w p0 q0 p1 q1 ao ao' b.O.length cap cap' b.ask b.goal (by have := h.o; simpa using this) (same_at h.m hS a0 b0 a1 b1) (fun h0 => ?_)
      obtain ⟨bb, off, bb', off', o, o', e1, e2, f1, f2, hc⟩ := hrow h0
      refine ⟨bb, off, bb', off', e1, e2, sim_lt hS f1, sim_lt hS f2, fun j hj => ?_⟩
      obtain ⟨x, hx⟩ : ∃ x, b.O[j]? = some x := ⟨_, List.getElem?_eq_getElem hj⟩
      have hx1 := h.ox x (List.mem_of_getElem? hx)
      have hx' : (b.O.map eOt)[j]? = some (eOt x) := by rw [List.getElem?_map, hx]; rfl
      have hc' := hc w (hS.frz bb o f1) (hS.frz bb' o' f2) j (eOt x) hx'
      obtain ⟨u0, v0, s0, t0, y0, z0⟩ := hc' 0 (.str (S8 x.name)) rfl
      obtain ⟨u1, v1, s1, t1, y1, z1⟩ := hc' 1 (.bool x.bool) rfl
      obtain ⟨u2, v2, s2, t2, y2, z2⟩ := hc' 2 (.bool x.arr) rfl
      obtain ⟨u3, v3, s3, t3, y3, z3⟩ := hc' 3 (.list 1 (x.x.map eI)) rfl
      rw [rF_str y0] at s0
      rw [rF_str z0] at t0
      rw [rF_bool y1] at s1
      rw [rF_bool z1] at t1
      rw [rF_bool y2] at s2
      rw [rF_bool z2] at t2
      have tt := true_of (refl_ints x.x hx1) hS y3 z3
      obtain ⟨xo, xc, rfl⟩ := slice_I y3
      obtain ⟨xo', xc', rfl⟩ := slice_I z3
      exact ⟨S8 x.name, x.bool, x.arr, xo, xo', _, _, xc, xc', s0, s1, s2, s3, t0, t1, t2, t3, tt⟩
end Go.Proofs.YtcmphhedaefcgaaGreatDoor
end
section
namespace Go.Proofs.YtcmphhedaefcgaaGreatDoor
open Av
attribute [local irreducible] awp AbX
structure Inv (b : Bd) : Prop where
  d : b.D.length ≤ 64
  dr : ∀ d ∈ b.D, d.length ≤ 1000000000000
  c : b.C.length ≤ 64
  cx : ∀ c ∈ b.C, c.2.1.length ≤ 1000000000000 ∧ c.2.2.1.length ≤ 1000000000000
  o : b.O.length ≤ 64
  ox : ∀ o ∈ b.O, o.x.length ≤ 1000000000000
theorem Inv.bd {b : Bd} (h : Inv b) : BdOk b := ⟨⟨by have := h.d; omega, h.dr, by have := h.c; omega, h.cx⟩, by have := h.o; omega, h.ox⟩
theorem Inv.like {b b' : Bd} (h : Inv b) (hD : b'.D = b.D) (hC : b'.C = b.C) (hO : b'.O = b.O) : Inv b' := ⟨by rw [hD]; exact h.d, by rw [hD]; exact h.dr, by rw [hC]; exact h.c, by rw [hC]; exact h.cx, by rw [hO]; exact h.o, by rw [hO]; exact h.ox⟩
theorem inv_0 : Inv bd0 := ⟨Nat.zero_le _, fun d h => (by cases h), Nat.zero_le _, fun d h => (by cases h), Nat.zero_le _, fun d h => (by cases h)⟩
theorem BsY {b : Bd} (k : Bool) (r : Int) (h : Inv b) : Inv (AbQ k r b) := h.like (fS_D _ _ _) (fS_C _ _ _) (fS_O _ _ _)
theorem inv_l {b : Bd} (s : Bs) (h : Inv b) : Inv (AqX s b) := BsY _ _ h
theorem e_f {k : Bool} {r : Int} {b : Bd} (hr : r ≠ 0) (h : (AbQ k r b).e = 0) : k = true ∧ b.e = 0 := by
  unfold AbQ at h
  split at h
  · exact absurd h hr
  · rename_i hn
    refine ⟨?_, h⟩
    cases k with
    | true => rfl
    | false => exact absurd ⟨rfl, h⟩ hn
theorem fR_no {k : Bool} {r : Int} {b : Bd} (hr : r ≠ 0) (h : ¬ AuY k r b = true) : k = true ∧ b.e = 0 := by
  unfold AuY at h
  rw [decide_eq_true_eq] at h
  exact e_f hr (Decidable.byContradiction h)
theorem inv_fresh {b : Bd} (d : List Rg) (h : Inv b) (hd : d.length ≤ 1000000000000) : Inv (BcZ d b).2 := by
  unfold BcZ
  split
  · exact BsY _ _ h
  · rename_i hn
    obtain ⟨k, -⟩ := fR_no (by decide) hn
    have k := of_decide_eq_true k
    have h1 := BsY (decide (b.D.length < 64)) 3 h
    refine ⟨?_, ?_, h1.c, h1.cx, h1.o, h1.ox⟩
    · show (b.D ++ [d]).length ≤ 64
      rw [List.length_append, List.length_singleton]; omega
    · intro x hx
      rcases List.mem_append.1 hx with hx | hx
      · exact h.dr x hx
      · rw [List.mem_singleton] at hx; subst hx; exact hd
theorem inv_post {b : Bd} (c : Con) (h : Inv b) (hc : b.e = 0 → c.2.1.length ≤ 1000000000000 ∧ c.2.2.1.length ≤ 1000000000000) : Inv (postS c b) := by
  unfold postS
  split
  · exact BsY _ _ h
  · rename_i hn
    obtain ⟨k, he⟩ := fR_no (by decide) hn
    have k := of_decide_eq_true k
    have h1 := BsY (decide (b.C.length < 64)) 3 h
    refine ⟨h1.d, h1.dr, ?_, ?_, h1.o, h1.ox⟩
    · show (b.C ++ [c]).length ≤ 64
      rw [List.length_append, List.length_singleton]; omega
    · intro x hx
      rcases List.mem_append.1 hx with hx | hx
      · exact h.cx x hx
      · rw [List.mem_singleton] at hx; subst hx; exact hc he
theorem inv_const {b : Bd} (x : Ex) (t : Bool) (h : Inv b) : Inv (AhY x t b).2 := by
  unfold AhY
  repeat' split
  · exact inv_l _ h
  · exact BsY _ _ (inv_l _ h)
  · exact BsY _ _ (inv_l _ h)
  · exact BsY _ _ h
  · exact BsY _ _ (BsY _ _ h)
theorem inv_consts : ∀ (l : List Ex) (t : Bool) {b : Bd}, Inv b → Inv (AyY l t b).2
  | [], _, _, h => h
  | x :: l, t, b, h => inv_consts l t (inv_const x t h)
theorem inv_pin {b : Bd} (v : Int) (h : Inv b) : Inv (pinS v b).2 := by
  have h1 := inv_fresh [(v, v)] h (by show 1 ≤ 1000000000000; decide)
  unfold pinS
  split
  · exact h
  · show Inv (if _ then _ else _)
    split
    · exact ⟨h1.d, h1.dr, h1.c, h1.cx, h1.o, h1.ox⟩
    · exact h1
theorem inv_pins : ∀ (l : List Int) {b : Bd}, Inv b → Inv (pinsS l b).2
  | [], _, h => h
  | x :: l, b, h => inv_pins l (inv_pin x h)
theorem inv_var {b : Bd} (x : Ex) (t : Bool) (h : Inv b) : Inv (varS x t b).2 := by
  unfold varS
  split
  · exact BsY _ _ h
  · exact inv_pin _ (inv_const x t h)
theorem inv_vars : ∀ (l : List Ex) (t : Bool) {b : Bd}, Inv b → Inv (varsS l t b).2
  | [], _, _, h => h
  | x :: l, t, b, h => inv_vars l t (inv_var x t h)
theorem inv_arr {b : Bd} (x : Ex) (t : Bool) (ks : List Int) (h : Inv b) : Inv (arrS x t ks b).2 := by
  unfold arrS
  split
  · exact inv_l _ h
  · exact BsY _ _ (inv_l _ h)
theorem inv_ints {b : Bd} (x : Ex) (h : Inv b) : Inv (intsS x b).2 := by
  unfold intsS
  split
  · exact inv_consts _ _ h
  · exact inv_arr _ _ _ h
theorem inv_many {b : Bd} (x : Ex) (t : Bool) (h : Inv b) : Inv (manyS x t b).2 := by
  unfold manyS
  split
  · exact inv_vars _ _ h
  · split
    · exact inv_arr _ _ _ h
    · exact inv_pins _ (inv_arr _ _ _ h)
theorem inv_arg {b : Bd} (K sg : Int) (x : Ex) (c : UInt8) (s : CA) (h : Inv b) : Inv (argS K sg x c s b).2 := by
  unfold argS
  repeat' split
  · exact inv_const _ _ h
  · exact inv_ints _ h
  · exact inv_var _ _ h
  · exact inv_many _ _ h
  · exact inv_many _ _ h
theorem inv_args (K : Int) : ∀ (l : List Ex) (a : Bs) (sg : Int) (s : CA) {b : Bd}, Inv b → Inv (argsS K sg l a s b).2
  | [], a, sg, s, b, h => by unfold argsS; exact h
  | x :: l, [], sg, s, b, h => by unfold argsS; exact h
  | x :: l, c :: r, sg, s, b, h => by rw [argsS_cons]; exact inv_args K l r _ _ (inv_arg K sg x c s h)
theorem arg_A (K sg : Int) (x : Ex) (c : UInt8) (s : CA) (b : Bd) (hw : WfK b.kn) (hl : x.l.length ≤ 1000000) : (argS K sg x c s b).1.2.1.length ≤ s.2.1.length + 1000000 := by
  unfold argS
  repeat' split
  · exact Nat.le_add_right _ _
  · show (s.2.1 ++ (intsS x b).1).length ≤ _
    have := intsS_len x b hw hl
    rw [List.length_append]; omega
  · exact Nat.le_add_right _ _
  · show (s.2.1 ++ List.replicate _ _).length ≤ _
    rw [List.length_append, List.length_replicate]
    have := manyS_len x (decide ((c.toNat : Int) = 66)) b hw hl
    omega
  · exact Nat.le_add_right _ _
theorem args_A (K : Int) : ∀ (l : List Ex) (a : Bs) (sg : Int) (s : CA) (b : Bd), WfK b.kn → (∀ v ∈ l, v.l.length ≤ 1000000) → (argsS K sg l a s b).1.2.1.length ≤ s.2.1.length + lim l.length
  | [], a, sg, s, b, _, _ => by unfold argsS; exact Nat.le_add_right _ _
  | x :: l, [], sg, s, b, _, _ => by unfold argsS; exact Nat.le_add_right _ _
  | x :: l, c :: r, sg, s, b, hw, hl => by
    rw [argsS_cons]
    have h1 := args_A K l r (-1) (argS K sg x c s b).1 (argS K sg x c s b).2 (by rw [argS_kn]; exact hw) (fun v hv => hl v (List.mem_cons_of_mem _ hv))
    have h2 := arg_A K sg x c s b hw (hl x List.mem_cons_self)
    rw [List.length_cons, lim_s]; omega
theorem inv_con {b : Bd} (x : It) (h : Inv b) (hw : WfK b.kn) (hl : x.vals.length ≤ 1000000) (hls : ∀ v ∈ x.vals, v.l.length ≤ 1000000) : Inv (conS x b) := by
  have key : ∀ b, Inv b → WfK b.kn → Inv (conS1 x b) := by
    intro b h hw
    unfold conS1
    have h1 : Inv (conS0 x b).2 := inv_args _ _ _ _ _ h
    refine inv_post _ (BsY _ _ (BsY _ _ h1)) (fun he => ?_)
    obtain ⟨k, -⟩ := e_f (by decide) he
    have k := of_decide_eq_true k
    have hA := args_A (AlX x.name).1 x.vals (AlX x.name).2 1 ([], [], 0) b hw hls
    have hlim := lim_le x.vals.length hl
    refine ⟨?_, ?_⟩
    · show (conS0 x b).1.1.length ≤ 1000000000000
      have h32 : 32 ≤ 1000000000000 := by decide
      exact Nat.le_trans k h32
    · show (conS0 x b).1.2.1.length ≤ 1000000000000
      have hA' : (conS0 x b).1.2.1.length ≤ 0 + lim x.vals.length := hA
      rw [Nat.zero_add] at hA'
      exact Nat.le_trans hA' hlim
  unfold conS
  repeat' split
  · exact BsY _ _ h
  · exact BsY _ _ (BsY _ _ h)
  · exact key _ (BsY _ _ (BsY _ _ h)) (by rw [AoZ, AoZ]; exact hw)
theorem inv_doms : ∀ (l : List Rg) {b : Bd}, Inv b → Inv (domsF l b)
  | [], _, h => h
  | r :: l, b, h => inv_doms l (BsY _ _ h)
theorem dec_len (x : It) (hx : x.dom.length ≤ 900000000000) : (decD x).length ≤ 1000000000000 := by
  unfold decD
  split
  · decide
  · unfold unionS
    have h1 := unK_len (l := sortV x.dom) (sortV x.dom).length (Nat.le_refl _)
    have h2 : (sortV x.dom).length = x.dom.length := (sortV_perm x.dom).length_eq
    have h3 : 900000000000 ≤ 1000000000000 := by decide
    omega
theorem inv_declare {b : Bd} (x : It) (hx : x.dom.length ≤ 900000000000) (h : Inv b) : Inv (AoX x b).2 := by
  have h1 := inv_fresh (decD x) (inv_doms x.dom h) (dec_len x hx)
  unfold AoX
  split
  · exact h1
  · refine inv_post _ (inv_var _ _ h1) (fun _ => ⟨?_, ?_⟩)
    · show 2 ≤ 1000000000000; decide
    · show 0 ≤ 1000000000000; decide
theorem inv_valsF : ∀ (l : List Ex) {b : Bd}, Inv b → Inv (valsF l b)
  | [], _, h => h
  | r :: l, b, h => inv_valsF l (BsY _ _ h)
theorem inv_list {b : Bd} (x : It) (h : Inv b) : Inv (listS x b).2 := by
  have h1 : Inv (listS1 x b) := inv_valsF _ (BsY _ _ h)
  unfold listS
  split
  · exact inv_consts _ _ h1
  · exact inv_vars _ _ h1
theorem inv_goal {b : Bd} (x : It) (h : Inv b) : Inv (goalB x b) := by
  have h1 : Inv (AuX x b) := ⟨h.d, h.dr, h.c, h.cx, h.o, h.ox⟩
  unfold goalB
  split
  · exact h1
  split
  · exact inv_l _ h1
  split
  · exact BsY _ _ (inv_l _ h1)
  · have h2 := BsY (decide ((thOf x.name b).kind = 2) && !(thOf x.name b).truth) 9 (inv_l x.name h1)
    exact ⟨h2.d, h2.dr, h2.c, h2.cx, h2.o, h2.ox⟩
theorem inv_name {b : Bd} (x : It) (t : Th) (h : Inv b) (ht : t.x.length ≤ 1000000000000) : Inv (nameS x t b) := by
  have h1 : Inv (BlZ x t b) := ⟨h.d, h.dr, h.c, h.cx, h.o, h.ox⟩
  unfold nameS
  split
  · exact h1
  split
  · exact BsY _ _ h1
  · rename_i hn
    obtain ⟨k, -⟩ := fR_no (by decide) hn
    have k := of_decide_eq_true k
    have h2 := BsY (decide (b.O.length < 64)) 3 h1
    refine ⟨h2.d, h2.dr, h2.c, h2.cx, ?_, ?_⟩
    · show (b.O ++ [_]).length ≤ 64
      rw [List.length_append, List.length_singleton]; omega
    · intro y hy
      rcases List.mem_append.1 hy with hy | hy
      · exact h.ox y hy
      · rw [List.mem_singleton] at hy; subst hy; exact ht
theorem inv_itemK {b : Bd} (x : It) (hx : x.Small) (h : Inv b) (hw : WfK b.kn) : Inv (itemK x b) := by
  unfold itemK
  split
  · exact inv_name _ _ (BsY _ _ h) (by show 0 ≤ 1000000000000; decide)
  split
  · exact inv_name _ _ (inv_declare x hx.fine.dlen h) (by rw [declareS_x]; decide)
  split
  · exact inv_name _ _ (inv_list x h) (by have := (listS_len x b hx.vlen).2; have h3 : 1000000 ≤ 1000000000000 := by decide
                                          omega)
  split
  · exact inv_con x h hw hx.vlen hx.llen
  split
  · exact inv_goal x h
  · exact h
theorem inv_item {b : Bd} (x : It) (hx : x.Small) (h : Inv b) (hw : WfK b.kn) : Inv (itemB x b) := by
  have h1 : Inv (itemB1 x b) := BsY _ _ h
  have h2 : Inv (itemB2 x b) := BsY _ _ h1
  have h3 : Inv (itemB3 x b) := BsY _ _ h2
  unfold itemB
  split
  · exact h1
  split
  · exact h2
  split
  · exact h3
  · exact inv_itemK x hx h3 (by rw [itemB3_kn]; exact hw)
theorem inv_build : ∀ (l : List It) (k : Int) (b : Bd), (∀ x ∈ l, x.Small) → Inv b → WfK b.kn → Inv (buildF l k b).1
  | [], k, b, _, h, _ => by
    show Inv (if b.sv = true then (b, (0 : Int), (0 : Int)) else (bd0, k, 11)).1
    split
    · exact h
    · exact inv_0
  | x :: l, k, b, hs, h, hw => by
    rw [buildF_cons]
    split
    · exact inv_build l (k + 1) (itemB x b) (fun y hy => hs y (List.mem_cons_of_mem _ hy)) (inv_item x (hs x List.mem_cons_self) h hw) (itemB_wf x (hs x List.mem_cons_self) b hw)
    · exact inv_0
theorem build_ok (l : List It) (hs : ∀ x ∈ l, x.Small) : BdOk (buildS l).1 := (inv_build l 0 bd0 hs inv_0 (fun s t h => (by cases h))).bd
end Go.Proofs.YtcmphhedaefcgaaGreatDoor
end
section
namespace Go.Proofs.YtcmphhedaefcgaaGreatDoor
open Av
attribute [local irreducible] awp AbX
attribute [local irreducible] awX opX
set_option maxRecDepth 100000
set_option maxHeartbeats 4000000
theorem one_Build (l:List It) (hl:l.length≤1000000000000) (hs:∀ x∈l,x.Small):Ctr Tryz.prog 5 [.list 8 (l.map eIt)] [] (.tuple [eProb (buildS l).1,.int .i64 (buildS l).2.1,.int .i64 (buildS l).2.2]) []:=bld_Build (fun s n hn=>rep_ctr s n hn) l hl hs
def sayS:Bs:=[115,111,108,118,101,32,115,97,116,105,115,102,121,59]
def say0:It:=⟨6,[],false,[],0,false,[],0⟩
theorem say_lex:LexR sayS [wdK BlQ,wdK kSat,wdS [59]] :=
 ApX BlQ _ _ (by decide) rfl (AkX 32 _ _ (by decide) (ApX kSat _ _ (by decide) rfl (AsX 59 [] [] (by decide) .nil)))
theorem say_parse:BtZ sayS=.ok [say0]:=by
 rw [(parse_lexR say_lex (by decide) (by decide)).1]
 rfl
theorem say_right:AdX say0=true:=by
 have h:=(parse_lexR say_lex (by decide) (by decide)).2
 have e:BaY say0=(sayS,true):=rfl
 unfold AdX fitsB
 rw [e]
 simp only [h,decide_true,Bool.and_self]
theorem say_build:buildS [say0]=(⟨[],[],0,0,[],[],[],true,0⟩,0,0):=by
 have e:itemB say0 bd0=⟨[],[],0,0,[],[],[],true,0⟩:=by
  unfold itemB itemB3 itemB2 itemB1
  rw [say_right]
  rfl
 show buildF [say0] 0 bd0=_
 rw [buildF_cons,e]
 rfl
theorem say_small:∀ x∈[say0],x.Small:=by
 intro x hx
 rw [List.mem_singleton] at hx;subst hx
 exact ⟨⟨Nat.zero_le _,zeroB,Nat.zero_le _,fun r h=>(by cases h),Nat.zero_le _,fun r h=>(by cases h)⟩,Nat.zero_le _,fun r h=>(by cases h)⟩
theorem wrong_ne (l:List Tok):wrongE l≠0:=by
 cases l with
 | nil=>exact (by decide:¬ (6:Int)=0)
 | cons t l=>exact (by decide:¬ (5:Int)=0)
theorem AkQ {α β:Type} {x:PR α} {f:α→List Tok→PR β} (h1:x≠.error 0) (h2:∀ a l,f a l≠.error 0):andP x f≠.error 0:=by
 cases x with
 | ok p=>obtain ⟨a,l⟩:=p;exact h2 a l
 | error e=>intro h;injection h with h;subst h;exact h1 rfl
theorem err_ne {α:Type} {e:Int} (h:e≠0):(.error e:PR α)≠.error 0:=fun k=>by injection k with k;exact h k
theorem BkZ {α:Type} {p:α × List Tok}:(.ok p:PR α)≠.error 0:=fun k=>by cases k
theorem BcX {α:Type} {c:Prop} [Decidable c] {x y:PR α} (h1:x≠.error 0) (h2:y≠.error 0):(if c then x else y)≠.error 0:=by split <;> assumption
theorem BeZ:∀ (ss:List Bs) (l:List Tok),AeQ ss l≠.error 0
 | [],l=>BkZ
 | s::ss,l=>BcX (BeZ ss l.tail) (err_ne (wrong_ne l))
theorem name_ne (l:List Tok):BiQ l≠.error 0:=by
 cases l with
 | nil=>exact err_ne (by decide)
 | cons t l=>exact BcX BkZ (err_ne (by decide))
theorem num_ne (l:List Tok):numP l≠.error 0:=by
 cases l with
 | nil=>exact err_ne (by decide)
 | cons t l=>exact BcX BkZ (err_ne (by decide))
theorem exact_ne (n:Int) (l:List Tok):BmY n l≠.error 0:=by
 cases l with
 | nil=>exact err_ne (by decide)
 | cons t l=>exact BcX BkZ (err_ne (by decide))
theorem plain_ne (l:List Tok):AjQ l≠.error 0:=by
 cases l with
 | nil=>exact err_ne (by decide)
 | cons t l=>exact BcX BkZ (BcX BkZ (BcX BkZ (BcX BkZ (err_ne (by decide)))))
theorem exprsF_ne {α:Type} (one:List Tok→PR α) (e:Bs) (h1:∀ l,one l≠.error 0):∀ (k:Nat) (l:List Tok),BmX one e k l≠.error 0
 | 0,_=>err_ne (by decide)
 | k+1,l=>AkQ (h1 l) fun x l1=>BcX BkZ (AkQ (BeZ _ _) fun _ l2=>AkQ (exprsF_ne one e h1 k l2) fun _ _=>BkZ)
theorem exprs_ne {α:Type} (one:List Tok→PR α) (e:Bs) (h1:∀ l,one l≠.error 0) (l:List Tok):BdY one e l≠.error 0:=BcX BkZ (exprsF_ne one e h1 64 l)
theorem expr_ne (l:List Tok):exprP l≠.error 0:=BcX (AkQ (exprs_ne _ _ plain_ne _) fun _ _=>BkZ) (AkQ (plain_ne l) fun _ _=>BkZ)
theorem set_ne:∀ (k:Nat) (l:List Tok),setF k l≠.error 0
 | 0,_=>err_ne (by decide)
 | k+1,l=>AkQ (num_ne l) fun x l1=>BcX BkZ (AkQ (BeZ _ _) fun _ l2=>AkQ (set_ne k l2) fun _ _=>BkZ)
theorem dom_ne (l:List Tok):domP l≠.error 0:=BcX BkZ (BcX (AkQ (set_ne _ _) fun _ _=>BkZ) (AkQ (num_ne _) fun _ _=>AkQ (BeZ _ _) fun _ _=>AkQ (num_ne _) fun _ _=>BkZ))
theorem out_ne (l:List Tok):outP l≠.error 0:=BcX (AkQ (BeZ _ _) fun _ _=>BkZ) BkZ
theorem init_ne (l:List Tok):initP l≠.error 0:=BcX (AkQ (plain_ne _) fun _ _=>BkZ) BkZ
theorem variable_ne (l:List Tok):BgZ l≠.error 0:=AkQ (dom_ne _) fun _ _=>AkQ (BeZ _ _) fun _ _=>AkQ (name_ne _) fun _ _=>AkQ (out_ne _) fun _ _=>AkQ (init_ne _) fun _ _=>BkZ
theorem truth_ne (l:List Tok):truthP l≠.error 0:=BcX BkZ (AkQ (BeZ _ _) fun _ _=>BkZ)
theorem outA_ne (v:Bool) (z:Int) (l:List Tok):outAP v z l≠.error 0:=BcX (AkQ (BeZ _ _) fun _ _=>AkQ (exact_ne _ _) fun _ _=>AkQ (BeZ _ _) fun _ _=>AkQ (exact_ne _ _) fun _ _=>AkQ (BeZ _ _) fun _ _=>BkZ) BkZ
theorem array_ne (l:List Tok):arrayP l≠.error 0:=AkQ (BeZ _ _) fun _ _=>AkQ (exact_ne _ _) fun _ _=>AkQ (BeZ _ _) fun _ _=>AkQ (num_ne _) fun _ _=>AkQ (BeZ _ _) fun _ _=>AkQ (truth_ne _) fun _ _=>AkQ (BeZ _ _) fun _ _=>AkQ (name_ne _) fun _ _=>AkQ (outA_ne _ _ _) fun _ _=>AkQ (BeZ _ _) fun _ _=>AkQ (exprs_ne _ _ plain_ne _) fun _ _=>BkZ
theorem par_ne (l:List Tok):parP l≠.error 0:=AkQ (truth_ne _) fun _ _=>AkQ (BeZ _ _) fun _ _=>AkQ (name_ne _) fun _ _=>AkQ (BeZ _ _) fun _ _=>BcX (err_ne (wrong_ne _)) (AkQ (plain_ne _) fun _ _=>BkZ)
theorem goal_ne (l:List Tok):goalP l≠.error 0:=BcX BkZ (BcX (AkQ (name_ne _) fun _ _=>BkZ) (BcX (AkQ (name_ne _) fun _ _=>BkZ) (err_ne (wrong_ne _))))
theorem item_ne (l:List Tok):itemP l≠.error 0:=BcX (par_ne _) (BcX (variable_ne _) (BcX (array_ne _) (BcX (AkQ (name_ne _) fun _ _=>AkQ (BeZ _ _) fun _ _=>AkQ (exprs_ne _ _ expr_ne _) fun _ _=>BkZ) (BcX (goal_ne _) (err_ne (wrong_ne _))))))
theorem all_ne:∀ (k:Nat) (l:List Tok),allF k l≠.error 0
 | k,[]=>by cases k <;> (intro h;cases h)
 | 0,t::l=>fun h=>by injection h with h;cases h
 |
  k+1,t::l=>by
  rw [allF_one]
  have h1:oneP (t::l)≠.error 0:=AkQ (item_ne _) fun _ _=>AkQ (BeZ _ _) fun _ _=>BkZ
  cases h:oneP (t::l) with
  |
   ok p =>
   obtain ⟨x,l2⟩:=p
   simp only
   cases hr:allF k l2 with
   | ok r=>intro h;cases h
   | error e=>intro h2;injection h2 with h2;subst h2;exact all_ne k l2 hr
  | error e=>intro h2;injection h2 with h2;subst h2;exact h1 h
theorem parse_ne (s:Bs):BtZ s≠.error 0:=by
 unfold BtZ
 cases h:lexS s with
 | ok ts=>exact all_ne 512 ts
 | error e=>intro h2;injection h2 with h2;subst h2;exact lexS_ne s h
theorem law_shown (s:Bs):Ctr Tryz.prog 3 [.str (S8 s)] [] (.bool true) []:=by
 have p0:=parse_Text sayS (by decide)
 rw [say_parse,textV_ok] at p0
 have b0:=one_Build [say0] (by decide) say_small
 rw [say_build] at b0
 have p0':Ctr Tryz.prog 4 [.str (S8 [115,111,108,118,101,32,115,97,116,105,115,102,121,59])] [] (.tuple [.list 8 [eIt say0],.int .i64 0,.int .i64 0]) []:=p0
 have b0':Ctr Tryz.prog 5 [.list 8 [eIt say0]] [] (.tuple [.agg [.list 1 [],.list 4 [],.int .i64 0,.int .i64 0,.list 4 []],.int .i64 0,.int .i64 0]) []:=b0
 refine AcZ Tryz.func3 Tryz.call3 e_top_WholeShown ?_
 simp +contextual -implicitDefEqProofs only [sm,c_top_WholeShown,seval]
 refine AaY p0' (AaQ _) rfl ?_
 simp +contextual -implicitDefEqProofs only [sm,seval]
 refine AaY b0' (by simp +contextual -implicitDefEqProofs only [sm,seval]) rfl ?_
 simp +contextual -implicitDefEqProofs only [sm,seval]
 split
 · trivial
 rename_i hlen
 have hlen:s.length≤2000:=by omega
 have p1:=parse_Text s (by omega)
 cases hp:BtZ s with
 |
  error e =>
  have he:e≠0:=fun h=>by subst h;exact parse_ne s hp
  rw [hp,textV_err] at p1
  refine AaY p1 (AaQ _) rfl ?_
  have q1:=show_Text [] (fun x h=>(by cases h)) (Nat.zero_le _)
  generalize showS []=r at q1
  obtain ⟨t,f⟩:=r
  rw [tvV_mk] at q1
  simp +contextual -implicitDefEqProofs only [sm,seval]
  refine AaY q1 (by simp +contextual -implicitDefEqProofs only [sm,seval]) rfl ?_
  simp +contextual -implicitDefEqProofs only [sm,seval,he]
  try exact (0:Nat)
 |
  ok its =>
  rw [hp,textV_ok] at p1
  obtain ⟨t,r1,r2,r3,r4,r5⟩:=round_text hlen hp
  have hsm:∀ x∈its,x.Small:=fun x hx=>⟨(r5 x hx).1,by have:=(r5 x hx).2.1;omega,fun v hv=>by have:=(r5 x hx).2.2 v hv;omega⟩
  have q1:=show_Text its (fun x hx=>(r5 x hx).1) (by omega)
  rw [r1,tvV_mk] at q1
  have p2:=parse_Text t (by omega)
  rw [r2,textV_ok] at p2
  have b1:=one_Build its (by omega) hsm
  have hok:=build_ok its hsm
  generalize buildS its=R at b1 hok
  obtain ⟨b,i,e⟩:=R
  have t1:=top_built b hok.o
  have t2:=law_Equal b hok
  refine AaY p1 (AaQ _) rfl ?_
  simp +contextual -implicitDefEqProofs only [sm,seval]
  refine AaY q1 (by simp +contextual -implicitDefEqProofs only [sm,seval]) rfl ?_
  simp +contextual -implicitDefEqProofs only [sm,seval]
  refine AaY p2 (by simp +contextual -implicitDefEqProofs only [sm,seval]) rfl ?_
  simp +contextual -implicitDefEqProofs only [sm,seval]
  refine AaY b1 (by simp +contextual -implicitDefEqProofs only [sm,seval]) rfl ?_
  simp +contextual -implicitDefEqProofs only [sm,seval,eProb_eq]
  refine AaY b1 (by simp +contextual -implicitDefEqProofs only [sm,seval]) rfl ?_
  simp +contextual -implicitDefEqProofs only [sm,seval,eProb_eq]
  rw [eProb_eq] at t1 t2
  refine AaY t1 (by simp +contextual -implicitDefEqProofs only [sm,seval]) rfl ?_
  simp +contextual -implicitDefEqProofs only [sm,seval]
  refine AaY t2 (by simp +contextual -implicitDefEqProofs only [sm,seval]) rfl ?_
  simp +contextual -implicitDefEqProofs only [sm,seval]
end Go.Proofs.YtcmphhedaefcgaaGreatDoor
end
