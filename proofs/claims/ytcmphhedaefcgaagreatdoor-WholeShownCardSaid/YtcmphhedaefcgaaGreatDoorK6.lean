/- What show.Text computes. -/
import Derived.Test.YtcmphhedaefcgaaGreatDoorProg
import Derived.Lib.Builder
import Derived.Lib.AppendStr
import Derived.Lib.FrozenHead
import Derived.Laws.Externs
import Derived.Laws.IdiomCopy
import Derived.WalkKit
import Derived.Test.YtcmphhedaefcgaaGreatDoorK3
import Derived.Test.YtcmphhedaefcgaaGreatDoorK5
set_option linter.unusedVariables false
set_option linter.unusedSimpArgs false
section
namespace Go.Proofs.YtcmphhedaefcgaaGreatDoor
open Av
set_option maxRecDepth 100000
def kd_CShow (f:Nat):Nat:=if f=131 then 1 else 0
def c_show_num:AFunc:=⟨5,[.tmp 2],
 .seq (.region (zo 2 (.mov (.val (.str (S8 []))))::[])) <|
 .seq (.region (zm 3 0::zo 4 (.call (.val (.fn (.func 132) [])) [(.tmp 3),(.val (.int .i64 10))])::zm 2 4::[])) <|
 .ret⟩
theorem e_show_num:AgY Tryz.prog kd_CShow Tryz.f115=some c_show_num:=by kernel_rfl
def c_show_name:AFunc:=⟨44,[.tmp 2],
 .seq (.region (zo 2 (.mov (.val (.bool false)))::[])) <|
 .seq (.region (zm 7 0::zo 8 (.call (.val (.fn (.func 9) [])) [(.tmp 7)])::zm 6 8::zx 9 6 0::zx 10 6 1::zx 11 6 2::zm 3 9::zm 4 10::zm 5 11::[])) <|
 .seq (.seq (.region (zm 12 5::zo 13 (.bin .neq (.tmp 12) (.val (.int .i64 0)))::zm 14 13::zg 15 (.mov (.tmp 3)) 14 false::zg 16 (.len false (.tmp 15)) 14 false::zg 17 (.bin .neq (.tmp 16) (.val (.int .i64 1))) 14 false::zo 18 (.pick (.tmp 14) (.val (.bool true)) (.tmp 17))::zm 19 18::zg 20 (.mov (.tmp 3)) 19 false::zg 21 (.iaddr 4 (.tmp 20) (.val (.int .i64 0))) 19 false::zg 22 (.faddr 0 (.tmp 21)) 19 false::zg 23 (.load false 1 (.tmp 22)) 19 false::zg 24 (.bin .neq (.tmp 23) (.val (.int .i64 1))) 19 false::zo 25 (.pick (.tmp 19) (.val (.bool true)) (.tmp 24))::zm 26 25::zg 27 (.mov (.tmp 3)) 26 false::zg 28 (.iaddr 4 (.tmp 27) (.val (.int .i64 0))) 26 false::zg 29 (.faddr 1 (.tmp 28)) 26 false::zg 30 (.load false 1 (.tmp 29)) 26 false::zg 31 (.mov (.tmp 0)) 26 false::zg 32 (.bin .neq (.tmp 30) (.tmp 31)) 26 false::zo 33 (.pick (.tmp 26) (.val (.bool true)) (.tmp 32))::[])) <|
 .cond (.tmp 33) (.seq (.region (zo 2 (.mov (.val (.bool false)))::[])) <|
  .ret) <|
 .skip) <|
 .seq (.region (zm 35 0::zo 36 (.bin .add (.val (.str (S8 [115,111,108,118,101,32,109,105,110,105,109,105,122,101,32]))) (.tmp 35))::zo 37 (.bin .add (.tmp 36) (.val (.str (S8 [59]))))::zo 38 (.call (.val (.fn (.func 4) [])) [(.tmp 37)])::zm 34 38::zx 39 34 0::zx 40 34 1::zx 41 34 2::zm 5 41::[])) <|
 .seq (.region (zm 42 5::zq 43 42 0::zm 2 43::[])) <|
 .ret⟩
theorem e_show_name:AgY Tryz.prog kd_CShow Tryz.f113=some c_show_name:=by kernel_rfl
def AqZ:AFunc:=⟨64,[.tmp 2,.tmp 3],
 .seq (.region (zo 1 (.box 4 (.tmp 0))::zo 2 (.mov (.val (.str (S8 []))))::zo 3 (.mov (.val (.bool false)))::[])) <|
 .seq (.seq (.region (zf 4 3 1::zl 5 1 4::zo 6 (.len false (.tmp 5))::zo 7 (.bin .gtr (.tmp 6) (.val (.int .i64 0)))::[])) <|
 .cond (.tmp 7) (.seq (.region (zo 2 (.mov (.val (.str (S8 []))))::zo 3 (.mov (.val (.bool false)))::[])) <|
  .ret) <|
 .skip) <|
 .seq (.block 0 (.seq (.region (zf 9 0 1::zl 10 1 9::zq 11 10 1::zm 12 11::zg 13 (.faddr 2 (.tmp 1)) 12 true::zg 14 (.load false 1 (.tmp 13)) 12 true::zg 15 (.bin .eql (.tmp 14) (.val (.str (S8 [])))) 12 true::zo 16 (.pick (.tmp 12) (.tmp 15) (.val (.bool false)))::zm 8 16::[])) <|
  .cond (.tmp 8) (.seq (.region (zf 17 1 1::zl 18 1 17::zo 19 (.call (.val (.fn (.func 115) [])) [(.tmp 18)])::zm 2 19::zo 3 (.mov (.val (.bool true)))::[])) <|
   .ret) <|
  .seq (.region (zf 21 0 1::zl 22 1 21::zq 23 22 2::zm 24 23::zg 25 (.faddr 2 (.tmp 1)) 24 true::zg 26 (.load false 1 (.tmp 25)) 24 true::zg 27 (.bin .eql (.tmp 26) (.val (.str (S8 [])))) 24 true::zo 28 (.pick (.tmp 24) (.tmp 27) (.val (.bool false)))::zm 29 28::zg 30 (.faddr 1 (.tmp 1)) 29 true::zg 31 (.load false 1 (.tmp 30)) 29 true::zg 32 (.bin .eql (.tmp 31) (.val (.int .i64 1))) 29 true::zo 33 (.pick (.tmp 29) (.tmp 32) (.val (.bool false)))::zm 20 33::[])) <|
  .cond (.tmp 20) (.seq (.region (zo 2 (.mov (.val (.str (S8 [116,114,117,101]))))::zo 3 (.mov (.val (.bool true)))::[])) <|
   .ret) <|
  .seq (.region (zf 35 0 1::zl 36 1 35::zq 37 36 2::zm 38 37::zg 39 (.faddr 2 (.tmp 1)) 38 true::zg 40 (.load false 1 (.tmp 39)) 38 true::zg 41 (.bin .eql (.tmp 40) (.val (.str (S8 [])))) 38 true::zo 42 (.pick (.tmp 38) (.tmp 41) (.val (.bool false)))::zm 43 42::zg 44 (.faddr 1 (.tmp 1)) 43 true::zg 45 (.load false 1 (.tmp 44)) 43 true::zg 46 (.bin .eql (.tmp 45) (.val (.int .i64 0))) 43 true::zo 47 (.pick (.tmp 43) (.tmp 46) (.val (.bool false)))::zm 34 47::[])) <|
  .cond (.tmp 34) (.seq (.region (zo 2 (.mov (.val (.str (S8 [102,97,108,115,101]))))::zo 3 (.mov (.val (.bool true)))::[])) <|
   .ret) <|
  .seq (.region (zf 49 0 1::zl 50 1 49::zq 51 50 3::zm 52 51::zg 53 (.faddr 1 (.tmp 1)) 52 true::zg 54 (.load false 1 (.tmp 53)) 52 true::zg 55 (.bin .eql (.tmp 54) (.val (.int .i64 0))) 52 true::zo 56 (.pick (.tmp 52) (.tmp 55) (.val (.bool false)))::zm 57 56::zg 58 (.faddr 2 (.tmp 1)) 57 true::zg 59 (.load false 1 (.tmp 58)) 57 true::zg 60 (.call (.val (.fn (.func 113) [])) [(.tmp 59)]) 57 true::zo 61 (.pick (.tmp 57) (.tmp 60) (.val (.bool false)))::zm 48 61::[])) <|
  .cond (.tmp 48) (.seq (.region (zf 62 2 1::zl 63 1 62::zm 2 63::zo 3 (.mov (.val (.bool true)))::[])) <|
   .ret) <|
  .skip)) <|
 .seq (.region (zo 2 (.mov (.val (.str (S8 []))))::zo 3 (.mov (.val (.bool false)))::[])) <|
 .ret⟩
theorem e_show_plain:AgY Tryz.prog kd_CShow Tryz.f110=some AqZ:=by kernel_rfl
def c_show_expr:AFunc:=⟨33,[.tmp 2,.tmp 3],
 .seq (.region (zo 1 (.box 4 (.tmp 0))::zo 2 (.mov (.val (.str (S8 []))))::zo 3 (.mov (.val (.bool false)))::[])) <|
 .seq (.seq (.region (zf 6 0 1::zl 7 1 6::zo 8 (.bin .neq (.tmp 7) (.val (.int .i64 4)))::[])) <|
 .cond (.tmp 8) (.seq (.region (zo 9 (.load true 4 (.tmp 1))::zo 10 (.call (.val (.fn (.func 110) [])) [(.tmp 9)])::zx 11 10 0::zx 12 10 1::zm 2 11::zm 3 12::[])) <|
  .ret) <|
 .skip) <|
 .seq (.region (zf 14 3 1::zl 15 1 14::zo 16 (.call (.val (.fn (.func 109) [])) [(.tmp 15),(.val (.fn (.func 110) []))])::zm 13 16::zx 17 13 0::zx 18 13 1::zm 4 17::zm 5 18::[])) <|
 .seq (.draw (zm 19 4::zo 20 (.bin .add (.val (.str (S8 [91]))) (.tmp 19))::zo 21 (.bin .add (.tmp 20) (.val (.str (S8 [93]))))::zm 22 5::zm 23 22::zg 24 (.faddr 1 (.tmp 1)) 23 true::zg 25 (.load false 1 (.tmp 24)) 23 true::zg 26 (.bin .eql (.tmp 25) (.val (.int .i64 0))) 23 true::zo 27 (.pick (.tmp 23) (.tmp 26) (.val (.bool false)))::zm 28 27::zg 29 (.faddr 2 (.tmp 1)) 28 true::zg 30 (.load false 1 (.tmp 29)) 28 true::zg 31 (.bin .eql (.tmp 30) (.val (.str (S8 [])))) 28 true::zo 32 (.pick (.tmp 28) (.tmp 31) (.val (.bool false)))::zm 2 21::zm 3 32::[])) <|
 .ret⟩
theorem e_show_expr:AgY Tryz.prog kd_CShow Tryz.f116=some c_show_expr:=by kernel_rfl
def c_show_join:AFunc:=⟨35,[.tmp 4,.tmp 5],
 .seq (.region (zo 4 (.mov (.val (.str (S8 []))))::zo 5 (.mov (.val (.bool false)))::[])) <|
 .seq (.seq (.region (zm 11 0::zo 12 (.len false (.tmp 11))::zo 13 (.bin .gtr (.tmp 12) (.val (.int .i64 64)))::[])) <|
 .cond (.tmp 13) (.seq (.region (zo 4 (.mov (.val (.str (S8 []))))::zo 5 (.mov (.val (.bool false)))::[])) <|
  .ret) <|
 .skip) <|
 .seq (.region (zo 6 (.mov (.val .nils))::[])) <|
 .seq (.seq (.region (zm 14 0::zo 15 (.len false (.tmp 14))::zo 16 (.mov (.val (.int .i64 0)))::[])) <|
 .block 0 (.loop (.seq (.region (zo 17 (.bin .lss (.tmp 16) (.tmp 15))::[])) <|
  .seq (.cond (.tmp 17) (.skip) <|
  .exit 0) <|
  .seq (.block 1 (.seq (.region (zo 18 (.iaddr 4 (.tmp 14) (.tmp 16))::zo 19 (.load true 4 (.tmp 18))::zo 8 (.alloc (.agg [(.int .i64 0),(.int .i64 0),(.str (S8 [])),.nils]))::zs 4 8 19::[])) <|
   .seq (.region (zm 21 1::zo 22 (.load true 4 (.tmp 8))::zo 23 (.call (.tmp 21) [(.tmp 22)])::zm 20 23::zx 24 20 0::zx 25 20 1::zm 9 24::zm 10 25::[])) <|
   .seq (.seq (.region (zm 26 10::zo 27 (.un .not (.tmp 26))::[])) <|
   .cond (.tmp 27) (.seq (.region (zo 4 (.mov (.val (.str (S8 []))))::zo 5 (.mov (.val (.bool false)))::[])) <|
    .ret) <|
   .skip) <|
   .region (zm 28 6::zm 29 9::zo 30 (.bslice 1 [(.tmp 29)])::zo 31 (.app 1 16 (.tmp 28) (.tmp 30))::zm 6 31::[]))) <|
  .region (zo 32 (.bin .add (.tmp 16) (.val (.int .i64 1)))::zm 16 32::[])))) <|
 .seq (.region (zm 33 6::zo 34 (.callv (.val (.fn (.func 131) [])) [(.tmp 33),(.val (.str (S8 [44,32])))])::zm 4 34::zo 5 (.mov (.val (.bool true)))::[])) <|
 .ret⟩
theorem e_show_join:AgY Tryz.prog kd_CShow Tryz.f109=some c_show_join:=by kernel_rfl
def c_show_dom:AFunc:=⟨67,[.tmp 2,.tmp 3],
 .seq (.region (zo 1 (.box 8 (.tmp 0))::zo 2 (.mov (.val (.str (S8 []))))::zo 3 (.mov (.val (.bool false)))::[])) <|
 .seq (.block 0 (.seq (.region (zf 8 2 1::zl 9 1 8::zm 7 9::[])) <|
  .cond (.tmp 7) (.seq (.draw (zf 10 3 1::zl 11 1 10::zo 12 (.len false (.tmp 11))::zq 13 12 0::zo 2 (.mov (.val (.str (S8 [98,111,111,108]))))::zm 3 13::[])) <|
   .ret) <|
  .seq (.region (zf 15 3 1::zl 16 1 15::zo 17 (.len false (.tmp 16))::zq 18 17 1::zm 14 18::[])) <|
  .cond (.tmp 14) (.seq (.draw (zf 19 3 1::zl 20 1 19::zo 21 (.iaddr 2 (.tmp 20) (.val (.int .i64 0)))::zf 22 0 21::zl 23 1 22::zo 24 (.call (.val (.fn (.func 115) [])) [(.tmp 23)])::zo 25 (.bin .add (.tmp 24) (.val (.str (S8 [46,46]))))::zf 26 3 1::zl 27 1 26::zo 28 (.iaddr 2 (.tmp 27) (.val (.int .i64 0)))::zf 29 1 28::zl 30 1 29::zo 31 (.call (.val (.fn (.func 115) [])) [(.tmp 30)])::zo 32 (.bin .add (.tmp 25) (.tmp 31))::zm 2 32::zo 3 (.mov (.val (.bool true)))::[])) <|
   .ret) <|
  .seq (.region (zf 34 3 1::zl 35 1 34::zo 36 (.len false (.tmp 35))::zq 37 36 0::zm 38 37::zg 39 (.faddr 3 (.tmp 1)) 38 false::zg 40 (.load false 1 (.tmp 39)) 38 false::zg 41 (.len false (.tmp 40)) 38 false::zg 42 (.bin .gtr (.tmp 41) (.val (.int .i64 256))) 38 false::zo 43 (.pick (.tmp 38) (.val (.bool true)) (.tmp 42))::zm 33 43::[])) <|
  .cond (.tmp 33) (.seq (.region (zo 2 (.mov (.val (.str (S8 []))))::zo 3 (.mov (.val (.bool false)))::[])) <|
   .ret) <|
  .skip)) <|
 .seq (.region (zo 4 (.mov (.val .nils))::[])) <|
 .seq (.seq (.region (zf 44 3 1::zl 45 1 44::zo 46 (.len false (.tmp 45))::zo 47 (.mov (.val (.int .i64 0)))::[])) <|
 .block 1 (.loop (.seq (.region (zo 48 (.bin .lss (.tmp 47) (.tmp 46))::[])) <|
  .seq (.cond (.tmp 48) (.skip) <|
  .exit 1) <|
  .seq (.block 2 (.seq (.region (zo 49 (.iaddr 2 (.tmp 45) (.tmp 47))::zo 50 (.load true 2 (.tmp 49))::zo 6 (.alloc (.agg [(.int .i64 0),(.int .i64 0)]))::zs 2 6 50::[])) <|
   .seq (.seq (.region (zf 51 0 6::zl 52 1 51::zf 53 1 6::zl 54 1 53::zo 55 (.bin .neq (.tmp 52) (.tmp 54))::[])) <|
   .cond (.tmp 55) (.seq (.region (zo 2 (.mov (.val (.str (S8 []))))::zo 3 (.mov (.val (.bool false)))::[])) <|
    .ret) <|
   .skip) <|
   .region (zm 56 4::zf 57 0 6::zl 58 1 57::zo 59 (.call (.val (.fn (.func 115) [])) [(.tmp 58)])::zo 60 (.bslice 1 [(.tmp 59)])::zo 61 (.app 1 16 (.tmp 56) (.tmp 60))::zm 4 61::[]))) <|
  .region (zo 62 (.bin .add (.tmp 47) (.val (.int .i64 1)))::zm 47 62::[])))) <|
 .seq (.region (zm 63 4::zo 64 (.callv (.val (.fn (.func 131) [])) [(.tmp 63),(.val (.str (S8 [44,32])))])::zo 65 (.bin .add (.val (.str (S8 [123]))) (.tmp 64))::zo 66 (.bin .add (.tmp 65) (.val (.str (S8 [125]))))::zm 2 66::zo 3 (.mov (.val (.bool true)))::[])) <|
 .ret⟩
theorem e_show_dom:AgY Tryz.prog kd_CShow Tryz.f114=some c_show_dom:=by kernel_rfl
def c_show_truth:AFunc:=⟨4,[.tmp 2],
 .seq (.region (zo 2 (.mov (.val (.str (S8 []))))::[])) <|
 .seq (.seq (.region (zm 3 0::[])) <|
 .cond (.tmp 3) (.seq (.region (zo 2 (.mov (.val (.str (S8 [98,111,111,108]))))::[])) <|
  .ret) <|
 .skip) <|
 .seq (.region (zo 2 (.mov (.val (.str (S8 [105,110,116]))))::[])) <|
 .ret⟩
theorem e_show_truth:AgY Tryz.prog kd_CShow Tryz.f111=some c_show_truth:=by kernel_rfl
def c_show_bare:AFunc:=⟨22,[.tmp 2],
 .seq (.region (zo 1 (.box 8 (.tmp 0))::zo 2 (.mov (.val (.bool false)))::[])) <|
 .seq (.region (zf 3 3 1::zl 4 1 3::zo 5 (.len false (.tmp 4))::zq 6 5 0::zm 7 6::zg 8 (.faddr 4 (.tmp 1)) 7 true::zg 9 (.load false 1 (.tmp 8)) 7 true::zg 10 (.bin .eql (.tmp 9) (.val (.int .i64 0))) 7 true::zo 11 (.pick (.tmp 7) (.tmp 10) (.val (.bool false)))::zm 12 11::zg 13 (.faddr 5 (.tmp 1)) 12 true::zg 14 (.load false 1 (.tmp 13)) 12 true::zg 15 (.un .not (.tmp 14)) 12 true::zo 16 (.pick (.tmp 12) (.tmp 15) (.val (.bool false)))::zm 17 16::zg 18 (.faddr 7 (.tmp 1)) 17 true::zg 19 (.load false 1 (.tmp 18)) 17 true::zg 20 (.bin .eql (.tmp 19) (.val (.int .i64 0))) 17 true::zo 21 (.pick (.tmp 17) (.tmp 20) (.val (.bool false)))::zm 2 21::[])) <|
 .ret⟩
theorem e_show_bare:AgY Tryz.prog kd_CShow Tryz.f112=some c_show_bare:=by kernel_rfl
def c_show_par:AFunc:=⟨51,[.tmp 2,.tmp 3],
 .seq (.region (zo 1 (.box 8 (.tmp 0))::zo 2 (.mov (.val (.str (S8 []))))::zo 3 (.mov (.val (.bool false)))::[])) <|
 .seq (.region (zf 8 6 1::zl 9 1 8::zo 10 (.call (.val (.fn (.func 109) [])) [(.tmp 9),(.val (.fn (.func 110) []))])::zm 7 10::zx 11 7 0::zx 12 7 1::zm 4 11::zm 5 12::[])) <|
 .seq (.region (zo 6 (.mov (.val (.int .i64 1)))::[])) <|
 .seq (.seq (.region (zf 13 2 1::zl 14 1 13::[])) <|
 .cond (.tmp 14) (.region (zo 6 (.mov (.val (.int .i64 2)))::[])) <|
 .skip) <|
 .seq (.draw (zf 15 2 1::zl 16 1 15::zo 17 (.call (.val (.fn (.func 111) [])) [(.tmp 16)])::zo 18 (.bin .add (.tmp 17) (.val (.str (S8 [58,32]))))::zf 19 1 1::zl 20 1 19::zo 21 (.bin .add (.tmp 18) (.tmp 20))::zo 22 (.bin .add (.tmp 21) (.val (.str (S8 [32,61,32]))))::zm 23 4::zo 24 (.bin .add (.tmp 22) (.tmp 23))::zo 25 (.bin .add (.tmp 24) (.val (.str (S8 [59]))))::zm 26 5::zm 27 26::zg 28 (.faddr 6 (.tmp 1)) 27 true::zg 29 (.load false 1 (.tmp 28)) 27 true::zg 30 (.len false (.tmp 29)) 27 true::zg 31 (.bin .eql (.tmp 30) (.val (.int .i64 1))) 27 true::zo 32 (.pick (.tmp 27) (.tmp 31) (.val (.bool false)))::zm 33 32::zg 34 (.faddr 6 (.tmp 1)) 33 true::zg 35 (.load false 1 (.tmp 34)) 33 true::zg 36 (.iaddr 4 (.tmp 35) (.val (.int .i64 0))) 33 true::zg 37 (.faddr 0 (.tmp 36)) 33 true::zg 38 (.load false 1 (.tmp 37)) 33 true::zg 39 (.mov (.tmp 6)) 33 true::zg 40 (.bin .eql (.tmp 38) (.tmp 39)) 33 true::zo 41 (.pick (.tmp 33) (.tmp 40) (.val (.bool false)))::zm 42 41::zg 43 (.load true 8 (.tmp 1)) 42 true::zg 44 (.call (.val (.fn (.func 112) [])) [(.tmp 43)]) 42 true::zo 45 (.pick (.tmp 42) (.tmp 44) (.val (.bool false)))::zm 46 45::zg 47 (.faddr 1 (.tmp 1)) 46 true::zg 48 (.load false 1 (.tmp 47)) 46 true::zg 49 (.call (.val (.fn (.func 113) [])) [(.tmp 48)]) 46 true::zo 50 (.pick (.tmp 46) (.tmp 49) (.val (.bool false)))::zm 2 25::zm 3 50::[])) <|
 .ret⟩
theorem e_show_par:AgY Tryz.prog kd_CShow Tryz.f75=some c_show_par:=by kernel_rfl
def AxX:AFunc:=⟨65,[.tmp 2,.tmp 3],
 .seq (.region (zo 1 (.box 8 (.tmp 0))::zo 2 (.mov (.val (.str (S8 []))))::zo 3 (.mov (.val (.bool false)))::[])) <|
 .seq (.region (zo 10 (.load true 8 (.tmp 1))::zo 11 (.call (.val (.fn (.func 114) [])) [(.tmp 10)])::zm 9 11::zx 12 9 0::zx 13 9 1::zm 4 12::zm 5 13::[])) <|
 .seq (.region (zf 15 6 1::zl 16 1 15::zo 17 (.call (.val (.fn (.func 109) [])) [(.tmp 16),(.val (.fn (.func 110) []))])::zm 14 17::zx 18 14 0::zx 19 14 1::zm 6 18::zm 7 19::[])) <|
 .seq (.region (zm 20 4::zo 21 (.bin .add (.val (.str (S8 [118,97,114,32]))) (.tmp 20))::zo 22 (.bin .add (.tmp 21) (.val (.str (S8 [58,32]))))::zf 23 1 1::zl 24 1 23::zo 25 (.bin .add (.tmp 22) (.tmp 24))::zm 8 25::[])) <|
 .seq (.seq (.region (zf 26 5 1::zl 27 1 26::[])) <|
 .cond (.tmp 27) (.region (zm 28 8::zo 29 (.bin .add (.tmp 28) (.val (.str (S8 [32,58,58,32,111,117,116,112,117,116,95,118,97,114]))))::zm 8 29::[])) <|
 .skip) <|
 .seq (.seq (.region (zf 30 6 1::zl 31 1 30::zo 32 (.len false (.tmp 31))::zo 33 (.bin .gtr (.tmp 32) (.val (.int .i64 0)))::[])) <|
 .cond (.tmp 33) (.region (zm 34 8::zm 35 6::zo 36 (.bin .add (.val (.str (S8 [32,61,32]))) (.tmp 35))::zo 37 (.bin .add (.tmp 34) (.tmp 36))::zm 8 37::[])) <|
 .skip) <|
 .seq (.region (zm 38 8::zo 39 (.bin .add (.tmp 38) (.val (.str (S8 [59]))))::zm 40 5::zm 41 40::zg 42 (.mov (.tmp 7)) 41 true::zo 43 (.pick (.tmp 41) (.tmp 42) (.val (.bool false)))::zm 44 43::zg 45 (.faddr 6 (.tmp 1)) 44 true::zg 46 (.load false 1 (.tmp 45)) 44 true::zg 47 (.len false (.tmp 46)) 44 true::zg 48 (.bin .leq (.tmp 47) (.val (.int .i64 1))) 44 true::zo 49 (.pick (.tmp 44) (.tmp 48) (.val (.bool false)))::zm 50 49::zg 51 (.faddr 4 (.tmp 1)) 50 true::zg 52 (.load false 1 (.tmp 51)) 50 true::zg 53 (.bin .eql (.tmp 52) (.val (.int .i64 0))) 50 true::zo 54 (.pick (.tmp 50) (.tmp 53) (.val (.bool false)))::zm 55 54::zg 56 (.faddr 7 (.tmp 1)) 55 true::zg 57 (.load false 1 (.tmp 56)) 55 true::zg 58 (.bin .eql (.tmp 57) (.val (.int .i64 0))) 55 true::zo 59 (.pick (.tmp 55) (.tmp 58) (.val (.bool false)))::zm 60 59::zg 61 (.faddr 1 (.tmp 1)) 60 true::zg 62 (.load false 1 (.tmp 61)) 60 true::zg 63 (.call (.val (.fn (.func 113) [])) [(.tmp 62)]) 60 true::zo 64 (.pick (.tmp 60) (.tmp 63) (.val (.bool false)))::zm 2 39::zm 3 64::[])) <|
 .ret⟩
theorem e_show_variable:AgY Tryz.prog kd_CShow Tryz.f76=some AxX:=by kernel_rfl
def c_show_array:AFunc:=⟨75,[.tmp 2,.tmp 3],
 .seq (.region (zo 1 (.box 8 (.tmp 0))::zo 2 (.mov (.val (.str (S8 []))))::zo 3 (.mov (.val (.bool false)))::[])) <|
 .seq (.region (zf 8 4 1::zl 9 1 8::zo 10 (.call (.val (.fn (.func 115) [])) [(.tmp 9)])::zo 11 (.bin .add (.val (.str (S8 [91,49,46,46]))) (.tmp 10))::zo 12 (.bin .add (.tmp 11) (.val (.str (S8 [93]))))::zm 4 12::[])) <|
 .seq (.region (zm 13 4::zo 14 (.bin .add (.val (.str (S8 [97,114,114,97,121,32]))) (.tmp 13))::zo 15 (.bin .add (.tmp 14) (.val (.str (S8 [32,111,102,32]))))::zm 5 15::[])) <|
 .seq (.seq (.region (zf 16 0 1::zl 17 1 16::zq 18 17 4::[])) <|
 .cond (.tmp 18) (.region (zm 19 5::zo 20 (.bin .add (.tmp 19) (.val (.str (S8 [118,97,114,32]))))::zm 5 20::[])) <|
 .skip) <|
 .seq (.draw (zm 21 5::zf 22 2 1::zl 23 1 22::zo 24 (.call (.val (.fn (.func 111) [])) [(.tmp 23)])::zo 25 (.bin .add (.tmp 24) (.val (.str (S8 [58,32]))))::zf 26 1 1::zl 27 1 26::zo 28 (.bin .add (.tmp 25) (.tmp 27))::zo 29 (.bin .add (.tmp 21) (.tmp 28))::zm 5 29::[])) <|
 .seq (.seq (.region (zf 30 5 1::zl 31 1 30::[])) <|
 .cond (.tmp 31) (.region (zm 32 5::zm 33 4::zo 34 (.bin .add (.val (.str (S8 [32,58,58,32,111,117,116,112,117,116,95,97,114,114,97,121,40]))) (.tmp 33))::zo 35 (.bin .add (.tmp 34) (.val (.str (S8 [41]))))::zo 36 (.bin .add (.tmp 32) (.tmp 35))::zm 5 36::[])) <|
 .skip) <|
 .seq (.region (zf 38 6 1::zl 39 1 38::zo 40 (.call (.val (.fn (.func 109) [])) [(.tmp 39),(.val (.fn (.func 110) []))])::zm 37 40::zx 41 37 0::zx 42 37 1::zm 6 41::zm 7 42::[])) <|
 .seq (.region (zm 43 5::zo 44 (.bin .add (.tmp 43) (.val (.str (S8 [32,61,32,91]))))::zm 45 6::zo 46 (.bin .add (.tmp 44) (.tmp 45))::zo 47 (.bin .add (.tmp 46) (.val (.str (S8 [93,59]))))::zm 48 7::zm 49 48::zg 50 (.faddr 3 (.tmp 1)) 49 true::zg 51 (.load false 1 (.tmp 50)) 49 true::zg 52 (.len false (.tmp 51)) 49 true::zg 53 (.bin .eql (.tmp 52) (.val (.int .i64 0))) 49 true::zo 54 (.pick (.tmp 49) (.tmp 53) (.val (.bool false)))::zm 55 54::zg 56 (.faddr 7 (.tmp 1)) 55 true::zg 57 (.load false 1 (.tmp 56)) 55 true::zg 58 (.bin .eql (.tmp 57) (.val (.int .i64 0))) 55 true::zo 59 (.pick (.tmp 55) (.tmp 58) (.val (.bool false)))::zm 60 59::zg 61 (.faddr 5 (.tmp 1)) 60 true::zg 62 (.load false 1 (.tmp 61)) 60 true::zg 63 (.un .not (.tmp 62)) 60 true::zg 64 (.mov (.tmp 63)) 60 true::zg 65 (.faddr 0 (.tmp 1)) 64 false::zg 66 (.load false 1 (.tmp 65)) 64 false::zg 67 (.bin .eql (.tmp 66) (.val (.int .i64 4))) 64 false::zg 68 (.pick (.tmp 64) (.val (.bool true)) (.tmp 67)) 60 true::zo 69 (.pick (.tmp 60) (.tmp 68) (.val (.bool false)))::zm 70 69::zg 71 (.faddr 1 (.tmp 1)) 70 true::zg 72 (.load false 1 (.tmp 71)) 70 true::zg 73 (.call (.val (.fn (.func 113) [])) [(.tmp 72)]) 70 true::zo 74 (.pick (.tmp 70) (.tmp 73) (.val (.bool false)))::zm 2 47::zm 3 74::[])) <|
 .ret⟩
theorem e_show_array:AgY Tryz.prog kd_CShow Tryz.f77=some c_show_array:=by kernel_rfl
def c_show_constraint:AFunc:=⟨34,[.tmp 2,.tmp 3],
 .seq (.region (zo 1 (.box 8 (.tmp 0))::zo 2 (.mov (.val (.str (S8 []))))::zo 3 (.mov (.val (.bool false)))::[])) <|
 .seq (.region (zf 7 6 1::zl 8 1 7::zo 9 (.call (.val (.fn (.func 109) [])) [(.tmp 8),(.val (.fn (.func 116) []))])::zm 6 9::zx 10 6 0::zx 11 6 1::zm 4 10::zm 5 11::[])) <|
 .seq (.draw (zf 12 1 1::zl 13 1 12::zo 14 (.bin .add (.val (.str (S8 [99,111,110,115,116,114,97,105,110,116,32]))) (.tmp 13))::zo 15 (.bin .add (.tmp 14) (.val (.str (S8 [40]))))::zm 16 4::zo 17 (.bin .add (.tmp 15) (.tmp 16))::zo 18 (.bin .add (.tmp 17) (.val (.str (S8 [41,59]))))::zm 19 5::zm 20 19::zg 21 (.load true 8 (.tmp 1)) 20 true::zg 22 (.call (.val (.fn (.func 112) [])) [(.tmp 21)]) 20 true::zo 23 (.pick (.tmp 20) (.tmp 22) (.val (.bool false)))::zm 24 23::zg 25 (.faddr 2 (.tmp 1)) 24 true::zg 26 (.load false 1 (.tmp 25)) 24 true::zg 27 (.un .not (.tmp 26)) 24 true::zo 28 (.pick (.tmp 24) (.tmp 27) (.val (.bool false)))::zm 29 28::zg 30 (.faddr 1 (.tmp 1)) 29 true::zg 31 (.load false 1 (.tmp 30)) 29 true::zg 32 (.call (.val (.fn (.func 113) [])) [(.tmp 31)]) 29 true::zo 33 (.pick (.tmp 29) (.tmp 32) (.val (.bool false)))::zm 2 18::zm 3 33::[])) <|
 .ret⟩
theorem e_show_constraint:AgY Tryz.prog kd_CShow Tryz.f78=some c_show_constraint:=by kernel_rfl
def c_show_goal:AFunc:=⟨55,[.tmp 2,.tmp 3],
 .seq (.region (zo 1 (.box 8 (.tmp 0))::zo 2 (.mov (.val (.str (S8 []))))::zo 3 (.mov (.val (.bool false)))::[])) <|
 .seq (.region (zo 6 (.load true 8 (.tmp 1))::zo 4 (.alloc (.agg [(.int .i64 0),(.str (S8 [])),(.bool false),.nils,(.int .i64 0),(.bool false),.nils,(.int .i64 0)]))::zs 8 4 6::[])) <|
 .seq (.region (zf 7 7 4::⟨none,.store 1 (.tmp 7) (.val (.int .i64 0)),none⟩::[])) <|
 .seq (.region (zo 8 (.load true 8 (.tmp 4))::zo 9 (.call (.val (.fn (.func 112) [])) [(.tmp 8)])::zm 10 9::zg 11 (.faddr 2 (.tmp 1)) 10 true::zg 12 (.load false 1 (.tmp 11)) 10 true::zg 13 (.un .not (.tmp 12)) 10 true::zo 14 (.pick (.tmp 10) (.tmp 13) (.val (.bool false)))::zm 15 14::zg 16 (.faddr 6 (.tmp 1)) 15 true::zg 17 (.load false 1 (.tmp 16)) 15 true::zg 18 (.len false (.tmp 17)) 15 true::zg 19 (.bin .eql (.tmp 18) (.val (.int .i64 0))) 15 true::zo 20 (.pick (.tmp 15) (.tmp 19) (.val (.bool false)))::zm 5 20::[])) <|
 .seq (.seq (.region (zf 21 7 1::zl 22 1 21::[])) <|
 .block 0 (.seq (.region (zq 24 22 0::zm 23 24::[])) <|
  .cond (.tmp 23) (.seq (.draw (zm 25 5::zm 26 25::zg 27 (.faddr 1 (.tmp 1)) 26 true::zg 28 (.load false 1 (.tmp 27)) 26 true::zg 29 (.bin .eql (.tmp 28) (.val (.str (S8 [])))) 26 true::zo 30 (.pick (.tmp 26) (.tmp 29) (.val (.bool false)))::zo 2 (.mov (.val (.str (S8 [115,111,108,118,101,32,115,97,116,105,115,102,121,59]))))::zm 3 30::[])) <|
   .ret) <|
  .seq (.region (zq 32 22 1::zm 31 32::[])) <|
  .cond (.tmp 31) (.seq (.draw (zf 33 1 1::zl 34 1 33::zo 35 (.bin .add (.val (.str (S8 [115,111,108,118,101,32,109,105,110,105,109,105,122,101,32]))) (.tmp 34))::zo 36 (.bin .add (.tmp 35) (.val (.str (S8 [59]))))::zm 37 5::zm 38 37::zg 39 (.faddr 1 (.tmp 1)) 38 true::zg 40 (.load false 1 (.tmp 39)) 38 true::zg 41 (.call (.val (.fn (.func 113) [])) [(.tmp 40)]) 38 true::zo 42 (.pick (.tmp 38) (.tmp 41) (.val (.bool false)))::zm 2 36::zm 3 42::[])) <|
   .ret) <|
  .seq (.region (zq 44 22 2::zm 43 44::[])) <|
  .cond (.tmp 43) (.seq (.draw (zf 45 1 1::zl 46 1 45::zo 47 (.bin .add (.val (.str (S8 [115,111,108,118,101,32,109,97,120,105,109,105,122,101,32]))) (.tmp 46))::zo 48 (.bin .add (.tmp 47) (.val (.str (S8 [59]))))::zm 49 5::zm 50 49::zg 51 (.faddr 1 (.tmp 1)) 50 true::zg 52 (.load false 1 (.tmp 51)) 50 true::zg 53 (.call (.val (.fn (.func 113) [])) [(.tmp 52)]) 50 true::zo 54 (.pick (.tmp 50) (.tmp 53) (.val (.bool false)))::zm 2 48::zm 3 54::[])) <|
   .ret) <|
  .skip)) <|
 .seq (.region (zo 2 (.mov (.val (.str (S8 []))))::zo 3 (.mov (.val (.bool false)))::[])) <|
 .ret⟩
theorem e_show_goal:AgY Tryz.prog kd_CShow Tryz.f79=some c_show_goal:=by kernel_rfl
def BkY:AFunc:=⟨37,[.tmp 2,.tmp 3],
 .seq (.region (zo 1 (.box 8 (.tmp 0))::zo 2 (.mov (.val (.str (S8 []))))::zo 3 (.mov (.val (.bool false)))::[])) <|
 .seq (.seq (.region (zf 4 0 1::zl 5 1 4::[])) <|
 .block 0 (.seq (.region (zq 7 5 1::zm 6 7::[])) <|
  .cond (.tmp 6) (.seq (.region (zo 8 (.load true 8 (.tmp 1))::zo 9 (.call (.val (.fn (.func 75) [])) [(.tmp 8)])::zx 10 9 0::zx 11 9 1::zm 2 10::zm 3 11::[])) <|
   .ret) <|
  .seq (.region (zq 13 5 2::zm 12 13::[])) <|
  .cond (.tmp 12) (.seq (.region (zo 14 (.load true 8 (.tmp 1))::zo 15 (.call (.val (.fn (.func 76) [])) [(.tmp 14)])::zx 16 15 0::zx 17 15 1::zm 2 16::zm 3 17::[])) <|
   .ret) <|
  .seq (.seq (.region (zq 19 5 3::zm 18 19::[])) <|
  .cond (.tmp 18) (.skip) <|
  .region (zq 20 5 4::zm 18 20::[])) <|
  .cond (.tmp 18) (.seq (.region (zo 21 (.load true 8 (.tmp 1))::zo 22 (.call (.val (.fn (.func 77) [])) [(.tmp 21)])::zx 23 22 0::zx 24 22 1::zm 2 23::zm 3 24::[])) <|
   .ret) <|
  .seq (.region (zq 26 5 5::zm 25 26::[])) <|
  .cond (.tmp 25) (.seq (.region (zo 27 (.load true 8 (.tmp 1))::zo 28 (.call (.val (.fn (.func 78) [])) [(.tmp 27)])::zx 29 28 0::zx 30 28 1::zm 2 29::zm 3 30::[])) <|
   .ret) <|
  .seq (.region (zq 32 5 6::zm 31 32::[])) <|
  .cond (.tmp 31) (.seq (.region (zo 33 (.load true 8 (.tmp 1))::zo 34 (.call (.val (.fn (.func 79) [])) [(.tmp 33)])::zx 35 34 0::zx 36 34 1::zm 2 35::zm 3 36::[])) <|
   .ret) <|
  .skip)) <|
 .seq (.region (zo 2 (.mov (.val (.str (S8 []))))::zo 3 (.mov (.val (.bool false)))::[])) <|
 .ret⟩
theorem e_show_text:AgY Tryz.prog kd_CShow Tryz.f34=some BkY:=by kernel_rfl
def c_show_fits:AFunc:=⟨14,[.tmp 2],
 .seq (.region (zo 2 (.mov (.val (.bool false)))::[])) <|
 .seq (.region (zm 7 0::zo 8 (.call (.val (.fn (.func 9) [])) [(.tmp 7)])::zm 6 8::zx 9 6 0::zx 10 6 1::zx 11 6 2::zm 3 9::zm 4 10::zm 5 11::[])) <|
 .seq (.region (zm 12 5::zq 13 12 0::zm 2 13::[])) <|
 .ret⟩
theorem e_show_fits:AgY Tryz.prog kd_CShow Tryz.f15=some c_show_fits:=by kernel_rfl
def c_show_Right:AFunc:=⟨15,[.tmp 2],
 .seq (.region (zo 1 (.box 8 (.tmp 0))::zo 2 (.mov (.val (.bool false)))::[])) <|
 .seq (.region (zo 6 (.load true 8 (.tmp 1))::zo 7 (.call (.val (.fn (.func 34) [])) [(.tmp 6)])::zm 5 7::zx 8 5 0::zx 9 5 1::zm 3 8::zm 4 9::[])) <|
 .seq (.region (zm 10 4::zm 11 10::zg 12 (.mov (.tmp 3)) 11 true::zg 13 (.call (.val (.fn (.func 15) [])) [(.tmp 12)]) 11 true::zo 14 (.pick (.tmp 11) (.tmp 13) (.val (.bool false)))::zm 2 14::[])) <|
 .ret⟩
theorem e_show_Right:AgY Tryz.prog kd_CShow Tryz.f27=some c_show_Right:=by kernel_rfl
def c_show_Item:AFunc:=⟨19,[.tmp 2,.tmp 3],
 .seq (.region (zo 1 (.box 8 (.tmp 0))::zo 2 (.mov (.val (.str (S8 []))))::zo 3 (.mov (.val (.int .i64 0)))::[])) <|
 .seq (.region (zo 7 (.load true 8 (.tmp 1))::zo 8 (.call (.val (.fn (.func 34) [])) [(.tmp 7)])::zm 6 8::zx 9 6 0::zx 10 6 1::zm 4 9::zm 5 10::[])) <|
 .seq (.seq (.region (zm 11 5::zo 12 (.un .not (.tmp 11))::zm 13 12::zg 14 (.mov (.tmp 4)) 13 false::zg 15 (.call (.val (.fn (.func 15) [])) [(.tmp 14)]) 13 false::zg 16 (.un .not (.tmp 15)) 13 false::zo 17 (.pick (.tmp 13) (.val (.bool true)) (.tmp 16))::[])) <|
 .cond (.tmp 17) (.seq (.region (zo 2 (.mov (.val (.str (S8 []))))::zo 3 (.mov (.val (.int .i64 2)))::[])) <|
  .ret) <|
 .skip) <|
 .seq (.region (zm 18 4::zm 2 18::zo 3 (.mov (.val (.int .i64 0)))::[])) <|
 .ret⟩
theorem e_show_Item:AgY Tryz.prog kd_CShow Tryz.f12=some c_show_Item:=by kernel_rfl
def c_show_Text:AFunc:=⟨34,[.tmp 2,.tmp 3],
 .seq (.region (zo 2 (.mov (.val (.str (S8 []))))::zo 3 (.mov (.val (.int .i64 0)))::[])) <|
 .seq (.seq (.region (zm 9 0::zo 10 (.len false (.tmp 9))::zo 11 (.bin .gtr (.tmp 10) (.val (.int .i64 512)))::[])) <|
 .cond (.tmp 11) (.seq (.region (zo 2 (.mov (.val (.str (S8 []))))::zo 3 (.mov (.val (.int .i64 3)))::[])) <|
  .ret) <|
 .skip) <|
 .seq (.region (zo 4 (.alloc (.agg [.nilp,.nils]))::[])) <|
 .seq (.seq (.region (zm 12 0::zo 13 (.len false (.tmp 12))::zo 14 (.mov (.val (.int .i64 0)))::[])) <|
 .block 0 (.loop (.seq (.region (zo 15 (.bin .lss (.tmp 14) (.tmp 13))::[])) <|
  .seq (.cond (.tmp 15) (.skip) <|
  .exit 0) <|
  .seq (.block 1 (.seq (.region (zo 16 (.iaddr 8 (.tmp 12) (.tmp 14))::zo 17 (.load true 8 (.tmp 16))::zo 6 (.alloc (.agg [(.int .i64 0),(.str (S8 [])),(.bool false),.nils,(.int .i64 0),(.bool false),.nils,(.int .i64 0)]))::zs 8 6 17::[])) <|
   .seq (.region (zo 19 (.load true 8 (.tmp 6))::zo 20 (.call (.val (.fn (.func 12) [])) [(.tmp 19)])::zm 18 20::zx 21 18 0::zx 22 18 1::zm 7 21::zm 8 22::[])) <|
   .seq (.seq (.region (zm 23 8::zo 24 (.bin .neq (.tmp 23) (.val (.int .i64 0)))::[])) <|
   .cond (.tmp 24) (.seq (.region (zm 25 8::zo 2 (.mov (.val (.str (S8 []))))::zm 3 25::[])) <|
    .ret) <|
   .skip) <|
   .seq (.region (zm 26 7::zo 27 (.call (.val (.fn (.func 13) [])) [(.tmp 4),(.tmp 26)])::[])) <|
   .region (zo 28 (.call (.val (.fn (.func 14) [])) [(.tmp 4),(.val (.int .u8 10))])::[]))) <|
  .region (zo 29 (.bin .add (.tmp 14) (.val (.int .i64 1)))::zm 14 29::[])))) <|
 .seq (.seq (.region (zo 30 (.call (.val (.fn (.func 16) [])) [(.tmp 4)])::zo 31 (.call (.val (.fn (.func 15) [])) [(.tmp 30)])::zo 32 (.un .not (.tmp 31))::[])) <|
 .cond (.tmp 32) (.seq (.region (zo 2 (.mov (.val (.str (S8 []))))::zo 3 (.mov (.val (.int .i64 3)))::[])) <|
  .ret) <|
 .skip) <|
 .seq (.region (zo 33 (.call (.val (.fn (.func 16) [])) [(.tmp 4)])::zm 2 33::zo 3 (.mov (.val (.int .i64 0)))::[])) <|
 .ret⟩
theorem e_show_Text:AgY Tryz.prog kd_CShow Tryz.f6=some c_show_Text:=by kernel_rfl
end Go.Proofs.YtcmphhedaefcgaaGreatDoor
end
section
namespace Go.Proofs.YtcmphhedaefcgaaGreatDoor
open Av
attribute [local irreducible] awp AbX
attribute [local irreducible] awX opX
set_option maxRecDepth 100000
set_option maxHeartbeats 4000000
theorem below_grew (w:World) (n:Nat) (os:Array Obj):RowKit.Below w.heap.size w (Sort.grow (w.drewN n) os):=by
 have e:(w.drewN n).heap=w.heap:=by simp
 have e2:∀ n:Nat,(w.drewN n).os=w.os∧(w.drewN n).output=w.output∧(w.drewN n).tape=w.tape:=by
  intro n
  induction n with
  | zero=>exact ⟨rfl,rfl,rfl⟩
  | succ n ih=>exact ih
 refine ⟨by simp [Sort.grow,e2],by simp [Sort.grow,e2],by simp [Sort.grow,e2],by simp [Sort.grow,e2],fun b hb=>?_⟩
 have h2:b<(w.drewN n).heap.size:=by rw [e];exact hb
 rw [Sort.heap_grow_old _ _ h2,e]
theorem lib_FormatInt (n:Int) (h:BcY n):Ctr Tryz.prog 132 [.int .i64 n,.int .i64 10] [] (.str (S8 (Lib.itoa n))) []:=by
 refine ctr_libB (vs:=#[.int .i64 n,.int .i64 10]) rfl Tryz.call132 rfl ?_ ?_
 · intro fz pl i a v hi hR
   match i,hi with
   | 0,hi=>simp at hi;subst hi;rw [hR.inv_int];rfl
   | 1,hi=>simp at hi;subst hi;rw [hR.inv_int];rfl
 · intro w hL
   obtain ⟨e0, fr, hg⟩ := hL.1 _ (show Tryz.prog.globalNamed "internal/strconv.uint64pow10" = some 3 by kernel_rfl)
   have ht : Lib.TabIs Tryz.prog w "internal/strconv.uint64pow10" .u64 Lib.pow10Tab := by
    unfold Lib.TabIs
    rw [var_of (g:=3) (by kernel_rfl) hg]
    simp [Lib.pow10Tab,Function.comp_def]
   refine (Tryz.strconv_FormatInt_10 n h.1 h.2 w ht).mono ?_
   rintro e w' ⟨rfl,k,os,rfl⟩
   exact ⟨_,rfl,fun fz=>.str _,below_grew _ _ _⟩
theorem show_num (n:Int) (h:BcY n):Ctr Tryz.prog 115 [.int .i64 n] [] (.str (S8 (Lib.itoa n))) []:=by
 refine AcZ Tryz.func115 Tryz.call115 e_show_num ?_
 simp +contextual -implicitDefEqProofs only [sm,c_show_num,seval]
 refine AaY (lib_FormatInt n h) (AaQ _) rfl ?_
 simp +contextual -implicitDefEqProofs only [sm,seval]
theorem flatMap_eS (ws:List Bs):(ws.map eS).flatMap AV.cells=ws.map eS:=by
 induction ws with
 | nil=>rfl
 | cons x l ih=>simp only [List.map_cons,List.flatMap_cons,ih];rfl
theorem lib_Join (ws:List Bs) (sep:Bs) (hl:ws.length≤1000000000000) (hb:(Lib.join ws sep).length≤140737488355328):Ctr Tryz.prog 131 [.list 1 (ws.map eS),.str (S8 sep)] [] (.str (S8 (Lib.join ws sep))) []:=by
 refine ⟨Tryz.call131,fun w0 pr fz pl w cs hS hcl hA=>?_⟩
 have hsz:cs.size=2:=hcl.symm
 obtain ⟨c0,c1,rfl⟩:∃ c0 c1,cs=#[c0,c1]:=⟨cs[0],cs[1],by
  apply Array.ext
  · exact hsz
  · intro i q1 q2
    have:i=0∨i=1:=by omega
    rcases this with rfl | rfl <;> rfl⟩
 have r0:RepF fz (.list 1 (ws.map eS)) c0:=(hA 0 _ _ rfl rfl).inv_list
 have r1:c1=.string (S8 sep):=(hA 1 _ _ rfl rfl).inv_str
 subst r1
 have fin:∀ e w',e=Ending.returned (.string ⟨(Lib.join ws sep).toArray⟩)∧RowKit.Below w.heap.size w w'→∃ cv fz' pl',e=.returned cv∧FzLe fz fz'∧pl <+: pl'∧Rep fz' pl' (.str (S8 (Lib.join ws sep))) cv∧Sim w0 pr fz' pl' [] w':=by
  rintro e w' ⟨rfl,hb⟩
  exact ⟨_,fz,pl,rfl,.refl _,List.prefix_refl _,.frz (.str _),hS.below hb⟩
 have hnil:∀ ao cap,c0=.slice ao 0 cap→ws=[]→Calls Tryz.prog 131 #[c0,.string (S8 sep)] w fun e w'=>∃ cv fz' pl',e=.returned cv∧FzLe fz fz'∧pl <+: pl'∧Rep fz' pl' (.str (S8 (Lib.join ws sep))) cv∧Sim w0 pr fz' pl' [] w':=by
  rintro ao cap rfl rfl
  refine (Tryz.strings_Join_none ao cap (S8 sep) w).mono ?_
  rintro e w' ⟨rfl,rfl⟩
  exact fin _ _ ⟨by rw [Lib.join_nil],RowKit.Below.refl _ _⟩
 generalize hL:ws.map eS=L at r0
 cases r0 with
 |
  list0 sz ao cap =>
  have:ws=[]:=List.map_eq_nil_iff.1 hL
  exact hnil ao cap rfl this
 |
  list sz l b off arr e fr n cap hfb hn hc hs hlen h1 h =>
  subst hL
  subst hn
  by_cases hw:ws=[]
  · subst hw;exact hnil _ _ rfl rfl
  have hheap:=hS.frz b _ hfb
  have hcells:∀ (j:Nat) x,(ws.map S8)[j]? = some x→w.cell? ⟨b,off+j,none⟩=some (.string x):=by
   intro j x hx
   rw [List.getElem?_map] at hx
   obtain ⟨y,hy,rfl⟩:=Option.map_eq_some_iff.1 hx
   have hj:j<ws.length:=(List.getElem?_eq_some_iff.1 hy).1
   have hlt:off+j<arr.size:=by
    rw [flatMap_eS] at hlen;simp only [List.length_map] at hlen;omega
   have hr:=h j (.str (S8 y)) arr[off+j] (by rw [flatMap_eS,List.getElem?_map,hy];rfl) (Array.getElem?_eq_getElem hlt)
   have hr2:arr[off+j]=.string (S8 y):=(Rep.frz hr:Rep fz [] _ _).inv_str
   simp [World.cell?,hheap,Array.getElem?_eq_getElem hlt,hr2]
  have hmap:(ws.map S8).map (·.data.toList)=ws:=by rw [List.map_map];exact List.map_id'' (fun x=>rfl) ws
  have hbk:b<w.heap.size:=(Array.getElem?_eq_some_iff.1 hheap).1
  have key:=Tryz.strings_Join b off cap (ws.map S8) (S8 sep) w hcells hbk (by simp only [List.length_map];omega) (by simpa using hc) (by rw [hmap];exact hb)
  rw [hmap] at key
  simp only [List.length_map] at key ⊢
  exact key.mono fin
end Go.Proofs.YtcmphhedaefcgaaGreatDoor
end
section
namespace Go.Proofs.YtcmphhedaefcgaaGreatDoor
open Av
attribute [local irreducible] awp AbX
attribute [local irreducible] awX opX
set_option maxRecDepth 100000
set_option maxHeartbeats 4000000
theorem nameB_eq (s:Bs):BpQ s=match lexS s with
 | .ok [t]=>decide (t.k=1) && decide (t.t=s) && decide (errE (BtZ ([115,111,108,118,101,32,109,105,110,105,109,105,122,101,32]++s++[59]))=0)
 | _=>false:=rfl
theorem cat2 (a b:Bs) (h:a.length+b.length≤9223372036854775807):∃ t:Bs,t=a++b∧t.length=a.length+b.length∧evBin .add (.str (S8 a)) (.str (S8 b))=some (.str (S8 t)):=by
 refine ⟨a++b,rfl,List.length_append,?_⟩
 have e:evBin .add (.str (S8 a)) (.str (S8 b))=match decide ((S8 a).size+(S8 b).size≤9223372036854775807) with
  | true=>some (.str (S8 a++S8 b))
  | false=>none:=rfl
 have h1:(S8 a).size=a.length:=rfl
 have h2:(S8 b).size=b.length:=rfl
 rw [e,h1,h2,decide_eq_true h,S8_app]
theorem show_name (s:Bs) (hs:s.length≤900000000000):Ctr Tryz.prog 113 [.str (S8 s)] [] (.bool (BpQ s)) []:=by
 refine AcZ Tryz.func113 Tryz.call113 e_show_name ?_
 have hL:=lex_Split s (by omega)
 simp +contextual -implicitDefEqProofs only [sm,c_show_name,seval]
 cases hl:lexS s with
 |
  error e =>
  have he:e≠0:=by rintro rfl;exact lexS_ne s hl
  have hN:BpQ s=false:=by rw [nameB_eq,hl]
  rw [hl,splitV_err] at hL
  rw [hN]
  refine AaY hL (AaQ _) rfl ?_
  simp +contextual -implicitDefEqProofs only [sm,seval,he]
 |
  ok ts =>
  rw [hl,splitV_ok] at hL
  refine AaY hL (AaQ _) rfl ?_
  rcases ts with _ | ⟨t,_ | ⟨t2,ts⟩⟩
  · have hN:BpQ s=false:=by rw [nameB_eq,hl]
    rw [hN]
    simp +contextual -implicitDefEqProofs only [sm,seval]
  · by_cases k1:t.k=1
    · by_cases k2:t.t=s
      · have hN:BpQ s=decide (errE (BtZ ([115,111,108,118,101,32,109,105,110,105,109,105,122,101,32]++s++[59]))=0):=by rw [nameB_eq,hl];simp [k1,k2]
        rw [hN]
        obtain ⟨t1,e1,l1,c1⟩:=cat2 [115,111,108,118,101,32,109,105,110,105,109,105,122,101,32] s (by simp;omega)
        obtain ⟨tx,e2,l2,c2⟩:=cat2 t1 [59] (by rw [l1];simp;omega)
        rw [← e1,← e2]
        have hT:=parse_Text tx (by rw [l2,l1];simp;omega)
        simp +contextual -implicitDefEqProofs only [sm,seval,BdZ,k1,k2,c1,c2]
        cases hp:BtZ tx with
        |
         ok its =>
         rw [hp,textV_ok] at hT
         refine AaY hT (AaQ _) rfl ?_
         simp +contextual -implicitDefEqProofs only [sm,seval,errE,flatL_It]
        |
         error e =>
         rw [hp,textV_err] at hT
         refine AaY hT (AaQ _) rfl ?_
         by_cases he:e=0
         iterate 2 simp +contextual -implicitDefEqProofs only [sm,seval,errE,he]
      · have hN:BpQ s=false:=by rw [nameB_eq,hl];simp [k2]
        rw [hN]
        simp +contextual -implicitDefEqProofs only [sm,seval,BdZ,k1,k2]
    · have hN:BpQ s=false:=by rw [nameB_eq,hl];simp [k1]
      rw [hN]
      simp +contextual -implicitDefEqProofs only [sm,seval,BdZ,k1]
  · have hN:BpQ s=false:=by rw [nameB_eq,hl]
    have hn:¬ (((ts.length+1+1:Nat):Int)=1):=by omega
    rw [hN]
    simp +contextual -implicitDefEqProofs only [sm,seval,BdZ,hn]
def bbV (r:Bs × Bool):AV:=.tuple [.str (S8 r.1),.bool r.2]
theorem bbV_eq (r:Bs × Bool):bbV r=.tuple [.str (S8 r.1),.bool r.2]:=rfl
theorem AlQ (s:Bs) (t:Bool):bbV (s,t)=.tuple [.str (S8 s),.bool t]:=rfl
theorem show_plain (x:Ex) (hx:x.Fine):Ctr Tryz.prog 110 [eEx x] [] (bbV (AfQ x)) []:=by
 refine AcZ Tryz.func110 Tryz.call110 e_show_plain ?_
 obtain ⟨k,n,s,l⟩:=x
 have hn:=hx.n
 have hs:=hx.s
 simp only at hn hs
 cases l with
 |
  cons p l =>
  have hn:((l.length+1:Nat):Int) > 0:=by omega
  have hP:AfQ ⟨k,n,s,p::l⟩=([],false):=by simp [AfQ]
  rw [hP,AlQ]
  simp +contextual -implicitDefEqProofs only [sm,AqZ,AcQ,seval,hn]
 |
  nil =>
  by_cases k1:k=1
  · subst k1
    by_cases s0:s=[]
    · subst s0
      have hP:AfQ ⟨1,n,[],[]⟩=(Lib.itoa n,true):=by simp [AfQ]
      rw [hP,AlQ]
      simp +contextual -implicitDefEqProofs only [sm,AqZ,AcQ,seval]
      refine AaY (show_num n hn) (AaQ _) rfl ?_
      simp +contextual -implicitDefEqProofs only [sm,seval]
    · have hP:AfQ ⟨1,n,s,[]⟩=([],false):=by simp [AfQ,s0]
      rw [hP,AlQ]
      simp +contextual -implicitDefEqProofs only [sm,AqZ,AcQ,seval,s0]
  · by_cases k2:k=2
    · subst k2
      by_cases s0:s=[]
      · subst s0
        by_cases n1:n=1
        · subst n1
          have hP:AfQ ⟨2,1,[],[]⟩=([116,114,117,101],true):=by simp [AfQ]
          rw [hP,AlQ]
          simp +contextual -implicitDefEqProofs only [sm,AqZ,AcQ,seval]
        · by_cases n0:n=0
          · subst n0
            have hP:AfQ ⟨2,0,[],[]⟩=([102,97,108,115,101],true):=by simp [AfQ]
            rw [hP,AlQ]
            simp +contextual -implicitDefEqProofs only [sm,AqZ,AcQ,seval]
          · have hP:AfQ ⟨2,n,[],[]⟩=([],false):=by simp [AfQ,n0,n1]
            rw [hP,AlQ]
            simp +contextual -implicitDefEqProofs only [sm,AqZ,AcQ,seval,n0,n1]
      · have hP:AfQ ⟨2,n,s,[]⟩=([],false):=by simp [AfQ,s0]
        rw [hP,AlQ]
        simp +contextual -implicitDefEqProofs only [sm,AqZ,AcQ,seval,s0]
    · by_cases k3:k=3
      · subst k3
        by_cases n0:n=0
        · subst n0
          have hN:=show_name s hs
          cases hb:BpQ s with
          |
           true =>
           have hP:AfQ ⟨3,0,s,[]⟩=(s,true):=by simp [AfQ,hb]
           rw [hP,AlQ]
           rw [hb] at hN
           simp +contextual -implicitDefEqProofs only [sm,AqZ,AcQ,seval]
           refine AaY hN (AaQ _) rfl ?_
           simp +contextual -implicitDefEqProofs only [sm,seval]
          |
           false =>
           have hP:AfQ ⟨3,0,s,[]⟩=([],false):=by simp [AfQ,hb]
           rw [hP,AlQ]
           rw [hb] at hN
           simp +contextual -implicitDefEqProofs only [sm,AqZ,AcQ,seval]
           refine AaY hN (AaQ _) rfl ?_
           simp +contextual -implicitDefEqProofs only [sm,seval]
        · have hP:AfQ ⟨3,n,s,[]⟩=([],false):=by simp [AfQ,n0]
          rw [hP,AlQ]
          simp +contextual -implicitDefEqProofs only [sm,AqZ,AcQ,seval,n0]
      · have hP:AfQ ⟨k,n,s,[]⟩=([],false):=by simp [AfQ,k1,k2,k3]
        rw [hP,AlQ]
        simp +contextual -implicitDefEqProofs only [sm,AqZ,AcQ,seval,k1,k2,k3]
theorem flatL_eS (l:List Bs):BdX (l.map eS)=true:=flatL_map _ (fun _=>rfl) l
theorem snoc_eS (ws:List Bs) (s:Bs):ws.map eS++[AV.str (S8 s)]=(ws++[s]).map eS:=by simp [eS]
theorem wordsS_cons (one:Ex→Bs × Bool) (x:Ex) (l:List Ex):BiY one (x::l)=if (one x).2=true then (BiY one l).map ((one x).1::·) else none:=rfl
theorem show_join (g:Nat) (one:Ex→Bs × Bool) (l:List Ex) (hl:l.length≤900000000000) (hg:∀ x∈l,Ctr Tryz.prog g [eEx x] [] (bbV (one x)) []) (hj:∀ ws,BiY one l=some ws→l.length≤64→(joinB ws).length≤140737488355328) :
 Ctr Tryz.prog 109 [.list 4 (l.map eEx),.fn (.func g) []] [] (bbV (BbQ one l)) []:=by
 refine AcZ Tryz.func109 Tryz.call109 e_show_join ?_
 by_cases h64:64<l.length
 · have hP:BbQ one l=([],false):=by unfold BbQ;rw [if_pos h64]
   have h64':((l.length:Nat):Int) > 64:=by omega
   rw [hP,AlQ]
   simp +contextual -implicitDefEqProofs only [sm,c_show_join,seval,h64']
 · have h64':¬ ((l.length:Nat):Int) > 64:=by omega
   have hP:BbQ one l=match BiY one l with
    | some ws=>(joinB ws,true)
    | none=>([],false):=by unfold BbQ;rw [if_neg h64];rfl
   rw [hP]
   generalize hR:BiY one l=R at hj ⊢
   simp +contextual -implicitDefEqProofs only [sm,c_show_join,seval,h64']
   refine loop_ruleV [(6,1)] (fun b:Nat × List Bs=>b.1≤l.length∧b.2.length=b.1∧(BiY one (l.drop b.1)).map (b.2++·)=R) (fun b=>tm 35 [(0,.list 4 (l.map eEx)),(1,.fn (.func g) []),(4,.str (S8 [])),(5,.bool false),(6,.sl 1 0 0 b.2.length),(14,.list 4 (l.map eEx)),(15,.int .i64 l.length),(16,.int .i64 b.1)])
    (fun b=>[some (1,b.2.map eS)]) (fun b=>l.length-b.1) (0,[]) (by simp +contextual -implicitDefEqProofs only [sm,seval]) ⟨Nat.zero_le _,rfl,by rw [← hR];simp⟩ ⟨[0],by decide,rfl,?_,?_⟩ ?_
   iterate 2 simp +contextual -implicitDefEqProofs only [sm,seval]
   · rintro ⟨k,ws⟩ ⟨hk,hw,hJ⟩
     simp only at hk hw hJ
     subst hw
     by_cases hlt:ws.length<l.length
     · obtain ⟨x,hx⟩:∃ x,l[ws.length]? = some x:=⟨l[ws.length],List.getElem?_eq_getElem hlt⟩
       have hd:l.drop ws.length=x::l.drop (ws.length+1):=by
        rw [List.drop_eq_getElem_cons hlt];congr 1
        rw [List.getElem?_eq_getElem hlt] at hx;injection hx
       have hlt':((ws.length:Nat):Int)<(l.length:Int):=by omega
       have hgx:=hg x (List.mem_of_getElem? hx)
       rw [hd,wordsS_cons] at hJ
       have hwr:IntKind.i64.wrap ((ws.length:Int)+1)=(ws.length:Int)+1:=AiY (by omega) (by omega)
       simp +contextual -implicitDefEqProofs only [sm,seval,hlt',List.getElem?_map,hx,Option.map_some,AcQ]
       cases hb:(one x).2 with
       |
        false =>
        have hR2:R=none:=by rw [← hJ,hb];rfl
        subst hR2
        rw [bbV_eq,hb] at hgx
        refine AaY hgx (AaQ _) ?_ ?_
        · simp +contextual -implicitDefEqProofs only [sm,seval,AxZ]
        simp +contextual -implicitDefEqProofs only [sm,seval,AlQ]
       |
        true =>
        rw [bbV_eq,hb] at hgx
        rw [hb,if_pos rfl] at hJ
        refine AaY hgx (AaQ _) ?_ ?_
        · simp +contextual -implicitDefEqProofs only [sm,seval,AxZ]
        simp +contextual -implicitDefEqProofs only [sm,seval]
        refine ⟨⟨by omega,by unfold maxLen;omega⟩,?_⟩
        refine ⟨(ws.length+1,ws++[(one x).1]),⟨?_,?_,?_⟩,?_,[2],by decide,rfl,?_,?_⟩
        · simp only;omega
        · simp
        · simp only
          rw [← hJ]
          cases BiY one (l.drop (ws.length+1)) <;> simp
        · simp only;omega
        · simp +contextual -implicitDefEqProofs only [sm,seval,List.length_append,List.length_cons,List.length_nil,snoc_eS,flatL_eS]
        · simp +contextual -implicitDefEqProofs only [sm,seval,List.length_append,List.length_cons,List.length_nil,Int.natCast_add,hwr,Int.cast_ofNat_Int]
     · have he:ws.length=l.length:=by omega
       have hlt':¬ ((ws.length:Nat):Int)<(l.length:Int):=by omega
       have hR2:R=some ws:=by rw [← hJ,List.drop_eq_nil_of_le (by omega)];simp [BiY]
       subst hR2
       simp +contextual -implicitDefEqProofs only [sm,seval,hlt']
       have hJ2:=lib_Join ws [44,32] (by omega) (hj ws rfl (by omega))
       refine AfZ hJ2 ?_ rfl ?_
       · simp +contextual -implicitDefEqProofs only [sm,seval,flatL_eS]
       simp +contextual -implicitDefEqProofs only [sm,seval,AlQ,joinB]
end Go.Proofs.YtcmphhedaefcgaaGreatDoor
end
section
namespace Go.Proofs.YtcmphhedaefcgaaGreatDoor
open Av
attribute [local irreducible] awp AbX
attribute [local irreducible] awX opX
set_option maxRecDepth 100000
set_option maxHeartbeats 4000000
theorem show_expr (x:Ex) (hx:x.Fine):Ctr Tryz.prog 116 [eEx x] [] (bbV (exprS x)) []:=by
 refine AcZ Tryz.func116 Tryz.call116 e_show_expr ?_
 have hp:=show_plain x hx
 have hj:=show_join 110 AfQ (x.l.map Pe.ex) (by rw [List.length_map];exact hx.l) (fun y hy=>show_plain y (Pe.fine hx y hy)) (fun ws hw h64=>Nat.le_trans (words_join_len AfQ 8192 _ (fun y hy=>BbY y (Pe.fine hx y hy)) ws hw h64) (by omega))
 have hlen:=BjX AfQ 8192 (x.l.map Pe.ex) (fun y hy=>BbY y (Pe.fine hx y hy))
 rw [Pe_map] at hj
 by_cases k4:x.k=4
 · have hE:exprS x=([91]++(BbQ AfQ (x.l.map Pe.ex)).1++[93],(BbQ AfQ (x.l.map Pe.ex)).2 && decide (x.n=0) && decide (x.s=[])):=by unfold exprS;rw [if_neg (by simp [k4])]
   generalize BbQ AfQ (x.l.map Pe.ex)=J at hj hE hlen
   obtain ⟨js,jb⟩:=J
   rw [AlQ] at hj
   simp only at hE hlen
   obtain ⟨t1,e1,l1,c1⟩:=cat2 [91] js (by simp;omega)
   obtain ⟨t2,e2,l2,c2⟩:=cat2 t1 [93] (by rw [l1];simp;omega)
   rw [hE,AlQ,← e1,← e2]
   simp +contextual -implicitDefEqProofs only [sm,c_show_expr,AcQ,seval,k4]
   refine AaY hj (AaQ _) ?_ ?_
   · simp +contextual -implicitDefEqProofs only [sm,seval,AxZ]
   cases jb with
   | false=>simp +contextual -implicitDefEqProofs only [sm,seval,c1,c2]
   |
    true =>
    by_cases n0:x.n=0
    · by_cases s0:x.s=[]
      iterate 2 simp +contextual -implicitDefEqProofs only [sm,seval,c1,c2,n0,s0]
    · simp +contextual -implicitDefEqProofs only [sm,seval,c1,c2,n0]
 · have hE:exprS x=AfQ x:=by unfold exprS;rw [if_pos k4]
   rw [hE]
   generalize AfQ x=p at hp
   rw [bbV_eq,AcQ] at hp
   simp +contextual -implicitDefEqProofs only [sm,c_show_expr,AcQ,seval,k4]
   refine AaY hp (AaQ _) ?_ ?_
   · simp +contextual -implicitDefEqProofs only [sm,seval,AxZ]
   simp +contextual -implicitDefEqProofs only [sm,seval,bbV_eq]
theorem show_truth (b:Bool):Ctr Tryz.prog 111 [.bool b] [] (.str (S8 (ApZ b))) []:=by
 refine AcZ Tryz.func111 Tryz.call111 e_show_truth ?_
 cases b with
 | false=>simp +contextual -implicitDefEqProofs only [sm,c_show_truth,seval,ApZ]
 | true=>simp +contextual -implicitDefEqProofs only [sm,c_show_truth,seval,ApZ]
theorem show_bare (x:It):Ctr Tryz.prog 112 [eIt x] [] (.bool (bareB x)) []:=by
 refine AcZ Tryz.func112 Tryz.call112 e_show_bare ?_
 obtain ⟨kind,name,bool,dom,size,out,vals,ask⟩:=x
 cases dom with
 |
  cons r d =>
  have hn:¬ (((d.length+1:Nat):Int)=0):=by omega
  have hE:bareB ⟨kind,name,bool,r::d,size,out,vals,ask⟩=false:=by simp [bareB]
  rw [hE]
  simp +contextual -implicitDefEqProofs only [sm,c_show_bare,AaZ,seval,hn]
 |
  nil =>
  by_cases s0:size=0
  · cases out with
    |
     true =>
     have hE:bareB ⟨kind,name,bool,[],size,true,vals,ask⟩=false:=by simp [bareB]
     rw [hE]
     simp +contextual -implicitDefEqProofs only [sm,c_show_bare,AaZ,seval,s0]
    |
     false =>
     by_cases a0:ask=0
     · have hE:bareB ⟨kind,name,bool,[],size,false,vals,ask⟩=true:=by simp [bareB,s0,a0]
       rw [hE]
       simp +contextual -implicitDefEqProofs only [sm,c_show_bare,AaZ,seval,s0,a0]
     · have hE:bareB ⟨kind,name,bool,[],size,false,vals,ask⟩=false:=by simp [bareB,a0]
       rw [hE]
       simp +contextual -implicitDefEqProofs only [sm,c_show_bare,AaZ,seval,s0,a0]
  · have hE:bareB ⟨kind,name,bool,[],size,out,vals,ask⟩=false:=by simp [bareB,s0]
    rw [hE]
    simp +contextual -implicitDefEqProofs only [sm,c_show_bare,AaZ,seval,s0]
theorem show_dom (x:It) (hx:x.Fine):Ctr Tryz.prog 114 [eIt x] [] (bbV (domS x)) []:=by
 refine AcZ Tryz.func114 Tryz.call114 e_show_dom ?_
 obtain ⟨kind,name,bool,dom,size,out,vals,ask⟩:=x
 have hdl:=hx.dlen
 have hd:=hx.dom
 simp only at hdl hd
 clear hx
 cases bool with
 |
  true =>
  have hE:domS ⟨kind,name,true,dom,size,out,vals,ask⟩=([98,111,111,108],decide (dom=[])):=by simp [domS]
  rw [hE,AlQ]
  cases dom with
  | nil=>simp +contextual -implicitDefEqProofs only [sm,c_show_dom,AaZ,seval]
  |
   cons r d =>
   have hn:¬ (((d.length+1:Nat):Int)=0):=by omega
   simp +contextual -implicitDefEqProofs only [sm,c_show_dom,AaZ,seval,hn]
 |
  false =>
  rcases dom with _ | ⟨r,_ | ⟨r2,d⟩⟩
  · have hE:domS ⟨kind,name,false,[],size,out,vals,ask⟩=([],false):=by simp [domS]
    rw [hE,AlQ]
    simp +contextual -implicitDefEqProofs only [sm,c_show_dom,AaZ,seval]
  · have hr:=hd r List.mem_cons_self
    have hE:domS ⟨kind,name,false,[r],size,out,vals,ask⟩=(Lib.itoa r.1++[46,46]++Lib.itoa r.2,true):=by simp [domS]
    have q1:=itoa_len r.1 hr.1
    have q2:=itoa_len r.2 hr.2
    obtain ⟨t1,e1,l1,c1⟩:=cat2 (Lib.itoa r.1) [46,46] (by simp;omega)
    obtain ⟨t2,e2,l2,c2⟩:=cat2 t1 (Lib.itoa r.2) (by rw [l1];simp;omega)
    rw [hE,AlQ,← e1,← e2]
    simp +contextual -implicitDefEqProofs only [sm,c_show_dom,AaZ,seval,eRg]
    refine AaY (show_num r.1 hr.1) (AaQ _) rfl ?_
    simp +contextual -implicitDefEqProofs only [sm,seval,c1]
    refine AaY (show_num r.2 hr.2) (AaQ _) rfl ?_
    simp +contextual -implicitDefEqProofs only [sm,seval,c2]
  · have hn0:¬ (((d.length+1+1:Nat):Int)=0):=by omega
    have hn1:¬ (((d.length+1+1:Nat):Int)=1):=by omega
    by_cases h256:256<d.length+1+1
    · have hE:domS ⟨kind,name,false,r::r2::d,size,out,vals,ask⟩=([],false):=by
       simp only [domS,List.length_cons,if_pos h256];simp
      have hn2:(256:Int)<((d.length+1+1:Nat):Int):=by omega
      rw [hE,AlQ]
      simp +contextual -implicitDefEqProofs only [sm,c_show_dom,AaZ,seval,hn0,hn1,hn2]
    · have hE:domS ⟨kind,name,false,r::r2::d,size,out,vals,ask⟩=if sgls (r::r2::d)=true then ([123]++joinB ((r::r2::d).map fun r=>Lib.itoa r.1)++[125],true) else ([],false):=by
       simp only [domS,List.length_cons,if_neg h256];simp
      have hn2:¬ (256:Int)<((d.length+1+1:Nat):Int):=by omega
      rw [hE]
      generalize hl:r::r2::d=l at hd ⊢
      have hln:l.length=d.length+1+1:=by rw [← hl];rfl
      have hn0:¬ (((l.length:Nat):Int)=0):=by omega
      have hn1:¬ (((l.length:Nat):Int)=1):=by omega
      have hn2:¬ (256:Int)<((l.length:Nat):Int):=by omega
      have hll:l.length≤256:=by omega
      clear hl hE hln
      generalize hR:sgls l=R
      simp +contextual -implicitDefEqProofs only [sm,c_show_dom,AaZ,seval,hn0,hn1,hn2]
      refine loop_ruleV [(4,1)] (fun b:Nat=>b≤l.length∧sgls (l.drop b)=R) (fun b=>tm 67 [(2,.str (S8 [])),(3,.bool false),(4,.sl 1 0 0 b),(45,.list 2 (l.map eRg)),(46,.int .i64 l.length),(47,.int .i64 b)])
       (fun b=>[some (1,((l.take b).map fun r=>Lib.itoa r.1).map eS)]) (fun b=>l.length-b) 0 (by simp +contextual -implicitDefEqProofs only [sm,seval]) ⟨Nat.zero_le _,by rw [← hR];simp⟩ ⟨[1],by decide,rfl,?_,?_⟩ ?_
      iterate 2 simp +contextual -implicitDefEqProofs only [sm,seval]
      · rintro k ⟨hk,hJ⟩
        by_cases hlt:k<l.length
        · obtain ⟨y,hy⟩:∃ y,l[k]? = some y:=⟨l[k],List.getElem?_eq_getElem hlt⟩
          have hdr:l.drop k=y::l.drop (k+1):=by
           rw [List.drop_eq_getElem_cons hlt];congr 1
           rw [List.getElem?_eq_getElem hlt] at hy;injection hy
          have htk:l.take (k+1)=l.take k++[y]:=by rw [List.take_add_one,hy];rfl
          have hlt':(k:Int)<(l.length:Int):=by omega
          have hwr:IntKind.i64.wrap ((k:Int)+1)=(k:Int)+1:=AiY (by omega) (by omega)
          have hyd:=hd y (List.mem_of_getElem? hy)
          have htl:(l.take k).length=k:=by rw [List.length_take];omega
          rw [hdr] at hJ
          have hJ2:(if y.1=y.2 then sgls (l.drop (k+1)) else false)=R:=hJ
          by_cases hyy:y.1=y.2
          · rw [if_pos hyy] at hJ2
            simp +contextual -implicitDefEqProofs only [sm,seval,hlt',List.getElem?_map,hy,Option.map_some,eRg,hyy]
            refine AaY (show_num y.2 hyd.2) (AaQ _) rfl ?_
            simp +contextual -implicitDefEqProofs only [sm,seval,htl]
            refine ⟨⟨by omega,by unfold maxLen;omega⟩,?_⟩
            refine ⟨k+1,⟨by omega,hJ2⟩,by omega,[2],by decide,rfl,?_,?_⟩
            · simp +contextual -implicitDefEqProofs only [sm,seval,htk,htl,hyy,List.map_append,BhX,flatL_app,flatL_eS]
            · simp +contextual -implicitDefEqProofs only [sm,seval,hwr,Int.natCast_add,Int.cast_ofNat_Int]
          · rw [if_neg hyy] at hJ2
            subst hJ2
            simp +contextual -implicitDefEqProofs only [sm,seval,hlt',List.getElem?_map,hy,Option.map_some,eRg,hyy,AlQ]
        · have he:k=l.length:=by omega
          have hlt':¬ (k:Int)<(l.length:Int):=by omega
          have hR2:R=true:=by rw [← hJ,List.drop_eq_nil_of_le (by omega)];rfl
          subst hR2
          subst he
          have hjl:=join_len [44,32] 21 (l.map fun r=>Lib.itoa r.1) (fun w hw=>by
           obtain ⟨r,hr,rfl⟩:=List.mem_map.1 hw
           exact itoa_len _ (hd r hr).1)
          simp only [List.length_map,List.length_cons,List.length_nil] at hjl
          simp +contextual -implicitDefEqProofs only [sm,seval,hlt',List.take_length]
          have hJ2:=lib_Join (l.map fun r=>Lib.itoa r.1) [44,32] (by rw [List.length_map];omega) (by omega)
          obtain ⟨t1,e1,l1,c1⟩:=cat2 [123] (Lib.join (l.map fun r=>Lib.itoa r.1) [44,32]) (by simp;omega)
          obtain ⟨t2,e2,l2,c2⟩:=cat2 t1 [125] (by rw [l1];simp;omega)
          unfold joinB
          rw [AlQ,show (123::(Lib.join (l.map fun r=>Lib.itoa r.1) [44,32]++[125]))=t2 by rw [e2,e1];rfl]
          have htk2:List.take l.length (List.map eS (List.map (fun r=>Lib.itoa r.fst) l))=List.map eS (List.map (fun r=>Lib.itoa r.fst) l):=List.take_of_length_le (by simp)
          refine AfZ hJ2 ?_ rfl ?_
          · simp +contextual -implicitDefEqProofs only [sm,seval,flatL_eS,htk2]
          simp +contextual -implicitDefEqProofs only [sm,seval,c1,c2]
end Go.Proofs.YtcmphhedaefcgaaGreatDoor
end
section
namespace Go.Proofs.YtcmphhedaefcgaaGreatDoor
open Av
attribute [local irreducible] awp AbX
attribute [local irreducible] awX opX
set_option maxRecDepth 100000
set_option maxHeartbeats 4000000
theorem join_plain (x:It) (hx:x.Fine):Ctr Tryz.prog 109 [.list 4 (x.vals.map eEx),.fn (.func 110) []] [] (bbV (BbQ AfQ x.vals)) [] :=
 show_join _ AfQ x.vals hx.vlen (fun y hy=>show_plain y (hx.vals y hy)) (fun ws hw h64=>Nat.le_trans (words_join_len AfQ 8192 _ (fun y hy=>BbY y (hx.vals y hy)) ws hw h64) (by omega))
theorem join_expr (x:It) (hx:x.Fine):Ctr Tryz.prog 109 [.list 4 (x.vals.map eEx),.fn (.func 116) []] [] (bbV (BbQ exprS x.vals)) [] :=
 show_join _ exprS x.vals hx.vlen (fun y hy=>show_expr y (hx.vals y hy)) (fun ws hw h64=>Nat.le_trans (words_join_len exprS 600000 _ (fun y hy=>exprS_len y (hx.vals y hy)) ws hw h64) (by omega))
theorem truthS_len (b:Bool):(ApZ b).length≤4:=by unfold ApZ;split <;> simp
theorem show_par (x:It) (hx:x.Fine):Ctr Tryz.prog 75 [eIt x] [] (bbV (parS x)) []:=by
 refine AcZ Tryz.func75 Tryz.call75 e_show_par ?_
 have hj:=join_plain x hx
 have hjl:=BjX AfQ 8192 x.vals (fun y hy=>BbY y (hx.vals y hy))
 have hn:=show_name x.name hx.name
 have hnl:=hx.name
 have hb:=show_bare x
 have ht:=show_truth x.bool
 have htl:=truthS_len x.bool
 have hE:parS x=(ApZ x.bool++[58,32]++x.name++[32,61,32]++(BbQ AfQ x.vals).1++[59],(BbQ AfQ x.vals).2 && headK x.vals (if x.bool=true then 2 else 1) && bareB x && BpQ x.name):=rfl
 generalize BbQ AfQ x.vals=J at hj hE hjl
 obtain ⟨js,jb⟩:=J
 rw [AlQ] at hj
 simp only at hE hjl
 generalize ApZ x.bool=T at ht hE htl
 obtain ⟨t1,e1,l1,c1⟩:=cat2 T [58,32] (by simp only [List.length_cons,List.length_nil];omega)
 obtain ⟨t2,e2,l2,c2⟩:=cat2 t1 x.name (by simp only [l1,List.length_cons,List.length_nil];omega)
 obtain ⟨t3,e3,l3,c3⟩:=cat2 t2 [32,61,32] (by simp only [l1,l2,List.length_cons,List.length_nil];omega)
 obtain ⟨t4,e4,l4,c4⟩:=cat2 t3 js (by simp only [l1,l2,l3,List.length_cons,List.length_nil];omega)
 obtain ⟨t5,e5,l5,c5⟩:=cat2 t4 [59] (by simp only [l1,l2,l3,l4,List.length_cons,List.length_nil];omega)
 rw [← e1,← e2,← e3,← e4,← e5] at hE
 generalize bareB x=bb at hb hE
 generalize BpQ x.name=nb at hn hE
 rw [hE,AlQ]
 clear hE e1 e2 e3 e4 e5
 obtain ⟨kind,name,bool,dom,size,out,vals,ask⟩:=x
 cases bool with
 |
  false =>
  simp +contextual -implicitDefEqProofs only [sm,c_show_par,AaZ,seval]
  refine AaY hj (AaQ _) ?_ ?_
  · simp +contextual -implicitDefEqProofs only [sm,seval,AeY,AdQ]
  simp +contextual -implicitDefEqProofs only [sm,seval]
  refine AaY ht (AaQ _) rfl ?_
  cases jb with
  | false=>simp +contextual -implicitDefEqProofs only [sm,seval,c1,c2,c3,c4,c5]
  |
   true =>
   rcases vals with _ | ⟨v,_ | ⟨v2,vals⟩⟩
   · simp +contextual -implicitDefEqProofs only [sm,seval,c1,c2,c3,c4,c5,headK]
   · by_cases vk:v.k=1
     · simp +contextual -implicitDefEqProofs only [sm,seval,c1,c2,c3,c4,c5,headK,AcQ,vk]
       refine AaY hb ?_ ?_ ?_
       · simp +contextual -implicitDefEqProofs only [sm,seval,AaZ,AcQ,vk]
       · simp +contextual -implicitDefEqProofs only [sm,seval,AeY,AdQ]
       cases bb with
       | false=>simp +contextual -implicitDefEqProofs only [sm,seval]
       |
        true =>
        simp +contextual -implicitDefEqProofs only [sm,seval]
        refine AaY hn (AaQ _) rfl ?_
        cases nb with
        | false=>simp +contextual -implicitDefEqProofs only [sm,seval]
        | true=>simp +contextual -implicitDefEqProofs only [sm,seval]
     · simp +contextual -implicitDefEqProofs only [sm,seval,c1,c2,c3,c4,c5,headK,AcQ,vk]
   · have hn2:¬ (((vals.length+1+1:Nat):Int)=1):=by omega
     simp +contextual -implicitDefEqProofs only [sm,seval,c1,c2,c3,c4,c5,headK,hn2]
 |
  true =>
  simp +contextual -implicitDefEqProofs only [sm,c_show_par,AaZ,seval]
  refine AaY hj (AaQ _) ?_ ?_
  · simp +contextual -implicitDefEqProofs only [sm,seval,AeY,AdQ]
  simp +contextual -implicitDefEqProofs only [sm,seval]
  refine AaY ht (AaQ _) rfl ?_
  cases jb with
  | false=>simp +contextual -implicitDefEqProofs only [sm,seval,c1,c2,c3,c4,c5]
  |
   true =>
   rcases vals with _ | ⟨v,_ | ⟨v2,vals⟩⟩
   · simp +contextual -implicitDefEqProofs only [sm,seval,c1,c2,c3,c4,c5,headK]
   · by_cases vk:v.k=2
     · simp +contextual -implicitDefEqProofs only [sm,seval,c1,c2,c3,c4,c5,headK,AcQ,vk]
       refine AaY hb ?_ ?_ ?_
       · simp +contextual -implicitDefEqProofs only [sm,seval,AaZ,AcQ,vk]
       · simp +contextual -implicitDefEqProofs only [sm,seval,AeY,AdQ]
       cases bb with
       | false=>simp +contextual -implicitDefEqProofs only [sm,seval]
       |
        true =>
        simp +contextual -implicitDefEqProofs only [sm,seval]
        refine AaY hn (AaQ _) rfl ?_
        cases nb with
        | false=>simp +contextual -implicitDefEqProofs only [sm,seval]
        | true=>simp +contextual -implicitDefEqProofs only [sm,seval]
     · simp +contextual -implicitDefEqProofs only [sm,seval,c1,c2,c3,c4,c5,headK,AcQ,vk]
   · have hn2:¬ (((vals.length+1+1:Nat):Int)=1):=by omega
     simp +contextual -implicitDefEqProofs only [sm,seval,c1,c2,c3,c4,c5,headK,hn2]
theorem show_variable (x:It) (hx:x.Fine):Ctr Tryz.prog 76 [eIt x] [] (bbV (AwQ x)) []:=by
 refine AcZ Tryz.func76 Tryz.call76 e_show_variable ?_
 have hj:=join_plain x hx
 have hjl:=BjX AfQ 8192 x.vals (fun y hy=>BbY y (hx.vals y hy))
 have hn:=show_name x.name hx.name
 have hnl:=hx.name
 have hd:=show_dom x hx
 have hdl:=domS_len x hx
 have hE:AwQ x=([118,97,114,32]++(domS x).1++[58,32]++x.name++(if x.out=true then [32,58,58,32,111,117,116,112,117,116,95,118,97,114] else [])++(if x.vals≠[] then [32,61,32]++(BbQ AfQ x.vals).1 else [])++[59],(domS x).2 && (BbQ AfQ x.vals).2 && decide (x.vals.length≤1) && decide (x.size=0) && decide (x.ask=0) && BpQ x.name):=rfl
 generalize BbQ AfQ x.vals=J at hj hE hjl
 obtain ⟨js,jb⟩:=J
 rw [AlQ] at hj
 simp only at hE hjl
 generalize domS x=D at hd hE hdl
 obtain ⟨ds,db⟩:=D
 rw [AlQ] at hd
 simp only at hE hdl
 generalize BpQ x.name=nb at hn hE
 obtain ⟨kind,name,bool,dom,size,out,vals,ask⟩:=x
 simp only at hE hnl
 cases out with
 |
  false =>
  rcases vals with _ | ⟨v,_ | ⟨v2,vals⟩⟩
  · obtain ⟨t1,e1,l1,c1⟩:=cat2 [118,97,114,32] ds (by simp only [List.length_cons,List.length_nil];omega)
    obtain ⟨t2,e2,l2,c2⟩:=cat2 t1 [58,32] (by simp only [l1,List.length_cons,List.length_nil];omega)
    obtain ⟨t3,e3,l3,c3⟩:=cat2 t2 name (by simp only [l1,l2,List.length_cons,List.length_nil];omega)
    obtain ⟨t7,e7,l7,c7⟩:=cat2 t3 [59] (by simp only [l1,l2,l3,List.length_cons,List.length_nil];omega)
    have hS:[118,97,114,32]++ds++[58,32]++name++[]++[]++[59]=t7:=by rw [e7,e3,e2,e1] <;> simp [List.append_assoc]
    rw [show AwQ ⟨kind,name,bool,dom,size,false,[],ask⟩=(t7,db && jb && decide (0≤1) && decide (size=0) && decide (ask=0) && nb) by (rw [hE,← hS];try simp)]
    rw [AlQ]
    simp +contextual -implicitDefEqProofs only [sm,AxX,AaZ,seval,List.length_cons,List.length_nil]
    refine AaY hd (AaQ _) ?_ ?_
    · simp +contextual -implicitDefEqProofs only [sm,seval,AeY,AdQ]
    simp +contextual -implicitDefEqProofs only [sm,seval]
    refine AaY hj (AaQ _) ?_ ?_
    · simp +contextual -implicitDefEqProofs only [sm,seval,AeY,AdQ]
    cases db with
    | false=>simp +contextual -implicitDefEqProofs only [sm,seval,c1,c2,c3,c7]
    |
     true =>
     cases jb with
     | false=>simp +contextual -implicitDefEqProofs only [sm,seval,c1,c2,c3,c7]
     |
      true =>
      by_cases s0:size=0
      · by_cases a0:ask=0
        · simp +contextual -implicitDefEqProofs only [sm,seval,c1,c2,c3,c7,s0,a0]
          refine AaY hn (AaQ _) rfl ?_
          cases nb with
          | false=>simp +contextual -implicitDefEqProofs only [sm,seval]
          | true=>simp +contextual -implicitDefEqProofs only [sm,seval]
        · simp +contextual -implicitDefEqProofs only [sm,seval,c1,c2,c3,c7,s0,a0]
      · simp +contextual -implicitDefEqProofs only [sm,seval,c1,c2,c3,c7,s0]
  · obtain ⟨t1,e1,l1,c1⟩:=cat2 [118,97,114,32] ds (by simp only [List.length_cons,List.length_nil];omega)
    obtain ⟨t2,e2,l2,c2⟩:=cat2 t1 [58,32] (by simp only [l1,List.length_cons,List.length_nil];omega)
    obtain ⟨t3,e3,l3,c3⟩:=cat2 t2 name (by simp only [l1,l2,List.length_cons,List.length_nil];omega)
    obtain ⟨t5,e5,l5,c5⟩:=cat2 [32,61,32] js (by simp only [l1,l2,l3,List.length_cons,List.length_nil];omega)
    obtain ⟨t6,e6,l6,c6⟩:=cat2 t3 t5 (by simp only [l5,l1,l2,l3,List.length_cons,List.length_nil];omega)
    obtain ⟨t7,e7,l7,c7⟩:=cat2 t6 [59] (by simp only [l5,l6,l1,l2,l3,List.length_cons,List.length_nil];omega)
    have hS:[118,97,114,32]++ds++[58,32]++name++[]++([32,61,32]++js)++[59]=t7:=by rw [e7,e6,e5,e3,e2,e1] <;> simp [List.append_assoc]
    rw [show AwQ ⟨kind,name,bool,dom,size,false,[v],ask⟩=(t7,db && jb && decide (1≤1) && decide (size=0) && decide (ask=0) && nb) by (rw [hE,← hS];try simp)]
    rw [AlQ]
    have hgt:(0:Int)<(1:Int):=by omega
    simp +contextual -implicitDefEqProofs only [sm,AxX,AaZ,seval,List.length_cons,List.length_nil]
    refine AaY hd (AaQ _) ?_ ?_
    · simp +contextual -implicitDefEqProofs only [sm,seval,AeY,AdQ]
    simp +contextual -implicitDefEqProofs only [sm,seval]
    refine AaY hj (AaQ _) ?_ ?_
    · simp +contextual -implicitDefEqProofs only [sm,seval,AeY,AdQ]
    cases db with
    | false=>simp +contextual -implicitDefEqProofs only [sm,seval,c1,c2,c3,c5,c6,c7]
    |
     true =>
     cases jb with
     | false=>simp +contextual -implicitDefEqProofs only [sm,seval,c1,c2,c3,c5,c6,c7]
     |
      true =>
      by_cases s0:size=0
      · by_cases a0:ask=0
        · simp +contextual -implicitDefEqProofs only [sm,seval,c1,c2,c3,c5,c6,c7,s0,a0]
          refine AaY hn (AaQ _) rfl ?_
          cases nb with
          | false=>simp +contextual -implicitDefEqProofs only [sm,seval]
          | true=>simp +contextual -implicitDefEqProofs only [sm,seval]
        · simp +contextual -implicitDefEqProofs only [sm,seval,c1,c2,c3,c5,c6,c7,s0,a0]
      · simp +contextual -implicitDefEqProofs only [sm,seval,c1,c2,c3,c5,c6,c7,s0]
  · obtain ⟨t1,e1,l1,c1⟩:=cat2 [118,97,114,32] ds (by simp only [List.length_cons,List.length_nil];omega)
    obtain ⟨t2,e2,l2,c2⟩:=cat2 t1 [58,32] (by simp only [l1,List.length_cons,List.length_nil];omega)
    obtain ⟨t3,e3,l3,c3⟩:=cat2 t2 name (by simp only [l1,l2,List.length_cons,List.length_nil];omega)
    obtain ⟨t5,e5,l5,c5⟩:=cat2 [32,61,32] js (by simp only [l1,l2,l3,List.length_cons,List.length_nil];omega)
    obtain ⟨t6,e6,l6,c6⟩:=cat2 t3 t5 (by simp only [l5,l1,l2,l3,List.length_cons,List.length_nil];omega)
    obtain ⟨t7,e7,l7,c7⟩:=cat2 t6 [59] (by simp only [l5,l6,l1,l2,l3,List.length_cons,List.length_nil];omega)
    have hS:[118,97,114,32]++ds++[58,32]++name++[]++([32,61,32]++js)++[59]=t7:=by rw [e7,e6,e5,e3,e2,e1] <;> simp [List.append_assoc]
    rw [show AwQ ⟨kind,name,bool,dom,size,false,v::v2::vals,ask⟩=(t7,db && jb && decide (vals.length+1+1≤1) && decide (size=0) && decide (ask=0) && nb) by (rw [hE,← hS];try simp)]
    rw [AlQ]
    have hgt:(0:Int)<((vals.length+1+1:Nat):Int):=by omega
    simp +contextual -implicitDefEqProofs only [sm,AxX,AaZ,seval,List.length_cons,List.length_nil]
    refine AaY hd (AaQ _) ?_ ?_
    · simp +contextual -implicitDefEqProofs only [sm,seval,AeY,AdQ]
    simp +contextual -implicitDefEqProofs only [sm,seval]
    refine AaY hj (AaQ _) ?_ ?_
    · simp +contextual -implicitDefEqProofs only [sm,seval,AeY,AdQ]
    cases db with
    | false=>simp +contextual -implicitDefEqProofs only [sm,seval,hgt,c1,c2,c3,c5,c6,c7]
    |
     true =>
     cases jb with
     | false=>simp +contextual -implicitDefEqProofs only [sm,seval,hgt,c1,c2,c3,c5,c6,c7]
     |
      true =>
      have hle:¬ (((vals.length+1+1:Nat):Int)≤1):=by omega
      have hle2:¬ (vals.length+1+1≤1):=by omega
      simp +contextual -implicitDefEqProofs only [sm,seval,hgt,c1,c2,c3,c5,c6,c7,hle,hle2]
 |
  true =>
  rcases vals with _ | ⟨v,_ | ⟨v2,vals⟩⟩
  · obtain ⟨t1,e1,l1,c1⟩:=cat2 [118,97,114,32] ds (by simp only [List.length_cons,List.length_nil];omega)
    obtain ⟨t2,e2,l2,c2⟩:=cat2 t1 [58,32] (by simp only [l1,List.length_cons,List.length_nil];omega)
    obtain ⟨t3,e3,l3,c3⟩:=cat2 t2 name (by simp only [l1,l2,List.length_cons,List.length_nil];omega)
    obtain ⟨t4,e4,l4,c4⟩:=cat2 t3 [32,58,58,32,111,117,116,112,117,116,95,118,97,114] (by simp only [l1,l2,l3,List.length_cons,List.length_nil];omega)
    obtain ⟨t7,e7,l7,c7⟩:=cat2 t4 [59] (by simp only [l1,l2,l3,l4,List.length_cons,List.length_nil];omega)
    have hS:[118,97,114,32]++ds++[58,32]++name++[32,58,58,32,111,117,116,112,117,116,95,118,97,114]++[]++[59]=t7:=by rw [e7,e4,e3,e2,e1] <;> simp [List.append_assoc]
    rw [show AwQ ⟨kind,name,bool,dom,size,true,[],ask⟩=(t7,db && jb && decide (0≤1) && decide (size=0) && decide (ask=0) && nb) by (rw [hE,← hS];try simp)]
    rw [AlQ]
    simp +contextual -implicitDefEqProofs only [sm,AxX,AaZ,seval,List.length_cons,List.length_nil]
    refine AaY hd (AaQ _) ?_ ?_
    · simp +contextual -implicitDefEqProofs only [sm,seval,AeY,AdQ]
    simp +contextual -implicitDefEqProofs only [sm,seval]
    refine AaY hj (AaQ _) ?_ ?_
    · simp +contextual -implicitDefEqProofs only [sm,seval,AeY,AdQ]
    cases db with
    | false=>simp +contextual -implicitDefEqProofs only [sm,seval,c1,c2,c3,c4,c7]
    |
     true =>
     cases jb with
     | false=>simp +contextual -implicitDefEqProofs only [sm,seval,c1,c2,c3,c4,c7]
     |
      true =>
      by_cases s0:size=0
      · by_cases a0:ask=0
        · simp +contextual -implicitDefEqProofs only [sm,seval,c1,c2,c3,c4,c7,s0,a0]
          refine AaY hn (AaQ _) rfl ?_
          cases nb with
          | false=>simp +contextual -implicitDefEqProofs only [sm,seval]
          | true=>simp +contextual -implicitDefEqProofs only [sm,seval]
        · simp +contextual -implicitDefEqProofs only [sm,seval,c1,c2,c3,c4,c7,s0,a0]
      · simp +contextual -implicitDefEqProofs only [sm,seval,c1,c2,c3,c4,c7,s0]
  · obtain ⟨t1,e1,l1,c1⟩:=cat2 [118,97,114,32] ds (by simp only [List.length_cons,List.length_nil];omega)
    obtain ⟨t2,e2,l2,c2⟩:=cat2 t1 [58,32] (by simp only [l1,List.length_cons,List.length_nil];omega)
    obtain ⟨t3,e3,l3,c3⟩:=cat2 t2 name (by simp only [l1,l2,List.length_cons,List.length_nil];omega)
    obtain ⟨t4,e4,l4,c4⟩:=cat2 t3 [32,58,58,32,111,117,116,112,117,116,95,118,97,114] (by simp only [l1,l2,l3,List.length_cons,List.length_nil];omega)
    obtain ⟨t5,e5,l5,c5⟩:=cat2 [32,61,32] js (by simp only [l1,l2,l3,l4,List.length_cons,List.length_nil];omega)
    obtain ⟨t6,e6,l6,c6⟩:=cat2 t4 t5 (by simp only [l5,l1,l2,l3,l4,List.length_cons,List.length_nil];omega)
    obtain ⟨t7,e7,l7,c7⟩:=cat2 t6 [59] (by simp only [l5,l6,l1,l2,l3,l4,List.length_cons,List.length_nil];omega)
    have hS:[118,97,114,32]++ds++[58,32]++name++[32,58,58,32,111,117,116,112,117,116,95,118,97,114]++([32,61,32]++js)++[59]=t7:=by rw [e7,e6,e5,e4,e3,e2,e1] <;> simp [List.append_assoc]
    rw [show AwQ ⟨kind,name,bool,dom,size,true,[v],ask⟩=(t7,db && jb && decide (1≤1) && decide (size=0) && decide (ask=0) && nb) by (rw [hE,← hS];try simp)]
    rw [AlQ]
    have hgt:(0:Int)<(1:Int):=by omega
    simp +contextual -implicitDefEqProofs only [sm,AxX,AaZ,seval,List.length_cons,List.length_nil]
    refine AaY hd (AaQ _) ?_ ?_
    · simp +contextual -implicitDefEqProofs only [sm,seval,AeY,AdQ]
    simp +contextual -implicitDefEqProofs only [sm,seval]
    refine AaY hj (AaQ _) ?_ ?_
    · simp +contextual -implicitDefEqProofs only [sm,seval,AeY,AdQ]
    cases db with
    | false=>simp +contextual -implicitDefEqProofs only [sm,seval,c1,c2,c3,c4,c5,c6,c7]
    |
     true =>
     cases jb with
     | false=>simp +contextual -implicitDefEqProofs only [sm,seval,c1,c2,c3,c4,c5,c6,c7]
     |
      true =>
      by_cases s0:size=0
      · by_cases a0:ask=0
        · simp +contextual -implicitDefEqProofs only [sm,seval,c1,c2,c3,c4,c5,c6,c7,s0,a0]
          refine AaY hn (AaQ _) rfl ?_
          cases nb with
          | false=>simp +contextual -implicitDefEqProofs only [sm,seval]
          | true=>simp +contextual -implicitDefEqProofs only [sm,seval]
        · simp +contextual -implicitDefEqProofs only [sm,seval,c1,c2,c3,c4,c5,c6,c7,s0,a0]
      · simp +contextual -implicitDefEqProofs only [sm,seval,c1,c2,c3,c4,c5,c6,c7,s0]
  · obtain ⟨t1,e1,l1,c1⟩:=cat2 [118,97,114,32] ds (by simp only [List.length_cons,List.length_nil];omega)
    obtain ⟨t2,e2,l2,c2⟩:=cat2 t1 [58,32] (by simp only [l1,List.length_cons,List.length_nil];omega)
    obtain ⟨t3,e3,l3,c3⟩:=cat2 t2 name (by simp only [l1,l2,List.length_cons,List.length_nil];omega)
    obtain ⟨t4,e4,l4,c4⟩:=cat2 t3 [32,58,58,32,111,117,116,112,117,116,95,118,97,114] (by simp only [l1,l2,l3,List.length_cons,List.length_nil];omega)
    obtain ⟨t5,e5,l5,c5⟩:=cat2 [32,61,32] js (by simp only [l1,l2,l3,l4,List.length_cons,List.length_nil];omega)
    obtain ⟨t6,e6,l6,c6⟩:=cat2 t4 t5 (by simp only [l5,l1,l2,l3,l4,List.length_cons,List.length_nil];omega)
    obtain ⟨t7,e7,l7,c7⟩:=cat2 t6 [59] (by simp only [l5,l6,l1,l2,l3,l4,List.length_cons,List.length_nil];omega)
    have hS:[118,97,114,32]++ds++[58,32]++name++[32,58,58,32,111,117,116,112,117,116,95,118,97,114]++([32,61,32]++js)++[59]=t7:=by rw [e7,e6,e5,e4,e3,e2,e1] <;> simp [List.append_assoc]
    rw [show AwQ ⟨kind,name,bool,dom,size,true,v::v2::vals,ask⟩=(t7,db && jb && decide (vals.length+1+1≤1) && decide (size=0) && decide (ask=0) && nb) by (rw [hE,← hS];try simp)]
    rw [AlQ]
    have hgt:(0:Int)<((vals.length+1+1:Nat):Int):=by omega
    simp +contextual -implicitDefEqProofs only [sm,AxX,AaZ,seval,List.length_cons,List.length_nil]
    refine AaY hd (AaQ _) ?_ ?_
    · simp +contextual -implicitDefEqProofs only [sm,seval,AeY,AdQ]
    simp +contextual -implicitDefEqProofs only [sm,seval]
    refine AaY hj (AaQ _) ?_ ?_
    · simp +contextual -implicitDefEqProofs only [sm,seval,AeY,AdQ]
    cases db with
    | false=>simp +contextual -implicitDefEqProofs only [sm,seval,hgt,c1,c2,c3,c4,c5,c6,c7]
    |
     true =>
     cases jb with
     | false=>simp +contextual -implicitDefEqProofs only [sm,seval,hgt,c1,c2,c3,c4,c5,c6,c7]
     |
      true =>
      have hle:¬ (((vals.length+1+1:Nat):Int)≤1):=by omega
      have hle2:¬ (vals.length+1+1≤1):=by omega
      simp +contextual -implicitDefEqProofs only [sm,seval,hgt,c1,c2,c3,c4,c5,c6,c7,hle,hle2]
theorem show_constraint (x:It) (hx:x.Fine):Ctr Tryz.prog 78 [eIt x] [] (bbV (BfY x)) []:=by
 refine AcZ Tryz.func78 Tryz.call78 e_show_constraint ?_
 have hj:=join_expr x hx
 have hjl:=BjX exprS 600000 x.vals (fun y hy=>exprS_len y (hx.vals y hy))
 have hn:=show_name x.name hx.name
 have hnl:=hx.name
 have hb:=show_bare x
 have hE:BfY x=([99,111,110,115,116,114,97,105,110,116,32]++x.name++[40]++(BbQ exprS x.vals).1++[41,59],(BbQ exprS x.vals).2 && bareB x && !x.bool && BpQ x.name):=rfl
 generalize BbQ exprS x.vals=J at hj hE hjl
 obtain ⟨js,jb⟩:=J
 rw [AlQ] at hj
 simp only at hE hjl
 obtain ⟨t1,e1,l1,c1⟩:=cat2 [99,111,110,115,116,114,97,105,110,116,32] x.name (by simp only [List.length_cons,List.length_nil];omega)
 obtain ⟨t2,e2,l2,c2⟩:=cat2 t1 [40] (by simp only [l1,List.length_cons,List.length_nil];omega)
 obtain ⟨t3,e3,l3,c3⟩:=cat2 t2 js (by simp only [l1,l2,List.length_cons,List.length_nil];omega)
 obtain ⟨t4,e4,l4,c4⟩:=cat2 t3 [41,59] (by simp only [l1,l2,l3,List.length_cons,List.length_nil];omega)
 rw [← e1,← e2,← e3,← e4] at hE
 generalize bareB x=bb at hb hE
 generalize BpQ x.name=nb at hn hE
 rw [hE,AlQ]
 clear hE e1 e2 e3 e4
 obtain ⟨kind,name,bool,dom,size,out,vals,ask⟩:=x
 simp +contextual -implicitDefEqProofs only [sm,c_show_constraint,AaZ,seval]
 refine AaY hj (AaQ _) ?_ ?_
 · simp +contextual -implicitDefEqProofs only [sm,seval,AeY,AdQ]
 cases jb with
 | false=>simp +contextual -implicitDefEqProofs only [sm,seval,c1,c2,c3,c4]
 |
  true =>
  simp +contextual -implicitDefEqProofs only [sm,seval,c1,c2,c3,c4]
  refine AaY hb ?_ ?_ ?_
  · simp +contextual -implicitDefEqProofs only [sm,seval,AaZ,AcQ]
  · simp +contextual -implicitDefEqProofs only [sm,seval,AeY,AdQ]
  cases bb with
  | false=>simp +contextual -implicitDefEqProofs only [sm,seval]
  |
   true =>
   cases bool with
   | true=>simp +contextual -implicitDefEqProofs only [sm,seval]
   |
    false =>
    simp +contextual -implicitDefEqProofs only [sm,seval]
    refine AaY hn (AaQ _) rfl ?_
    cases nb with
    | false=>simp +contextual -implicitDefEqProofs only [sm,seval]
    | true=>simp +contextual -implicitDefEqProofs only [sm,seval]
theorem show_goal (x:It) (hx:x.Fine):Ctr Tryz.prog 79 [eIt x] [] (bbV (goalS x)) []:=by
 refine AcZ Tryz.func79 Tryz.call79 e_show_goal ?_
 have hn:=show_name x.name hx.name
 have hnl:=hx.name
 have hb:=show_bare { x with ask:=0 }
 have hG:bareG x=(bareB { x with ask:=0 } && !x.bool && decide (x.vals=[])):=by
  simp [bareG,bareB]
 generalize bareB { x with ask:=0 }=bb at hb hG
 by_cases a0:x.ask=0
 · have hE:goalS x=([115,111,108,118,101,32,115,97,116,105,115,102,121,59],bareG x && decide (x.name=[])):=by unfold goalS;rw [if_pos a0]
   rw [hE,AlQ,hG]
   clear hE hG hn
   obtain ⟨kind,name,bool,dom,size,out,vals,ask⟩:=x
   simp only at a0
   subst a0
   simp +contextual -implicitDefEqProofs only [sm,c_show_goal,AaZ,seval]
   refine AaY hb ?_ ?_ ?_
   · simp +contextual -implicitDefEqProofs only [sm,seval,AaZ,AcQ]
   · simp +contextual -implicitDefEqProofs only [sm,seval,AeY,AdQ]
   cases bb with
   | false=>simp +contextual -implicitDefEqProofs only [sm,seval]
   |
    true =>
    cases bool with
    | true=>simp +contextual -implicitDefEqProofs only [sm,seval]
    |
     false =>
     cases vals with
     |
      nil =>
      by_cases n0:name=[]
      iterate 2 simp +contextual -implicitDefEqProofs only [sm,seval,n0]
     |
      cons v vals =>
      have hn2:¬ (((vals.length+1:Nat):Int)=0):=by omega
      simp +contextual -implicitDefEqProofs only [sm,seval,hn2]
 by_cases a1:x.ask=1
 · have hE:goalS x=([115,111,108,118,101,32,109,105,110,105,109,105,122,101,32]++x.name++[59],bareG x && BpQ x.name):=by unfold goalS;rw [if_neg a0,if_pos a1]
   obtain ⟨t1,e1,l1,c1⟩:=cat2 [115,111,108,118,101,32,109,105,110,105,109,105,122,101,32] x.name (by simp only [List.length_cons,List.length_nil];omega)
   obtain ⟨t2,e2,l2,c2⟩:=cat2 t1 [59] (by simp only [l1,List.length_cons,List.length_nil];omega)
   rw [← e1,← e2] at hE
   generalize BpQ x.name=nb at hn hE
   rw [hE,AlQ,hG]
   clear hE hG e1 e2
   obtain ⟨kind,name,bool,dom,size,out,vals,ask⟩:=x
   simp only at a1 a0
   subst a1
   simp +contextual -implicitDefEqProofs only [sm,c_show_goal,AaZ,seval]
   refine AaY hb ?_ ?_ ?_
   · simp +contextual -implicitDefEqProofs only [sm,seval,AaZ,AcQ]
   · simp +contextual -implicitDefEqProofs only [sm,seval,AeY,AdQ]
   cases bb with
   | false=>simp +contextual -implicitDefEqProofs only [sm,seval,c1,c2]
   |
    true =>
    cases bool with
    | true=>simp +contextual -implicitDefEqProofs only [sm,seval,c1,c2]
    |
     false =>
     cases vals with
     |
      nil =>
      simp +contextual -implicitDefEqProofs only [sm,seval,c1,c2]
      refine AaY hn (AaQ _) rfl ?_
      cases nb with
      | false=>simp +contextual -implicitDefEqProofs only [sm,seval]
      | true=>simp +contextual -implicitDefEqProofs only [sm,seval]
     |
      cons v vals =>
      have hn2:¬ (((vals.length+1:Nat):Int)=0):=by omega
      simp +contextual -implicitDefEqProofs only [sm,seval,hn2,c1,c2]
 by_cases a2:x.ask=2
 · have hE:goalS x=([115,111,108,118,101,32,109,97,120,105,109,105,122,101,32]++x.name++[59],bareG x && BpQ x.name):=by unfold goalS;rw [if_neg a0,if_neg a1,if_pos a2]
   obtain ⟨t1,e1,l1,c1⟩:=cat2 [115,111,108,118,101,32,109,97,120,105,109,105,122,101,32] x.name (by simp only [List.length_cons,List.length_nil];omega)
   obtain ⟨t2,e2,l2,c2⟩:=cat2 t1 [59] (by simp only [l1,List.length_cons,List.length_nil];omega)
   rw [← e1,← e2] at hE
   generalize BpQ x.name=nb at hn hE
   rw [hE,AlQ,hG]
   clear hE hG e1 e2
   obtain ⟨kind,name,bool,dom,size,out,vals,ask⟩:=x
   simp only at a2 a0
   subst a2
   simp +contextual -implicitDefEqProofs only [sm,c_show_goal,AaZ,seval]
   refine AaY hb ?_ ?_ ?_
   · simp +contextual -implicitDefEqProofs only [sm,seval,AaZ,AcQ]
   · simp +contextual -implicitDefEqProofs only [sm,seval,AeY,AdQ]
   cases bb with
   | false=>simp +contextual -implicitDefEqProofs only [sm,seval,c1,c2]
   |
    true =>
    cases bool with
    | true=>simp +contextual -implicitDefEqProofs only [sm,seval,c1,c2]
    |
     false =>
     cases vals with
     |
      nil =>
      simp +contextual -implicitDefEqProofs only [sm,seval,c1,c2]
      refine AaY hn (AaQ _) rfl ?_
      cases nb with
      | false=>simp +contextual -implicitDefEqProofs only [sm,seval]
      | true=>simp +contextual -implicitDefEqProofs only [sm,seval]
     |
      cons v vals =>
      have hn2:¬ (((vals.length+1:Nat):Int)=0):=by omega
      simp +contextual -implicitDefEqProofs only [sm,seval,hn2,c1,c2]
 have hE:goalS x=([],false):=by unfold goalS;rw [if_neg a0,if_neg a1,if_neg a2]
 rw [hE,AlQ]
 obtain ⟨kind,name,bool,dom,size,out,vals,ask⟩:=x
 simp +contextual -implicitDefEqProofs only [sm,c_show_goal,AaZ,seval]
 refine AaY hb ?_ ?_ ?_
 · simp +contextual -implicitDefEqProofs only [sm,seval,AaZ,AcQ]
 · simp +contextual -implicitDefEqProofs only [sm,seval,AeY,AdQ]
 cases bb with
 | false=>simp +contextual -implicitDefEqProofs only [sm,seval,a0,a1,a2]
 |
  true =>
  cases bool with
  | true=>simp +contextual -implicitDefEqProofs only [sm,seval,a0,a1,a2]
  | false=>simp +contextual -implicitDefEqProofs only [sm,seval,a0,a1,a2]
end Go.Proofs.YtcmphhedaefcgaaGreatDoor
end
section
namespace Go.Proofs.YtcmphhedaefcgaaGreatDoor
open Av
attribute [local irreducible] awp AbX
attribute [local irreducible] awX opX
set_option maxRecDepth 100000
set_option maxHeartbeats 4000000
theorem show_array (x:It) (hx:x.Fine):Ctr Tryz.prog 77 [eIt x] [] (bbV (arrayS x)) []:=by
 refine AcZ Tryz.func77 Tryz.call77 e_show_array ?_
 have hj:=join_plain x hx
 have hjl:=BjX AfQ 8192 x.vals (fun y hy=>BbY y (hx.vals y hy))
 have hn:=show_name x.name hx.name
 have hnl:=hx.name
 have hs:=show_num x.size hx.size
 have hsl:=itoa_len x.size hx.size
 have ht:=show_truth x.bool
 have htl:=truthS_len x.bool
 have hE:arrayS x=([97,114,114,97,121,32]++([91,49,46,46]++Lib.itoa x.size++[93])++[32,111,102,32]++(if x.kind=4 then [118,97,114,32] else [])++ApZ x.bool++[58,32]++x.name++(if x.out=true then [32,58,58,32,111,117,116,112,117,116,95,97,114,114,97,121,40]++([91,49,46,46]++Lib.itoa x.size++[93])++[41] else [])++[32,61,32,91]++(BbQ AfQ x.vals).1++[93,59],(BbQ AfQ x.vals).2 && decide (x.dom=[]) && decide (x.ask=0) && (!x.out || decide (x.kind=4)) && BpQ x.name):=rfl
 generalize BbQ AfQ x.vals=J at hj hE hjl
 obtain ⟨js,jb⟩:=J
 rw [AlQ] at hj
 simp only at hE hjl
 generalize ApZ x.bool=T at ht hE htl
 generalize Lib.itoa x.size=ns at hs hE hsl
 generalize BpQ x.name=nb at hn hE
 obtain ⟨kind,name,bool,dom,size,out,vals,ask⟩:=x
 simp only at hE hnl
 by_cases k4:kind=4
 · cases out with
   |
    false =>
    obtain ⟨t1,e1,l1,c1⟩:=cat2 [91,49,46,46] ns (by simp only [List.length_cons,List.length_nil];omega)
    obtain ⟨t2,e2,l2,c2⟩:=cat2 t1 [93] (by simp only [l1,List.length_cons,List.length_nil];omega)
    obtain ⟨t3,e3,l3,c3⟩:=cat2 [97,114,114,97,121,32] t2 (by simp only [l1,l2,List.length_cons,List.length_nil];omega)
    obtain ⟨t4,e4,l4,c4⟩:=cat2 t3 [32,111,102,32] (by simp only [l1,l2,l3,List.length_cons,List.length_nil];omega)
    obtain ⟨t5,e5,l5,c5⟩:=cat2 t4 [118,97,114,32] (by simp only [l1,l2,l3,l4,List.length_cons,List.length_nil];omega)
    obtain ⟨t6,e6,l6,c6⟩:=cat2 T [58,32] (by simp only [l1,l2,l3,l4,l5,List.length_cons,List.length_nil];omega)
    obtain ⟨t7,e7,l7,c7⟩:=cat2 t6 name (by simp only [l1,l2,l3,l4,l5,l6,List.length_cons,List.length_nil];omega)
    obtain ⟨t8,e8,l8,c8⟩:=cat2 t5 t7 (by simp only [l1,l2,l3,l4,l5,l6,l7,List.length_cons,List.length_nil];omega)
    obtain ⟨tc,ec,lc,cc⟩:=cat2 t8 [32,61,32,91] (by simp only [l1,l2,l3,l4,l5,l6,l7,l8,List.length_cons,List.length_nil];omega)
    obtain ⟨td,ed,ld,cd⟩:=cat2 tc js (by simp only [l1,l2,l3,l4,l5,l6,l7,l8,lc,List.length_cons,List.length_nil];omega)
    obtain ⟨te,ee,le,ce⟩:=cat2 td [93,59] (by simp only [l1,l2,l3,l4,l5,l6,l7,l8,lc,ld,List.length_cons,List.length_nil];omega)
    have hS:[97,114,114,97,121,32]++([91,49,46,46]++ns++[93])++[32,111,102,32]++[118,97,114,32]++T++[58,32]++name++[]++[32,61,32,91]++js++[93,59]=te:=by rw [ee,ed,ec,e8,e7,e6,e5,e4,e3,e2,e1] <;> simp [List.append_assoc]
    rw [show arrayS ⟨kind,name,bool,dom,size,false,vals,ask⟩=(te,jb && decide (dom=[]) && decide (ask=0) && true && nb) by (rw [hE,← hS];try simp [k4])]
    rw [AlQ]
    clear hE hS
    simp +contextual -implicitDefEqProofs only [sm,c_show_array,AaZ,seval]
    refine AaY hs (AaQ _) rfl ?_
    simp +contextual -implicitDefEqProofs only [sm,seval,c1,c2,c3,c4,c5,c6,c7,c8,cc,cd,ce,k4]
    refine AaY ht (AaQ _) rfl ?_
    simp +contextual -implicitDefEqProofs only [sm,seval,c1,c2,c3,c4,c5,c6,c7,c8,cc,cd,ce]
    refine AaY hj (AaQ _) ?_ ?_
    · simp +contextual -implicitDefEqProofs only [sm,seval,AeY,AdQ]
    cases jb with
    | false=>simp +contextual -implicitDefEqProofs only [sm,seval,c1,c2,c3,c4,c5,c6,c7,c8,cc,cd,ce]
    |
     true =>
     cases dom with
     |
      cons r dom =>
      have hn2:¬ (((dom.length+1:Nat):Int)=0):=by omega
      simp +contextual -implicitDefEqProofs only [sm,seval,c1,c2,c3,c4,c5,c6,c7,c8,cc,cd,ce,hn2]
     |
      nil =>
      by_cases a0:ask=0
      · simp +contextual -implicitDefEqProofs only [sm,seval,c1,c2,c3,c4,c5,c6,c7,c8,cc,cd,ce,a0,k4]
        refine AaY hn (AaQ _) rfl ?_
        cases nb with
        | false=>simp +contextual -implicitDefEqProofs only [sm,seval]
        | true=>simp +contextual -implicitDefEqProofs only [sm,seval]
      · simp +contextual -implicitDefEqProofs only [sm,seval,c1,c2,c3,c4,c5,c6,c7,c8,cc,cd,ce,a0]
   |
    true =>
    obtain ⟨t1,e1,l1,c1⟩:=cat2 [91,49,46,46] ns (by simp only [List.length_cons,List.length_nil];omega)
    obtain ⟨t2,e2,l2,c2⟩:=cat2 t1 [93] (by simp only [l1,List.length_cons,List.length_nil];omega)
    obtain ⟨t3,e3,l3,c3⟩:=cat2 [97,114,114,97,121,32] t2 (by simp only [l1,l2,List.length_cons,List.length_nil];omega)
    obtain ⟨t4,e4,l4,c4⟩:=cat2 t3 [32,111,102,32] (by simp only [l1,l2,l3,List.length_cons,List.length_nil];omega)
    obtain ⟨t5,e5,l5,c5⟩:=cat2 t4 [118,97,114,32] (by simp only [l1,l2,l3,l4,List.length_cons,List.length_nil];omega)
    obtain ⟨t6,e6,l6,c6⟩:=cat2 T [58,32] (by simp only [l1,l2,l3,l4,l5,List.length_cons,List.length_nil];omega)
    obtain ⟨t7,e7,l7,c7⟩:=cat2 t6 name (by simp only [l1,l2,l3,l4,l5,l6,List.length_cons,List.length_nil];omega)
    obtain ⟨t8,e8,l8,c8⟩:=cat2 t5 t7 (by simp only [l1,l2,l3,l4,l5,l6,l7,List.length_cons,List.length_nil];omega)
    obtain ⟨t9,e9,l9,c9⟩:=cat2 [32,58,58,32,111,117,116,112,117,116,95,97,114,114,97,121,40] t2 (by simp only [l1,l2,l3,l4,l5,l6,l7,l8,List.length_cons,List.length_nil];omega)
    obtain ⟨ta,ea,la,ca⟩:=cat2 t9 [41] (by simp only [l1,l2,l3,l4,l5,l6,l7,l8,l9,List.length_cons,List.length_nil];omega)
    obtain ⟨tb,eb,lb,cb⟩:=cat2 t8 ta (by simp only [l1,l2,l3,l4,l5,l6,l7,l8,l9,la,List.length_cons,List.length_nil];omega)
    obtain ⟨tc,ec,lc,cc⟩:=cat2 tb [32,61,32,91] (by simp only [l1,l2,l3,l4,l5,l6,l7,l8,l9,la,lb,List.length_cons,List.length_nil];omega)
    obtain ⟨td,ed,ld,cd⟩:=cat2 tc js (by simp only [l1,l2,l3,l4,l5,l6,l7,l8,l9,la,lb,lc,List.length_cons,List.length_nil];omega)
    obtain ⟨te,ee,le,ce⟩:=cat2 td [93,59] (by simp only [l1,l2,l3,l4,l5,l6,l7,l8,l9,la,lb,lc,ld,List.length_cons,List.length_nil];omega)
    have hS:[97,114,114,97,121,32]++([91,49,46,46]++ns++[93])++[32,111,102,32]++[118,97,114,32]++T++[58,32]++name++([32,58,58,32,111,117,116,112,117,116,95,97,114,114,97,121,40]++([91,49,46,46]++ns++[93])++[41])++[32,61,32,91]++js++[93,59]=te:=by rw [ee,ed,ec,eb,ea,e9,e8,e7,e6,e5,e4,e3,e2,e1] <;> simp [List.append_assoc]
    rw [show arrayS ⟨kind,name,bool,dom,size,true,vals,ask⟩=(te,jb && decide (dom=[]) && decide (ask=0) && decide (kind=4) && nb) by (rw [hE,← hS];try simp [k4])]
    rw [AlQ]
    clear hE hS
    simp +contextual -implicitDefEqProofs only [sm,c_show_array,AaZ,seval]
    refine AaY hs (AaQ _) rfl ?_
    simp +contextual -implicitDefEqProofs only [sm,seval,c1,c2,c3,c4,c5,c6,c7,c8,c9,ca,cb,cc,cd,ce,k4]
    refine AaY ht (AaQ _) rfl ?_
    simp +contextual -implicitDefEqProofs only [sm,seval,c1,c2,c3,c4,c5,c6,c7,c8,c9,ca,cb,cc,cd,ce]
    refine AaY hj (AaQ _) ?_ ?_
    · simp +contextual -implicitDefEqProofs only [sm,seval,AeY,AdQ]
    cases jb with
    | false=>simp +contextual -implicitDefEqProofs only [sm,seval,c1,c2,c3,c4,c5,c6,c7,c8,c9,ca,cb,cc,cd,ce]
    |
     true =>
     cases dom with
     |
      cons r dom =>
      have hn2:¬ (((dom.length+1:Nat):Int)=0):=by omega
      simp +contextual -implicitDefEqProofs only [sm,seval,c1,c2,c3,c4,c5,c6,c7,c8,c9,ca,cb,cc,cd,ce,hn2]
     |
      nil =>
      by_cases a0:ask=0
      · simp +contextual -implicitDefEqProofs only [sm,seval,c1,c2,c3,c4,c5,c6,c7,c8,c9,ca,cb,cc,cd,ce,a0,k4]
        refine AaY hn (AaQ _) rfl ?_
        cases nb with
        | false=>simp +contextual -implicitDefEqProofs only [sm,seval]
        | true=>simp +contextual -implicitDefEqProofs only [sm,seval]
      · simp +contextual -implicitDefEqProofs only [sm,seval,c1,c2,c3,c4,c5,c6,c7,c8,c9,ca,cb,cc,cd,ce,a0]
 · cases out with
   |
    false =>
    obtain ⟨t1,e1,l1,c1⟩:=cat2 [91,49,46,46] ns (by simp only [List.length_cons,List.length_nil];omega)
    obtain ⟨t2,e2,l2,c2⟩:=cat2 t1 [93] (by simp only [l1,List.length_cons,List.length_nil];omega)
    obtain ⟨t3,e3,l3,c3⟩:=cat2 [97,114,114,97,121,32] t2 (by simp only [l1,l2,List.length_cons,List.length_nil];omega)
    obtain ⟨t4,e4,l4,c4⟩:=cat2 t3 [32,111,102,32] (by simp only [l1,l2,l3,List.length_cons,List.length_nil];omega)
    obtain ⟨t6,e6,l6,c6⟩:=cat2 T [58,32] (by simp only [l1,l2,l3,l4,List.length_cons,List.length_nil];omega)
    obtain ⟨t7,e7,l7,c7⟩:=cat2 t6 name (by simp only [l1,l2,l3,l4,l6,List.length_cons,List.length_nil];omega)
    obtain ⟨t8,e8,l8,c8⟩:=cat2 t4 t7 (by simp only [l1,l2,l3,l4,l6,l7,List.length_cons,List.length_nil];omega)
    obtain ⟨tc,ec,lc,cc⟩:=cat2 t8 [32,61,32,91] (by simp only [l1,l2,l3,l4,l6,l7,l8,List.length_cons,List.length_nil];omega)
    obtain ⟨td,ed,ld,cd⟩:=cat2 tc js (by simp only [l1,l2,l3,l4,l6,l7,l8,lc,List.length_cons,List.length_nil];omega)
    obtain ⟨te,ee,le,ce⟩:=cat2 td [93,59] (by simp only [l1,l2,l3,l4,l6,l7,l8,lc,ld,List.length_cons,List.length_nil];omega)
    have hS:[97,114,114,97,121,32]++([91,49,46,46]++ns++[93])++[32,111,102,32]++[]++T++[58,32]++name++[]++[32,61,32,91]++js++[93,59]=te:=by rw [ee,ed,ec,e8,e7,e6,e4,e3,e2,e1] <;> simp [List.append_assoc]
    rw [show arrayS ⟨kind,name,bool,dom,size,false,vals,ask⟩=(te,jb && decide (dom=[]) && decide (ask=0) && true && nb) by (rw [hE,← hS];try simp [k4])]
    rw [AlQ]
    clear hE hS
    simp +contextual -implicitDefEqProofs only [sm,c_show_array,AaZ,seval]
    refine AaY hs (AaQ _) rfl ?_
    simp +contextual -implicitDefEqProofs only [sm,seval,c1,c2,c3,c4,c6,c7,c8,cc,cd,ce,k4]
    refine AaY ht (AaQ _) rfl ?_
    simp +contextual -implicitDefEqProofs only [sm,seval,c1,c2,c3,c4,c6,c7,c8,cc,cd,ce]
    refine AaY hj (AaQ _) ?_ ?_
    · simp +contextual -implicitDefEqProofs only [sm,seval,AeY,AdQ]
    cases jb with
    | false=>simp +contextual -implicitDefEqProofs only [sm,seval,c1,c2,c3,c4,c6,c7,c8,cc,cd,ce]
    |
     true =>
     cases dom with
     |
      cons r dom =>
      have hn2:¬ (((dom.length+1:Nat):Int)=0):=by omega
      simp +contextual -implicitDefEqProofs only [sm,seval,c1,c2,c3,c4,c6,c7,c8,cc,cd,ce,hn2]
     |
      nil =>
      by_cases a0:ask=0
      · simp +contextual -implicitDefEqProofs only [sm,seval,c1,c2,c3,c4,c6,c7,c8,cc,cd,ce,a0,k4]
        refine AaY hn (AaQ _) rfl ?_
        cases nb with
        | false=>simp +contextual -implicitDefEqProofs only [sm,seval]
        | true=>simp +contextual -implicitDefEqProofs only [sm,seval]
      · simp +contextual -implicitDefEqProofs only [sm,seval,c1,c2,c3,c4,c6,c7,c8,cc,cd,ce,a0]
   |
    true =>
    obtain ⟨t1,e1,l1,c1⟩:=cat2 [91,49,46,46] ns (by simp only [List.length_cons,List.length_nil];omega)
    obtain ⟨t2,e2,l2,c2⟩:=cat2 t1 [93] (by simp only [l1,List.length_cons,List.length_nil];omega)
    obtain ⟨t3,e3,l3,c3⟩:=cat2 [97,114,114,97,121,32] t2 (by simp only [l1,l2,List.length_cons,List.length_nil];omega)
    obtain ⟨t4,e4,l4,c4⟩:=cat2 t3 [32,111,102,32] (by simp only [l1,l2,l3,List.length_cons,List.length_nil];omega)
    obtain ⟨t6,e6,l6,c6⟩:=cat2 T [58,32] (by simp only [l1,l2,l3,l4,List.length_cons,List.length_nil];omega)
    obtain ⟨t7,e7,l7,c7⟩:=cat2 t6 name (by simp only [l1,l2,l3,l4,l6,List.length_cons,List.length_nil];omega)
    obtain ⟨t8,e8,l8,c8⟩:=cat2 t4 t7 (by simp only [l1,l2,l3,l4,l6,l7,List.length_cons,List.length_nil];omega)
    obtain ⟨t9,e9,l9,c9⟩:=cat2 [32,58,58,32,111,117,116,112,117,116,95,97,114,114,97,121,40] t2 (by simp only [l1,l2,l3,l4,l6,l7,l8,List.length_cons,List.length_nil];omega)
    obtain ⟨ta,ea,la,ca⟩:=cat2 t9 [41] (by simp only [l1,l2,l3,l4,l6,l7,l8,l9,List.length_cons,List.length_nil];omega)
    obtain ⟨tb,eb,lb,cb⟩:=cat2 t8 ta (by simp only [l1,l2,l3,l4,l6,l7,l8,l9,la,List.length_cons,List.length_nil];omega)
    obtain ⟨tc,ec,lc,cc⟩:=cat2 tb [32,61,32,91] (by simp only [l1,l2,l3,l4,l6,l7,l8,l9,la,lb,List.length_cons,List.length_nil];omega)
    obtain ⟨td,ed,ld,cd⟩:=cat2 tc js (by simp only [l1,l2,l3,l4,l6,l7,l8,l9,la,lb,lc,List.length_cons,List.length_nil];omega)
    obtain ⟨te,ee,le,ce⟩:=cat2 td [93,59] (by simp only [l1,l2,l3,l4,l6,l7,l8,l9,la,lb,lc,ld,List.length_cons,List.length_nil];omega)
    have hS:[97,114,114,97,121,32]++([91,49,46,46]++ns++[93])++[32,111,102,32]++[]++T++[58,32]++name++([32,58,58,32,111,117,116,112,117,116,95,97,114,114,97,121,40]++([91,49,46,46]++ns++[93])++[41])++[32,61,32,91]++js++[93,59]=te:=by rw [ee,ed,ec,eb,ea,e9,e8,e7,e6,e4,e3,e2,e1] <;> simp [List.append_assoc]
    rw [show arrayS ⟨kind,name,bool,dom,size,true,vals,ask⟩=(te,jb && decide (dom=[]) && decide (ask=0) && decide (kind=4) && nb) by (rw [hE,← hS];try simp [k4])]
    rw [AlQ]
    clear hE hS
    simp +contextual -implicitDefEqProofs only [sm,c_show_array,AaZ,seval]
    refine AaY hs (AaQ _) rfl ?_
    simp +contextual -implicitDefEqProofs only [sm,seval,c1,c2,c3,c4,c6,c7,c8,c9,ca,cb,cc,cd,ce,k4]
    refine AaY ht (AaQ _) rfl ?_
    simp +contextual -implicitDefEqProofs only [sm,seval,c1,c2,c3,c4,c6,c7,c8,c9,ca,cb,cc,cd,ce]
    refine AaY hj (AaQ _) ?_ ?_
    · simp +contextual -implicitDefEqProofs only [sm,seval,AeY,AdQ]
    cases jb with
    | false=>simp +contextual -implicitDefEqProofs only [sm,seval,c1,c2,c3,c4,c6,c7,c8,c9,ca,cb,cc,cd,ce]
    |
     true =>
     cases dom with
     |
      cons r dom =>
      have hn2:¬ (((dom.length+1:Nat):Int)=0):=by omega
      simp +contextual -implicitDefEqProofs only [sm,seval,c1,c2,c3,c4,c6,c7,c8,c9,ca,cb,cc,cd,ce,hn2]
     |
      nil =>
      by_cases a0:ask=0
      · simp +contextual -implicitDefEqProofs only [sm,seval,c1,c2,c3,c4,c6,c7,c8,c9,ca,cb,cc,cd,ce,a0,k4]
      · simp +contextual -implicitDefEqProofs only [sm,seval,c1,c2,c3,c4,c6,c7,c8,c9,ca,cb,cc,cd,ce,a0]
theorem show_text (x:It) (hx:x.Fine):Ctr Tryz.prog 34 [eIt x] [] (bbV (BaY x)) []:=by
 refine AcZ Tryz.func34 Tryz.call34 e_show_text ?_
 by_cases k1:x.kind=1
 · have hE:BaY x=parS x:=by unfold BaY;simp [k1]
   have hc:=show_par x hx
   rw [hE]
   generalize parS x=r at hc
   rw [bbV_eq,AaZ] at hc
   simp +contextual -implicitDefEqProofs only [sm,BkY,AaZ,seval,k1]
   refine AaY hc ?_ ?_ ?_
   · simp +contextual -implicitDefEqProofs only [sm,seval,k1]
   · simp +contextual -implicitDefEqProofs only [sm,seval,AeY,AdQ]
   simp +contextual -implicitDefEqProofs only [sm,seval,bbV_eq]
 by_cases k2:x.kind=2
 · have hE:BaY x=AwQ x:=by unfold BaY;simp [k2]
   have hc:=show_variable x hx
   rw [hE]
   generalize AwQ x=r at hc
   rw [bbV_eq,AaZ] at hc
   simp +contextual -implicitDefEqProofs only [sm,BkY,AaZ,seval,k2]
   refine AaY hc ?_ ?_ ?_
   · simp +contextual -implicitDefEqProofs only [sm,seval,k2]
   · simp +contextual -implicitDefEqProofs only [sm,seval,AeY,AdQ]
   simp +contextual -implicitDefEqProofs only [sm,seval,bbV_eq]
 by_cases k3:x.kind=3
 · have hE:BaY x=arrayS x:=by unfold BaY;simp [k3]
   have hc:=show_array x hx
   rw [hE]
   generalize arrayS x=r at hc
   rw [bbV_eq,AaZ] at hc
   simp +contextual -implicitDefEqProofs only [sm,BkY,AaZ,seval,k3]
   refine AaY hc ?_ ?_ ?_
   · simp +contextual -implicitDefEqProofs only [sm,seval,k3]
   · simp +contextual -implicitDefEqProofs only [sm,seval,AeY,AdQ]
   simp +contextual -implicitDefEqProofs only [sm,seval,bbV_eq]
 by_cases k4:x.kind=4
 · have hE:BaY x=arrayS x:=by unfold BaY;simp [k4]
   have hc:=show_array x hx
   rw [hE]
   generalize arrayS x=r at hc
   rw [bbV_eq,AaZ] at hc
   simp +contextual -implicitDefEqProofs only [sm,BkY,AaZ,seval,k4]
   refine AaY hc ?_ ?_ ?_
   · simp +contextual -implicitDefEqProofs only [sm,seval,k4]
   · simp +contextual -implicitDefEqProofs only [sm,seval,AeY,AdQ]
   simp +contextual -implicitDefEqProofs only [sm,seval,bbV_eq]
 by_cases k5:x.kind=5
 · have hE:BaY x=BfY x:=by unfold BaY;simp [k5]
   have hc:=show_constraint x hx
   rw [hE]
   generalize BfY x=r at hc
   rw [bbV_eq,AaZ] at hc
   simp +contextual -implicitDefEqProofs only [sm,BkY,AaZ,seval,k5]
   refine AaY hc ?_ ?_ ?_
   · simp +contextual -implicitDefEqProofs only [sm,seval,k5]
   · simp +contextual -implicitDefEqProofs only [sm,seval,AeY,AdQ]
   simp +contextual -implicitDefEqProofs only [sm,seval,bbV_eq]
 by_cases k6:x.kind=6
 · have hE:BaY x=goalS x:=by unfold BaY;simp [k6]
   have hc:=show_goal x hx
   rw [hE]
   generalize goalS x=r at hc
   rw [bbV_eq,AaZ] at hc
   simp +contextual -implicitDefEqProofs only [sm,BkY,AaZ,seval,k6]
   refine AaY hc ?_ ?_ ?_
   · simp +contextual -implicitDefEqProofs only [sm,seval,k6]
   · simp +contextual -implicitDefEqProofs only [sm,seval,AeY,AdQ]
   simp +contextual -implicitDefEqProofs only [sm,seval,bbV_eq]
 have hE:BaY x=([],false):=by unfold BaY;simp [k1,k2,k3,k4,k5,k6]
 rw [hE,AlQ]
 simp +contextual -implicitDefEqProofs only [sm,BkY,AaZ,seval,k1,k2,k3,k4,k5,k6]
theorem show_fits (s:Bs) (hs:s.length≤9223372036854775807):Ctr Tryz.prog 15 [.str (S8 s)] [] (.bool (fitsB s)) []:=by
 refine AcZ Tryz.func15 Tryz.call15 e_show_fits ?_
 have hL:=lex_Split s hs
 unfold fitsB
 cases hl:lexS s with
 |
  error e =>
  have he:e≠0:=by rintro rfl;exact lexS_ne s hl
  rw [hl,splitV_err] at hL
  simp +contextual -implicitDefEqProofs only [sm,c_show_fits,seval]
  refine AaY hL (AaQ _) rfl ?_
  simp +contextual -implicitDefEqProofs only [sm,seval,he,errE]
 |
  ok ts =>
  rw [hl,splitV_ok] at hL
  simp +contextual -implicitDefEqProofs only [sm,c_show_fits,seval]
  refine AaY hL (AaQ _) rfl ?_
  simp +contextual -implicitDefEqProofs only [sm,seval,errE]
theorem parS_len (x:It) (hx:x.Fine):(parS x).1.length≤900000600000:=by
 have:=BjX AfQ 8192 x.vals (fun y hy=>BbY y (hx.vals y hy))
 have:=truthS_len x.bool
 have:=hx.name
 simp only [parS,List.length_append,List.length_cons,List.length_nil];omega
theorem variableS_len (x:It) (hx:x.Fine):(AwQ x).1.length≤900000600000:=by
 have:=BjX AfQ 8192 x.vals (fun y hy=>BbY y (hx.vals y hy))
 have:=domS_len x hx
 have:=hx.name
 simp only [AwQ,List.length_append,List.length_cons,List.length_nil]
 split <;> split <;> simp only [List.length_append,List.length_cons,List.length_nil] <;> omega
theorem arrayS_len (x:It) (hx:x.Fine):(arrayS x).1.length≤900000600000:=by
 have:=BjX AfQ 8192 x.vals (fun y hy=>BbY y (hx.vals y hy))
 have:=truthS_len x.bool
 have:=itoa_len x.size hx.size
 have:=hx.name
 simp only [arrayS,sizeS,List.length_append,List.length_cons,List.length_nil]
 split <;> split <;> simp only [List.length_append,List.length_cons,List.length_nil] <;> omega
theorem constraintS_len (x:It) (hx:x.Fine):(BfY x).1.length≤900040600000:=by
 have:=BjX exprS 600000 x.vals (fun y hy=>exprS_len y (hx.vals y hy))
 have:=hx.name
 simp only [BfY,List.length_append,List.length_cons,List.length_nil];omega
theorem goalS_len (x:It) (hx:x.Fine):(goalS x).1.length≤900000600000:=by
 have:=hx.name
 unfold goalS
 split
 · simp
 · split
   · simp only [List.length_append,List.length_cons,List.length_nil];omega
   · split
     · simp only [List.length_append,List.length_cons,List.length_nil];omega
     · simp
theorem itemS_len (x:It) (hx:x.Fine):(BaY x).1.length≤900040600000:=by
 have:=parS_len x hx
 have:=variableS_len x hx
 have:=arrayS_len x hx
 have:=constraintS_len x hx
 have:=goalS_len x hx
 unfold BaY
 repeat' split
 all_goals first | (simp;done) | omega
theorem show_Right (x:It) (hx:x.Fine):Ctr Tryz.prog 27 [eIt x] [] (.bool (AdX x)) []:=by
 refine AcZ Tryz.func27 Tryz.call27 e_show_Right ?_
 have hc:=show_text x hx
 have hl:=itemS_len x hx
 unfold AdX
 generalize BaY x=r at hc hl
 obtain ⟨s,b⟩:=r
 rw [AlQ,AaZ] at hc
 simp only at hl
 have hf:=show_fits s (by omega)
 generalize fitsB s=fb at hf
 simp +contextual -implicitDefEqProofs only [sm,c_show_Right,AaZ,seval]
 refine AaY hc (AaQ _) ?_ ?_
 · simp +contextual -implicitDefEqProofs only [sm,seval,AeY,AdQ]
 cases b with
 | false=>simp +contextual -implicitDefEqProofs only [sm,seval]
 |
  true =>
  simp +contextual -implicitDefEqProofs only [sm,seval]
  refine AaY hf (AaQ _) rfl ?_
  cases fb with
  | false=>simp +contextual -implicitDefEqProofs only [sm,seval]
  | true=>simp +contextual -implicitDefEqProofs only [sm,seval]
def itemV (x:It):AV:=.tuple [.str (S8 (if AdX x=true then (BaY x).1 else [])),.int .i64 (if AdX x=true then 0 else 2)]
theorem show_Item (x:It) (hx:x.Fine):Ctr Tryz.prog 12 [eIt x] [] (itemV x) []:=by
 refine AcZ Tryz.func12 Tryz.call12 e_show_Item ?_
 have hc:=show_text x hx
 have hl:=itemS_len x hx
 unfold itemV AdX
 generalize BaY x=r at hc hl
 obtain ⟨s,b⟩:=r
 rw [AlQ,AaZ] at hc
 simp only at hl
 have hf:=show_fits s (by omega)
 generalize fitsB s=fb at hf
 simp +contextual -implicitDefEqProofs only [sm,c_show_Item,AaZ,seval]
 refine AaY hc (AaQ _) ?_ ?_
 · simp +contextual -implicitDefEqProofs only [sm,seval,AeY,AdQ]
 cases b with
 | false=>simp +contextual -implicitDefEqProofs only [sm,seval]
 |
  true =>
  simp +contextual -implicitDefEqProofs only [sm,seval]
  refine AaY hf (AaQ _) rfl ?_
  cases fb with
  | false=>simp +contextual -implicitDefEqProofs only [sm,seval]
  | true=>simp +contextual -implicitDefEqProofs only [sm,seval]
end Go.Proofs.YtcmphhedaefcgaaGreatDoor
end
section
namespace Go.Proofs.YtcmphhedaefcgaaGreatDoor
open Go.RowKit
abbrev tB:TypeId:=66
abbrev tE:TypeId:=5
theorem b_size:(Tryz.prog.info? tB).map (·.size)=some 2:=by kernel_rfl
theorem b_lies:liesAt Tryz.prog Tryz.prog.depth tB (2 / Tryz.prog.cellsOf tB) 0 tB 1=true:=by kernel_rfl
theorem e_info:(Tryz.prog.info? tE).map (fun i=>(i.zero,i.size,i.bytes))=some (some (.int .u8 0),1,1):=by kernel_rfl
set_option maxHeartbeats 1000000 in
set_option maxRecDepth 100000 in
theorem b_check_used (b:Nat) (w:World) (h0:w.cell? ⟨b,0,none⟩=some (.pointer (some ⟨b,0,none⟩))) :
 Calls Tryz.prog 35 #[.pointer (some ⟨b,0,none⟩)] w fun e w'=>e=.returned (.tuple #[])∧w'=w:=by
 obtain ⟨j,hj,_⟩:=Option.map_eq_some_iff.1 b_size
 go_enter Tryz.func35,Tryz.ntmps35
 go_wp2
 rw [Lib.run_neq_ptr_same w _ (by kernel_rfl) hj]
 go_wp2
 go_end0
 exact ⟨rfl,rfl⟩
set_option maxHeartbeats 1000000 in
set_option maxRecDepth 100000 in
theorem b_check_fresh (b:Nat) (w:World) (h0:w.cell? ⟨b,0,none⟩=some (.pointer none)) (hsh:w.shape? b=some (tB,2)) (hfz:w.frozen? ⟨b,0,none⟩=false) :
 Calls Tryz.prog 35 #[.pointer (some ⟨b,0,none⟩)] w fun e w'=>e=.returned (.tuple #[])∧w'=w.setCell ⟨b,0,none⟩ (.pointer (some ⟨b,0,none⟩)):=by
 obtain ⟨j,hj,hjs⟩:=Option.map_eq_some_iff.1 b_size
 go_enter Tryz.func35,Tryz.ntmps35
 go_wp2
 rw [Lib.run_to_unsafe w ⟨b,0,none⟩ (by kernel_rfl) (by kernel_rfl) hj (by rw [hjs];decide) hsh (Nat.zero_lt_succ 1)]
 simp only [Result.andThen]
 rw [Oper.upon_value]
 go_wp2
 rw [run_callFunc_extern Tryz.func80 (by kernel_rfl) (by kernel_rfl) (by kernel_rfl) (e:=Extern.AbiNoEscape.same) (by kernel_rfl)]
 rw [Lib.run_noEscape]
 simp only [Result.andThen]
 rw [Oper.upon_value]
 go_wp2
 rw [Lib.run_from_unsafe w ⟨b,0,none⟩ (by kernel_rfl) (by kernel_rfl) hj hsh b_lies]
 simp only [Result.andThen]
 rw [Oper.upon_value]
 go_wp2
 go_end0
 exact ⟨rfl,rfl⟩
theorem b_check (B b:Nat) (bs:List Value) (w:World) (h:Lib.IsBuilder tB tE B b bs w) :
 Calls Tryz.prog 35 #[.pointer (some ⟨b,0,none⟩)] w fun e w'=>e=.returned (.tuple #[])∧(Lib.BuilderAt tB tE B b (.pointer (some ⟨b,0,none⟩)) bs w'∧Below B w w'):=by
 rcases h with h | h
 · refine (b_check_fresh b w h.cell0 h.shape h.frozen0).mono ?_
   rintro e w' ⟨rfl,rfl⟩
   exact ⟨rfl,h.used _,(Below.refl B w).setCell (p:=⟨b,0,none⟩) h.1 _⟩
 · refine (b_check_used b w h.cell0).mono ?_
   rintro e w' ⟨rfl,rfl⟩
   exact ⟨rfl,h,Below.refl B _⟩
set_option maxHeartbeats 2000000 in
set_option maxRecDepth 100000 in
theorem b_WriteByte (B b:Nat) (bs:List Value) (c:Int) (w:World) (h:Lib.IsBuilder tB tE B b bs w) (hlen:bs.length+1≤140737488355328) (hBw:B≤w.heap.size) :
 Calls Tryz.prog 14 #[.pointer (some ⟨b,0,none⟩),.int .u8 c] w fun e w'=>e=.returned .nilIface∧(Lib.BuilderAt tB tE B b (.pointer (some ⟨b,0,none⟩)) (bs++[.int .u8 c]) w'∧Below B w w'):=by
 obtain ⟨i0,hi,hz0,hz1,hz2⟩:=info_parts e_info
 go_enter Tryz.func14,Tryz.ntmps14
 go_wp2_with (go_at_call 35;refine (b_check B b bs _ h).mono ?_)
 rintro e w1 ⟨rfl,h1,hb1⟩
 obtain ⟨hB,v,hbk,hown,hne⟩:=h1
 have c0:w1.cell? ⟨b,0,none⟩=some (.pointer (some ⟨b,0,none⟩)):=by rw [Lib.cell_of_heap hbk];rfl
 have c1:w1.cell? ⟨b,1,none⟩=some v:=by rw [Lib.cell_of_heap hbk];rfl
 go_wp2_with (at_builtin;refine wpList_append_own _ rfl _ _ 64 rfl B tE i0 (.int .u8 0) 1 1 (by kernel_rfl) hi hz0 hz1 hz2 rfl (by decide) _ _ _ rfl (hown.alloc _) ⟨w1.heap.size,0,none⟩ 1 1 [.int .u8 c] rfl rfl ?c1 ?c2 ?c3 ?c4 ?c5 ?_)
 case c1 =>
  intro j u hj
  match j,hj with
  | 0,hj=>simp at hj;subst hj;simp [Addr.add]
 case c2=>intro u hu;simp at hu;subst hu;rfl
 case c3=>unfold maxLen;omega
 case c4=>omega
 case c5=>have:=hb1.size;simp;omega
 intro v' w2 hown' hgrow _
 have hlt:b<w1.heap.size:=by
  rcases Nat.lt_or_ge b w1.heap.size with h' | h'
  · exact h'
  · simp [Array.getElem?_eq_none h'] at hbk
 have hb2:w2.heap[b]? = some (.cells #[.pointer (some ⟨b,0,none⟩),v] tB (0,0)):=by
  rw [hgrow.block b (by simp;omega) (fun e=>hne e.symm),Lib.alloc_old w1 _ b hlt]
  exact hbk
 have d0:w2.cell? ⟨b,0,none⟩=some (.pointer (some ⟨b,0,none⟩)):=by rw [Lib.cell_of_heap hb2];rfl
 have d1:w2.cell? ⟨b,1,none⟩=some v:=by rw [Lib.cell_of_heap hb2];rfl
 have f1:w2.frozen? ⟨b,1,none⟩=false:=Lib.frozen_of_heap hb2 1
 obtain ⟨g,cap,rfl⟩:∃ g cap,v'=.slice (some ⟨g,0,none⟩) (bs.length+1) cap:=by
  rcases hown'.2 with ⟨_,h0⟩ | ⟨g,cap,cur,hv,_⟩
  · omega
  · exact ⟨g,cap,hv⟩
 go_wp2
 go_ret
 refine ⟨rfl,?_,?_⟩
 · exact Lib.BuilderAt.put (T:=tB) (e:=tE) hB hb2 (bs':=bs++[.int .u8 c]) (by simpa using hown') (by decide)
 · exact ((hb1.alloc (by have:=hb1.size;omega) _).grown hgrow (by have:=hb1.size;simp;omega) (fun k hk=>(hown.lt k hk).1)).setCell (p:=⟨b,1,none⟩) hB _
set_option maxHeartbeats 2000000 in
set_option maxRecDepth 100000 in
theorem b_WriteString (B b:Nat) (bs:List Value) (s:ByteArray) (w:World) (h:Lib.IsBuilder tB tE B b bs w) (hlen:bs.length+s.size≤140737488355328) (hBw:B≤w.heap.size) :
 Calls Tryz.prog 13 #[.pointer (some ⟨b,0,none⟩),.string s] w fun e w'=>e=.returned (.tuple #[.int .i64 s.size,.nilIface])∧(Lib.BuilderAt tB tE B b (.pointer (some ⟨b,0,none⟩)) (bs++Lib.strCells s) w'∧Below B w w'):=by
 obtain ⟨i0,hi,hz0,hz1,hz2⟩:=info_parts e_info
 go_enter Tryz.func13,Tryz.ntmps13
 go_wp2_with (go_at_call 35;refine (b_check B b bs _ h).mono ?_)
 rintro e w1 ⟨rfl,h1,hb1⟩
 obtain ⟨hB,v,hbk,hown,hne⟩:=h1
 have c0:w1.cell? ⟨b,0,none⟩=some (.pointer (some ⟨b,0,none⟩)):=by rw [Lib.cell_of_heap hbk];rfl
 have c1:w1.cell? ⟨b,1,none⟩=some v:=by rw [Lib.cell_of_heap hbk];rfl
 go_wp2_with (at_builtin;refine Lib.wpList_append_own_string _ rfl _ _ 64 9 rfl B tE i0 (by kernel_rfl) (by kernel_rfl) hi hz0 hz1 hz2 _ _ _ rfl hown s rfl ?c3 ?c4 ?c5 ?_)
 case c3=>unfold maxLen;omega
 case c4=>omega
 case c5=>have:=hb1.size;omega
 intro v' w2 hown' hgrow _
 have hlt:b<w1.heap.size:=by
  rcases Nat.lt_or_ge b w1.heap.size with h' | h'
  · exact h'
  · simp [Array.getElem?_eq_none h'] at hbk
 have hb2:w2.heap[b]? = some (.cells #[.pointer (some ⟨b,0,none⟩),v] tB (0,0)):=by
  rw [hgrow.block b hlt (fun e=>hne e.symm)]
  exact hbk
 have d0:w2.cell? ⟨b,0,none⟩=some (.pointer (some ⟨b,0,none⟩)):=by rw [Lib.cell_of_heap hb2];rfl
 have d1:w2.cell? ⟨b,1,none⟩=some v:=by rw [Lib.cell_of_heap hb2];rfl
 have f1:w2.frozen? ⟨b,1,none⟩=false:=Lib.frozen_of_heap hb2 1
 obtain ⟨ao,n',cap,rfl⟩:∃ ao n' cap,v'=.slice ao n' cap:=by
  rcases hown'.2 with ⟨hv,_⟩ | ⟨g,cap,cur,hv,_⟩
  · exact ⟨_,_,_,hv⟩
  · exact ⟨_,_,_,hv⟩
 go_wp2
 go_ret2
 refine ⟨rfl,?_,?_⟩
 · exact Lib.BuilderAt.put (T:=tB) (e:=tE) hB hb2 (bs':=bs++Lib.strCells s) (by simpa [Lib.strCells_length] using hown') (by decide)
 · exact (hb1.grown hgrow (by have:=hb1.size;omega) (fun k hk=>(hown.lt k hk).1)).setCell (p:=⟨b,1,none⟩) hB _
end Go.Proofs.YtcmphhedaefcgaaGreatDoor
end
section
namespace Go.Proofs.YtcmphhedaefcgaaGreatDoor
open Av
attribute [local irreducible] awp AbX
open Go.RowKit
set_option maxRecDepth 100000
def notW (Ts:List Nat) (ops:List Oper):Bool:=ops.all fun o=>match o.dst with
 | some d=>!(Ts.contains d)
 | none=>true
theorem put_keep {a:Act} {o:Oper} {v:Value} {t:Nat} (h:o.dst≠some t):(a.put o.dst v).tmps[t]? = a.tmps[t]?:=by
 unfold Act.put
 cases hd:o.dst with
 | none=>rfl
 |
  some d =>
  simp only
  rw [Array.getElem?_setIfInBounds_ne]
  intro e;subst e;exact h hd
theorem upon_keep {P:Program} {o:Oper} {a:Act} {next next':Act→World→Prop} {Q Q':Exit→Act→World→Prop} {T:Nat→Prop} (hT:∀ t,T t→o.dst≠some t) (hn:∀ a' w',(∀ t,T t→a'.tmps[t]? = a.tmps[t]?)→next a' w'→next' a' w') (hQ:∀ e a' w',e≠.normal→Q e a' w'→Q' e a' w') :
 ∀ r,Oper.upon P o a next Q r→Oper.upon P o a next' Q' r:=by
 have hput:∀ v,∀ t,T t→(a.put o.dst v).tmps[t]? = a.tmps[t]?:=fun v t ht=>put_keep (hT t ht)
 have hlet:LetsOut Q→LetsOut Q':=fun ⟨a,w,h⟩=>⟨a,w,hQ _ _ _ (by simp) h⟩
 intro r h
 unfold Oper.upon at h ⊢
 split at h
 · exact hn _ _ (hput _) h
 · exact hn _ _ (hput _) h
 · rename_i d w'
   exact hn _ _ (fun t ht=>(put_keep (a:={ a with defers:=d::a.defers }) (hT t ht))) h
 · refine h.mono ?_
   intro e w' hh
   cases e with
   | returned v=>exact hn _ _ (hput _) hh
   | panicked c=>exact hQ _ _ _ (by simp) hh
   | outgrown=>exact hlet hh
 · exact h.mono fun v w' hh=>hn _ _ (hput _) hh
 · exact hQ _ _ _ (by simp) h
 · exact h.elim
theorem notW_get {Ts:List Nat} {os:List Oper} (h:notW Ts os=true) {o:Oper} (ho:o∈os):∀ t,t∈Ts→o.dst≠some t:=by
 intro t ht hd
 unfold notW at h
 rw [List.all_eq_true] at h
 have:=h o ho
 rw [hd] at this
 simp only [Bool.not_eq_true',List.contains_eq_mem,decide_eq_false_iff_not] at this
 exact this ht
theorem notW_range {Ts:List Nat} {ops:Array Oper} {os:List Oper} {k:Nat} (h:notW Ts os=true) (hd:ops.toList.drop k=os):∀ i,i∈List.range' k os.length→∀ o,ops[i]? = some o→∀ t,t∈Ts→o.dst≠some t:=by
 intro i hi o ho
 rw [List.mem_range'_1] at hi
 refine notW_get h ?_
 rw [← hd]
 have e:(ops.toList.drop k)[i-k]? = some o:=by
  rw [List.getElem?_drop,show k+(i-k)=i by omega];simpa using ho
 exact List.mem_of_getElem? e
theorem wpOps_keep {P:Program} {ops:Array Oper} {Q Q':Exit→Act→World→Prop} {Ts:List Nat} (a0:Act) (hQ:∀ e a' w',Q e a' w'→(e=.normal→∀ t,t∈Ts→a'.tmps[t]? = a0.tmps[t]?)→Q' e a' w'):∀ (is:List Nat) (hT:∀ i,i∈is→∀ o,ops[i]? = some o→∀ t,t∈Ts→o.dst≠some t) (a:Act) (w:World),(∀ t,t∈Ts→a.tmps[t]? = a0.tmps[t]?)→wpOps P ops Q is a w→wpOps P ops Q' is a w
 | [],hT,a,w,h0,h=>hQ _ _ _ h (fun _=>h0)
 |
  i::is,hT,a,w,h0,h=>by
  have hdst:=hT i List.mem_cons_self
  have hT:=fun j hj=>hT j (List.mem_cons_of_mem i hj)
  have hlet:LetsOut Q→LetsOut Q':=fun ⟨a,w,h⟩=>⟨a,w,hQ _ _ _ h (fun e=>by cases e)⟩
  simp only [wpOps] at h ⊢
  cases ho:ops[i]? with
  |
   none =>
   rw [ho] at h
   exact wpOps_keep a0 hQ is hT a w h0 h
  |
   some o =>
   rw [ho] at h
   simp only at h ⊢
   by_cases hw:Region.wanted o (yielded ops a.tmps)=true
   · rw [if_pos hw] at h ⊢
     rcases h with h | ⟨h,h2⟩
     · left
       unfold Oper.wp at h ⊢
       refine upon_keep (T:=(·∈Ts)) (hdst o ho) ?_ ?_ _ h
       · intro a' w' hk hh
         exact wpOps_keep a0 hQ is hT a' w' (fun t ht=>by rw [hk t ht,h0 t ht]) hh
       · intro e a' w' he hh
         exact hQ _ _ _ hh (fun e2=>absurd e2 he)
     · exact .inr ⟨h,hlet h2⟩
   · rw [if_neg hw] at h ⊢
     exact wpOps_keep a0 hQ is hT _ w (fun t ht=>by rw [put_keep (hdst o ho t ht)];exact h0 t ht) h
def sc:AV→Bool
 | .int .. | .bool _ | .str _=>true
 | _=>false
def mix (Ts:List Nat):Nat→List AV→List AV→List AV
 | t,x::l,y::r=>(match Ts.contains t with
  | true=>x
  |
   false=>match sc y with
   | true=>y
   | false=>.any)::mix Ts (t+1) l r
 | _,_,_=>[]
theorem mix_len (Ts:List Nat):∀ (l r:List AV) (t:Nat),l.length=r.length→(mix Ts t l r).length=l.length
 | [],[],_,_=>rfl
 | x::l,y::r,t,h=>by simp only [mix,List.length_cons];rw [mix_len Ts l r (t+1) (by simpa using h)]
theorem mix_get (Ts:List Nat):∀ (l r:List AV) (t k:Nat),l.length=r.length→(getT (mix Ts t l r) k=.any)∨(Ts.contains (t+k)=true∧getT (mix Ts t l r) k=getT l k)∨(sc (getT r k)=true∧getT (mix Ts t l r) k=getT r k)
 | [],[],_,_,_=>.inl rfl
 |
  x::l,y::r,t,0,h=>by
  have e:getT (mix Ts t (x::l) (y::r)) 0=match Ts.contains t with
   | true=>x
   |
    false=>match sc y with
    | true=>y
    | false=>.any:=rfl
  by_cases hc:Ts.contains t=true
  · exact .inr (.inl ⟨hc,by rw [e,hc];rfl⟩)
  · have hc:=Bool.eq_false_iff.2 hc
    by_cases hs:sc y=true
    · exact .inr (.inr ⟨hs,by rw [e,hc,hs];rfl⟩)
    · have hs:=Bool.eq_false_iff.2 hs
      exact .inl (by rw [e,hc,hs])
 |
  x::l,y::r,t,k+1,h=>by
  have:=mix_get Ts l r (t+1) k (by simpa using h)
  rw [show t+1+k=t+(k+1) by omega] at this
  exact this
theorem rep_sc {fz fz':Fz} {pl pl':Pl} {v:AV} {c:Value} (hs:sc v=true) (h:Rep fz pl v c):Rep fz' pl' v c:=by
 cases v <;> simp only [sc] at hs <;> first | (cases hs;done) | skip
 · rw [h.inv_int];exact .frz (.int _ _)
 · rw [h.inv_bool];exact .frz (.bool _)
 · rw [h.inv_str];exact .frz (.str _)
theorem rep_mix {fz fz':Fz} {pl pl':Pl} {Ts:List Nat} {l l':List AV} {a a':Act} (h:RepT fz pl l a) (h':RepT fz' pl' l' a') (hs:a'.tmps.size=a.tmps.size) (hk:∀ t,t∈Ts→a'.tmps[t]? = a.tmps[t]?):RepT fz pl (mix Ts 0 l l') a':=by
 have hl:l.length=l'.length:=by rw [h.1,h'.1,hs]
 refine ⟨by rw [mix_len _ _ _ _ hl,hl,h'.1],fun t=>?_⟩
 rcases mix_get Ts l l' 0 t hl with e | ⟨e1,e⟩ | ⟨e1,e⟩
 · rw [e];exact .frz (.any _)
 · rw [e]
   have hm:t∈Ts:=by rw [Nat.zero_add] at e1;exact List.contains_iff_mem.mp e1
   have:a'.tmps.getD t undef=a.tmps.getD t undef:=by
    rw [Array.getD_eq_getD_getElem?,Array.getD_eq_getD_getElem?,hk t hm]
   rw [this];exact h.2 t
 · rw [e];exact rep_sc e1 (h'.2 t)
structure Keeps (B:Nat) (G:World→Prop):Prop where
 keep:∀ w w',(∀ k o,B≤k→w.heap[k]? = some o→w'.heap[k]? = some o)→G w→G w'
 size:∀ w,G w→B≤w.heap.size
structure BS (w0:World) (pr fz:Fz) (B:Nat) (G:World→Prop) (w:World):Prop where
 sim:Sim w0 pr fz [] [] w
 g:G w
 fzB:∀ k o,fz k=some o→k<B
 prB:∀ k o,pr k=some o→k<B
theorem sim_old {w0:World} {pr fz:Fz} {B:Nat} {w w':World} (h:Sim w0 pr fz [] [] w) (fzB:∀ k o,fz k=some o→k<B) (prB:∀ k o,pr k=some o→k<B) (hb:Below B w w'):Sim w0 pr fz [] [] w' :=
 ⟨h.lay,hb.os.trans h.os,hb.tape.trans h.tape,hb.output.trans h.output,Nat.le_trans h.size hb.size,fun k o e=>by rw [hb.block k (fzB k o e)];exact h.frz k o e,fun k o e=>by rw [hb.block k (prB k o e)];exact h.prt k o e,h.dis,rfl,(fun k sz es h=>by rw [AlZ] at h;cases h),(fun k k' x y b n n' h=>by rw [AlZ] at h;cases h)⟩
def grd (pr:Fz) (B:Nat) (w:World):Fz:=fun k=>if k<B then pr k else w.heap[k]?
theorem BS.guard {w0:World} {pr fz:Fz} {B:Nat} {G:World→Prop} {w:World} (h:BS w0 pr fz B G w):Sim w0 (grd pr B w) fz [] [] w :=
 ⟨h.sim.lay,h.sim.os,h.sim.tape,h.sim.output,h.sim.size,h.sim.frz,fun k o e=>by
  unfold grd at e
  split at e
  · exact h.sim.prt k o e
  · exact e,fun k o e=>by
  unfold grd
  rw [if_pos (h.fzB k o e)];exact h.sim.dis k o e,rfl,(fun k sz es h=>by rw [AlZ] at h;cases h),(fun k k' x y b n n' h=>by rw [AlZ] at h;cases h)⟩
theorem BS.back {w0:World} {pr fz fz':Fz} {pl':Pl} {bx':Bx} {B:Nat} {G:World→Prop} {w w':World} (hG:Keeps B G) (h:BS w0 pr fz B G w) (hf:FzLe fz fz') (hS:Sim w0 (grd pr B w) fz' pl' bx' w'):BS w0 pr fz B G w':=by
 have hk:∀ k o,B≤k→w.heap[k]? = some o→w'.heap[k]? = some o:=by
  intro k o hk ho
  refine hS.prt k o ?_
  unfold grd
  rw [if_neg (by omega)];exact ho
 have hp:∀ k o,pr k=some o→w'.heap[k]? = some o:=by
  intro k o ho
  refine hS.prt k o ?_
  unfold grd
  rw [if_pos (h.prB k o ho)];exact ho
 exact ⟨⟨h.sim.lay,hS.os,hS.tape,hS.output,hS.size,fun k o e=>hS.frz k o (hf k o e),hp,h.sim.dis,rfl,(fun k sz es h=>by rw [AlZ] at h;cases h),(fun k k' x y b n n' h=>by rw [AlZ] at h;cases h)⟩,hG.keep w w' hk h.g,h.fzB,h.prB⟩
theorem isB_lt {B b:Nat} {bs:List Value} {w:World} (h:Lib.IsBuilder tB tE B b bs w):B≤w.heap.size:=by
 rcases h with ⟨hB,v,hb,_⟩ | ⟨hB,v,hb,_⟩ <;> (have:=(Array.getElem?_eq_some_iff.1 hb).1;omega)
theorem isBF_lt {B b:Nat} {bs:List Value} {w:World} (h:Lib.IsBuilderF tB tE B b bs w):B≤w.heap.size:=by
 rcases h with ⟨hB,v,hb,_⟩ | ⟨hB,v,hb,_⟩ <;> (have:=(Array.getElem?_eq_some_iff.1 hb).1;omega)
theorem keeps_B (B b:Nat) (bs:List Value):Keeps B (Lib.IsBuilder tB tE B b bs):=by
 refine ⟨?_,fun w h=>isB_lt h⟩
 intro w w' hk h
 have key:∀ p,Lib.BuilderAt tB tE B b p bs w→Lib.BuilderAt tB tE B b p bs w':=by
  rintro p ⟨hB,v,hb,⟨h1,h2⟩,hne⟩
  refine ⟨hB,v,hk _ _ hB hb,⟨h1,?_⟩,hne⟩
  rcases h2 with h2 | ⟨g,cap,cur,hv,hg,hgg,r⟩
  · exact .inl h2
  · exact .inr ⟨g,cap,cur,hv,hg,hk _ _ hg hgg,r⟩
 exact h.elim (fun h=>.inl (key _ h)) (fun h=>.inr (key _ h))
theorem keeps_BF (B b:Nat) (bs:List Value):Keeps B (Lib.IsBuilderF tB tE B b bs):=by
 refine ⟨?_,fun w h=>isBF_lt h⟩
 intro w w' hk h
 have key:∀ p,Lib.BuilderAtF tB tE B b p bs w→Lib.BuilderAtF tB tE B b p bs w':=by
  rintro p ⟨hB,v,hb,⟨h1,h2⟩,hne⟩
  refine ⟨hB,v,hk _ _ hB hb,⟨h1,?_⟩,hne⟩
  rcases h2 with h2 | ⟨g,cap,cur,f,hv,hg,hgg,r⟩
  · exact .inl h2
  · exact .inr ⟨g,cap,cur,f,hv,hg,hk _ _ hg hgg,r⟩
 exact h.elim (fun h=>.inl (key _ h)) (fun h=>.inr (key _ h))
theorem ops_avB {P:Program} {w0:World} {pr fz:Fz} {B:Nat} {G:World→Prop} {w:World} {mt:FuncId→Nat} {ops:Array Oper} {os:List Oper} {k:Nat} {az:List AOper} (hG:Keeps B G) (Ts:List Nat) (hd:ops.toList.drop k=os) (hTs:notW Ts os=true) (hc:BhQ P mt ops os=some az) {K:List AV→Bx→Prop} {l:List AV} {a:Act} (h:AbX P az K l [])
 (hT:RepT fz [] l a) (hB:BS w0 pr fz B G w) {R:Exit→Act→World→Prop} (hlen:∀ l' bx',K l' bx'→l'.length=l.length)
 (hR:∀ l' bx' a' w',K l' bx'→RepT fz [] (mix Ts 0 l l') a'→BS w0 pr fz B G w'→a'.defers=a.defers→(∀ t,t∈Ts→a'.tmps[t]? = a.tmps[t]?)→R .normal a' w'):wpOps P ops R (List.range' k os.length) a w:=by
 have h1:=opers_sound (w0:=w0) (pr:=grd pr B w) (Q:=fun e a' w'=>e=.normal∧∃ l' bx' fz' pl',K l' bx'∧FzLe fz fz'∧RepT fz' pl' l' a'∧Sim w0 (grd pr B w) fz' pl' bx' w'∧a'.defers=a.defers) os k az hd hc K l [] fz [] a w h hT hB.guard (fun l' bx' a' w' fz' pl' k1 k2 k3 k4 k5 k6=>⟨rfl,l',bx',fz',pl',k1,k2,k4,k5,k6⟩)
 refine wpOps_keep a ?_ _ (notW_range hTs hd) a w (fun _ _=>rfl) h1
 rintro e a' w' ⟨rfl,l',bx',fz',pl',k1,k2,k4,k5,k6⟩ hk
 have hk:=hk rfl
 have hsz:a'.tmps.size=a.tmps.size:=by rw [← k4.1,← hT.1];exact hlen l' bx' k1
 exact hR l' bx' a' w' k1 (rep_mix hT k4 hsz hk) (hB.back hG k2 k5) k6 hk
theorem wp_avB {P:Program} {w0:World} {pr fz:Fz} {B:Nat} {G:World→Prop} {w:World} {mt:FuncId→Nat} {id:Nat} {ops:Array Oper} {az:List AOper} (hG:Keeps B G) (Ts:List Nat) (hTs:notW Ts ops.toList=true) (hc:BhQ P mt ops ops.toList=some az) {K:List AV→Bx→Prop} {l:List AV} {a:Act} (h:AbX P az K l [])
 (hT:RepT fz [] l a) (hB:BS w0 pr fz B G w) {R:Exit→Act→World→Prop} (hlen:∀ l' bx',K l' bx'→l'.length=l.length)
 (hR:∀ l' bx' a' w',K l' bx'→RepT fz [] (mix Ts 0 l l') a'→BS w0 pr fz B G w'→a'.defers=a.defers→(∀ t,t∈Ts→a'.tmps[t]? = a.tmps[t]?)→R .normal a' w'):(Code.region id ops false).wp P R a w:=by
 refine wp_region ?_
 have h1:=ops_avB (k:=0) hG Ts (by simp) hTs hc h hT hB hlen hR
 rwa [← List.range_eq_range',Array.length_toList] at h1
def Mid (w0:World) (pr fz:Fz) (B:Nat) (Ts:List Nat) (K:List AV→Bx→Prop) (a0:Act) (wg:World) (a':Act) (w':World):Prop :=
 ∃ l' bx' fz' pl',K l' bx'∧FzLe fz fz'∧RepT fz' pl' l' a'∧Sim w0 (grd pr B wg) fz' pl' bx' w'∧a'.defers=a0.defers∧(∀ t,t∈Ts→a'.tmps[t]? = a0.tmps[t]?)
theorem wp_avB1 {P:Program} {w0:World} {pr fz:Fz} {B:Nat} {G:World→Prop} {w:World} {mt:FuncId→Nat} {id:Nat} {ops:Array Oper} {az:List AOper} (Ts:List Nat) (hTs:notW Ts ops.toList=true) (hc:BhQ P mt ops ops.toList=some az) {K:List AV→Bx→Prop} {l:List AV} {a:Act} (h:AbX P az K l [])
 (hT:RepT fz [] l a) (hB:BS w0 pr fz B G w) {R:Exit→Act→World→Prop} (hR:∀ a' w',Mid w0 pr fz B Ts K a w a' w'→R .normal a' w'):(Code.region id ops false).wp P R a w:=by
 refine wp_region ?_
 have h1:=opers_sound (w0:=w0) (pr:=grd pr B w) (Q:=fun e a' w'=>e=.normal∧∃ l' bx' fz' pl',K l' bx'∧FzLe fz fz'∧RepT fz' pl' l' a'∧Sim w0 (grd pr B w) fz' pl' bx' w'∧a'.defers=a.defers) ops.toList 0 az (by simp) hc K l [] fz [] a w h hT hB.guard (fun l' bx' a' w' fz' pl' k1 k2 k3 k4 k5 k6=>⟨rfl,l',bx',fz',pl',k1,k2,k4,k5,k6⟩)
 have hrg:=notW_range (ops:=ops) (k:=0) hTs (by simp)
 rw [← List.range_eq_range',Array.length_toList] at h1 hrg
 refine wpOps_keep a ?_ _ hrg a w (fun _ _=>rfl) h1
 rintro e a' w' ⟨rfl,l',bx',fz',pl',k1,k2,k4,k5,k6⟩ hk
 exact hR a' w' ⟨l',bx',fz',pl',k1,k2,k4,k5,k6,hk rfl⟩
theorem wp_avB2 {P:Program} {w0:World} {pr fz:Fz} {B:Nat} {G:World→Prop} {wg w:World} {mt:FuncId→Nat} {id:Nat} {ops:Array Oper} {az:List AOper} (hG:Keeps B G) (Ts:List Nat) (hTs:notW Ts ops.toList=true) (hc:BhQ P mt ops ops.toList=some az) {K1 K:List AV→Bx→Prop} {l:List AV} {a0 a:Act} (h:∀ l' bx',K1 l' bx'→AbX P az K l' bx')
 (hT:RepT fz [] l a0) (hB:BS w0 pr fz B G wg) (hM:Mid w0 pr fz B Ts K1 a0 wg a w) {R:Exit→Act→World→Prop} (hlen:∀ l' bx',K l' bx'→l'.length=l.length)
 (hR:∀ l' bx' a' w',K l' bx'→RepT fz [] (mix Ts 0 l l') a'→BS w0 pr fz B G w'→a'.defers=a0.defers→(∀ t,t∈Ts→a'.tmps[t]? = a0.tmps[t]?)→R .normal a' w'):(Code.region id ops false).wp P R a w:=by
 obtain ⟨l1,bx1,fz1,pl1,m1,m2,m3,m4,m5,m6⟩:=hM
 refine wp_region ?_
 have h1:=opers_sound (w0:=w0) (pr:=grd pr B wg) (Q:=fun e a' w'=>e=.normal∧∃ l' bx' fz' pl',K l' bx'∧FzLe fz1 fz'∧RepT fz' pl' l' a'∧Sim w0 (grd pr B wg) fz' pl' bx' w'∧a'.defers=a.defers) ops.toList 0 az (by simp) hc K l1 bx1 fz1 pl1 a w (h _ _ m1) m3 m4 (fun l' bx' a' w' fz' pl' k1 k2 k3 k4 k5 k6=>⟨rfl,l',bx',fz',pl',k1,k2,k4,k5,k6⟩)
 have hrg:=notW_range (ops:=ops) (k:=0) hTs (by simp)
 rw [← List.range_eq_range',Array.length_toList] at h1 hrg
 refine wpOps_keep a ?_ _ hrg a w (fun _ _=>rfl) h1
 rintro e a' w' ⟨rfl,l',bx',fz',pl',k1,k2,k4,k5,k6⟩ hk
 have hk:=hk rfl
 have hk2:∀ t,t∈Ts→a'.tmps[t]? = a0.tmps[t]?:=fun t ht=>by rw [hk t ht,m6 t ht]
 have hsz:a'.tmps.size=a0.tmps.size:=by rw [← k4.1,← hT.1];exact hlen l' bx' k1
 exact hR l' bx' a' w' k1 (rep_mix hT k4 hsz hk2) (hB.back hG (m2.trans k2) k5) (by rw [k6,m5]) hk2
end Go.Proofs.YtcmphhedaefcgaaGreatDoor
end
section
namespace Go.Proofs.YtcmphhedaefcgaaGreatDoor
open Av
attribute [local irreducible] awp AbX
open Go.RowKit
attribute [local irreducible] awX opX
set_option maxRecDepth 100000
set_option maxHeartbeats 4000000
theorem owp_call {P:Program} {o:Oper} {a:Act} {w:World} {f:FuncId} {args:Array Value} {next:Act→World→Prop} {Q:Exit→Act→World→Prop} (h:(execOp a.eval o).run P w=.ok (.enter f args) w) (hc:Calls P f args w fun e w'=>∃ v,e=.returned v∧next (a.put o.dst v) w'):o.wp P a w next Q:=by
 unfold Oper.wp
 rw [h,Oper.upon_enter]
 refine hc.mono ?_
 rintro e w' ⟨v,rfl,hn⟩
 exact hn
theorem owp_val {P:Program} {o:Oper} {a:Act} {w w':World} {v:Value} {next:Act→World→Prop} {Q:Exit→Act→World→Prop} (h:(execOp a.eval o).run P w=.ok (.value v) w') (hn:next (a.put o.dst v) w'):o.wp P a w next Q:=by
 unfold Oper.wp
 rw [h,Oper.upon_value];exact hn
def wkT:List AV→List AV→Prop
 | [],[]=>True
 | x::l,y::r=>(x=.any∨x=y)∧wkT l r
 | _,_=>False
theorem wkT_get:∀ (l r:List AV),wkT l r→l.length=r.length∧∀ t,getT l t=.any∨getT l t=getT r t
 | [],[],_=>⟨rfl,fun t=>.inl (by cases t <;> rfl)⟩
 |
  x::l,y::r,h=>by
  obtain ⟨h1,h2⟩:=h
  obtain ⟨e1,e2⟩:=wkT_get l r h2
  refine ⟨by simp [e1],fun t=>?_⟩
  cases t with
  | zero=>exact h1
  | succ t=>exact e2 t
theorem rep_wkT {fz:Fz} {pl:Pl} {l r:List AV} {a:Act} (h:RepT fz pl r a) (hw:wkT l r):RepT fz pl l a:=by
 obtain ⟨e1,e2⟩:=wkT_get l r hw
 refine ⟨by rw [e1];exact h.1,fun t=>?_⟩
 rcases e2 t with e | e
 · rw [e];exact .frz (.any _)
 · rw [e];exact h.2 t
def outT (l:List It):Bs:=(l.map fun x=>(BaY x).1++[10]).flatten
theorem outT_snoc (l:List It) (x:It):outT (l++[x])=outT l++((BaY x).1++[10]):=by simp [outT]
theorem allS_cons (x:It) (l:List It):allS_ (x::l)=if AdX x=true then (allS_ l).map fun r=>(BaY x).1++[10]++r else none:=rfl
theorem right_len (x:It) (h:AdX x=true):(BaY x).1.length≤8192:=by
 unfold AdX at h
 rw [Bool.and_eq_true] at h
 have h2:=h.2
 unfold fitsB at h2
 rw [decide_eq_true_eq] at h2
 unfold lexS at h2
 split at h2
 · cases h2
 · omega
theorem outT_len (l:List It) (h:∀ x∈l,AdX x=true):(outT l).length≤l.length * 8193:=by
 induction l with
 | nil=>simp [outT]
 |
  cons x l ih =>
  have h1:=ih (fun y hy=>h y (List.mem_cons_of_mem _ hy))
  have h2:=right_len x (h x List.mem_cons_self)
  have e:outT (x::l)=(BaY x).1++[10]++outT l:=by simp [outT]
  rw [e]
  simp only [List.length_append,List.length_cons,List.length_nil]
  omega
def tvV (r:Bs × Int):AV:=.tuple [.str (S8 r.1),.int .i64 r.2]
theorem tvV_mk (s:Bs) (e:Int):tvV (s,e)=.tuple [.str (S8 s),.int .i64 e]:=rfl
def x1:List AOper:=⟨some 9,.mov (.tmp 0),none⟩::⟨some 10,.len false (.tmp 9),none⟩::⟨some 11,.bin .gtr (.tmp 10) (.val (.int .i64 512)),none⟩::[]
def x4:List AOper:=⟨some 13,.len false (.tmp 12),none⟩::⟨some 14,.mov (.val (.int .i64 0)),none⟩::[]
def x5:List AOper:=⟨some 15,.bin .lss (.tmp 14) (.tmp 13),none⟩::[]
def x6:List AOper:=⟨some 16,.iaddr 8 (.tmp 12) (.tmp 14),none⟩::⟨some 17,.load true 8 (.tmp 16),none⟩::⟨some 6,.alloc (.agg [(.int .i64 0),(.str (S8 [])),(.bool false),.nils,(.int .i64 0),(.bool false),.nils,(.int .i64 0)]),none⟩::⟨none,.store 8 (.tmp 6) (.tmp 17),none⟩::[]
def x7:List AOper:=⟨some 19,.load true 8 (.tmp 6),none⟩::⟨some 20,.call (.val (.fn (.func 12) [])) [(.tmp 19)],none⟩::⟨some 18,.mov (.tmp 20),none⟩::⟨some 21,.ext (.tmp 18) 0,none⟩::⟨some 22,.ext (.tmp 18) 1,none⟩::⟨some 7,.mov (.tmp 21),none⟩::⟨some 8,.mov (.tmp 22),none⟩::[]
def x8:List AOper:=⟨some 23,.mov (.tmp 8),none⟩::⟨some 24,.bin .neq (.tmp 23) (.val (.int .i64 0)),none⟩::[]
def x9:List AOper:=⟨some 25,.mov (.tmp 8),none⟩::⟨some 2,.mov (.val (.str (S8 []))),none⟩::⟨some 3,.mov (.tmp 25),none⟩::[]
def x12:List AOper:=⟨some 29,.bin .add (.tmp 14) (.val (.int .i64 1)),none⟩::⟨some 14,.mov (.tmp 29),none⟩::[]
def x13:List AOper:=⟨some 31,.call (.val (.fn (.func 15) [])) [(.tmp 30)],none⟩::⟨some 32,.un .not (.tmp 31),none⟩::[]
def x15:List AOper:=⟨some 2,.mov (.tmp 33),none⟩::⟨some 3,.mov (.val (.int .i64 0)),none⟩::[]
def x14:List AOper:=⟨some 2,.mov (.val (.str (S8 []))),none⟩::⟨some 3,.mov (.val (.int .i64 3)),none⟩::[]
def hdT (its:List It) (k:Nat):List AV:=[.list 8 (its.map eIt),.any,.str (S8 []),.int .i64 0,.any,.any,.any,.any,.any,.any,.any,.any,.list 8 (its.map eIt),.int .i64 (its.length:Int),.int .i64 (k:Int),.any,.any,.any,.any,.any,.any,.any,.any,.any,.any,.any,.any,.any,.any,.any,.any,.any,.any,.any]
theorem fin_Text {w0:World} {pr fz fz2:Fz} {l:List AV} {a:Act} {w:World} {s:Bs} {e:Int} (f02:FzLe fz fz2) (hT:RepT fz2 [] l a) (hr:resV l [] [.tmp 2,.tmp 3]=some [.str (S8 s),.int .i64 e]) (hS:Sim w0 pr fz2 [] [] w) (hd:a.defers=[]) :
 a.defers=[]∧∃ v,(results Tryz.f6 a.tmps).run Tryz.prog w=.ok v w∧∃ cv fz' pl',Ending.returned v=.returned cv∧FzLe fz fz'∧([]:Pl) <+: pl'∧Rep fz' pl' (tvV (s,e)) cv∧Sim w0 pr fz' pl' [] w:=by
 obtain ⟨cv,r1,r2⟩:=AyQ (P:=Tryz.prog) (fn:=Tryz.f6) (az:=[.tmp 2,.tmp 3]) (vs:=[.str (S8 s),.int .i64 e]) hT hS (by kernel_rfl) hr
 exact ⟨hd,cv,r1,cv,fz2,[],rfl,f02,List.prefix_refl _,r2,hS⟩
theorem show_Text (its:List It) (hx:∀ x∈its,x.Fine) (hl:its.length≤900000000000):Ctr Tryz.prog 6 [.list 8 (its.map eIt)] [] (tvV (showS its)) []:=by
 by_cases h512:512<its.length
 · refine AcZ Tryz.func6 Tryz.call6 e_show_Text ?_
   have hE:showS its=([],3):=by unfold showS;rw [if_pos h512]
   have hgt:(512:Int)<(its.length:Int):=by omega
   rw [hE,tvV_mk]
   simp +contextual -implicitDefEqProofs only [sm,c_show_Text,seval,hgt]
 have hE:showS its=match allS_ its with
  | none=>([],2)
  | some t=>if fitsB t=true then (t,0) else ([],3):=by unfold showS;rw [if_neg h512];rfl
 rw [hE]
 generalize hR:allS_ its=R
 clear hE
 generalize hV:(match R with
  | none=>(([]:Bs),(2:Int))
  | some t=>if fitsB t=true then (t,0) else ([],3))=V
 refine ⟨Tryz.call6,?_⟩
 intro w0 pr fz pl w cs hS hcl hA
 have hT:=BpY (n:=34) hcl hA
 obtain rfl:pl=[]:=List.eq_nil_of_length_eq_zero hS.len
 refine calls_of_wp Tryz.func6 rfl ?_
 have hgt:¬ (512:Int)<(its.length:Int):=by omega
 refine wp_seq (wp_av (mt:=kd_CShow) (ac:=.region (⟨some 2,.mov (.val (.str (S8 []))),none⟩::⟨some 3,.mov (.val (.int .i64 0)),none⟩::[])) (K:=fun l' bx'=>l'=[.list 8 (its.map eIt),.any,.str (S8 []),.int .i64 0,.any,.any,.any,.any,.any,.any,.any,.any,.any,.any,.any,.any,.any,.any,.any,.any,.any,.any,.any,.any,.any,.any,.any,.any,.any,.any,.any,.any,.any,.any]∧bx'=[]) (by kernel_rfl) ?_ hT hS ?_)
 · simp +contextual -implicitDefEqProofs only [sm,seval,ApQ]
 rintro l' bx' a1 w1 fz1 pl1 ⟨rfl,rfl⟩ f1 p1 T1 S1 d1
 obtain rfl:pl1=[]:=List.eq_nil_of_length_eq_zero S1.len
 show Code.wp _ _ _ a1 w1
 refine wp_seq ?_
 refine wp_seq (wp_av (mt:=kd_CShow) (ac:=.region x1) (K:=fun l' bx'=>l'=[.list 8 (its.map eIt),.any,.str (S8 []),.int .i64 0,.any,.any,.any,.any,.any,.list 8 (its.map eIt),.int .i64 (its.length:Int),.bool false,.any,.any,.any,.any,.any,.any,.any,.any,.any,.any,.any,.any,.any,.any,.any,.any,.any,.any,.any,.any,.any,.any]∧bx'=[]) (by kernel_rfl) ?_ T1 S1 ?_)
 · simp +contextual -implicitDefEqProofs only [sm,x1,seval,ApQ,hgt]
 rintro l' bx' a2 w2 fz2 pl2 ⟨rfl,rfl⟩ f2 p2 T2 S2 d2
 obtain rfl:pl2=[]:=List.eq_nil_of_length_eq_zero S2.len
 refine wp_cond_false (T2.2 11).inv_bool ?_
 refine wp_skip ?_
 show Code.wp _ _ _ a2 w2
 have f02:FzLe fz fz2:=f1.trans f2
 have hd2:a2.defers=[]:=by rw [d2,d1]
 refine wp_seq (wp_region ?_)
 refine AyZ (i:=0) (r:=[]) (ho:=rfl) rfl ?_
 refine owp_val (v:=.pointer (some ⟨w2.heap.size,0,none⟩)) (w':=w2.alloc (.cells #[.pointer none,.slice none 0 0] tB (0,0))) ?_ ?_
 · simp [execOp,go_sem]
 obtain ⟨a3,ha3⟩:∃ a3,a3=a2.put (some 4) (.pointer (some ⟨w2.heap.size,0,none⟩)):=⟨_,rfl⟩
 have hsz2:a2.tmps.size=34:=T2.1.symm
 have h43:a3.tmps[4]? = some (.pointer (some ⟨w2.heap.size,0,none⟩)):=by rw [ha3];simp [Act.put,hsz2]
 have T3:RepT fz2 [] [.list 8 (its.map eIt),.any,.str (S8 []),.int .i64 0,.any,.any,.any,.any,.any,.list 8 (its.map eIt),.int .i64 (its.length:Int),.bool false,.any,.any,.any,.any,.any,.any,.any,.any,.any,.any,.any,.any,.any,.any,.any,.any,.any,.any,.any,.any,.any,.any] a3:=by rw [ha3];exact T2.put (some 4) (v:=.any) (.frz (.any _))
 have hd3:a3.defers=[]:=by rw [ha3,AkY,hd2]
 show Code.wp _ _ _ (a2.put (some 4) (.pointer (some ⟨w2.heap.size,0,none⟩))) _
 rw [← ha3]
 clear ha3 T2
 have B3:BS w0 pr fz2 w2.heap.size (Lib.IsBuilder tB tE w2.heap.size w2.heap.size (Lib.byteCells (outT (its.take 0)))) (w2.alloc (.cells #[.pointer none,.slice none 0 0] tB (0,0))):=by
  have fB:∀ k o,fz2 k=some o→k<w2.heap.size:=fun k o e=>(Array.getElem?_eq_some_iff.1 (S2.frz k o e)).1
  have pB:∀ k o,pr k=some o→k<w2.heap.size:=fun k o e=>(Array.getElem?_eq_some_iff.1 (S2.prt k o e)).1
  refine ⟨sim_old S2 fB pB ((Below.refl _ _).alloc (Nat.le_refl _) _),.inl ⟨Nat.le_refl _,.slice none 0 0,heap_alloc_new _ _,World.ownsRow_nil _ _ _ _,by simp [Value.ownBlock]⟩,fB,pB⟩
 generalize w2.alloc (.cells #[.pointer none,.slice none 0 0] tB (0,0))=w3 at B3 ⊢
 generalize w2.heap.size=b at h43 B3
 clear S2 S1 T1 hS hT hA
 have hn34:True:=trivial
 refine wp_seq ?_
 refine wp_seq (wp_region ?_)
 refine AyZ (i:=0) (r:=List.range' 1 2) (ho:=rfl) rfl ?_
 refine owp_val (v:=a3.tmps.getD 0 undef) (w':=w3) (by simp [execOp,Act.eval,Array.getD_eq_getD_getElem?,go_sem]) ?_
 obtain ⟨aB,haB⟩:∃ aB,aB=a3.put (some 12) (a3.tmps.getD 0 undef):=⟨_,rfl⟩
 have hsz3:a3.tmps.size=34:=T3.1.symm
 have TB:RepT fz2 [] [.list 8 (its.map eIt),.any,.str (S8 []),.int .i64 0,.any,.any,.any,.any,.any,.list 8 (its.map eIt),.int .i64 (its.length:Int),.bool false,.list 8 (its.map eIt),.any,.any,.any,.any,.any,.any,.any,.any,.any,.any,.any,.any,.any,.any,.any,.any,.any,.any,.any,.any,.any] aB:=by rw [haB];exact T3.put (some 12) (v:=.list 8 (its.map eIt)) (T3.2 0)
 have h4B:aB.tmps[4]? = some (.pointer (some ⟨b,0,none⟩)):=by rw [haB,← h43];simp [Act.put,Array.getElem?_setIfInBounds_ne]
 have hdB:aB.defers=[]:=by rw [haB,AkY,hd3]
 show wpOps _ _ _ (List.range' 1 2) (a3.put (some 12) (a3.tmps.getD 0 undef)) _
 rw [← haB]
 clear haB T3 h43 hd3
 refine ops_avB (mt:=kd_CShow) (k:=1) (keeps_B _ _ _) [0,4,12] rfl rfl (az:=x4) (by kernel_rfl) (K:=fun l' bx'=>l'=[.list 8 (its.map eIt),.any,.str (S8 []),.int .i64 0,.any,.any,.any,.any,.any,.list 8 (its.map eIt),.int .i64 (its.length:Int),.bool false,.list 8 (its.map eIt),.int .i64 (its.length:Int),.int .i64 0,.any,.any,.any,.any,.any,.any,.any,.any,.any,.any,.any,.any,.any,.any,.any,.any,.any,.any,.any]) ?_ TB B3 (by rintro l' bx' rfl;rfl) ?_
 · simp +contextual -implicitDefEqProofs only [sm,x4,seval]
 rintro l' bx' a4 w4 rfl T4 B4 d4 k4
 have T4:RepT fz2 [] (hdT its 0) a4:=rep_wkT T4 (And.intro (.inr rfl) (And.intro (.inl rfl) (And.intro (.inr rfl) (And.intro (.inr rfl) (And.intro (.inl rfl) (And.intro (.inl rfl) (And.intro (.inl rfl) (And.intro (.inl rfl) (And.intro (.inl rfl) (And.intro (.inl rfl) (And.intro (.inl rfl) (And.intro (.inl rfl) (And.intro (.inr rfl) (And.intro (.inr rfl) (And.intro (.inr rfl) (And.intro (.inl rfl) (And.intro (.inl rfl) (And.intro (.inl rfl) (And.intro (.inl rfl) (And.intro (.inl rfl) (And.intro (.inl rfl) (And.intro (.inl rfl) (And.intro (.inl rfl) (And.intro (.inl rfl) (And.intro (.inl rfl) (And.intro (.inl rfl) (And.intro (.inl rfl) (And.intro (.inl rfl) (And.intro (.inl rfl) (And.intro (.inl rfl) (And.intro (.inl rfl) (And.intro (.inl rfl) (And.intro (.inl rfl) (And.intro (.inl rfl) trivial))))))))))))))))))))))))))))))))))
 have h44:a4.tmps[4]? = some (.pointer (some ⟨b,0,none⟩)):=by rw [k4 4 (by decide),h4B]
 have hd4:a4.defers=[]:=by rw [d4,hdB]
 have hlen:its.length≤512:=by omega
 refine wp_block (wp_loop (fun a w=>∃ k:Nat,k≤its.length∧RepT fz2 [] (hdT its k) a∧a.tmps[4]? = some (.pointer (some ⟨b,0,none⟩))∧BS w0 pr fz2 b (Lib.IsBuilder tB tE b b (Lib.byteCells (outT (its.take k)))) w∧a.defers=[]∧(∀ x∈its.take k,AdX x=true)∧(allS_ (its.drop k)).map (outT (its.take k)++·)=R)
  (fun a _=>its.length-(match a.tmps.getD 14 undef with | .int _ k=>k.toNat | _=>0)) ⟨0,Nat.zero_le _,T4,h44,B4,hd4,by simp,by rw [← hR];simp [outT]⟩ ?_)
 rintro a5 w5 ⟨k,hk,T5,h45,B5,hd5,hr,hJ⟩
 have hμ:(match a5.tmps.getD 14 undef with | .int _ k=>k.toNat | _=>0)=k:=by
  have:=(T5.2 14).inv_int
  rw [this];simp
 rw [hμ]
 have hol:=outT_len (its.take k) hr
 have htl:(its.take k).length≤512:=by rw [List.length_take];omega
 have hol2:(outT (its.take k)).length≤512 * 8193:=Nat.le_trans hol (Nat.mul_le_mul_right _ htl)
 clear hol
 by_cases hlt:k<its.length
 · obtain ⟨x,hxk⟩:∃ x,its[k]? = some x:=⟨its[k],List.getElem?_eq_getElem hlt⟩
   have hdr:its.drop k=x::its.drop (k+1):=by
    rw [List.drop_eq_getElem_cons hlt];congr 1
    rw [List.getElem?_eq_getElem hlt] at hxk;injection hxk
   have htk:its.take (k+1)=its.take k++[x]:=by rw [List.take_add_one,hxk];rfl
   have hlt':(k:Int)<(its.length:Int):=by omega
   have hwr:IntKind.i64.wrap ((k:Int)+1)=((k+1:Nat):Int):=by rw [AiY (by omega) (by omega)];simp
   have hI:=show_Item x (hx x (List.mem_of_getElem? hxk))
   rw [hdr,allS_cons] at hJ
   refine wp_seq (wp_avB (mt:=kd_CShow) (keeps_B _ _ _) [0,2,3,4,12,13,14] rfl (az:=x5) (by kernel_rfl) (K:=fun l' bx'=>l'=[.list 8 (its.map eIt),.any,.str (S8 []),.int .i64 0,.any,.any,.any,.any,.any,.any,.any,.any,.list 8 (its.map eIt),.int .i64 (its.length:Int),.int .i64 (k:Int),.bool true,.any,.any,.any,.any,.any,.any,.any,.any,.any,.any,.any,.any,.any,.any,.any,.any,.any,.any]) ?_ T5 B5 (by rintro l' bx' rfl;rfl) ?_)
   · simp +contextual -implicitDefEqProofs only [sm,x5,hdT,seval,hlt']
   rintro l' bx' a6 w6 rfl T6 B6 d6 k6
   have T6:RepT fz2 [] [.list 8 (its.map eIt),.any,.str (S8 []),.int .i64 0,.any,.any,.any,.any,.any,.any,.any,.any,.list 8 (its.map eIt),.int .i64 (its.length:Int),.int .i64 (k:Int),.bool true,.any,.any,.any,.any,.any,.any,.any,.any,.any,.any,.any,.any,.any,.any,.any,.any,.any,.any] a6:=T6
   have hk6:∀ t,t∈[0,2,3,4,12,13,14]→a6.tmps[t]? = a5.tmps[t]?:=k6
   show Code.wp _ _ _ a6 w6
   refine wp_seq (wp_cond_true (T6.2 15).inv_bool (wp_skip ?_))
   show Code.wp _ _ _ a6 w6
   refine wp_seq (wp_block (wp_seq (wp_avB1 (mt:=kd_CShow) [0,2,3,4,12,13,14] rfl (az:=x6) (by kernel_rfl) (K:=fun l' bx'=>l'=[.list 8 (its.map eIt),.any,.str (S8 []),.int .i64 0,.any,.any,.ptr 8 0 0 0,.any,.any,.any,.any,.any,.list 8 (its.map eIt),.int .i64 (its.length:Int),.int .i64 (k:Int),.bool true,.rptr [.int .i64 x.kind,.str (S8 x.name),.bool x.bool,.list 2 (x.dom.map eRg),.int .i64 x.size,.bool x.out,.list 4 (x.vals.map eEx),.int .i64 x.ask],.agg [.int .i64 x.kind,.str (S8 x.name),.bool x.bool,.list 2 (x.dom.map eRg),.int .i64 x.size,.bool x.out,.list 4 (x.vals.map eEx),.int .i64 x.ask],.any,.any,.any,.any,.any,.any,.any,.any,.any,.any,.any,.any,.any,.any,.any,.any]∧bx'=[some (8,[eIt x])]) ?_ T6 B6 ?_)))
   · simp +contextual -implicitDefEqProofs only [sm,x6,seval,List.getElem?_map,hxk,Option.map_some,AaZ]
   intro a7 w7 M7
   show Code.wp _ _ _ a7 w7
   have hI0:=hI
   unfold itemV at hI
   rw [AaZ] at hI
   cases hb:AdX x with
   |
    false =>
    have hR2:R=none:=by rw [← hJ,hb];rfl
    rw [hb] at hI
    simp only [Bool.false_eq_true,if_false] at hI
    have hV2:V=([],2):=by rw [← hV,hR2]
    subst hV2
    refine wp_seq (wp_avB2 (mt:=kd_CShow) (keeps_B _ _ _) [0,2,3,4,12,13,14] rfl (az:=x7) (by kernel_rfl) (K:=fun l' bx'=>l'=[.list 8 (its.map eIt),.any,.str (S8 []),.int .i64 0,.any,.any,.ptr 8 0 0 0,.str (S8 []),.int .i64 2,.any,.any,.any,.list 8 (its.map eIt),.int .i64 (its.length:Int),.int .i64 (k:Int),.bool true,.rptr [.int .i64 x.kind,.str (S8 x.name),.bool x.bool,.list 2 (x.dom.map eRg),.int .i64 x.size,.bool x.out,.list 4 (x.vals.map eEx),.int .i64 x.ask],.agg [.int .i64 x.kind,.str (S8 x.name),.bool x.bool,.list 2 (x.dom.map eRg),.int .i64 x.size,.bool x.out,.list 4 (x.vals.map eEx),.int .i64 x.ask],.tuple [.str (S8 []),.int .i64 2],.agg [.int .i64 x.kind,.str (S8 x.name),.bool x.bool,.list 2 (x.dom.map eRg),.int .i64 x.size,.bool x.out,.list 4 (x.vals.map eEx),.int .i64 x.ask],.tuple [.str (S8 []),.int .i64 2],.str (S8 []),.int .i64 2,.any,.any,.any,.any,.any,.any,.any,.any,.any,.any,.any]) ?_ T6 B6 M7 (by rintro l' bx' rfl;rfl) ?_)
    · rintro l' bx' ⟨rfl,rfl⟩
      simp +contextual -implicitDefEqProofs only [sm,x7,AaZ,seval]
      refine AaY hI (AaQ _) ?_ ?_
      · simp +contextual -implicitDefEqProofs only [sm,seval,AeY,AdQ]
      simp +contextual -implicitDefEqProofs only [sm,seval]
    rintro l' bx' a8 w8 rfl T8 B8 d8 k8
    have T8:RepT fz2 [] [.list 8 (its.map eIt),.any,.str (S8 []),.int .i64 0,.any,.any,.any,.str (S8 []),.int .i64 2,.any,.any,.any,.list 8 (its.map eIt),.int .i64 (its.length:Int),.int .i64 (k:Int),.bool true,.any,.any,.any,.any,.any,.str (S8 []),.int .i64 2,.any,.any,.any,.any,.any,.any,.any,.any,.any,.any,.any] a8:=T8
    show Code.wp _ _ _ a8 w8
    refine wp_seq (wp_seq (wp_avB (mt:=kd_CShow) (keeps_B _ _ _) [4] rfl (az:=x8) (by kernel_rfl) (K:=fun l' bx'=>l'=[.list 8 (its.map eIt),.any,.str (S8 []),.int .i64 0,.any,.any,.any,.str (S8 []),.int .i64 2,.any,.any,.any,.list 8 (its.map eIt),.int .i64 (its.length:Int),.int .i64 (k:Int),.bool true,.any,.any,.any,.any,.any,.str (S8 []),.int .i64 2,.int .i64 2,.bool true,.any,.any,.any,.any,.any,.any,.any,.any,.any]) ?_ T8 B8 (by rintro l' bx' rfl;rfl) ?_))
    · simp +contextual -implicitDefEqProofs only [sm,x8,seval]
    rintro l' bx' a9 w9 rfl T9 B9 d9 k9
    have T9:RepT fz2 [] [.any,.any,.str (S8 []),.int .i64 0,.any,.any,.any,.str (S8 []),.int .i64 2,.any,.any,.any,.any,.int .i64 (its.length:Int),.int .i64 (k:Int),.bool true,.any,.any,.any,.any,.any,.str (S8 []),.int .i64 2,.int .i64 2,.bool true,.any,.any,.any,.any,.any,.any,.any,.any,.any] a9:=T9
    refine wp_cond_true (T9.2 24).inv_bool ?_
    refine wp_seq (wp_avB (mt:=kd_CShow) (keeps_B _ _ _) [4] rfl (az:=x9) (by kernel_rfl) (K:=fun l' bx'=>l'=[.any,.any,.str (S8 []),.int .i64 2,.any,.any,.any,.str (S8 []),.int .i64 2,.any,.any,.any,.any,.int .i64 (its.length:Int),.int .i64 (k:Int),.bool true,.any,.any,.any,.any,.any,.str (S8 []),.int .i64 2,.int .i64 2,.bool true,.int .i64 2,.any,.any,.any,.any,.any,.any,.any,.any]) ?_ T9 B9 (by rintro l' bx' rfl;rfl) ?_)
    · simp +contextual -implicitDefEqProofs only [sm,x9,seval]
    rintro l' bx' aA wA rfl TA BA dA kA
    refine wp_ret ?_
    exact fin_Text f02 TA (s:=[]) (e:=2) rfl BA.sim (by rw [dA,d9,d8,d6,hd5])
   |
    true =>
    rw [hb] at hI
    simp only [if_true] at hI
    have hsl:=right_len x hb
    rw [hb,if_pos rfl] at hJ
    have hot:outT (its.take (k+1))=outT (its.take k)++(BaY x).1++[10]:=by rw [htk,outT_snoc,List.append_assoc]
    generalize hs:(BaY x).1=s at hI hsl hot hJ
    refine wp_seq (wp_avB2 (mt:=kd_CShow) (keeps_B _ _ _) [0,2,3,4,12,13,14] rfl (az:=x7) (by kernel_rfl) (K:=fun l' bx'=>l'=[.list 8 (its.map eIt),.any,.str (S8 []),.int .i64 0,.any,.any,.ptr 8 0 0 0,.str (S8 s),.int .i64 0,.any,.any,.any,.list 8 (its.map eIt),.int .i64 (its.length:Int),.int .i64 (k:Int),.bool true,.rptr [.int .i64 x.kind,.str (S8 x.name),.bool x.bool,.list 2 (x.dom.map eRg),.int .i64 x.size,.bool x.out,.list 4 (x.vals.map eEx),.int .i64 x.ask],.agg [.int .i64 x.kind,.str (S8 x.name),.bool x.bool,.list 2 (x.dom.map eRg),.int .i64 x.size,.bool x.out,.list 4 (x.vals.map eEx),.int .i64 x.ask],.tuple [.str (S8 s),.int .i64 0],.agg [.int .i64 x.kind,.str (S8 x.name),.bool x.bool,.list 2 (x.dom.map eRg),.int .i64 x.size,.bool x.out,.list 4 (x.vals.map eEx),.int .i64 x.ask],.tuple [.str (S8 s),.int .i64 0],.str (S8 s),.int .i64 0,.any,.any,.any,.any,.any,.any,.any,.any,.any,.any,.any]) ?_ T6 B6 M7 (by rintro l' bx' rfl;rfl) ?_)
    · rintro l' bx' ⟨rfl,rfl⟩
      simp +contextual -implicitDefEqProofs only [sm,x7,AaZ,seval]
      refine AaY hI (AaQ _) ?_ ?_
      · simp +contextual -implicitDefEqProofs only [sm,seval,AeY,AdQ]
      simp +contextual -implicitDefEqProofs only [sm,seval]
    rintro l' bx' a8 w8 rfl T8 B8 d8 k8
    have T8:RepT fz2 [] [.list 8 (its.map eIt),.any,.str (S8 []),.int .i64 0,.any,.any,.any,.str (S8 s),.int .i64 0,.any,.any,.any,.list 8 (its.map eIt),.int .i64 (its.length:Int),.int .i64 (k:Int),.bool true,.any,.any,.any,.any,.any,.str (S8 s),.int .i64 0,.any,.any,.any,.any,.any,.any,.any,.any,.any,.any,.any] a8:=T8
    show Code.wp _ _ _ a8 w8
    refine wp_seq (wp_seq (wp_avB (mt:=kd_CShow) (keeps_B _ _ _) [0,2,3,4,12,13,14] rfl (az:=x8) (by kernel_rfl) (K:=fun l' bx'=>l'=[.list 8 (its.map eIt),.any,.str (S8 []),.int .i64 0,.any,.any,.any,.str (S8 s),.int .i64 0,.any,.any,.any,.list 8 (its.map eIt),.int .i64 (its.length:Int),.int .i64 (k:Int),.bool true,.any,.any,.any,.any,.any,.str (S8 s),.int .i64 0,.int .i64 0,.bool false,.any,.any,.any,.any,.any,.any,.any,.any,.any]) ?_ T8 B8 (by rintro l' bx' rfl;rfl) ?_))
    · simp +contextual -implicitDefEqProofs only [sm,x8,seval]
    rintro l' bx' a9 w9 rfl T9 B9 d9 k9
    have T9:RepT fz2 [] [.list 8 (its.map eIt),.any,.str (S8 []),.int .i64 0,.any,.any,.any,.str (S8 s),.int .i64 0,.any,.any,.any,.list 8 (its.map eIt),.int .i64 (its.length:Int),.int .i64 (k:Int),.bool true,.any,.any,.any,.any,.any,.str (S8 s),.int .i64 0,.int .i64 0,.bool false,.any,.any,.any,.any,.any,.any,.any,.any,.any] a9:=T9
    refine wp_cond_false (T9.2 24).inv_bool (wp_skip ?_)
    have h49:a9.tmps[4]? = some (.pointer (some ⟨b,0,none⟩)):=by rw [k9 4 (by decide),k8 4 (by decide),hk6 4 (by decide),h45]
    have hd9:a9.defers=[]:=by rw [d9,d8,d6,hd5]
    have hsz9:a9.tmps.size=34:=T9.1.symm
    show Code.wp _ _ _ a9 w9
    refine wp_seq (wp_region ?_)
    refine AyZ (i:=0) (r:=[1]) (ho:=rfl) rfl ?_
    have e7:=(T9.2 7).inv_str
    refine owp_val (v:=.string (S8 s)) (w':=w9) (by simp [execOp,Act.eval,go_sem];simpa using e7) ?_
    obtain ⟨aC,haC⟩:∃ aC,aC=a9.put (some 26) (.string (S8 s)):=⟨_,rfl⟩
    have TC:RepT fz2 [] [.list 8 (its.map eIt),.any,.str (S8 []),.int .i64 0,.any,.any,.any,.str (S8 s),.int .i64 0,.any,.any,.any,.list 8 (its.map eIt),.int .i64 (its.length:Int),.int .i64 (k:Int),.bool true,.any,.any,.any,.any,.any,.str (S8 s),.int .i64 0,.int .i64 0,.bool false,.any,.str (S8 s),.any,.any,.any,.any,.any,.any,.any] aC:=by rw [haC];exact T9.put (some 26) (v:=.str (S8 s)) (.frz (.str _))
    have h4C:aC.tmps[4]? = some (.pointer (some ⟨b,0,none⟩)):=by rw [haC,← h49];simp [Act.put,Array.getElem?_setIfInBounds_ne]
    have h26:aC.tmps[26]? = some (.string (S8 s)):=by rw [haC];simp [Act.put,hsz9]
    have hdC:aC.defers=[]:=by rw [haC,AkY,hd9]
    show wpOps _ _ _ [1] (a9.put (some 26) (.string (S8 s))) _
    rw [← haC]
    clear haC T9 h49 hd9
    refine AyZ (i:=1) (r:=[]) (ho:=rfl) rfl ?_
    refine owp_call (f:=13) (args:=#[.pointer (some ⟨b,0,none⟩),.string (S8 s)]) ?_ ?_
    · simp [execOp,Act.eval,go_sem,resolve,invoke,h4C,h26,Tryz.call13]
    refine (b_WriteString b b _ (S8 s) w9 B9.g (by rw [Lib.byteCells_length,show (S8 s).size=s.length from rfl];omega) (isB_lt B9.g)).mono ?_
    rintro e wD ⟨rfl,hbD,hbel⟩
    refine ⟨_,rfl,?_⟩
    have BD:BS w0 pr fz2 b (Lib.IsBuilder tB tE b b (Lib.byteCells (outT (its.take k)++s))) wD:=⟨sim_old B9.sim B9.fzB B9.prB hbel,.inr (by rw [Lib.byteCells_append];exact hbD),B9.fzB,B9.prB⟩
    clear hbD hbel B9
    obtain ⟨aD,haD⟩:∃ aD,aD=aC.put (some 27) (.tuple #[.int .i64 ((S8 s).size:Int),.nilIface]):=⟨_,rfl⟩
    have TD:RepT fz2 [] [.list 8 (its.map eIt),.any,.str (S8 []),.int .i64 0,.any,.any,.any,.str (S8 s),.int .i64 0,.any,.any,.any,.list 8 (its.map eIt),.int .i64 (its.length:Int),.int .i64 (k:Int),.bool true,.any,.any,.any,.any,.any,.str (S8 s),.int .i64 0,.int .i64 0,.bool false,.any,.str (S8 s),.any,.any,.any,.any,.any,.any,.any] aD:=by rw [haD];exact TC.put (some 27) (v:=.any) (.frz (.any _))
    have h4D:aD.tmps[4]? = some (.pointer (some ⟨b,0,none⟩)):=by rw [haD,← h4C];simp [Act.put,Array.getElem?_setIfInBounds_ne]
    have hdD:aD.defers=[]:=by rw [haD,AkY,hdC]
    show Code.wp _ _ _ (aC.put (some 27) (.tuple #[.int .i64 ((S8 s).size:Int),.nilIface])) wD
    rw [← haD]
    clear haD TC h4C h26 hdC
    refine wp_region ?_
    refine AyZ (i:=0) (r:=[]) (ho:=rfl) rfl ?_
    refine owp_call (f:=14) (args:=#[.pointer (some ⟨b,0,none⟩),.int .u8 10]) ?_ ?_
    · simp [execOp,Act.eval,go_sem,resolve,invoke,h4D,Tryz.call14]
    refine (b_WriteByte b b _ 10 wD BD.g (by rw [Lib.byteCells_length,List.length_append];omega) (isB_lt BD.g)).mono ?_
    rintro e wE ⟨rfl,hbE,hbel⟩
    refine ⟨_,rfl,?_⟩
    have BE:BS w0 pr fz2 b (Lib.IsBuilder tB tE b b (Lib.byteCells (outT (its.take (k+1))))) wE:=⟨sim_old BD.sim BD.fzB BD.prB hbel,.inr (by rw [hot,Lib.byteCells_append];exact hbE),BD.fzB,BD.prB⟩
    clear hbE hbel BD
    obtain ⟨aE,haE⟩:∃ aE,aE=aD.put (some 28) .nilIface:=⟨_,rfl⟩
    have TE:RepT fz2 [] [.list 8 (its.map eIt),.any,.str (S8 []),.int .i64 0,.any,.any,.any,.str (S8 s),.int .i64 0,.any,.any,.any,.list 8 (its.map eIt),.int .i64 (its.length:Int),.int .i64 (k:Int),.bool true,.any,.any,.any,.any,.any,.str (S8 s),.int .i64 0,.int .i64 0,.bool false,.any,.str (S8 s),.any,.any,.any,.any,.any,.any,.any] aE:=by rw [haE];exact TD.put (some 28) (v:=.any) (.frz (.any _))
    have h4E:aE.tmps[4]? = some (.pointer (some ⟨b,0,none⟩)):=by rw [haE,← h4D];simp [Act.put,Array.getElem?_setIfInBounds_ne]
    have hdE:aE.defers=[]:=by rw [haE,AkY,hdD]
    show Code.wp _ _ _ (aD.put (some 28) .nilIface) wE
    rw [← haE]
    clear haE TD h4D hdD
    refine wp_avB (mt:=kd_CShow) (keeps_B _ _ _) [0,2,3,4,12,13] rfl (az:=x12) (by kernel_rfl) (K:=fun l' bx'=>l'=[.list 8 (its.map eIt),.any,.str (S8 []),.int .i64 0,.any,.any,.any,.str (S8 s),.int .i64 0,.any,.any,.any,.list 8 (its.map eIt),.int .i64 (its.length:Int),.int .i64 ((k+1:Nat):Int),.bool true,.any,.any,.any,.any,.any,.str (S8 s),.int .i64 0,.int .i64 0,.bool false,.any,.str (S8 s),.any,.any,.int .i64 ((k+1:Nat):Int),.any,.any,.any,.any]) ?_ TE BE (by rintro l' bx' rfl;rfl) ?_
    · simp +contextual -implicitDefEqProofs only [sm,x12,seval,hwr]
    rintro l' bx' aF wF rfl TF BF dF kF
    have hμF:=(TF.2 14).inv_int
    refine And.intro ⟨k+1,by omega,rep_wkT TF (And.intro (.inr rfl) (And.intro (.inl rfl) (And.intro (.inr rfl) (And.intro (.inr rfl) (And.intro (.inl rfl) (And.intro (.inl rfl) (And.intro (.inl rfl) (And.intro (.inl rfl) (And.intro (.inl rfl) (And.intro (.inl rfl) (And.intro (.inl rfl) (And.intro (.inl rfl) (And.intro (.inr rfl) (And.intro (.inr rfl) (And.intro (.inr rfl) (And.intro (.inl rfl) (And.intro (.inl rfl) (And.intro (.inl rfl) (And.intro (.inl rfl) (And.intro (.inl rfl) (And.intro (.inl rfl) (And.intro (.inl rfl) (And.intro (.inl rfl) (And.intro (.inl rfl) (And.intro (.inl rfl) (And.intro (.inl rfl) (And.intro (.inl rfl) (And.intro (.inl rfl) (And.intro (.inl rfl) (And.intro (.inl rfl) (And.intro (.inl rfl) (And.intro (.inl rfl) (And.intro (.inl rfl) (And.intro (.inl rfl) trivial)))))))))))))))))))))))))))))))))),by rw [kF 4 (by decide),h4E],BF,by rw [dF,hdE],?_,?_⟩ ?_
    · rw [htk]
      intro y hy
      rcases List.mem_append.1 hy with hy | hy
      · exact hr y hy
      · simp at hy;subst hy;exact hb
    · rw [← hJ,hot]
      cases allS_ (its.drop (k+1)) <;> simp
    · rw [hμF];simp;omega
 · have he:k=its.length:=by omega
   subst he
   have hlt':¬ ((its.length:Int)<(its.length:Int)):=by omega
   rw [List.take_length] at hol2 B5
   have hR2:R=some (outT its):=by rw [← hJ];simp [allS_]
   have hV2:V=if fitsB (outT its)=true then (outT its,0) else ([],3):=by rw [← hV,hR2]
   refine wp_seq (wp_avB (mt:=kd_CShow) (keeps_B _ _ _) [0,2,3,4,12,13,14] rfl (az:=x5) (by kernel_rfl) (K:=fun l' bx'=>l'=[.list 8 (its.map eIt),.any,.str (S8 []),.int .i64 0,.any,.any,.any,.any,.any,.any,.any,.any,.list 8 (its.map eIt),.int .i64 (its.length:Int),.int .i64 (its.length:Int),.bool false,.any,.any,.any,.any,.any,.any,.any,.any,.any,.any,.any,.any,.any,.any,.any,.any,.any,.any]) ?_ T5 B5 (by rintro l' bx' rfl;rfl) ?_)
   · simp +contextual -implicitDefEqProofs only [sm,x5,hdT,seval,hlt']
   rintro l' bx' a6 w6 rfl T6 B6 d6 k6
   have T6:RepT fz2 [] [.list 8 (its.map eIt),.any,.str (S8 []),.int .i64 0,.any,.any,.any,.any,.any,.any,.any,.any,.list 8 (its.map eIt),.int .i64 (its.length:Int),.int .i64 (its.length:Int),.bool false,.any,.any,.any,.any,.any,.any,.any,.any,.any,.any,.any,.any,.any,.any,.any,.any,.any,.any] a6:=T6
   have h46:a6.tmps[4]? = some (.pointer (some ⟨b,0,none⟩)):=by rw [k6 4 (by decide),h45]
   have hd6:a6.defers=[]:=by rw [d6,hd5]
   show Code.wp _ _ _ a6 w6
   refine wp_seq (wp_cond_false (T6.2 15).inv_bool (wp_exit ?_))
   show Code.wp _ _ _ a6 w6
   generalize outT its=out at hol2 B6 hV2
   clear B5 T5 h45 hd5 hJ hR2
   refine wp_seq (wp_seq (wp_region ?_))
   refine AyZ (i:=0) (r:=List.range' 1 2) (ho:=rfl) rfl ?_
   refine owp_call (f:=16) (args:=#[.pointer (some ⟨b,0,none⟩)]) ?_ ?_
   · simp [execOp,Act.eval,go_sem,resolve,invoke,h46,Tryz.call16]
   refine (Tryz.Builder_String_any_k b b out w6 (Lib.IsBuilderF.of B6.g) (isB_lt B6.g)).mono ?_
   rintro e w7 ⟨rfl,hbf,hbel,-⟩
   refine ⟨_,rfl,?_⟩
   have B7:BS w0 pr fz2 b (Lib.IsBuilderF tB tE b b (Lib.byteCells out)) w7:=⟨sim_old B6.sim B6.fzB B6.prB hbel,hbf,B6.fzB,B6.prB⟩
   clear hbf hbel B6
   obtain ⟨a7,ha7⟩:∃ a7,a7=a6.put (some 30) (.string (S8 out)):=⟨_,rfl⟩
   have T7:RepT fz2 [] [.list 8 (its.map eIt),.any,.str (S8 []),.int .i64 0,.any,.any,.any,.any,.any,.any,.any,.any,.list 8 (its.map eIt),.int .i64 (its.length:Int),.int .i64 (its.length:Int),.bool false,.any,.any,.any,.any,.any,.any,.any,.any,.any,.any,.any,.any,.any,.any,.str (S8 out),.any,.any,.any] a7:=by rw [ha7];exact T6.put (some 30) (v:=.str (S8 out)) (.frz (.str _))
   have h47:a7.tmps[4]? = some (.pointer (some ⟨b,0,none⟩)):=by rw [ha7,← h46];simp [Act.put,Array.getElem?_setIfInBounds_ne]
   have hd7:a7.defers=[]:=by rw [ha7,AkY,hd6]
   show wpOps _ _ _ (List.range' 1 2) (a6.put (some 30) (.string (S8 out))) w7
   rw [← ha7]
   clear ha7 T6 h46 hd6
   have hf:=show_fits out (by omega)
   generalize fitsB out=fb at hf hV2
   refine ops_avB (mt:=kd_CShow) (k:=1) (keeps_BF _ _ _) [0,2,3,4] rfl rfl (az:=x13) (by kernel_rfl) (K:=fun l' bx'=>l'=[.list 8 (its.map eIt),.any,.str (S8 []),.int .i64 0,.any,.any,.any,.any,.any,.any,.any,.any,.list 8 (its.map eIt),.int .i64 (its.length:Int),.int .i64 (its.length:Int),.bool false,.any,.any,.any,.any,.any,.any,.any,.any,.any,.any,.any,.any,.any,.any,.str (S8 out),.bool fb,.bool (!fb),.any]) ?_ T7 B7 (by rintro l' bx' rfl;rfl) ?_
   · simp +contextual -implicitDefEqProofs only [sm,x13,seval]
     refine AaY hf (AaQ _) rfl ?_
     simp +contextual -implicitDefEqProofs only [sm,seval]
   rintro l' bx' a8 w8 rfl T8 B8 d8 k8
   have T8:RepT fz2 [] [.list 8 (its.map eIt),.any,.str (S8 []),.int .i64 0,.any,.any,.any,.any,.any,.any,.any,.any,.any,.int .i64 (its.length:Int),.int .i64 (its.length:Int),.bool false,.any,.any,.any,.any,.any,.any,.any,.any,.any,.any,.any,.any,.any,.any,.str (S8 out),.bool fb,.bool (!fb),.any] a8:=T8
   have h48:a8.tmps[4]? = some (.pointer (some ⟨b,0,none⟩)):=by rw [k8 4 (by decide),h47]
   have hd8:a8.defers=[]:=by rw [d8,hd7]
   have hsz8:a8.tmps.size=34:=T8.1.symm
   cases fb with
   |
    false =>
    simp only [Bool.false_eq_true,if_false] at hV2
    subst hV2
    refine wp_cond_true (T8.2 32).inv_bool ?_
    refine wp_seq (wp_avB (mt:=kd_CShow) (keeps_BF _ _ _) [4] rfl (az:=x14) (by kernel_rfl) (K:=fun l' bx'=>l'=[.list 8 (its.map eIt),.any,.str (S8 []),.int .i64 3,.any,.any,.any,.any,.any,.any,.any,.any,.any,.int .i64 (its.length:Int),.int .i64 (its.length:Int),.bool false,.any,.any,.any,.any,.any,.any,.any,.any,.any,.any,.any,.any,.any,.any,.str (S8 out),.bool false,.bool (!false),.any]) ?_ T8 B8 (by rintro l' bx' rfl;rfl) ?_)
    · simp +contextual -implicitDefEqProofs only [sm,x14,seval]
    rintro l' bx' aA wA rfl TA BA dA kA
    refine wp_ret ?_
    exact fin_Text f02 TA (s:=[]) (e:=3) rfl BA.sim (by rw [dA,hd8])
   |
    true =>
    simp only [if_true] at hV2
    subst hV2
    refine wp_cond_false (T8.2 32).inv_bool (wp_skip ?_)
    show Code.wp _ _ _ a8 w8
    refine wp_seq (wp_region ?_)
    refine AyZ (i:=0) (r:=List.range' 1 2) (ho:=rfl) rfl ?_
    refine owp_call (f:=16) (args:=#[.pointer (some ⟨b,0,none⟩)]) ?_ ?_
    · simp [execOp,Act.eval,go_sem,resolve,invoke,h48,Tryz.call16]
    refine (Tryz.Builder_String_any_k b b out w8 B8.g (isBF_lt B8.g)).mono ?_
    rintro e w9 ⟨rfl,hbf,hbel,-⟩
    refine ⟨_,rfl,?_⟩
    have B9:BS w0 pr fz2 b (Lib.IsBuilderF tB tE b b (Lib.byteCells out)) w9:=⟨sim_old B8.sim B8.fzB B8.prB hbel,hbf,B8.fzB,B8.prB⟩
    obtain ⟨a9,ha9⟩:∃ a9,a9=a8.put (some 33) (.string (S8 out)):=⟨_,rfl⟩
    have T9:RepT fz2 [] [.list 8 (its.map eIt),.any,.str (S8 []),.int .i64 0,.any,.any,.any,.any,.any,.any,.any,.any,.any,.int .i64 (its.length:Int),.int .i64 (its.length:Int),.bool false,.any,.any,.any,.any,.any,.any,.any,.any,.any,.any,.any,.any,.any,.any,.str (S8 out),.bool true,.bool (!true),.str (S8 out)] a9:=by rw [ha9];exact T8.put (some 33) (v:=.str (S8 out)) (.frz (.str _))
    have hd9:a9.defers=[]:=by rw [ha9,AkY,hd8]
    show wpOps _ _ _ (List.range' 1 2) (a8.put (some 33) (.string (S8 out))) w9
    rw [← ha9]
    clear ha9 T8
    refine ops_avB (mt:=kd_CShow) (k:=1) (keeps_BF _ _ _) [0,4] rfl rfl (az:=x15) (by kernel_rfl) (K:=fun l' bx'=>l'=[.list 8 (its.map eIt),.any,.str (S8 out),.int .i64 0,.any,.any,.any,.any,.any,.any,.any,.any,.any,.int .i64 (its.length:Int),.int .i64 (its.length:Int),.bool false,.any,.any,.any,.any,.any,.any,.any,.any,.any,.any,.any,.any,.any,.any,.str (S8 out),.bool true,.bool (!true),.str (S8 out)]) ?_ T9 B9 (by rintro l' bx' rfl;rfl) ?_
    · simp +contextual -implicitDefEqProofs only [sm,x15,seval]
    rintro l' bx' aA wA rfl TA BA dA kA
    refine wp_ret ?_
    exact fin_Text f02 TA (s:=out) (e:=0) rfl BA.sim (by rw [dA,hd9])
end Go.Proofs.YtcmphhedaefcgaaGreatDoor
end
