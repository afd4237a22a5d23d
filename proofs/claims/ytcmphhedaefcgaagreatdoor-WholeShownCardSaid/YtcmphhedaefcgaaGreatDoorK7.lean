/- What the builder of problems computes, first half. -/
import Derived.Test.YtcmphhedaefcgaaGreatDoorProg
import Derived.Test.YtcmphhedaefcgaaGreatDoorK3
import Derived.Test.YtcmphhedaefcgaaGreatDoorK4
set_option linter.unusedVariables false
set_option linter.unusedSimpArgs false
section
namespace Go.Proofs.YtcmphhedaefcgaaGreatDoor
open Av
set_option maxRecDepth 100000
def kd_CMod (f:Nat):Nat:=if f=26 then 2 else if f=62 then 2 else if f=63 then 2 else if f=74 then 2 else if f=69 then 2 else if f=65 then 2 else if f=101 then 2 else if f=64 then 2 else if f=66 then 2 else if f=102 then 2 else if f=70 then 2 else if f=71 then 2 else if f=32 then 2 else if f=30 then 2 else if f=31 then 2 else if f=33 then 2 else if f=29 then 2 else if f=11 then 2 else if f=73 then 1 else if f=97 then 3 else if f=98 then 2 else if f=5000000+54 then 1 else if f=5000000+55 then 1 else 0
def AuQ:AFunc:=⟨25,[.tmp 6],
 .seq (.region (zo 6 (.mov (.val (.bool false)))::[])) <|
 .seq (.seq (.region (zm 7 1::zo 8 (.un .not (.tmp 7))::zm 9 8::zg 10 (.mov (.tmp 0)) 9 true::zg 11 (.nilc (.tmp 10)) 9 true::zg 12 (.faddr 8 (.tmp 11)) 9 true::zg 13 (.load false 1 (.tmp 12)) 9 true::zg 14 (.bin .eql (.tmp 13) (.val (.int .i64 0))) 9 true::zo 15 (.pick (.tmp 9) (.tmp 14) (.val (.bool false)))::[])) <|
 .cond (.tmp 15) (.region (zm 16 0::zm 17 2::zo 18 (.nilc (.tmp 16))::zf 19 8 18::zs 1 19 17::[])) <|
 .skip) <|
 .seq (.region (zm 20 0::zo 21 (.nilc (.tmp 20))::zf 22 8 21::zl 23 1 22::zo 24 (.bin .neq (.tmp 23) (.val (.int .i64 0)))::zm 6 24::[])) <|
 .ret⟩
theorem e_model_builder_fail:AgY Tryz.prog kd_CMod Tryz.f26=some AuQ:=by kernel_rfl
def c_model_builder_fresh:AFunc:=⟨37,[.tmp 4],
 .seq (.region (zo 4 (.mov (.val (.int .i64 0)))::[])) <|
 .seq (.seq (.region (zm 5 0::zm 6 0::zo 7 (.nilc (.tmp 6))::zf 8 0 7::zf 9 0 8::zf 10 0 9::zl 11 1 10::zo 12 (.len false (.tmp 11))::zo 13 (.bin .lss (.tmp 12) (.val (.int .i64 64)))::zo 14 (.callm (.val (.fn (.func 26) [])) [(.tmp 5),(.tmp 13),(.val (.int .i64 3))])::[])) <|
 .cond (.tmp 14) (.seq (.region (zo 4 (.mov (.val (.int .i64 0)))::[])) <|
  .ret) <|
 .skip) <|
 .seq (.region (zm 15 0::zm 16 0::zo 17 (.nilc (.tmp 16))::zf 18 0 17::zf 19 0 18::zf 20 0 19::zl 21 1 20::zm 22 1::zo 23 (.bslice 1 [(.tmp 22)])::zo 24 (.app 1 24 (.tmp 21) (.tmp 23))::zo 25 (.nilc (.tmp 15))::zf 26 0 25::zf 27 0 26::zf 28 0 27::zs 1 28 24::[])) <|
 .seq (.region (zm 29 0::zo 30 (.nilc (.tmp 29))::zf 31 0 30::zf 32 0 31::zf 33 0 32::zl 34 1 33::zo 35 (.len false (.tmp 34))::zo 36 (.bin .sub (.tmp 35) (.val (.int .i64 1)))::zm 4 36::[])) <|
 .ret⟩
theorem e_model_builder_fresh:AgY Tryz.prog kd_CMod Tryz.f62=some c_model_builder_fresh:=by kernel_rfl
def BoZ:AFunc:=⟨29,[],
 .seq (.region (zo 3 (.box 4 (.tmp 1))::[])) <|
 .seq (.region (zm 4 0::zm 5 0::zo 6 (.nilc (.tmp 5))::zf 7 0 6::zf 8 0 7::zf 9 1 8::zl 10 1 9::zo 11 (.len false (.tmp 10))::zo 12 (.bin .lss (.tmp 11) (.val (.int .i64 64)))::zo 13 (.callm (.val (.fn (.func 26) [])) [(.tmp 4),(.tmp 12),(.val (.int .i64 3))])::zo 14 (.un .not (.tmp 13))::[])) <|
 .cond (.tmp 14) (.draw (zm 15 0::zm 16 0::zo 17 (.nilc (.tmp 16))::zf 18 0 17::zf 19 0 18::zf 20 1 19::zl 21 1 20::zo 22 (.load true 4 (.tmp 3))::zo 23 (.bslice 4 [(.tmp 22)])::zo 24 (.app 4 64 (.tmp 21) (.tmp 23))::zo 25 (.nilc (.tmp 15))::zf 26 0 25::zf 27 0 26::zf 28 1 27::zs 1 28 24::[])) <|
 .skip⟩
theorem e_model_builder_post:AgY Tryz.prog kd_CMod Tryz.f63=some BoZ:=by kernel_rfl
def BoQ:AFunc:=⟨22,[.cell 4 true 4,.tmp 5],
 .seq (.region (zo 4 (.alloc (.agg [(.int .i64 0),(.bool false),.nils,.nils]))::zo 5 (.mov (.val (.bool false)))::[])) <|
 .seq (.region (zm 9 0::zo 10 (.nilc (.tmp 9))::zf 11 5 10::zl 12 1 11::zm 13 1::zo 14 (.mgetv true true (.agg [(.int .i64 0),(.bool false),.nils,.nils]) (.tmp 12) (.tmp 13))::zm 8 14::zx 15 8 0::zx 16 8 1::zo 6 (.alloc (.agg [(.int .i64 0),(.bool false),.nils,.nils]))::zs 4 6 15::zm 7 16::[])) <|
 .seq (.draw (zo 17 (.load true 4 (.tmp 6))::zm 18 0::zm 19 7::zo 20 (.callm (.val (.fn (.func 26) [])) [(.tmp 18),(.tmp 19),(.val (.int .i64 7))])::⟨none,.same true 4 (.tmp 6) (.tmp 17),none⟩::zo 21 (.un .not (.tmp 20))::zs 4 4 17::zm 5 21::[])) <|
 .ret⟩
theorem e_model_builder_look:AgY Tryz.prog kd_CMod Tryz.f74=some BoQ:=by kernel_rfl
def AiQ:AFunc:=⟨57,[.tmp 6],
 .seq (.region (zo 4 (.box 4 (.tmp 1))::zo 6 (.mov (.val (.int .i64 0)))::[])) <|
 .seq (.seq (.region (zf 9 0 4::zl 10 1 9::[])) <|
 .block 0 (.seq (.region (zq 12 10 3::zm 11 12::[])) <|
  .cond (.tmp 11) (.seq (.region (zm 14 0::zf 15 2 4::zl 16 1 15::zo 17 (.callm (.val (.fn (.func 74) [])) [(.tmp 14),(.tmp 16)])::zm 13 17::zx 18 13 0::zx 19 13 1::zo 7 (.alloc (.agg [(.int .i64 0),(.bool false),.nils,.nils]))::zs 4 7 18::zm 8 19::[])) <|
   .seq (.seq (.region (zm 20 8::zo 21 (.un .not (.tmp 20))::zm 22 21::zg 23 (.mov (.tmp 0)) 22 false::zg 24 (.faddr 0 (.tmp 7)) 22 false::zg 25 (.load false 1 (.tmp 24)) 22 false::zg 26 (.bin .eql (.tmp 25) (.val (.int .i64 1))) 22 false::zg 27 (.mov (.tmp 26)) 22 false::zg 28 (.faddr 1 (.tmp 7)) 27 true::zg 29 (.load false 1 (.tmp 28)) 27 true::zg 30 (.mov (.tmp 2)) 27 true::zg 31 (.eqb false (.tmp 29) (.tmp 30)) 27 true::zg 32 (.pick (.tmp 27) (.tmp 31) (.val (.bool false))) 22 false::zg 33 (.callm (.val (.fn (.func 26) [])) [(.tmp 23),(.tmp 32),(.val (.int .i64 9))]) 22 false::zo 34 (.pick (.tmp 22) (.val (.bool true)) (.tmp 33))::[])) <|
   .cond (.tmp 34) (.seq (.region (zo 6 (.mov (.val (.int .i64 0)))::[])) <|
    .ret) <|
   .skip) <|
   .seq (.region (zf 35 2 7::zl 36 1 35::zo 37 (.iaddr 1 (.tmp 36) (.val (.int .i64 0)))::zl 38 1 37::zm 6 38::[])) <|
   .ret) <|
  .seq (.region (zq 40 10 4::zm 39 40::[])) <|
  .cond (.tmp 39) (.seq (.region (zm 41 0::zo 42 (.callm (.val (.fn (.func 26) [])) [(.tmp 41),(.val (.bool false)),(.val (.int .i64 9))])::[])) <|
   .seq (.region (zo 6 (.mov (.val (.int .i64 0)))::[])) <|
   .ret) <|
  .skip)) <|
 .seq (.region (zm 43 0::zf 44 0 4::zl 45 1 44::zq 46 45 2::zm 47 2::zo 48 (.eqb false (.tmp 46) (.tmp 47))::zo 49 (.callm (.val (.fn (.func 26) [])) [(.tmp 43),(.tmp 48),(.val (.int .i64 9))])::[])) <|
 .seq (.region (zm 50 0::zf 51 1 4::zl 52 1 51::zo 53 (.call (.val (.fn (.func 28) [])) [(.tmp 52)])::zo 54 (.callm (.val (.fn (.func 26) [])) [(.tmp 50),(.tmp 53),(.val (.int .i64 2))])::[])) <|
 .seq (.region (zf 55 1 4::zl 56 1 55::zm 6 56::[])) <|
 .ret⟩
theorem e_model_builder_constant:AgY Tryz.prog kd_CMod Tryz.f69=some AiQ:=by kernel_rfl
def BqZ:AFunc:=⟨25,[.tmp 6],
 .seq (.region (zo 6 (.mov (.val .nils))::[])) <|
 .seq (.region (zo 7 (.mov (.val .nils))::[])) <|
 .seq (.seq (.region (zm 10 1::zo 11 (.len false (.tmp 10))::zo 12 (.mov (.val (.int .i64 0)))::[])) <|
 .block 0 (.loop (.seq (.region (zo 13 (.bin .lss (.tmp 12) (.tmp 11))::[])) <|
  .seq (.cond (.tmp 13) (.skip) <|
  .exit 0) <|
  .seq (.block 1 (.seq (.region (zo 14 (.iaddr 4 (.tmp 10) (.tmp 12))::zo 15 (.load true 4 (.tmp 14))::zo 9 (.alloc (.agg [(.int .i64 0),(.int .i64 0),(.str (S8 [])),.nils]))::zs 4 9 15::[])) <|
   .region (zm 16 7::zm 17 0::zo 18 (.load true 4 (.tmp 9))::zm 19 2::zo 20 (.callm (.val (.fn (.func 69) [])) [(.tmp 17),(.tmp 18),(.tmp 19)])::zo 21 (.bslice 1 [(.tmp 20)])::zo 22 (.app 1 8 (.tmp 16) (.tmp 21))::zm 7 22::[]))) <|
  .region (zo 23 (.bin .add (.tmp 12) (.val (.int .i64 1)))::zm 12 23::[])))) <|
 .seq (.region (zm 24 7::zm 6 24::[])) <|
 .ret⟩
theorem e_model_builder_constants:AgY Tryz.prog kd_CMod Tryz.f65=some BqZ:=by kernel_rfl
def ArX:AFunc:=⟨44,[.tmp 4],
 .seq (.region (zo 4 (.mov (.val (.int .i64 0)))::[])) <|
 .seq (.seq (.region (zm 9 0::zo 10 (.nilc (.tmp 9))::zf 11 6 10::zl 12 1 11::zm 13 1::zo 14 (.mgetv false true (.int .i64 0) (.tmp 12) (.tmp 13))::zm 8 14::zx 15 8 0::zx 16 8 1::zm 5 15::zm 6 16::[])) <|
 .seq (.region (zm 17 6::zm 18 17::zg 19 (.mov (.tmp 0)) 18 false::zg 20 (.nilc (.tmp 19)) 18 false::zg 21 (.faddr 8 (.tmp 20)) 18 false::zg 22 (.load false 1 (.tmp 21)) 18 false::zg 23 (.bin .neq (.tmp 22) (.val (.int .i64 0))) 18 false::zo 24 (.pick (.tmp 18) (.val (.bool true)) (.tmp 23))::[])) <|
 .cond (.tmp 24) (.seq (.region (zm 25 5::zm 4 25::[])) <|
  .ret) <|
 .skip) <|
 .seq (.region (zm 26 0::zm 27 1::zm 28 1::zo 29 (.build [(.int .i64 0),(.int .i64 0)] [(0,1,(.tmp 27)),(1,1,(.tmp 28))])::zo 30 (.bslice 2 [(.tmp 29)])::zo 31 (.callm (.val (.fn (.func 62) [])) [(.tmp 26),(.tmp 30)])::zm 7 31::[])) <|
 .seq (.seq (.region (zm 32 0::zo 33 (.nilc (.tmp 32))::zf 34 8 33::zl 35 1 34::zq 36 35 0::[])) <|
 .cond (.tmp 36) (.region (zm 37 0::zo 38 (.nilc (.tmp 37))::zf 39 6 38::zl 40 1 39::zm 41 1::zm 42 7::⟨none,.mputv false (.tmp 40) (.tmp 41) (.tmp 42),none⟩::[])) <|
 .skip) <|
 .seq (.region (zm 43 7::zm 4 43::[])) <|
 .ret⟩
theorem e_model_builder_pinned:AgY Tryz.prog kd_CMod Tryz.f101=some ArX:=by kernel_rfl
def AkZ:AFunc:=⟨39,[.tmp 6],
 .seq (.region (zo 4 (.box 4 (.tmp 1))::zo 6 (.mov (.val (.int .i64 0)))::[])) <|
 .seq (.seq (.draw (zm 8 0::zo 9 (.nilc (.tmp 8))::zf 10 5 9::zl 11 1 10::zf 12 2 4::zl 13 1 12::zo 14 (.mgetv true false (.agg [(.int .i64 0),(.bool false),.nils,.nils]) (.tmp 11) (.tmp 13))::zo 7 (.alloc (.agg [(.int .i64 0),(.bool false),.nils,.nils]))::zs 4 7 14::[])) <|
 .seq (.region (zf 15 0 4::zl 16 1 15::zq 17 16 3::zm 18 17::zg 19 (.faddr 0 (.tmp 7)) 18 true::zg 20 (.load false 1 (.tmp 19)) 18 true::zg 21 (.bin .eql (.tmp 20) (.val (.int .i64 2))) 18 true::zo 22 (.pick (.tmp 18) (.tmp 21) (.val (.bool false)))::[])) <|
 .cond (.tmp 22) (.seq (.region (zm 23 0::zf 24 1 7::zl 25 1 24::zm 26 2::zo 27 (.eqb false (.tmp 25) (.tmp 26))::zo 28 (.callm (.val (.fn (.func 26) [])) [(.tmp 23),(.tmp 27),(.val (.int .i64 9))])::[])) <|
  .seq (.region (zf 29 3 7::zl 30 1 29::zo 31 (.iaddr 1 (.tmp 30) (.val (.int .i64 0)))::zl 32 1 31::zm 6 32::[])) <|
  .ret) <|
 .skip) <|
 .seq (.region (zm 33 0::zm 34 0::zo 35 (.load true 4 (.tmp 4))::zm 36 2::zo 37 (.callm (.val (.fn (.func 69) [])) [(.tmp 34),(.tmp 35),(.tmp 36)])::zo 38 (.callm (.val (.fn (.func 101) [])) [(.tmp 33),(.tmp 37)])::zm 6 38::[])) <|
 .ret⟩
theorem e_model_builder_variable:AgY Tryz.prog kd_CMod Tryz.f64=some AkZ:=by kernel_rfl
def BqY:AFunc:=⟨25,[.tmp 6],
 .seq (.region (zo 6 (.mov (.val .nils))::[])) <|
 .seq (.region (zo 7 (.mov (.val .nils))::[])) <|
 .seq (.seq (.region (zm 10 1::zo 11 (.len false (.tmp 10))::zo 12 (.mov (.val (.int .i64 0)))::[])) <|
 .block 0 (.loop (.seq (.region (zo 13 (.bin .lss (.tmp 12) (.tmp 11))::[])) <|
  .seq (.cond (.tmp 13) (.skip) <|
  .exit 0) <|
  .seq (.block 1 (.seq (.region (zo 14 (.iaddr 4 (.tmp 10) (.tmp 12))::zo 15 (.load true 4 (.tmp 14))::zo 9 (.alloc (.agg [(.int .i64 0),(.int .i64 0),(.str (S8 [])),.nils]))::zs 4 9 15::[])) <|
   .region (zm 16 7::zm 17 0::zo 18 (.load true 4 (.tmp 9))::zm 19 2::zo 20 (.callm (.val (.fn (.func 64) [])) [(.tmp 17),(.tmp 18),(.tmp 19)])::zo 21 (.bslice 1 [(.tmp 20)])::zo 22 (.app 1 8 (.tmp 16) (.tmp 21))::zm 7 22::[]))) <|
  .region (zo 23 (.bin .add (.tmp 12) (.val (.int .i64 1)))::zm 12 23::[])))) <|
 .seq (.region (zm 24 7::zm 6 24::[])) <|
 .ret⟩
theorem e_model_builder_variables:AgY Tryz.prog kd_CMod Tryz.f66=some BqY:=by kernel_rfl
def AzY:AFunc:=⟨36,[.cell 8 true 4,.tmp 9],
 .seq (.region (zo 5 (.box 4 (.tmp 1))::zo 8 (.alloc (.agg [(.int .i64 0),(.bool false),.nils,.nils]))::zo 9 (.mov (.val (.bool false)))::[])) <|
 .seq (.region (zm 13 0::zf 14 2 5::zl 15 1 14::zo 16 (.callm (.val (.fn (.func 74) [])) [(.tmp 13),(.tmp 15)])::zm 12 16::zx 17 12 0::zx 18 12 1::zo 10 (.alloc (.agg [(.int .i64 0),(.bool false),.nils,.nils]))::zs 4 10 17::zm 11 18::[])) <|
 .seq (.draw (zo 19 (.load true 4 (.tmp 10))::zm 20 11::zm 21 20::zg 22 (.mov (.tmp 0)) 21 true::zg 23 (.mov (.tmp 3)) 21 true::zg 24 (.faddr 0 (.tmp 10)) 21 true::zg 25 (.load false 1 (.tmp 24)) 21 true::zg 26 (.call (.val (.fn (.func 127) [])) [(.tmp 23),(.tmp 25)]) 21 true::zg 27 (.mov (.tmp 26)) 21 true::zg 28 (.faddr 1 (.tmp 10)) 27 true::zg 29 (.load false 1 (.tmp 28)) 27 true::zg 30 (.mov (.tmp 2)) 27 true::zg 31 (.eqb false (.tmp 29) (.tmp 30)) 27 true::zg 32 (.pick (.tmp 27) (.tmp 31) (.val (.bool false))) 21 true::zg 33 (.callm (.val (.fn (.func 26) [])) [(.tmp 22),(.tmp 32),(.val (.int .i64 9))]) 21 true::⟨none,.same true 4 (.tmp 10) (.tmp 19),none⟩::zg 34 (.un .not (.tmp 33)) 21 true::zo 35 (.pick (.tmp 21) (.tmp 34) (.val (.bool false)))::zs 4 8 19::zm 9 35::[])) <|
 .ret⟩
theorem e_model_builder_array:AgY Tryz.prog kd_CMod Tryz.f102=some AzY:=by kernel_rfl
def BpX:AFunc:=⟨23,[.tmp 4],
 .seq (.region (zo 3 (.box 4 (.tmp 1))::zo 4 (.mov (.val .nils))::[])) <|
 .seq (.seq (.region (zf 7 0 3::zl 8 1 7::zq 9 8 4::[])) <|
 .cond (.tmp 9) (.seq (.region (zm 10 0::zf 11 3 3::zl 12 1 11::zo 13 (.callm (.val (.fn (.func 65) [])) [(.tmp 10),(.tmp 12),(.val (.bool false))])::zm 4 13::[])) <|
  .ret) <|
 .skip) <|
 .seq (.region (zm 15 0::zo 16 (.load true 4 (.tmp 3))::zo 17 (.bslice 1 [(.val (.int .i64 3))])::zo 18 (.callm (.val (.fn (.func 102) [])) [(.tmp 15),(.tmp 16),(.val (.bool false)),(.tmp 17)])::zm 14 18::zx 19 14 0::zx 20 14 1::zo 5 (.alloc (.agg [(.int .i64 0),(.bool false),.nils,.nils]))::zs 4 5 19::zm 6 20::[])) <|
 .seq (.region (zf 21 2 5::zl 22 1 21::zm 4 22::[])) <|
 .ret⟩
theorem e_model_builder_ints:AgY Tryz.prog kd_CMod Tryz.f70=some BpX:=by kernel_rfl
def AuZ:AFunc:=⟨52,[.tmp 6],
 .seq (.region (zo 4 (.box 4 (.tmp 1))::zo 6 (.mov (.val .nils))::[])) <|
 .seq (.seq (.region (zf 12 0 4::zl 13 1 12::zq 14 13 4::[])) <|
 .cond (.tmp 14) (.seq (.region (zm 15 0::zf 16 3 4::zl 17 1 16::zm 18 2::zo 19 (.callm (.val (.fn (.func 66) [])) [(.tmp 15),(.tmp 17),(.tmp 18)])::zm 6 19::[])) <|
  .ret) <|
 .skip) <|
 .seq (.region (zm 21 0::zo 22 (.load true 4 (.tmp 4))::zm 23 2::zo 24 (.bslice 1 [(.val (.int .i64 3)),(.val (.int .i64 4))])::zo 25 (.callm (.val (.fn (.func 102) [])) [(.tmp 21),(.tmp 22),(.tmp 23),(.tmp 24)])::zm 20 25::zx 26 20 0::zx 27 20 1::zo 7 (.alloc (.agg [(.int .i64 0),(.bool false),.nils,.nils]))::zs 4 7 26::zm 8 27::[])) <|
 .seq (.seq (.region (zm 28 8::zo 29 (.un .not (.tmp 28))::zm 30 29::zg 31 (.faddr 0 (.tmp 7)) 30 false::zg 32 (.load false 1 (.tmp 31)) 30 false::zg 33 (.bin .eql (.tmp 32) (.val (.int .i64 4))) 30 false::zo 34 (.pick (.tmp 30) (.val (.bool true)) (.tmp 33))::[])) <|
 .cond (.tmp 34) (.seq (.region (zf 35 3 7::zl 36 1 35::zm 6 36::[])) <|
  .ret) <|
 .skip) <|
 .seq (.region (zo 9 (.mov (.val .nils))::[])) <|
 .seq (.seq (.region (zf 37 2 7::zl 38 1 37::zo 39 (.len false (.tmp 38))::zo 40 (.mov (.val (.int .i64 0)))::[])) <|
 .block 0 (.loop (.seq (.region (zo 41 (.bin .lss (.tmp 40) (.tmp 39))::[])) <|
  .seq (.cond (.tmp 41) (.skip) <|
  .exit 0) <|
  .seq (.block 1 (.seq (.region (zo 42 (.iaddr 1 (.tmp 38) (.tmp 40))::zl 43 1 42::zm 11 43::[])) <|
   .region (zm 44 9::zm 45 0::zm 46 11::zo 47 (.callm (.val (.fn (.func 101) [])) [(.tmp 45),(.tmp 46)])::zo 48 (.bslice 1 [(.tmp 47)])::zo 49 (.app 1 8 (.tmp 44) (.tmp 48))::zm 9 49::[]))) <|
  .region (zo 50 (.bin .add (.tmp 40) (.val (.int .i64 1)))::zm 40 50::[])))) <|
 .seq (.region (zm 51 9::zm 6 51::[])) <|
 .ret⟩
theorem e_model_builder_many:AgY Tryz.prog kd_CMod Tryz.f71=some AuZ:=by kernel_rfl
def AgX:AFunc:=⟨47,[.tmp 2,.tmp 3],
 .seq (.region (zo 2 (.mov (.val (.int .i64 0)))::zo 3 (.mov (.val (.str (S8 []))))::[])) <|
 .seq (.seq (.region (zm 4 0::[])) <|
 .block 0 (.seq (.region (zo 6 (.bin .eql (.tmp 4) (.val (.str (S8 [105,110,116,95,101,113]))))::zm 5 6::[])) <|
  .cond (.tmp 5) (.seq (.region (zo 2 (.mov (.val (.int .i64 15)))::zo 3 (.mov (.val (.str (S8 [120,120]))))::[])) <|
   .ret) <|
  .seq (.region (zo 8 (.bin .eql (.tmp 4) (.val (.str (S8 [98,111,111,108,95,101,113]))))::zm 7 8::[])) <|
  .cond (.tmp 7) (.seq (.region (zo 2 (.mov (.val (.int .i64 15)))::zo 3 (.mov (.val (.str (S8 [98,98]))))::[])) <|
   .ret) <|
  .seq (.region (zo 10 (.bin .eql (.tmp 4) (.val (.str (S8 [98,111,111,108,50,105,110,116]))))::zm 9 10::[])) <|
  .cond (.tmp 9) (.seq (.region (zo 2 (.mov (.val (.int .i64 15)))::zo 3 (.mov (.val (.str (S8 [98,120]))))::[])) <|
   .ret) <|
  .seq (.region (zo 12 (.bin .eql (.tmp 4) (.val (.str (S8 [105,110,116,95,108,105,110,95,101,113]))))::zm 11 12::[])) <|
  .cond (.tmp 11) (.seq (.region (zo 2 (.mov (.val (.int .i64 1)))::zo 3 (.mov (.val (.str (S8 [73,88,105]))))::[])) <|
   .ret) <|
  .seq (.region (zo 14 (.bin .eql (.tmp 4) (.val (.str (S8 [105,110,116,95,108,105,110,95,108,101]))))::zm 13 14::[])) <|
  .cond (.tmp 13) (.seq (.region (zo 2 (.mov (.val (.int .i64 2)))::zo 3 (.mov (.val (.str (S8 [73,88,105]))))::[])) <|
   .ret) <|
  .seq (.region (zo 16 (.bin .eql (.tmp 4) (.val (.str (S8 [105,110,116,95,108,105,110,95,110,101]))))::zm 15 16::[])) <|
  .cond (.tmp 15) (.seq (.region (zo 2 (.mov (.val (.int .i64 3)))::zo 3 (.mov (.val (.str (S8 [73,88,105]))))::[])) <|
   .ret) <|
  .seq (.region (zo 18 (.bin .eql (.tmp 4) (.val (.str (S8 [105,110,116,95,108,105,110,95,101,113,95,114,101,105,102]))))::zm 17 18::[])) <|
  .cond (.tmp 17) (.seq (.region (zo 2 (.mov (.val (.int .i64 4)))::zo 3 (.mov (.val (.str (S8 [73,88,105,98]))))::[])) <|
   .ret) <|
  .seq (.region (zo 20 (.bin .eql (.tmp 4) (.val (.str (S8 [105,110,116,95,108,105,110,95,108,101,95,114,101,105,102]))))::zm 19 20::[])) <|
  .cond (.tmp 19) (.seq (.region (zo 2 (.mov (.val (.int .i64 5)))::zo 3 (.mov (.val (.str (S8 [73,88,105,98]))))::[])) <|
   .ret) <|
  .seq (.region (zo 22 (.bin .eql (.tmp 4) (.val (.str (S8 [105,110,116,95,108,105,110,95,108,101,95,105,109,112]))))::zm 21 22::[])) <|
  .cond (.tmp 21) (.seq (.region (zo 2 (.mov (.val (.int .i64 6)))::zo 3 (.mov (.val (.str (S8 [73,88,105,98]))))::[])) <|
   .ret) <|
  .seq (.region (zo 24 (.bin .eql (.tmp 4) (.val (.str (S8 [105,110,116,95,116,105,109,101,115]))))::zm 23 24::[])) <|
  .cond (.tmp 23) (.seq (.region (zo 2 (.mov (.val (.int .i64 7)))::zo 3 (.mov (.val (.str (S8 [120,120,120]))))::[])) <|
   .ret) <|
  .seq (.region (zo 26 (.bin .eql (.tmp 4) (.val (.str (S8 [105,110,116,95,109,105,110]))))::zm 25 26::[])) <|
  .cond (.tmp 25) (.seq (.region (zo 2 (.mov (.val (.int .i64 8)))::zo 3 (.mov (.val (.str (S8 [120,120,120]))))::[])) <|
   .ret) <|
  .seq (.region (zo 28 (.bin .eql (.tmp 4) (.val (.str (S8 [105,110,116,95,109,97,120]))))::zm 27 28::[])) <|
  .cond (.tmp 27) (.seq (.region (zo 2 (.mov (.val (.int .i64 9)))::zo 3 (.mov (.val (.str (S8 [120,120,120]))))::[])) <|
   .ret) <|
  .seq (.region (zo 30 (.bin .eql (.tmp 4) (.val (.str (S8 [105,110,116,95,97,98,115]))))::zm 29 30::[])) <|
  .cond (.tmp 29) (.seq (.region (zo 2 (.mov (.val (.int .i64 10)))::zo 3 (.mov (.val (.str (S8 [120,120]))))::[])) <|
   .ret) <|
  .seq (.region (zo 32 (.bin .eql (.tmp 4) (.val (.str (S8 [98,111,111,108,95,99,108,97,117,115,101]))))::zm 31 32::[])) <|
  .cond (.tmp 31) (.seq (.region (zo 2 (.mov (.val (.int .i64 11)))::zo 3 (.mov (.val (.str (S8 [66,66]))))::[])) <|
   .ret) <|
  .seq (.region (zo 34 (.bin .eql (.tmp 4) (.val (.str (S8 [97,114,114,97,121,95,98,111,111,108,95,97,110,100]))))::zm 33 34::[])) <|
  .cond (.tmp 33) (.seq (.region (zo 2 (.mov (.val (.int .i64 12)))::zo 3 (.mov (.val (.str (S8 [66,98]))))::[])) <|
   .ret) <|
  .seq (.region (zo 36 (.bin .eql (.tmp 4) (.val (.str (S8 [97,114,114,97,121,95,98,111,111,108,95,111,114]))))::zm 35 36::[])) <|
  .cond (.tmp 35) (.seq (.region (zo 2 (.mov (.val (.int .i64 13)))::zo 3 (.mov (.val (.str (S8 [66,98]))))::[])) <|
   .ret) <|
  .seq (.region (zo 38 (.bin .eql (.tmp 4) (.val (.str (S8 [98,111,111,108,95,120,111,114]))))::zm 37 38::[])) <|
  .cond (.tmp 37) (.seq (.region (zo 2 (.mov (.val (.int .i64 14)))::zo 3 (.mov (.val (.str (S8 [98,98,98]))))::[])) <|
   .ret) <|
  .seq (.region (zo 40 (.bin .eql (.tmp 4) (.val (.str (S8 [97,114,114,97,121,95,105,110,116,95,101,108,101,109,101,110,116]))))::zm 39 40::[])) <|
  .cond (.tmp 39) (.seq (.region (zo 2 (.mov (.val (.int .i64 16)))::zo 3 (.mov (.val (.str (S8 [120,73,120]))))::[])) <|
   .ret) <|
  .seq (.region (zo 42 (.bin .eql (.tmp 4) (.val (.str (S8 [97,114,114,97,121,95,118,97,114,95,105,110,116,95,101,108,101,109,101,110,116]))))::zm 41 42::[])) <|
  .cond (.tmp 41) (.seq (.region (zo 2 (.mov (.val (.int .i64 17)))::zo 3 (.mov (.val (.str (S8 [120,88,120]))))::[])) <|
   .ret) <|
  .seq (.region (zo 44 (.bin .eql (.tmp 4) (.val (.str (S8 [102,122,110,95,97,108,108,95,100,105,102,102,101,114,101,110,116,95,105,110,116]))))::zm 43 44::[])) <|
  .cond (.tmp 43) (.seq (.region (zo 2 (.mov (.val (.int .i64 18)))::zo 3 (.mov (.val (.str (S8 [88]))))::[])) <|
   .ret) <|
  .seq (.region (zo 46 (.bin .eql (.tmp 4) (.val (.str (S8 [102,122,110,95,99,117,109,117,108,97,116,105,118,101]))))::zm 45 46::[])) <|
  .cond (.tmp 45) (.seq (.region (zo 2 (.mov (.val (.int .i64 19)))::zo 3 (.mov (.val (.str (S8 [88,73,73,105]))))::[])) <|
   .ret) <|
  .skip)) <|
 .seq (.region (zo 2 (.mov (.val (.int .i64 0)))::zo 3 (.mov (.val (.str (S8 []))))::[])) <|
 .ret⟩
theorem e_model_form:AgY Tryz.prog kd_CMod Tryz.f67=some AgX:=by kernel_rfl
def c_model_fits:AFunc:=⟨38,[.tmp 4],
 .seq (.region (zo 4 (.mov (.val (.bool false)))::[])) <|
 .seq (.seq (.region (zm 7 0::zo 8 (.len false (.tmp 7))::zm 9 1::zo 10 (.len true (.tmp 9))::zo 11 (.bin .neq (.tmp 8) (.tmp 10))::[])) <|
 .cond (.tmp 11) (.seq (.region (zo 4 (.mov (.val (.bool false)))::[])) <|
  .ret) <|
 .skip) <|
 .seq (.seq (.region (zm 12 0::zo 13 (.len false (.tmp 12))::zo 14 (.mov (.val (.int .i64 0)))::[])) <|
 .block 0 (.loop (.seq (.region (zo 15 (.bin .lss (.tmp 14) (.tmp 13))::[])) <|
  .seq (.cond (.tmp 15) (.skip) <|
  .exit 0) <|
  .seq (.block 1 (.seq (.region (zm 16 14::zo 17 (.iaddr 4 (.tmp 12) (.tmp 14))::zo 18 (.load true 4 (.tmp 17))::zo 6 (.alloc (.agg [(.int .i64 0),(.int .i64 0),(.str (S8 [])),.nils]))::zm 5 16::zs 4 6 18::[])) <|
   .seq (.region (zm 19 1::zm 20 5::zo 21 (.sidx (.tmp 19) (.tmp 20))::[])) <|
   .block 2 (.seq (.seq (.region (zo 26 (.bin .eql (.tmp 21) (.val (.int .u8 73)))::zm 25 26::[])) <|
    .cond (.tmp 25) (.skip) <|
    .seq (.region (zo 27 (.bin .eql (.tmp 21) (.val (.int .u8 88)))::zm 25 27::[])) <|
    .cond (.tmp 25) (.skip) <|
    .region (zo 28 (.bin .eql (.tmp 21) (.val (.int .u8 66)))::zm 25 28::[])) <|
    .cond (.tmp 25) (.seq (.region (zf 29 0 6::zl 30 1 29::zo 31 (.bin .neq (.tmp 30) (.val (.int .i64 4)))::zm 32 31::zg 33 (.faddr 0 (.tmp 6)) 32 true::zg 34 (.load false 1 (.tmp 33)) 32 true::zg 35 (.bin .neq (.tmp 34) (.val (.int .i64 3))) 32 true::zo 36 (.pick (.tmp 32) (.tmp 35) (.val (.bool false)))::[])) <|
     .cond (.tmp 36) (.seq (.region (zo 4 (.mov (.val (.bool false)))::[])) <|
      .ret) <|
     .skip) <|
    .seq (.region (zf 22 0 6::zl 23 1 22::zq 24 23 4::[])) <|
    .cond (.tmp 24) (.seq (.region (zo 4 (.mov (.val (.bool false)))::[])) <|
     .ret) <|
    .skip))) <|
  .region (zo 37 (.bin .add (.tmp 14) (.val (.int .i64 1)))::zm 14 37::[])))) <|
 .seq (.region (zo 4 (.mov (.val (.bool true)))::[])) <|
 .ret⟩
theorem e_model_fits:AgY Tryz.prog kd_CMod Tryz.f68=some c_model_fits:=by kernel_rfl
def AqQ:AFunc:=⟨109,[],
 .seq (.region (zo 3 (.box 8 (.tmp 1))::[])) <|
 .seq (.region (zf 12 1 3::zl 13 1 12::zo 14 (.call (.val (.fn (.func 67) [])) [(.tmp 13)])::zm 11 14::zx 15 11 0::zx 16 11 1::zm 4 15::zm 5 16::[])) <|
 .seq (.seq (.region (zm 17 0::zm 18 4::zo 19 (.bin .neq (.tmp 18) (.val (.int .i64 0)))::zo 20 (.callm (.val (.fn (.func 26) [])) [(.tmp 17),(.tmp 19),(.val (.int .i64 10))])::zm 21 20::zg 22 (.mov (.tmp 0)) 21 false::zg 23 (.faddr 6 (.tmp 3)) 21 false::zg 24 (.load false 1 (.tmp 23)) 21 false::zg 25 (.mov (.tmp 5)) 21 false::zg 26 (.call (.val (.fn (.func 68) [])) [(.tmp 24),(.tmp 25)]) 21 false::zg 27 (.callm (.val (.fn (.func 26) [])) [(.tmp 22),(.tmp 26),(.val (.int .i64 9))]) 21 false::zo 28 (.pick (.tmp 21) (.val (.bool true)) (.tmp 27))::[])) <|
 .cond (.tmp 28) (.ret) <|
 .skip) <|
 .seq (.region (zm 29 4::zo 30 (.build [(.int .i64 0),.nils,.nils,(.int .i64 0)] [(0,1,(.tmp 29))])::zo 6 (.alloc (.agg [(.int .i64 0),.nils,.nils,(.int .i64 0)]))::zs 4 6 30::[])) <|
 .seq (.region (zo 7 (.mov (.val (.int .i64 1)))::[])) <|
 .seq (.seq (.region (zf 31 6 3::zl 32 1 31::zo 33 (.len false (.tmp 32))::zo 34 (.mov (.val (.int .i64 0)))::[])) <|
 .block 0 (.loop (.seq (.region (zo 35 (.bin .lss (.tmp 34) (.tmp 33))::[])) <|
  .seq (.cond (.tmp 35) (.skip) <|
  .exit 0) <|
  .seq (.block 1 (.seq (.region (zm 36 34::zo 37 (.iaddr 4 (.tmp 32) (.tmp 34))::zo 38 (.load true 4 (.tmp 37))::zo 9 (.alloc (.agg [(.int .i64 0),(.int .i64 0),(.str (S8 [])),.nils]))::zm 8 36::zs 4 9 38::[])) <|
   .seq (.seq (.region (zm 39 5::zm 40 8::zo 41 (.sidx (.tmp 39) (.tmp 40))::[])) <|
   .block 2 (.seq (.region (zo 66 (.bin .eql (.tmp 41) (.val (.int .u8 105)))::zm 65 66::[])) <|
    .cond (.tmp 65) (.region (zm 67 0::zo 68 (.load true 4 (.tmp 9))::zo 69 (.callm (.val (.fn (.func 69) [])) [(.tmp 67),(.tmp 68),(.val (.bool false))])::zf 70 3 6::zs 1 70 69::[])) <|
    .seq (.region (zo 72 (.bin .eql (.tmp 41) (.val (.int .u8 73)))::zm 71 72::[])) <|
    .cond (.tmp 71) (.draw (zf 73 2 6::zl 74 1 73::zm 75 0::zo 76 (.load true 4 (.tmp 9))::zo 77 (.callm (.val (.fn (.func 70) [])) [(.tmp 75),(.tmp 76)])::⟨none,.same false 1 (.tmp 73) (.tmp 74),none⟩::zo 78 (.app 1 8 (.tmp 74) (.tmp 77))::zf 79 2 6::zs 1 79 78::[])) <|
    .seq (.seq (.region (zo 81 (.bin .eql (.tmp 41) (.val (.int .u8 120)))::zm 80 81::[])) <|
    .cond (.tmp 80) (.skip) <|
    .region (zo 82 (.bin .eql (.tmp 41) (.val (.int .u8 98)))::zm 80 82::[])) <|
    .cond (.tmp 80) (.draw (zf 83 1 6::zl 84 1 83::zm 85 0::zo 86 (.load true 4 (.tmp 9))::zm 87 5::zm 88 8::zo 89 (.sidx (.tmp 87) (.tmp 88))::zo 90 (.bin .eql (.tmp 89) (.val (.int .u8 98)))::zo 91 (.callm (.val (.fn (.func 64) [])) [(.tmp 85),(.tmp 86),(.tmp 90)])::⟨none,.same false 1 (.tmp 83) (.tmp 84),none⟩::zo 92 (.bslice 1 [(.tmp 91)])::zo 93 (.app 1 8 (.tmp 84) (.tmp 92))::zf 94 1 6::zs 1 94 93::[])) <|
    .seq (.draw (zm 42 0::zo 43 (.load true 4 (.tmp 9))::zm 44 5::zm 45 8::zo 46 (.sidx (.tmp 44) (.tmp 45))::zo 47 (.bin .eql (.tmp 46) (.val (.int .u8 66)))::zo 48 (.callm (.val (.fn (.func 71) [])) [(.tmp 42),(.tmp 43),(.tmp 47)])::zm 10 48::[])) <|
    .seq (.region (zf 49 1 6::zl 50 1 49::zm 51 10::zo 52 (.app 1 8 (.tmp 50) (.tmp 51))::zf 53 1 6::zs 1 53 52::[])) <|
    .seq (.region (zm 54 4::zq 55 54 11::[])) <|
    .cond (.tmp 55) (.draw (zf 56 2 6::zl 57 1 56::zm 58 7::zo 59 (.bslice 1 [(.tmp 58)])::zm 60 10::zo 61 (.len false (.tmp 60))::zo 62 (.call (.val (.fn (.func 72) [])) [(.tmp 59),(.tmp 61)])::zo 63 (.app 1 8 (.tmp 57) (.tmp 62))::zf 64 2 6::zs 1 64 63::[])) <|
    .skip)) <|
   .region (zo 7 (.mov (.val (.int .i64 (-1))))::[]))) <|
  .region (zo 95 (.bin .add (.tmp 34) (.val (.int .i64 1)))::zm 34 95::[])))) <|
 .seq (.region (zm 96 0::zo 97 (.load true 4 (.tmp 6))::zo 98 (.callv (.val (.fn (.func 73) [])) [(.tmp 97)])::zo 99 (.callm (.val (.fn (.func 26) [])) [(.tmp 96),(.tmp 98),(.val (.int .i64 2))])::[])) <|
 .seq (.region (zm 100 0::zf 101 1 6::zl 102 1 101::zo 103 (.len false (.tmp 102))::zo 104 (.bin .leq (.tmp 103) (.val (.int .i64 32)))::zo 105 (.callm (.val (.fn (.func 26) [])) [(.tmp 100),(.tmp 104),(.val (.int .i64 3))])::[])) <|
 .region (zm 106 0::zo 107 (.load true 4 (.tmp 6))::zo 108 (.callm (.val (.fn (.func 63) [])) [(.tmp 106),(.tmp 107)])::[])⟩
theorem e_model_builder_constraint:AgY Tryz.prog kd_CMod Tryz.f32=some AqQ:=by kernel_rfl
def c_model_union:AFunc:=⟨51,[.tmp 2],
 .seq (.region (zo 2 (.mov (.val .nils))::[])) <|
 .seq (.region (zm 7 0::zo 8 (.callo (.val (.fn (.func 97) [])) [(.tmp 7)])::zm 0 8::[])) <|
 .seq (.region (zm 9 0::zo 10 (.callm (.val (.fn (.func 98) [])) [(.tmp 9),(.val (.fn (.func 99) []))])::[])) <|
 .seq (.region (zo 3 (.mov (.val .nils))::[])) <|
 .seq (.seq (.region (zm 11 0::zo 12 (.len false (.tmp 11))::zo 13 (.mov (.val (.int .i64 0)))::[])) <|
 .block 0 (.loop (.seq (.region (zo 14 (.bin .lss (.tmp 13) (.tmp 12))::[])) <|
  .seq (.cond (.tmp 14) (.skip) <|
  .exit 0) <|
  .seq (.block 1 (.seq (.region (zo 15 (.iaddr 2 (.tmp 11) (.tmp 13))::zo 16 (.load true 2 (.tmp 15))::zo 5 (.alloc (.agg [(.int .i64 0),(.int .i64 0)]))::zs 2 5 16::[])) <|
   .seq (.region (zm 17 3::zo 18 (.len false (.tmp 17))::zo 19 (.bin .sub (.tmp 18) (.val (.int .i64 1)))::zm 6 19::[])) <|
   .seq (.draw (zm 20 6::zo 21 (.bin .geq (.tmp 20) (.val (.int .i64 0)))::zm 22 21::zg 23 (.faddr 0 (.tmp 5)) 22 true::zg 24 (.load false 1 (.tmp 23)) 22 true::zg 25 (.mov (.tmp 3)) 22 true::zg 26 (.mov (.tmp 6)) 22 true::zg 27 (.iaddr 2 (.tmp 25) (.tmp 26)) 22 true::zg 28 (.faddr 1 (.tmp 27)) 22 true::zg 29 (.load false 1 (.tmp 28)) 22 true::zg 30 (.bin .add (.tmp 29) (.val (.int .i64 1))) 22 true::zg 31 (.bin .leq (.tmp 24) (.tmp 30)) 22 true::zo 32 (.pick (.tmp 22) (.tmp 31) (.val (.bool false)))::[])) <|
   .cond (.tmp 32) (.draw (zm 33 3::zm 34 6::zm 35 3::zm 36 6::zo 37 (.iaddr 2 (.tmp 35) (.tmp 36))::zf 38 1 37::zl 39 1 38::zf 40 1 5::zl 41 1 40::zo 42 (.mx (.tmp 39) [(.tmp 41)])::zo 43 (.iaddr 2 (.tmp 33) (.tmp 34))::zf 44 1 43::zs 1 44 42::[])) <|
   .region (zm 45 3::zo 46 (.load true 2 (.tmp 5))::zo 47 (.bslice 2 [(.tmp 46)])::zo 48 (.app 2 16 (.tmp 45) (.tmp 47))::zm 3 48::[]))) <|
  .region (zo 49 (.bin .add (.tmp 13) (.val (.int .i64 1)))::zm 13 49::[])))) <|
 .seq (.region (zm 50 3::zm 2 50::[])) <|
 .ret⟩
theorem e_model_union:AgY Tryz.prog kd_CMod Tryz.f61=some c_model_union:=by kernel_rfl
def BvY:AFunc:=⟨69,[.cell 4 true 4],
 .seq (.region (zo 3 (.box 8 (.tmp 1))::zo 4 (.alloc (.agg [(.int .i64 0),(.bool false),.nils,.nils]))::[])) <|
 .seq (.region (zf 10 2 3::zl 11 1 10::zo 12 (.build [(.int .i64 0),(.bool false),.nils,.nils] [(0,1,(.val (.int .i64 2))),(1,1,(.tmp 11))])::zo 5 (.alloc (.agg [(.int .i64 0),(.bool false),.nils,.nils]))::zs 4 5 12::[])) <|
 .seq (.seq (.region (zf 13 3 3::zl 14 1 13::zo 15 (.len false (.tmp 14))::zo 16 (.mov (.val (.int .i64 0)))::[])) <|
 .block 0 (.loop (.seq (.region (zo 17 (.bin .lss (.tmp 16) (.tmp 15))::[])) <|
  .seq (.cond (.tmp 17) (.skip) <|
  .exit 0) <|
  .seq (.block 1 (.seq (.region (zo 18 (.iaddr 2 (.tmp 14) (.tmp 16))::zo 19 (.load true 2 (.tmp 18))::zo 7 (.alloc (.agg [(.int .i64 0),(.int .i64 0)]))::zs 2 7 19::[])) <|
   .region (zm 20 0::zf 21 0 7::zl 22 1 21::zf 23 1 7::zl 24 1 23::zo 25 (.bin .leq (.tmp 22) (.tmp 24))::zm 26 25::zg 27 (.faddr 0 (.tmp 7)) 26 true::zg 28 (.load false 1 (.tmp 27)) 26 true::zg 29 (.call (.val (.fn (.func 28) [])) [(.tmp 28)]) 26 true::zo 30 (.pick (.tmp 26) (.tmp 29) (.val (.bool false)))::zm 31 30::zg 32 (.faddr 1 (.tmp 7)) 31 true::zg 33 (.load false 1 (.tmp 32)) 31 true::zg 34 (.call (.val (.fn (.func 28) [])) [(.tmp 33)]) 31 true::zo 35 (.pick (.tmp 31) (.tmp 34) (.val (.bool false)))::zo 36 (.callm (.val (.fn (.func 26) [])) [(.tmp 20),(.tmp 35),(.val (.int .i64 2))])::[]))) <|
  .region (zo 37 (.bin .add (.tmp 16) (.val (.int .i64 1)))::zm 16 37::[])))) <|
 .seq (.region (zf 38 3 3::zl 39 1 38::zo 40 (.call (.val (.fn (.func 61) [])) [(.tmp 39)])::zm 8 40::[])) <|
 .seq (.seq (.region (zf 41 2 3::zl 42 1 41::[])) <|
 .cond (.tmp 42) (.region (zo 43 (.build [(.int .i64 0),(.int .i64 0)] [(0,1,(.val (.int .i64 0))),(1,1,(.val (.int .i64 1)))])::zo 44 (.bslice 2 [(.tmp 43)])::zm 8 44::[])) <|
 .skip) <|
 .seq (.region (zm 45 0::zm 46 8::zo 47 (.callm (.val (.fn (.func 62) [])) [(.tmp 45),(.tmp 46)])::zm 9 47::[])) <|
 .seq (.region (zm 48 9::zo 49 (.bslice 1 [(.tmp 48)])::zf 50 3 5::zs 1 50 49::[])) <|
 .seq (.seq (.region (zf 51 6 3::zl 52 1 51::zo 53 (.len false (.tmp 52))::zo 54 (.bin .gtr (.tmp 53) (.val (.int .i64 0)))::[])) <|
 .cond (.tmp 54) (.draw (zm 55 0::zm 56 9::zm 57 0::zf 58 6 3::zl 59 1 58::zo 60 (.iaddr 4 (.tmp 59) (.val (.int .i64 0)))::zo 61 (.load true 4 (.tmp 60))::zf 62 2 3::zl 63 1 62::zo 64 (.callm (.val (.fn (.func 64) [])) [(.tmp 57),(.tmp 61),(.tmp 63)])::zo 65 (.bslice 1 [(.tmp 56),(.tmp 64)])::zo 66 (.build [(.int .i64 0),.nils,.nils,(.int .i64 0)] [(0,1,(.val (.int .i64 15))),(1,1,(.tmp 65))])::zo 67 (.callm (.val (.fn (.func 63) [])) [(.tmp 55),(.tmp 66)])::[])) <|
 .skip) <|
 .seq (.region (zo 68 (.load true 4 (.tmp 5))::zs 4 4 68::[])) <|
 .ret⟩
theorem e_model_builder_declare:AgY Tryz.prog kd_CMod Tryz.f30=some BvY:=by kernel_rfl
def c_model_builder_list:AFunc:=⟨57,[.cell 4 true 4],
 .seq (.region (zo 3 (.box 8 (.tmp 1))::zo 4 (.alloc (.agg [(.int .i64 0),(.bool false),.nils,.nils]))::[])) <|
 .seq (.region (zf 8 0 3::zl 9 1 8::zf 10 2 3::zl 11 1 10::zo 12 (.build [(.int .i64 0),(.bool false),.nils,.nils] [(0,1,(.tmp 9)),(1,1,(.tmp 11))])::zo 5 (.alloc (.agg [(.int .i64 0),(.bool false),.nils,.nils]))::zs 4 5 12::[])) <|
 .seq (.region (zm 13 0::zf 14 4 3::zl 15 1 14::zf 16 6 3::zl 17 1 16::zo 18 (.len false (.tmp 17))::zo 19 (.bin .eql (.tmp 15) (.tmp 18))::zo 20 (.callm (.val (.fn (.func 26) [])) [(.tmp 13),(.tmp 19),(.val (.int .i64 2))])::[])) <|
 .seq (.seq (.region (zf 21 6 3::zl 22 1 21::zo 23 (.len false (.tmp 22))::zo 24 (.mov (.val (.int .i64 0)))::[])) <|
 .block 0 (.loop (.seq (.region (zo 25 (.bin .lss (.tmp 24) (.tmp 23))::[])) <|
  .seq (.cond (.tmp 25) (.skip) <|
  .exit 0) <|
  .seq (.block 1 (.seq (.region (zo 26 (.iaddr 4 (.tmp 22) (.tmp 24))::zo 27 (.load true 4 (.tmp 26))::zo 7 (.alloc (.agg [(.int .i64 0),(.int .i64 0),(.str (S8 [])),.nils]))::zs 4 7 27::[])) <|
   .region (zm 28 0::zf 29 0 7::zl 30 1 29::zo 31 (.bin .neq (.tmp 30) (.val (.int .i64 1)))::zm 32 31::zg 33 (.faddr 1 (.tmp 7)) 32 false::zg 34 (.load false 1 (.tmp 33)) 32 false::zg 35 (.call (.val (.fn (.func 28) [])) [(.tmp 34)]) 32 false::zo 36 (.pick (.tmp 32) (.val (.bool true)) (.tmp 35))::zo 37 (.callm (.val (.fn (.func 26) [])) [(.tmp 28),(.tmp 36),(.val (.int .i64 2))])::[]))) <|
  .region (zo 38 (.bin .add (.tmp 24) (.val (.int .i64 1)))::zm 24 38::[])))) <|
 .seq (.seq (.region (zf 39 0 3::zl 40 1 39::zq 41 40 3::[])) <|
 .cond (.tmp 41) (.region (zm 42 0::zf 43 6 3::zl 44 1 43::zf 45 2 3::zl 46 1 45::zo 47 (.callm (.val (.fn (.func 65) [])) [(.tmp 42),(.tmp 44),(.tmp 46)])::zf 48 2 5::zs 1 48 47::[])) <|
 .region (zm 49 0::zf 50 6 3::zl 51 1 50::zf 52 2 3::zl 53 1 52::zo 54 (.callm (.val (.fn (.func 66) [])) [(.tmp 49),(.tmp 51),(.tmp 53)])::zf 55 3 5::zs 1 55 54::[])) <|
 .seq (.region (zo 56 (.load true 4 (.tmp 5))::zs 4 4 56::[])) <|
 .ret⟩
theorem e_model_builder_list:AgY Tryz.prog kd_CMod Tryz.f31=some c_model_builder_list:=by kernel_rfl
def AmX:AFunc:=⟨49,[],
 .seq (.region (zo 3 (.box 8 (.tmp 1))::[])) <|
 .seq (.region (zm 6 0::zo 7 (.nilc (.tmp 6))::zf 8 7 7::⟨none,.store 1 (.tmp 8) (.val (.bool true)),none⟩::[])) <|
 .seq (.region (zm 9 0::zf 10 7 3::zl 11 1 10::zo 12 (.nilc (.tmp 9))::zf 13 0 12::zf 14 0 13::zf 15 2 14::zs 1 15 11::[])) <|
 .seq (.seq (.region (zf 16 7 3::zl 17 1 16::zq 18 17 0::[])) <|
 .cond (.tmp 18) (.ret) <|
 .skip) <|
 .seq (.region (zm 20 0::zf 21 1 3::zl 22 1 21::zo 23 (.callm (.val (.fn (.func 74) [])) [(.tmp 20),(.tmp 22)])::zm 19 23::zx 24 19 0::zx 25 19 1::zo 4 (.alloc (.agg [(.int .i64 0),(.bool false),.nils,.nils]))::zs 4 4 24::zm 5 25::[])) <|
 .seq (.region (zm 26 5::zm 27 26::zg 28 (.mov (.tmp 0)) 27 true::zg 29 (.faddr 0 (.tmp 4)) 27 true::zg 30 (.load false 1 (.tmp 29)) 27 true::zg 31 (.bin .eql (.tmp 30) (.val (.int .i64 2))) 27 true::zg 32 (.mov (.tmp 31)) 27 true::zg 33 (.faddr 1 (.tmp 4)) 32 true::zg 34 (.load false 1 (.tmp 33)) 32 true::zg 35 (.un .not (.tmp 34)) 32 true::zg 36 (.pick (.tmp 32) (.tmp 35) (.val (.bool false))) 27 true::zg 37 (.callm (.val (.fn (.func 26) [])) [(.tmp 28),(.tmp 36),(.val (.int .i64 9))]) 27 true::zg 38 (.un .not (.tmp 37)) 27 true::zo 39 (.pick (.tmp 27) (.tmp 38) (.val (.bool false)))::[])) <|
 .cond (.tmp 39) (.region (zm 40 0::zf 41 3 4::zl 42 1 41::zo 43 (.iaddr 1 (.tmp 42) (.val (.int .i64 0)))::zl 44 1 43::zo 45 (.nilc (.tmp 40))::zf 46 0 45::zf 47 0 46::zf 48 3 47::zs 1 48 44::[])) <|
 .skip⟩
theorem e_model_builder_goal:AgY Tryz.prog kd_CMod Tryz.f33=some AmX:=by kernel_rfl
def BbX:AFunc:=⟨49,[],
 .seq (.region (zo 4 (.box 8 (.tmp 1))::zo 5 (.box 4 (.tmp 2))::[])) <|
 .seq (.draw (zm 6 0::zo 7 (.nilc (.tmp 6))::zf 8 5 7::zl 9 1 8::zf 10 1 4::zl 11 1 10::zo 12 (.load true 4 (.tmp 5))::⟨none,.mputv true (.tmp 9) (.tmp 11) (.tmp 12),none⟩::[])) <|
 .seq (.region (zf 13 5 4::zl 14 1 13::zm 15 14::zg 16 (.mov (.tmp 0)) 15 true::zg 17 (.mov (.tmp 0)) 15 true::zg 18 (.nilc (.tmp 17)) 15 true::zg 19 (.faddr 0 (.tmp 18)) 15 true::zg 20 (.faddr 4 (.tmp 19)) 15 true::zg 21 (.load false 1 (.tmp 20)) 15 true::zg 22 (.len false (.tmp 21)) 15 true::zg 23 (.bin .lss (.tmp 22) (.val (.int .i64 64))) 15 true::zg 24 (.callm (.val (.fn (.func 26) [])) [(.tmp 16),(.tmp 23),(.val (.int .i64 3))]) 15 true::zg 25 (.un .not (.tmp 24)) 15 true::zo 26 (.pick (.tmp 15) (.tmp 25) (.val (.bool false)))::[])) <|
 .cond (.tmp 26) (.draw (zm 27 0::zm 28 0::zo 29 (.nilc (.tmp 28))::zf 30 0 29::zf 31 4 30::zl 32 1 31::zf 33 1 4::zl 34 1 33::zf 35 2 4::zl 36 1 35::zf 37 0 4::zl 38 1 37::zq 39 38 4::zf 40 3 5::zl 41 1 40::zo 42 (.call (.val (.fn (.func 60) [])) [(.tmp 41)])::zo 43 (.build [(.str (S8 [])),(.bool false),(.bool false),.nils] [(0,1,(.tmp 34)),(1,1,(.tmp 36)),(2,1,(.tmp 39)),(3,1,(.tmp 42))])::zo 44 (.bslice 4 [(.tmp 43)])::zo 45 (.app 4 48 (.tmp 32) (.tmp 44))::zo 46 (.nilc (.tmp 27))::zf 47 0 46::zf 48 4 47::zs 1 48 45::[])) <|
 .skip⟩
theorem e_model_builder_name:AgY Tryz.prog kd_CMod Tryz.f29=some BbX:=by kernel_rfl
def AcY:AFunc:=⟨91,[],
 .seq (.region (zo 3 (.box 8 (.tmp 1))::[])) <|
 .seq (.draw (zm 7 0::zo 8 (.nilc (.tmp 7))::zf 9 5 8::zl 10 1 9::zf 11 1 3::zl 12 1 11::zo 13 (.mgetv true true (.agg [(.int .i64 0),(.bool false),.nils,.nils]) (.tmp 10) (.tmp 12))::zm 6 13::zx 14 6 0::zx 15 6 1::zo 4 (.alloc (.agg [(.int .i64 0),(.bool false),.nils,.nils]))::zs 4 4 14::zm 5 15::[])) <|
 .seq (.seq (.region (zm 16 0::zo 17 (.load true 8 (.tmp 3))::zo 18 (.call (.val (.fn (.func 27) [])) [(.tmp 17)])::zo 19 (.callm (.val (.fn (.func 26) [])) [(.tmp 16),(.tmp 18),(.val (.int .i64 2))])::zm 20 19::zg 21 (.mov (.tmp 0)) 20 false::zg 22 (.mov (.tmp 5)) 20 false::zg 23 (.un .not (.tmp 22)) 20 false::zg 24 (.mov (.tmp 23)) 20 false::zg 25 (.faddr 0 (.tmp 3)) 24 false::zg 26 (.load false 1 (.tmp 25)) 24 false::zg 27 (.bin .gtr (.tmp 26) (.val (.int .i64 4))) 24 false::zg 28 (.pick (.tmp 24) (.val (.bool true)) (.tmp 27)) 20 false::zg 29 (.callm (.val (.fn (.func 26) [])) [(.tmp 21),(.tmp 28),(.val (.int .i64 8))]) 20 false::zo 30 (.pick (.tmp 20) (.val (.bool true)) (.tmp 29))::zm 31 30::zg 32 (.mov (.tmp 0)) 31 false::zg 33 (.mov (.tmp 0)) 31 false::zg 34 (.nilc (.tmp 33)) 31 false::zg 35 (.faddr 7 (.tmp 34)) 31 false::zg 36 (.load false 1 (.tmp 35)) 31 false::zg 37 (.un .not (.tmp 36)) 31 false::zg 38 (.callm (.val (.fn (.func 26) [])) [(.tmp 32),(.tmp 37),(.val (.int .i64 5))]) 31 false::zo 39 (.pick (.tmp 31) (.val (.bool true)) (.tmp 38))::[])) <|
 .cond (.tmp 39) (.ret) <|
 .skip) <|
 .seq (.region (zf 40 0 3::zl 41 1 40::[])) <|
 .block 0 (.seq (.region (zq 43 41 1::zm 42 43::[])) <|
  .cond (.tmp 42) (.seq (.region (zm 44 0::zf 45 6 3::zl 46 1 45::zo 47 (.iaddr 4 (.tmp 46) (.val (.int .i64 0)))::zf 48 1 47::zl 49 1 48::zo 50 (.call (.val (.fn (.func 28) [])) [(.tmp 49)])::zo 51 (.callm (.val (.fn (.func 26) [])) [(.tmp 44),(.tmp 50),(.val (.int .i64 2))])::[])) <|
   .draw (zm 52 0::zo 53 (.load true 8 (.tmp 3))::zf 54 2 3::zl 55 1 54::zf 56 6 3::zl 57 1 56::zo 58 (.iaddr 4 (.tmp 57) (.val (.int .i64 0)))::zf 59 1 58::zl 60 1 59::zo 61 (.bslice 1 [(.tmp 60)])::zo 62 (.build [(.int .i64 0),(.bool false),.nils,.nils] [(0,1,(.val (.int .i64 1))),(1,1,(.tmp 55)),(2,1,(.tmp 61))])::zo 63 (.callm (.val (.fn (.func 29) [])) [(.tmp 52),(.tmp 53),(.tmp 62)])::[])) <|
  .seq (.region (zq 65 41 2::zm 64 65::[])) <|
  .cond (.tmp 64) (.draw (zm 66 0::zo 67 (.load true 8 (.tmp 3))::zm 68 0::zo 69 (.load true 8 (.tmp 3))::zo 70 (.callm (.val (.fn (.func 30) [])) [(.tmp 68),(.tmp 69)])::⟨none,.same true 8 (.tmp 3) (.tmp 67),none⟩::zo 71 (.callm (.val (.fn (.func 29) [])) [(.tmp 66),(.tmp 67),(.tmp 70)])::[])) <|
  .seq (.seq (.region (zq 73 41 3::zm 72 73::[])) <|
  .cond (.tmp 72) (.skip) <|
  .region (zq 74 41 4::zm 72 74::[])) <|
  .cond (.tmp 72) (.draw (zm 75 0::zo 76 (.load true 8 (.tmp 3))::zm 77 0::zo 78 (.load true 8 (.tmp 3))::zo 79 (.callm (.val (.fn (.func 31) [])) [(.tmp 77),(.tmp 78)])::⟨none,.same true 8 (.tmp 3) (.tmp 76),none⟩::zo 80 (.callm (.val (.fn (.func 29) [])) [(.tmp 75),(.tmp 76),(.tmp 79)])::[])) <|
  .seq (.region (zq 82 41 5::zm 81 82::[])) <|
  .cond (.tmp 81) (.region (zm 83 0::zo 84 (.load true 8 (.tmp 3))::zo 85 (.callm (.val (.fn (.func 32) [])) [(.tmp 83),(.tmp 84)])::[])) <|
  .seq (.region (zq 87 41 6::zm 86 87::[])) <|
  .cond (.tmp 86) (.region (zm 88 0::zo 89 (.load true 8 (.tmp 3))::zo 90 (.callm (.val (.fn (.func 33) [])) [(.tmp 88),(.tmp 89)])::[])) <|
  .skip)⟩
theorem e_model_builder_item:AgY Tryz.prog kd_CMod Tryz.f11=some AcY:=by kernel_rfl
def c_model_Build:AFunc:=⟨46,[.cell 2 true 5,.tmp 3,.tmp 4],
 .seq (.region (zo 2 (.alloc (.agg [.nils,.nils,(.int .i64 0),(.int .i64 0),.nils]))::zo 3 (.mov (.val (.int .i64 0)))::zo 4 (.mov (.val (.int .i64 0)))::[])) <|
 .seq (.region (zo 8 (.mkv)::zo 9 (.mkv)::zo 10 (.build [.nils,.nils,(.int .i64 0),(.int .i64 0),.nils,.nilm,.nilm,(.bool false),(.int .i64 0)] [(5,1,(.tmp 8)),(6,1,(.tmp 9))])::zo 11 (.box 9 (.tmp 10))::zm 5 11::[])) <|
 .seq (.seq (.region (zm 12 0::zo 13 (.len false (.tmp 12))::zo 14 (.mov (.val (.int .i64 0)))::[])) <|
 .block 0 (.loop (.seq (.region (zo 15 (.bin .lss (.tmp 14) (.tmp 13))::[])) <|
  .seq (.cond (.tmp 15) (.skip) <|
  .exit 0) <|
  .seq (.block 1 (.seq (.region (zm 16 14::zo 17 (.iaddr 8 (.tmp 12) (.tmp 14))::zo 18 (.load true 8 (.tmp 17))::zo 7 (.alloc (.agg [(.int .i64 0),(.str (S8 [])),(.bool false),.nils,(.int .i64 0),(.bool false),.nils,(.int .i64 0)]))::zm 6 16::zs 8 7 18::[])) <|
   .seq (.region (zm 19 5::zo 20 (.load true 8 (.tmp 7))::zo 21 (.callm (.val (.fn (.func 11) [])) [(.tmp 19),(.tmp 20)])::[])) <|
   .seq (.region (zm 22 5::zo 23 (.nilc (.tmp 22))::zf 24 8 23::zl 25 1 24::zo 26 (.bin .neq (.tmp 25) (.val (.int .i64 0)))::[])) <|
   .cond (.tmp 26) (.seq (.draw (zo 27 (.build [.nils,.nils,(.int .i64 0),(.int .i64 0),.nils] [])::zm 28 6::zm 29 5::zo 30 (.nilc (.tmp 29))::zf 31 8 30::zl 32 1 31::zs 5 2 27::⟨none,.same false 1 (.tmp 31) (.tmp 32),none⟩::zm 3 28::zm 4 32::[])) <|
    .ret) <|
   .skip)) <|
  .region (zo 33 (.bin .add (.tmp 14) (.val (.int .i64 1)))::zm 14 33::[])))) <|
 .seq (.seq (.region (zm 34 5::zo 35 (.nilc (.tmp 34))::zf 36 7 35::zl 37 1 36::zo 38 (.un .not (.tmp 37))::[])) <|
 .cond (.tmp 38) (.seq (.region (zo 39 (.build [.nils,.nils,(.int .i64 0),(.int .i64 0),.nils] [])::zm 40 0::zo 41 (.len false (.tmp 40))::zs 5 2 39::zm 3 41::zo 4 (.mov (.val (.int .i64 11)))::[])) <|
  .ret) <|
 .skip) <|
 .seq (.region (zm 42 5::zo 43 (.nilc (.tmp 42))::zf 44 0 43::zo 45 (.load true 5 (.tmp 44))::zs 5 2 45::zo 3 (.mov (.val (.int .i64 0)))::zo 4 (.mov (.val (.int .i64 0)))::[])) <|
 .ret⟩
theorem e_model_Build:AgY Tryz.prog kd_CMod Tryz.f5=some c_model_Build:=by kernel_rfl
def BfQ:AFunc:=⟨8,[.tmp 2],
 .seq (.region (zo 2 (.mov (.val .nils))::[])) <|
 .seq (.seq (.region (zm 3 0::zo 4 (.isnil false (.tmp 3))::[])) <|
 .cond (.tmp 4) (.seq (.region (zo 2 (.mov (.val .nils))::[])) <|
  .ret) <|
 .skip) <|
 .seq (.region (zo 5 (.bslice 1 [])::zm 6 0::zo 7 (.app 1 8 (.tmp 5) (.tmp 6))::zm 2 7::[])) <|
 .ret⟩
theorem e_slices_Clone_sint_int:AgY Tryz.prog kd_CMod Tryz.f60=some BfQ:=by kernel_rfl
end Go.Proofs.YtcmphhedaefcgaaGreatDoor
end
section
namespace Go.Proofs.YtcmphhedaefcgaaGreatDoor
open Av
attribute [local irreducible] awp AbX
attribute [local irreducible] awX opX
set_option maxRecDepth 100000
set_option maxHeartbeats 4000000
def eOt (o:Ot):AV:=.agg [.str (S8 o.name),.bool o.bool,.bool o.arr,.list 1 (o.x.map eI)]
def eTh (t:Th):AV:=.agg [.int .i64 t.kind,.bool t.truth,.list 1 (t.vals.map eI),.list 1 (t.x.map eI)]
theorem BdQ (t:Th):eTh t=.agg [.int .i64 t.kind,.bool t.truth,.list 1 (t.vals.map eI),.list 1 (t.x.map eI)]:=rfl
theorem eTh0:eTh th0=.agg [.int .i64 0,.bool false,.list 1 [],.list 1 []]:=rfl
theorem th0_k:th0.kind=0:=rfl
theorem eOt_eq (o:Ot):eOt o=.agg [.str (S8 o.name),.bool o.bool,.bool o.arr,.list 1 (o.x.map eI)]:=rfl
theorem AhX (l:List Ot):BdX (l.map eOt)=true:=flatL_map _ (fun _=>rfl) l
def bS (p1 p2 p3:Nat) (b:Bd):AV:=.agg [.sl 1 p1 0 b.D.length,.sl 4 p2 0 b.C.length,.int .i64 b.ask,.int .i64 b.goal,.sl 4 p3 0 b.O.length,.mp 4,.mp 5,.bool b.sv,.int .i64 b.e]
theorem BkQ (p1 p2 p3:Nat) (b:Bd):bS p1 p2 p3 b=.agg [.sl 1 p1 0 b.D.length,.sl 4 p2 0 b.C.length,.int .i64 b.ask,.int .i64 b.goal,.sl 4 p3 0 b.O.length,.mp 4,.mp 5,.bool b.sv,.int .i64 b.e]:=rfl
def bB (b:Bd):Bx:=[some (9,[bS 1 2 3 b]),some (1,b.D.map eRgs),some (4,b.C.map eCon),some (4,b.O.map eOt),some (1,[.dat (b.kn.map fun x=>eBs x.1) (b.kn.map fun x=>eTh x.2)]),some (1,[.dat (b.fx.map fun x=>eI x.1) (b.fx.map fun x=>eI x.2)])]
def bN (b:Bd):Bx:=[some (9,[bS 6 7 8 b]),none,none,none,some (1,[.dat (b.kn.map fun x=>eBs x.1) (b.kn.map fun x=>eTh x.2)]),some (1,[.dat (b.fx.map fun x=>eI x.1) (b.fx.map fun x=>eI x.2)]),some (1,b.D.map eRgs),some (4,b.C.map eCon),some (4,b.O.map eOt)]
theorem BlY (b:Bd):bB b=[some (9,[bS 1 2 3 b]),some (1,b.D.map eRgs),some (4,b.C.map eCon),some (4,b.O.map eOt),some (1,[.dat (b.kn.map fun x=>eBs x.1) (b.kn.map fun x=>eTh x.2)]),some (1,[.dat (b.fx.map fun x=>eI x.1) (b.fx.map fun x=>eI x.2)])]:=rfl
theorem BlX (b:Bd):bN b=[some (9,[bS 6 7 8 b]),none,none,none,some (1,[.dat (b.kn.map fun x=>eBs x.1) (b.kn.map fun x=>eTh x.2)]),some (1,[.dat (b.fx.map fun x=>eI x.1) (b.fx.map fun x=>eI x.2)]),some (1,b.D.map eRgs),some (4,b.C.map eCon),some (4,b.O.map eOt)]:=rfl
theorem fS_D (k:Bool) (r:Int) (b:Bd):(AbQ k r b).D=b.D:=by unfold AbQ;split <;> rfl
theorem fS_C (k:Bool) (r:Int) (b:Bd):(AbQ k r b).C=b.C:=by unfold AbQ;split <;> rfl
theorem fS_O (k:Bool) (r:Int) (b:Bd):(AbQ k r b).O=b.O:=by unfold AbQ;split <;> rfl
theorem AoZ (k:Bool) (r:Int) (b:Bd):(AbQ k r b).kn=b.kn:=by unfold AbQ;split <;> rfl
theorem BjQ (k:Bool) (r:Int) (b:Bd):(AbQ k r b).fx=b.fx:=by unfold AbQ;split <;> rfl
theorem BjZ (k:Bool) (r:Int) (b:Bd):(AbQ k r b).sv=b.sv:=by unfold AbQ;split <;> rfl
theorem AsZ (k:Bool) (r:Int) (b:Bd):(AbQ k r b).ask=b.ask:=by unfold AbQ;split <;> rfl
theorem AlY (k:Bool) (r:Int) (b:Bd):(AbQ k r b).goal=b.goal:=by unfold AbQ;split <;> rfl
theorem q0:((((type_of% @BlY)∧((type_of% @BlX)∧(type_of% @BkQ)))∧(((type_of% @fS_C)∧(type_of% @fS_D))∧((type_of% @fS_O)∧(type_of% @AsZ))))∧(((type_of% @BjQ)∧((type_of% @AlY)∧(type_of% @AoZ)))∧(((type_of% @BjZ)∧(type_of% @AhX))∧((type_of% @AdZ)∧(type_of% @AdY))))):=⟨⟨⟨@BlY,⟨@BlX,@BkQ⟩⟩,⟨⟨@fS_C,@fS_D⟩,⟨@fS_O,@AsZ⟩⟩⟩,⟨⟨@BjQ,⟨@AlY,@AoZ⟩⟩,⟨⟨@BjZ,@AhX⟩,⟨@AdZ,@AdY⟩⟩⟩⟩
theorem fS_t (r:Int) (b:Bd):AbQ true r b=b:=by unfold AbQ;rw [if_neg];rintro ⟨h,_⟩;cases h
theorem fS_e (r:Int) (b:Bd) (h:b.e=0):AbQ false r b={ b with e:=r }:=if_pos ⟨rfl,h⟩
theorem fS_n (k:Bool) (r:Int) (b:Bd) (h:¬ b.e=0):AbQ k r b=b:=if_neg (fun x=>h x.2)
theorem fR_t (r:Int) (b:Bd):AuY true r b=decide (b.e≠0):=by unfold AuY;rw [fS_t]
theorem fR_e (r:Int) (b:Bd) (h:b.e=0):AuY false r b=decide (r≠0):=by unfold AuY;rw [fS_e r b h]
theorem fR_n (k:Bool) (r:Int) (b:Bd) (h:¬ b.e=0):AuY k r b=true:=by unfold AuY;rw [fS_n k r b h];simp [h]
theorem AcX (ok:Bool) (er:Int) (b:Bd):Ctr Tryz.prog 26 (.ptr 9 0 0 0::[.bool ok,.int .i64 er]) (bB b) (.bool (AuY ok er b)) (bN (AbQ ok er b)):=by
 refine AqY Tryz.func26 Tryz.call26 e_model_builder_fail ?_
 cases ok with
 |
  true =>
  rw [fS_t,fR_t]
  by_cases h:b.e=0
  · simp +contextual -implicitDefEqProofs only [q0,sm,AuQ,seval,h]
    refine ⟨[0,1,2,3,4,5,1,2,3],by show List.Nodup [0,4,5,1,2,3];decide,rfl,?_,?_⟩
    · simp +contextual -implicitDefEqProofs only [q0,sm,seval,h]
    · simp +contextual -implicitDefEqProofs only [q0,sm,seval,AfY,h]
  · simp +contextual -implicitDefEqProofs only [q0,sm,AuQ,seval,h]
    refine ⟨[0,1,2,3,4,5,1,2,3],by show List.Nodup [0,4,5,1,2,3];decide,rfl,?_,?_⟩
    · simp +contextual -implicitDefEqProofs only [q0,sm,seval,h]
    · simp +contextual -implicitDefEqProofs only [q0,sm,seval,AfY,h]
 |
  false =>
  by_cases h:b.e=0
  · rw [fS_e er b h,fR_e er b h]
    simp +contextual -implicitDefEqProofs only [q0,sm,AuQ,seval,h]
    refine ⟨[0,1,2,3,4,5,1,2,3],by show List.Nodup [0,4,5,1,2,3];decide,rfl,?_,?_⟩
    · simp +contextual -implicitDefEqProofs only [q0,sm,seval,h]
    · simp +contextual -implicitDefEqProofs only [q0,sm,seval,AfY,h]
  · rw [fS_n false er b h,fR_n false er b h]
    simp +contextual -implicitDefEqProofs only [q0,sm,AuQ,seval,h]
    refine ⟨[0,1,2,3,4,5,1,2,3],by show List.Nodup [0,4,5,1,2,3];decide,rfl,?_,?_⟩
    · simp +contextual -implicitDefEqProofs only [q0,sm,seval,h]
    · simp +contextual -implicitDefEqProofs only [q0,sm,seval,AfY,h]
theorem fR_lt {n:Nat} (k:Nat) (r:Int) (b:Bd) (h3:r≠0) (h:AuY (decide (n<k)) r b=false):n<k:=by
 by_cases hn:n<k
 · exact hn
 · rw [decide_eq_false hn] at h
   by_cases he:b.e=0
   · rw [fR_e r b he] at h;simp [h3] at h
   · rw [fR_n _ r b he] at h;cases h
theorem bld_fresh (d:List Rg) (b:Bd):Ctr Tryz.prog 62 (.ptr 9 0 0 0::[eRgs d]) (bB b) (.int .i64 (BcZ d b).1) (bN ((BcZ d b).2)):=by
 refine AqY Tryz.func62 Tryz.call62 e_model_builder_fresh ?_
 have h64:((b.D.length:Int)<64)=(b.D.length<64):=by simp only [eq_iff_iff];omega
 have hE:BcZ d b=if AuY (decide (b.D.length<64)) 3 b=true then (0,AbQ (decide (b.D.length<64)) 3 b)
 else ((b.D.length:Int),{ AbQ (decide (b.D.length<64)) 3 b with D:=b.D++[d] }):=rfl
 simp +contextual -implicitDefEqProofs only [q0,sm,c_model_builder_fresh,eRgs,seval,h64]
 refine AaX [0,1,2,3,4,5] (AcX (decide (b.D.length<64)) 3 b) (by decide) ?_ ?_ ?_ ?_ ?_ ?_
 iterate 6 simp +contextual -implicitDefEqProofs only [q0,sm,seval]
 cases hr:AuY (decide (b.D.length<64)) 3 b with
 |
  true =>
  rw [hr,if_pos rfl] at hE
  rw [hE]
  simp +contextual -implicitDefEqProofs only [q0,sm,seval,hr]
  refine ⟨[0,1,2,3,4,5,6,7,8],by show List.Nodup [0,4,5,6,7,8];decide,rfl,?_,?_⟩
  · simp +contextual -implicitDefEqProofs only [q0,sm,seval,hr]
  · simp +contextual -implicitDefEqProofs only [q0,sm,seval,AfY,hr]
 |
  false =>
  rw [hr,if_neg (by simp)] at hE
  rw [hE]
  have hlt:=fR_lt _ 3 b (by decide) hr
  have hcap:(b.D.length+1) * 24≤140737488355328∧b.D.length+1≤maxLen:=by unfold maxLen;omega
  have hM:AV.list 2 (d.map eRg)=eRgs d:=rfl
  have hW:IntKind.i64.wrap (((b.D.length+1:Nat):Int)-1)=(b.D.length:Int):=by rw [AiY (by omega) (by omega)];omega
  simp +contextual -implicitDefEqProofs only [q0,sm,seval,hr,hcap]
  refine ⟨[0,1,2,3,4,5,9,7,8],by show List.Nodup [0,4,5,9,7,8];decide,rfl,?_,?_⟩
  · simp +contextual -implicitDefEqProofs only [q0,sm,seval,hr,hM,hW]
  · simp +contextual -implicitDefEqProofs only [q0,sm,seval,AfY,hr,hM,hW]
theorem bld_post (c:Con) (b:Bd):Ctr Tryz.prog 63 (.ptr 9 0 0 0::[eCon c]) (bB b) (.tuple []) (bN (postS c b)):=by
 refine AqY Tryz.func63 Tryz.call63 e_model_builder_post ?_
 have h64:((b.C.length:Int)<64)=(b.C.length<64):=by simp only [eq_iff_iff];omega
 have hE:postS c b=if AuY (decide (b.C.length<64)) 3 b=true then AbQ (decide (b.C.length<64)) 3 b
 else { AbQ (decide (b.C.length<64)) 3 b with C:=b.C++[c] }:=rfl
 obtain ⟨k,X,A,C⟩:=c
 simp +contextual -implicitDefEqProofs only [q0,sm,BoZ,eCon,eIs,seval,h64]
 refine AaX [0,1,2,3,4,5] (AcX (decide (b.C.length<64)) 3 b) (by decide) ?_ ?_ ?_ ?_ ?_ ?_
 iterate 6 simp +contextual -implicitDefEqProofs only [q0,sm,seval]
 cases hr:AuY (decide (b.C.length<64)) 3 b with
 |
  true =>
  rw [hr,if_pos rfl] at hE
  rw [hE]
  simp +contextual -implicitDefEqProofs only [q0,sm,seval,hr]
  refine ⟨[0,1,2,3,4,5,7,8,9],by show List.Nodup [0,4,5,7,8,9];decide,rfl,?_,?_⟩
  · simp +contextual -implicitDefEqProofs only [q0,sm,seval,hr]
  · simp +contextual -implicitDefEqProofs only [q0,sm,seval,AfY,hr]
 |
  false =>
  rw [hr,if_neg (by simp)] at hE
  rw [hE]
  have hlt:=fR_lt _ 3 b (by decide) hr
  have hcap:(b.C.length+1) * 64≤140737488355328∧b.C.length+1≤maxLen:=by unfold maxLen;omega
  have hM2:List.map eCon b.C++[eCon (k,X,A,C)]=List.map eCon (b.C++[(k,X,A,C)]):=by simp
  have hM:AV.agg [.int .i64 k,.list 1 (X.map eI),.list 1 (A.map eI),.int .i64 C]=eCon (k,X,A,C):=rfl
  simp +contextual -implicitDefEqProofs only [q0,sm,seval,hr,hcap]
  refine ⟨[0,1,2,3,4,5,7,10,9],by show List.Nodup [0,4,5,7,10,9];decide,rfl,?_,?_⟩
  · simp +contextual -implicitDefEqProofs only [q0,sm,seval,hr,hM,hM2]
  · simp +contextual -implicitDefEqProofs only [q0,sm,seval,AfY,hr,hM,hM2]
theorem bld_look (s:Bs) (b:Bd):Ctr Tryz.prog 74 (.ptr 9 0 0 0::[.str (S8 s)]) (bB b) (.tuple [eTh (thOf s b),.bool (lookR s b)]) (bN (AqX s b)):=by
 refine AqY Tryz.func74 Tryz.call74 e_model_builder_look ?_
 have hl:=lookD_s eTh s b.kn
 unfold lookR AqX thOf isOf
 cases hs:lookB s b.kn with
 |
  none =>
  rw [hs,Option.map_none] at hl
  simp only [Option.getD_none,Option.isSome_none]
  simp +contextual -implicitDefEqProofs only [q0,sm,BoQ,hl,seval]
  refine AaX [0,1,2,3,4,5] (AcX false 7 b) (by decide) ?_ ?_ ?_ ?_ ?_ ?_
  iterate 6 simp +contextual -implicitDefEqProofs only [q0,sm,seval]
  cases hr:AuY false 7 b with
  |
   true =>
   simp +contextual -implicitDefEqProofs only [q0,sm,seval,hr]
   refine ⟨[0,1,2,3,4,5,8,9,10],by show List.Nodup [0,4,5,8,9,10];decide,rfl,?_,?_⟩
   · simp +contextual -implicitDefEqProofs only [q0,sm,seval,hr,eTh0]
   · simp +contextual -implicitDefEqProofs only [q0,sm,seval,AfY,hr,eTh0]
  |
   false =>
   simp +contextual -implicitDefEqProofs only [q0,sm,seval,hr]
   refine ⟨[0,1,2,3,4,5,8,9,10],by show List.Nodup [0,4,5,8,9,10];decide,rfl,?_,?_⟩
   · simp +contextual -implicitDefEqProofs only [q0,sm,seval,hr,eTh0]
   · simp +contextual -implicitDefEqProofs only [q0,sm,seval,AfY,hr,eTh0]
 |
  some t =>
  rw [hs,Option.map_some] at hl
  have ht:=BdQ t
  simp only [Option.getD_some,Option.isSome_some]
  simp +contextual -implicitDefEqProofs only [q0,sm,BoQ,hl,ht,seval]
  refine AaX [0,1,2,3,4,5] (AcX true 7 b) (by decide) ?_ ?_ ?_ ?_ ?_ ?_
  iterate 6 simp +contextual -implicitDefEqProofs only [q0,sm,seval]
  cases hr:AuY true 7 b with
  |
   true =>
   simp +contextual -implicitDefEqProofs only [q0,sm,seval,hr]
   refine ⟨[0,1,2,3,4,5,8,9,10],by show List.Nodup [0,4,5,8,9,10];decide,rfl,?_,?_⟩
   · simp +contextual -implicitDefEqProofs only [q0,sm,seval,hr,ht]
   · simp +contextual -implicitDefEqProofs only [q0,sm,seval,AfY,hr,ht]
  |
   false =>
   simp +contextual -implicitDefEqProofs only [q0,sm,seval,hr]
   refine ⟨[0,1,2,3,4,5,8,9,10],by show List.Nodup [0,4,5,8,9,10];decide,rfl,?_,?_⟩
   · simp +contextual -implicitDefEqProofs only [q0,sm,seval,hr,ht]
   · simp +contextual -implicitDefEqProofs only [q0,sm,seval,AfY,hr,ht]
end Go.Proofs.YtcmphhedaefcgaaGreatDoor
end
section
namespace Go.Proofs.YtcmphhedaefcgaaGreatDoor
open Av
attribute [local irreducible] awp AbX
attribute [local irreducible] awX opX
set_option maxRecDepth 100000
set_option maxHeartbeats 4000000
theorem q2:((((type_of% @BlY)∧((type_of% @BlX)∧(type_of% @BkQ)))∧(((type_of% @fS_C)∧(type_of% @fS_D))∧((type_of% @fS_O)∧(type_of% @AsZ))))∧(((type_of% @BjQ)∧((type_of% @AlY)∧(type_of% @AoZ)))∧(((type_of% @BjZ)∧(type_of% @AhX))∧((type_of% @AdZ)∧(type_of% @AdY))))):=⟨⟨⟨@BlY,⟨@BlX,@BkQ⟩⟩,⟨⟨@fS_C,@fS_D⟩,⟨@fS_O,@AsZ⟩⟩⟩,⟨⟨@BjQ,⟨@AlY,@AoZ⟩⟩,⟨⟨@BjZ,@AhX⟩,⟨@AdZ,@AdY⟩⟩⟩⟩
theorem bq_ff:(false == false)=true:=rfl
theorem bq_tt:(true == true)=true:=rfl
theorem bq_ft:(false == true)=false:=rfl
theorem bq_tf:(true == false)=false:=rfl
theorem wB_eq (n:Int):wB n=withinB n:=rfl
theorem lS_D (s:Bs) (b:Bd):(AqX s b).D=b.D:=fS_D _ _ _
theorem lS_C (s:Bs) (b:Bd):(AqX s b).C=b.C:=fS_C _ _ _
theorem lS_O (s:Bs) (b:Bd):(AqX s b).O=b.O:=fS_O _ _ _
theorem lS_kn (s:Bs) (b:Bd):(AqX s b).kn=b.kn:=AoZ _ _ _
theorem lS_fx (s:Bs) (b:Bd):(AqX s b).fx=b.fx:=BjQ _ _ _
theorem lS_sv (s:Bs) (b:Bd):(AqX s b).sv=b.sv:=BjZ _ _ _
theorem lS_ask (s:Bs) (b:Bd):(AqX s b).ask=b.ask:=AsZ _ _ _
theorem BnZ (s:Bs) (b:Bd):(AqX s b).goal=b.goal:=AlY _ _ _
theorem q1:(((((type_of% @BlY)∧((type_of% @BlX)∧(type_of% @BkQ)))∧((type_of% @bq_ff)∧((type_of% @bq_ft)∧(type_of% @bq_tf))))∧(((type_of% @bq_tt)∧((type_of% @fS_C)∧(type_of% @fS_D)))∧(((type_of% @fS_O)∧(type_of% @AsZ))∧((type_of% @BjQ)∧(type_of% @AlY)))))∧((((type_of% @AoZ)∧((type_of% @BjZ)∧(type_of% @AhX)))∧(((type_of% @AdZ)∧(type_of% @AdY))∧((type_of% @lS_C)∧(type_of% @lS_D))))∧(((type_of% @lS_O)∧((type_of% @lS_ask)∧(type_of% @lS_fx)))∧(((type_of% @BnZ)∧(type_of% @lS_kn))∧((type_of% @lS_sv)∧(type_of% @wB_eq)))))):=⟨⟨⟨⟨@BlY,⟨@BlX,@BkQ⟩⟩,⟨@bq_ff,⟨@bq_ft,@bq_tf⟩⟩⟩,⟨⟨@bq_tt,⟨@fS_C,@fS_D⟩⟩,⟨⟨@fS_O,@AsZ⟩,⟨@BjQ,@AlY⟩⟩⟩⟩,⟨⟨⟨@AoZ,⟨@BjZ,@AhX⟩⟩,⟨⟨@AdZ,@AdY⟩,⟨@lS_C,@lS_D⟩⟩⟩,⟨⟨@lS_O,⟨@lS_ask,@lS_fx⟩⟩,⟨⟨@BnZ,@lS_kn⟩,⟨@lS_sv,@wB_eq⟩⟩⟩⟩⟩
def WfK (kn:List (Bs × Th)):Prop:=∀ s t,lookB s kn=some t→(t.kind=1→t.vals≠[])∧(t.kind=2→t.x≠[])∧t.vals.length≤1000000∧t.x.length≤1000000
theorem wf_vals {b:Bd} (h:WfK b.kn) (s:Bs) (hk:(thOf s b).kind=1):∃ v l,(thOf s b).vals=v::l:=by
 unfold thOf at hk ⊢
 cases hs:lookB s b.kn with
 | none=>rw [hs] at hk;cases hk
 |
  some t =>
  rw [hs] at hk
  simp only [Option.getD_some] at hk ⊢
  have:=(h s t hs).1 hk
  cases hv:t.vals with
  | nil=>exact absurd hv this
  | cons v l=>exact ⟨v,l,rfl⟩
theorem wf_x {b:Bd} (h:WfK b.kn) (s:Bs) (hk:(thOf s b).kind=2):∃ v l,(thOf s b).x=v::l:=by
 unfold thOf at hk ⊢
 cases hs:lookB s b.kn with
 | none=>rw [hs] at hk;cases hk
 |
  some t =>
  rw [hs] at hk
  simp only [Option.getD_some] at hk ⊢
  have:=(h s t hs).2.1 hk
  cases hv:t.x with
  | nil=>exact absurd hv this
  | cons v l=>exact ⟨v,l,rfl⟩
theorem wf_len {b:Bd} (h:WfK b.kn) (s:Bs):(thOf s b).vals.length≤1000000∧(thOf s b).x.length≤1000000:=by
 unfold thOf
 cases hs:lookB s b.kn with
 | none=>exact ⟨Nat.zero_le _,Nat.zero_le _⟩
 | some t=>exact (h s t hs).2.2
theorem fR_f (r:Int) (b:Bd) (h:r≠0):AuY false r b=true:=by
 by_cases he:b.e=0
 · rw [fR_e r b he];simp [h]
 · exact fR_n _ r b he
theorem bld_constant (x:Ex) (t:Bool) (b:Bd) (hw:WfK b.kn):Ctr Tryz.prog 69 (.ptr 9 0 0 0::[eEx x,.bool t]) (bB b) (.int .i64 (AhY x t b).1) (bN (AhY x t b).2):=by
 refine AqY Tryz.func69 Tryz.call69 e_model_builder_constant ?_
 by_cases h3:x.k=3
 · have hth:=BdQ (thOf x.s b)
   simp +contextual -implicitDefEqProofs only [q2,sm,AiQ,AcQ,h3,hth,seval]
   refine AaX [0,1,2,3,4,5] (bld_look x.s b) (by decide) ?_ ?_ ?_ ?_ ?_ ?_
   iterate 6 simp +contextual -implicitDefEqProofs only [q1,sm,seval,hth]
   cases hl:lookR x.s b with
   |
    false =>
    have hE:AhY x t b=(0,AqX x.s b):=by simp [AhY,h3,hl]
    rw [hE]
    simp +contextual -implicitDefEqProofs only [q1,sm,seval,hl]
    refine ⟨[0,1,2,3,4,5,7,8,9],by show List.Nodup [0,4,5,7,8,9];decide,rfl,?_,?_⟩
    · simp +contextual -implicitDefEqProofs only [q1,sm,seval,h3,hl]
    · simp +contextual -implicitDefEqProofs only [q1,sm,seval,AfY,h3,hl]
   |
    true =>
    by_cases hk:(thOf x.s b).kind=1
    · cases ht:(thOf x.s b).truth with
      |
       false =>
       cases t with
       |
        false =>
        simp +contextual -implicitDefEqProofs only [q1,sm,seval,hl,hk,ht]
        refine AaX [0,7,8,9,4,5] (AcX true 9 (AqX x.s b)) (by decide) ?_ ?_ ?_ ?_ ?_ ?_
        iterate 6 simp +contextual -implicitDefEqProofs only [q1,sm,seval]
        cases hr:AuY true 9 (AqX x.s b) with
        |
         true =>
         have hE:AhY x false b=(0,AbQ true 9 (AqX x.s b)):=by simp [AhY,h3,hl,hk,ht,hr]
         rw [hE]
         simp +contextual -implicitDefEqProofs only [q1,sm,seval,hr]
         refine ⟨[0,1,2,3,4,5,11,12,13],by show List.Nodup [0,4,5,11,12,13];decide,rfl,?_,?_⟩
         · simp +contextual -implicitDefEqProofs only [q1,sm,seval,h3,hl,hk,ht,hr]
         · simp +contextual -implicitDefEqProofs only [q1,sm,seval,AfY,h3,hl,hk,ht,hr]
        |
         false =>
         obtain ⟨v,l,hv⟩:=wf_vals hw x.s hk
         have hE:AhY x false b=(v,AbQ true 9 (AqX x.s b)):=by simp [AhY,h3,hl,hk,ht,hr,hv,head0]
         rw [hE]
         simp +contextual -implicitDefEqProofs only [q1,sm,seval,hr,hv]
         refine ⟨[0,1,2,3,4,5,11,12,13],by show List.Nodup [0,4,5,11,12,13];decide,rfl,?_,?_⟩
         · simp +contextual -implicitDefEqProofs only [q1,sm,seval,h3,hl,hk,ht,hr,hv,head0]
         · simp +contextual -implicitDefEqProofs only [q1,sm,seval,AfY,h3,hl,hk,ht,hr,hv,head0]
       |
        true =>
        simp +contextual -implicitDefEqProofs only [q1,sm,seval,hl,hk,ht]
        refine AaX [0,7,8,9,4,5] (AcX false 9 (AqX x.s b)) (by decide) ?_ ?_ ?_ ?_ ?_ ?_
        iterate 6 simp +contextual -implicitDefEqProofs only [q1,sm,seval]
        have hr:=fR_f 9 (AqX x.s b) (by decide)
        have hE:AhY x true b=(0,AbQ false 9 (AqX x.s b)):=by simp [AhY,h3,hl,hk,ht,hr]
        rw [hE]
        simp +contextual -implicitDefEqProofs only [q1,sm,seval,hr]
        refine ⟨[0,1,2,3,4,5,11,12,13],by show List.Nodup [0,4,5,11,12,13];decide,rfl,?_,?_⟩
        · simp +contextual -implicitDefEqProofs only [q1,sm,seval,h3,hl,hk,ht,hr]
        · simp +contextual -implicitDefEqProofs only [q1,sm,seval,AfY,h3,hl,hk,ht,hr]
      |
       true =>
       cases t with
       |
        false =>
        simp +contextual -implicitDefEqProofs only [q1,sm,seval,hl,hk,ht]
        refine AaX [0,7,8,9,4,5] (AcX false 9 (AqX x.s b)) (by decide) ?_ ?_ ?_ ?_ ?_ ?_
        iterate 6 simp +contextual -implicitDefEqProofs only [q1,sm,seval]
        have hr:=fR_f 9 (AqX x.s b) (by decide)
        have hE:AhY x false b=(0,AbQ false 9 (AqX x.s b)):=by simp [AhY,h3,hl,hk,ht,hr]
        rw [hE]
        simp +contextual -implicitDefEqProofs only [q1,sm,seval,hr]
        refine ⟨[0,1,2,3,4,5,11,12,13],by show List.Nodup [0,4,5,11,12,13];decide,rfl,?_,?_⟩
        · simp +contextual -implicitDefEqProofs only [q1,sm,seval,h3,hl,hk,ht,hr]
        · simp +contextual -implicitDefEqProofs only [q1,sm,seval,AfY,h3,hl,hk,ht,hr]
       |
        true =>
        simp +contextual -implicitDefEqProofs only [q1,sm,seval,hl,hk,ht]
        refine AaX [0,7,8,9,4,5] (AcX true 9 (AqX x.s b)) (by decide) ?_ ?_ ?_ ?_ ?_ ?_
        iterate 6 simp +contextual -implicitDefEqProofs only [q1,sm,seval]
        cases hr:AuY true 9 (AqX x.s b) with
        |
         true =>
         have hE:AhY x true b=(0,AbQ true 9 (AqX x.s b)):=by simp [AhY,h3,hl,hk,ht,hr]
         rw [hE]
         simp +contextual -implicitDefEqProofs only [q1,sm,seval,hr]
         refine ⟨[0,1,2,3,4,5,11,12,13],by show List.Nodup [0,4,5,11,12,13];decide,rfl,?_,?_⟩
         · simp +contextual -implicitDefEqProofs only [q1,sm,seval,h3,hl,hk,ht,hr]
         · simp +contextual -implicitDefEqProofs only [q1,sm,seval,AfY,h3,hl,hk,ht,hr]
        |
         false =>
         obtain ⟨v,l,hv⟩:=wf_vals hw x.s hk
         have hE:AhY x true b=(v,AbQ true 9 (AqX x.s b)):=by simp [AhY,h3,hl,hk,ht,hr,hv,head0]
         rw [hE]
         simp +contextual -implicitDefEqProofs only [q1,sm,seval,hr,hv]
         refine ⟨[0,1,2,3,4,5,11,12,13],by show List.Nodup [0,4,5,11,12,13];decide,rfl,?_,?_⟩
         · simp +contextual -implicitDefEqProofs only [q1,sm,seval,h3,hl,hk,ht,hr,hv,head0]
         · simp +contextual -implicitDefEqProofs only [q1,sm,seval,AfY,h3,hl,hk,ht,hr,hv,head0]
    · simp +contextual -implicitDefEqProofs only [q1,sm,seval,hl,hk]
      refine AaX [0,7,8,9,4,5] (AcX false 9 (AqX x.s b)) (by decide) ?_ ?_ ?_ ?_ ?_ ?_
      iterate 6 simp +contextual -implicitDefEqProofs only [q1,sm,seval]
      have hr:=fR_f 9 (AqX x.s b) (by decide)
      have hE:AhY x t b=(0,AbQ false 9 (AqX x.s b)):=by simp [AhY,h3,hl,hk,hr]
      rw [hE]
      simp +contextual -implicitDefEqProofs only [q1,sm,seval,hr]
      refine ⟨[0,1,2,3,4,5,11,12,13],by show List.Nodup [0,4,5,11,12,13];decide,rfl,?_,?_⟩
      · simp +contextual -implicitDefEqProofs only [q1,sm,seval,h3,hl,hk,hr]
      · simp +contextual -implicitDefEqProofs only [q1,sm,seval,AfY,h3,hl,hk,hr]
 · by_cases h4:x.k=4
   · simp +contextual -implicitDefEqProofs only [q2,sm,AiQ,AcQ,h3,h4,seval]
     refine AaX [0,1,2,3,4,5] (AcX false 9 b) (by decide) ?_ ?_ ?_ ?_ ?_ ?_
     iterate 6 simp +contextual -implicitDefEqProofs only [q1,sm,seval]
     have hE:AhY x t b=(0,AbQ false 9 b):=by simp [AhY,h3,h4]
     rw [hE]
     simp +contextual -implicitDefEqProofs only [q1,sm,seval,h4]
     refine ⟨[0,1,2,3,4,5,7,8,9],by show List.Nodup [0,4,5,7,8,9];decide,rfl,?_,?_⟩
     · simp +contextual -implicitDefEqProofs only [q1,sm,seval,h3,h4]
     · simp +contextual -implicitDefEqProofs only [q1,sm,seval,AfY,h3,h4]
   · by_cases h2:x.k=2
     · cases t with
       |
        false =>
        simp +contextual -implicitDefEqProofs only [q2,sm,AiQ,AcQ,h3,h4,h2,seval]
        refine AaX [0,1,2,3,4,5] (AcX false 9 b) (by decide) ?_ ?_ ?_ ?_ ?_ ?_
        iterate 6 simp +contextual -implicitDefEqProofs only [q1,sm,seval]
        refine AaY (AzX x.n) (AaQ _) rfl ?_
        simp +contextual -implicitDefEqProofs only [q1,sm,seval]
        refine AaX [0,7,8,9,4,5] (AcX (wB x.n) 2 (AbQ false 9 b)) (by decide) ?_ ?_ ?_ ?_ ?_ ?_
        iterate 6 simp +contextual -implicitDefEqProofs only [q1,sm,seval]
        have hE:AhY x false b=(x.n,AbQ (wB x.n) 2 (AbQ false 9 b)):=by simp [AhY,h3,h4,h2]
        rw [hE]
        refine ⟨[0,1,2,3,4,5,10,11,12],by show List.Nodup [0,4,5,10,11,12];decide,rfl,?_,?_⟩
        · simp +contextual -implicitDefEqProofs only [q1,sm,seval,h3,h4,h2]
        · simp +contextual -implicitDefEqProofs only [q1,sm,seval,AfY,h3,h4,h2]
       |
        true =>
        simp +contextual -implicitDefEqProofs only [q2,sm,AiQ,AcQ,h3,h4,h2,seval]
        refine AaX [0,1,2,3,4,5] (AcX true 9 b) (by decide) ?_ ?_ ?_ ?_ ?_ ?_
        iterate 6 simp +contextual -implicitDefEqProofs only [q1,sm,seval]
        refine AaY (AzX x.n) (AaQ _) rfl ?_
        simp +contextual -implicitDefEqProofs only [q1,sm,seval]
        refine AaX [0,7,8,9,4,5] (AcX (wB x.n) 2 (AbQ true 9 b)) (by decide) ?_ ?_ ?_ ?_ ?_ ?_
        iterate 6 simp +contextual -implicitDefEqProofs only [q1,sm,seval]
        have hE:AhY x true b=(x.n,AbQ (wB x.n) 2 (AbQ true 9 b)):=by simp [AhY,h3,h4,h2]
        rw [hE]
        refine ⟨[0,1,2,3,4,5,10,11,12],by show List.Nodup [0,4,5,10,11,12];decide,rfl,?_,?_⟩
        · simp +contextual -implicitDefEqProofs only [q1,sm,seval,h3,h4,h2]
        · simp +contextual -implicitDefEqProofs only [q1,sm,seval,AfY,h3,h4,h2]
     · cases t with
       |
        false =>
        simp +contextual -implicitDefEqProofs only [q2,sm,AiQ,AcQ,h3,h4,h2,seval]
        refine AaX [0,1,2,3,4,5] (AcX true 9 b) (by decide) ?_ ?_ ?_ ?_ ?_ ?_
        iterate 6 simp +contextual -implicitDefEqProofs only [q1,sm,seval]
        refine AaY (AzX x.n) (AaQ _) rfl ?_
        simp +contextual -implicitDefEqProofs only [q1,sm,seval]
        refine AaX [0,7,8,9,4,5] (AcX (wB x.n) 2 (AbQ true 9 b)) (by decide) ?_ ?_ ?_ ?_ ?_ ?_
        iterate 6 simp +contextual -implicitDefEqProofs only [q1,sm,seval]
        have hE:AhY x false b=(x.n,AbQ (wB x.n) 2 (AbQ true 9 b)):=by simp [AhY,h3,h4,h2]
        rw [hE]
        refine ⟨[0,1,2,3,4,5,10,11,12],by show List.Nodup [0,4,5,10,11,12];decide,rfl,?_,?_⟩
        · simp +contextual -implicitDefEqProofs only [q1,sm,seval,h3,h4,h2]
        · simp +contextual -implicitDefEqProofs only [q1,sm,seval,AfY,h3,h4,h2]
       |
        true =>
        simp +contextual -implicitDefEqProofs only [q2,sm,AiQ,AcQ,h3,h4,h2,seval]
        refine AaX [0,1,2,3,4,5] (AcX false 9 b) (by decide) ?_ ?_ ?_ ?_ ?_ ?_
        iterate 6 simp +contextual -implicitDefEqProofs only [q1,sm,seval]
        refine AaY (AzX x.n) (AaQ _) rfl ?_
        simp +contextual -implicitDefEqProofs only [q1,sm,seval]
        refine AaX [0,7,8,9,4,5] (AcX (wB x.n) 2 (AbQ false 9 b)) (by decide) ?_ ?_ ?_ ?_ ?_ ?_
        iterate 6 simp +contextual -implicitDefEqProofs only [q1,sm,seval]
        have hE:AhY x true b=(x.n,AbQ (wB x.n) 2 (AbQ false 9 b)):=by simp [AhY,h3,h4,h2]
        rw [hE]
        refine ⟨[0,1,2,3,4,5,10,11,12],by show List.Nodup [0,4,5,10,11,12];decide,rfl,?_,?_⟩
        · simp +contextual -implicitDefEqProofs only [q1,sm,seval,h3,h4,h2]
        · simp +contextual -implicitDefEqProofs only [q1,sm,seval,AfY,h3,h4,h2]
theorem bld_pinned (v:Int) (b:Bd):Ctr Tryz.prog 101 (.ptr 9 0 0 0::[.int .i64 v]) (bB b) (.int .i64 (pinS v b).1) (bN (pinS v b).2):=by
 refine AqY Tryz.func101 Tryz.call101 e_model_builder_pinned ?_
 have hl:=lookD_i eI v b.fx
 cases hs:lookI v b.fx with
 |
  some k =>
  rw [hs,Option.map_some] at hl
  have hk:eI k=.int .i64 k:=rfl
  have hE:pinS v b=(k,b):=by simp [pinS,hs]
  rw [hE]
  simp +contextual -implicitDefEqProofs only [q2,sm,ArX,hl,hk,seval]
  refine ⟨[0,1,2,3,4,5,1,2,3],by show List.Nodup [0,4,5,1,2,3];decide,rfl,?_,?_⟩
  · simp +contextual -implicitDefEqProofs only [q2,sm,seval,hl,hk]
  · simp +contextual -implicitDefEqProofs only [q2,sm,seval,AfY,hl,hk]
 |
  none =>
  rw [hs,Option.map_none] at hl
  by_cases he:b.e=0
  · have hE:pinS v b=((BcZ [(v,v)] b).1,if (BcZ [(v,v)] b).2.e=0 then { (BcZ [(v,v)] b).2 with fx:=putI v (BcZ [(v,v)] b).1 (BcZ [(v,v)] b).2.fx } else (BcZ [(v,v)] b).2):=by simp [pinS,hs,he]
    have hf:=bld_fresh [(v,v)] b
    rw [hE]
    clear hE
    generalize BcZ [(v,v)] b=F at hf ⊢
    obtain ⟨k,b2⟩:=F
    simp only at hf ⊢
    have hp:=putD_i eI v k b2.fx
    have hk:eI k=.int .i64 k:=rfl
    rw [hk] at hp
    have hrg:eRg (v,v)=.agg [.int .i64 v,.int .i64 v]:=rfl
    by_cases h2:b2.e=0
    · rw [if_pos h2]
      simp +contextual -implicitDefEqProofs only [q2,sm,ArX,hl,he,seval]
      refine AaX [0,1,2,3,4,5] (hf) (by decide) ?_ ?_ ?_ ?_ ?_ ?_
      iterate 6 simp +contextual -implicitDefEqProofs only [q2,sm,seval,eRgs,List.map_cons,List.map_nil,he,hrg,h2,hp]
      refine ⟨[0,1,2,3,4,5,6,7,8],by show List.Nodup [0,4,5,6,7,8];decide,rfl,?_,?_⟩
      · simp +contextual -implicitDefEqProofs only [q1,sm,seval,h2,hp]
      · simp +contextual -implicitDefEqProofs only [q1,sm,seval,AfY,h2,hp]
    · rw [if_neg h2]
      simp +contextual -implicitDefEqProofs only [q2,sm,ArX,hl,he,seval]
      refine AaX [0,1,2,3,4,5] (hf) (by decide) ?_ ?_ ?_ ?_ ?_ ?_
      iterate 6 simp +contextual -implicitDefEqProofs only [q2,sm,seval,eRgs,List.map_cons,List.map_nil,he,hrg,h2]
      refine ⟨[0,1,2,3,4,5,6,7,8],by show List.Nodup [0,4,5,6,7,8];decide,rfl,?_,?_⟩
      · simp +contextual -implicitDefEqProofs only [q1,sm,seval,h2]
      · simp +contextual -implicitDefEqProofs only [q1,sm,seval,AfY,h2]
  · have hE:pinS v b=(0,b):=by simp [pinS,hs,he]
    rw [hE]
    simp +contextual -implicitDefEqProofs only [q2,sm,ArX,hl,he,seval]
    refine ⟨[0,1,2,3,4,5,1,2,3],by show List.Nodup [0,4,5,1,2,3];decide,rfl,?_,?_⟩
    · simp +contextual -implicitDefEqProofs only [q2,sm,seval,hl,he]
    · simp +contextual -implicitDefEqProofs only [q2,sm,seval,AfY,hl,he]
theorem cS_kn (x:Ex) (t:Bool) (b:Bd):(AhY x t b).2.kn=b.kn:=by
 unfold AhY
 repeat' split
 all_goals simp only [AoZ,lS_kn]
theorem freshS_kn (d:List Rg) (b:Bd):(BcZ d b).2.kn=b.kn:=by
 unfold BcZ
 split <;> simp only [AoZ]
theorem pinS_kn (v:Int) (b:Bd):(pinS v b).2.kn=b.kn:=by
 unfold pinS
 repeat' split
 all_goals simp only [freshS_kn]
theorem varS_kn (x:Ex) (t:Bool) (b:Bd):(varS x t b).2.kn=b.kn:=by
 unfold varS
 split <;> simp only [AoZ,pinS_kn,cS_kn]
theorem bld_variable (x:Ex) (t:Bool) (b:Bd) (hw:WfK b.kn):Ctr Tryz.prog 64 (.ptr 9 0 0 0::[eEx x,.bool t]) (bB b) (.int .i64 (varS x t b).1) (bN (varS x t b).2):=by
 refine AqY Tryz.func64 Tryz.call64 e_model_builder_variable ?_
 have hl:=lookD_s eTh x.s b.kn
 have hc:=bld_constant x t b hw
 have hp:=bld_pinned (AhY x t b).1 (AhY x t b).2
 cases hs:lookB x.s b.kn with
 |
  none =>
  rw [hs,Option.map_none] at hl
  by_cases h3:x.k=3
  · have hE:varS x t b=pinS (AhY x t b).1 (AhY x t b).2:=by simp [varS,thOf,hs,h3,th0_k]
    rw [hE]
    clear hE
    generalize AhY x t b=F at hc hp ⊢
    obtain ⟨v,b2⟩:=F
    simp only at hc hp ⊢
    simp +contextual -implicitDefEqProofs only [q2,sm,AkZ,AcQ,hl,h3,seval]
    refine AaX [0,1,2,3,4,5] (hc) (by decide) ?_ ?_ ?_ ?_ ?_ ?_
    iterate 6 simp +contextual -implicitDefEqProofs only [q2,sm,seval,AcQ,h3]
    refine AaX [0,8,9,10,4,5] (hp) (by decide) ?_ ?_ ?_ ?_ ?_ ?_
    iterate 6 simp +contextual -implicitDefEqProofs only [q2,sm,seval]
    refine ⟨[0,1,2,3,4,5,11,12,13],by show List.Nodup [0,4,5,11,12,13];decide,rfl,?_,?_⟩
    · simp +contextual -implicitDefEqProofs only [q2,sm,seval,h3]
    · simp +contextual -implicitDefEqProofs only [q2,sm,seval,AfY,h3]
  · have hE:varS x t b=pinS (AhY x t b).1 (AhY x t b).2:=by simp [varS,thOf,hs,h3]
    rw [hE]
    clear hE
    generalize AhY x t b=F at hc hp ⊢
    obtain ⟨v,b2⟩:=F
    simp only at hc hp ⊢
    simp +contextual -implicitDefEqProofs only [q2,sm,AkZ,AcQ,hl,h3,seval]
    refine AaX [0,1,2,3,4,5] (hc) (by decide) ?_ ?_ ?_ ?_ ?_ ?_
    iterate 6 simp +contextual -implicitDefEqProofs only [q2,sm,seval,AcQ,h3]
    refine AaX [0,8,9,10,4,5] (hp) (by decide) ?_ ?_ ?_ ?_ ?_ ?_
    iterate 6 simp +contextual -implicitDefEqProofs only [q2,sm,seval]
    refine ⟨[0,1,2,3,4,5,11,12,13],by show List.Nodup [0,4,5,11,12,13];decide,rfl,?_,?_⟩
    · simp +contextual -implicitDefEqProofs only [q2,sm,seval,h3]
    · simp +contextual -implicitDefEqProofs only [q2,sm,seval,AfY,h3]
 |
  some th =>
  rw [hs,Option.map_some] at hl
  have hth:=BdQ th
  by_cases h3:x.k=3
  · by_cases hk:th.kind=2
    · have ht:thOf x.s b=th:=by unfold thOf;rw [hs];rfl
      have hE:varS x t b=(head0 th.x,AbQ (th.truth == t) 9 b):=by simp [varS,ht,h3,hk]
      obtain ⟨v,l,hv⟩:=wf_x hw x.s (by rw [ht];exact hk)
      rw [ht] at hv
      rw [hE,hv]
      simp only [head0,List.headD_cons]
      simp +contextual -implicitDefEqProofs only [q2,sm,AkZ,AcQ,hl,hth,h3,hk,seval]
      refine AaX [0,1,2,3,4,5] (AcX (th.truth == t) 9 b) (by decide) ?_ ?_ ?_ ?_ ?_ ?_
      iterate 6 simp +contextual -implicitDefEqProofs only [q1,sm,seval,hth]
      simp +contextual -implicitDefEqProofs only [q1,sm,seval,hv]
      refine ⟨[0,1,2,3,4,5,8,9,10],by show List.Nodup [0,4,5,8,9,10];decide,rfl,?_,?_⟩
      · simp +contextual -implicitDefEqProofs only [q1,sm,seval,hv,hth]
      · simp +contextual -implicitDefEqProofs only [q1,sm,seval,AfY,hv,hth]
    · have hE:varS x t b=pinS (AhY x t b).1 (AhY x t b).2:=by simp [varS,thOf,hs,h3,hk]
      rw [hE]
      clear hE
      generalize AhY x t b=F at hc hp ⊢
      obtain ⟨v,b2⟩:=F
      simp only at hc hp ⊢
      simp +contextual -implicitDefEqProofs only [q2,sm,AkZ,AcQ,hl,h3,hk,hth,seval]
      refine AaX [0,1,2,3,4,5] (hc) (by decide) ?_ ?_ ?_ ?_ ?_ ?_
      iterate 6 simp +contextual -implicitDefEqProofs only [q2,sm,seval,AcQ,h3,hk,hth]
      refine AaX [0,8,9,10,4,5] (hp) (by decide) ?_ ?_ ?_ ?_ ?_ ?_
      iterate 6 simp +contextual -implicitDefEqProofs only [q2,sm,seval]
      refine ⟨[0,1,2,3,4,5,11,12,13],by show List.Nodup [0,4,5,11,12,13];decide,rfl,?_,?_⟩
      · simp +contextual -implicitDefEqProofs only [q2,sm,seval,h3,hk,hth]
      · simp +contextual -implicitDefEqProofs only [q2,sm,seval,AfY,h3,hk,hth]
  · have hE:varS x t b=pinS (AhY x t b).1 (AhY x t b).2:=by simp [varS,thOf,hs,h3]
    rw [hE]
    clear hE
    generalize AhY x t b=F at hc hp ⊢
    obtain ⟨v,b2⟩:=F
    simp only at hc hp ⊢
    simp +contextual -implicitDefEqProofs only [q2,sm,AkZ,AcQ,hl,h3,hth,seval]
    refine AaX [0,1,2,3,4,5] (hc) (by decide) ?_ ?_ ?_ ?_ ?_ ?_
    iterate 6 simp +contextual -implicitDefEqProofs only [q2,sm,seval,AcQ,h3,hth]
    refine AaX [0,8,9,10,4,5] (hp) (by decide) ?_ ?_ ?_ ?_ ?_ ?_
    iterate 6 simp +contextual -implicitDefEqProofs only [q2,sm,seval]
    refine ⟨[0,1,2,3,4,5,11,12,13],by show List.Nodup [0,4,5,11,12,13];decide,rfl,?_,?_⟩
    · simp +contextual -implicitDefEqProofs only [q2,sm,seval,h3,hth]
    · simp +contextual -implicitDefEqProofs only [q2,sm,seval,AfY,h3,hth]
end Go.Proofs.YtcmphhedaefcgaaGreatDoor
end
section
namespace Go.Proofs.YtcmphhedaefcgaaGreatDoor
open Av
attribute [local irreducible] awp AbX
attribute [local irreducible] awX opX
set_option maxRecDepth 100000
set_option maxHeartbeats 4000000
theorem q3:(((((type_of% @BlY)∧((type_of% @BlX)∧(type_of% @BkQ)))∧((type_of% @bq_ff)∧((type_of% @bq_ft)∧(type_of% @bq_tf))))∧(((type_of% @bq_tt)∧((type_of% @fS_C)∧(type_of% @fS_D)))∧(((type_of% @fS_O)∧(type_of% @AsZ))∧((type_of% @BjQ)∧(type_of% @AlY)))))∧((((type_of% @AoZ)∧((type_of% @BjZ)∧(type_of% @AhX)))∧(((type_of% @AdZ)∧(type_of% @AdY))∧((type_of% @lS_C)∧(type_of% @lS_D))))∧(((type_of% @lS_O)∧((type_of% @lS_ask)∧(type_of% @lS_fx)))∧(((type_of% @BnZ)∧(type_of% @lS_kn))∧((type_of% @lS_sv)∧(type_of% @wB_eq)))))):=⟨⟨⟨⟨@BlY,⟨@BlX,@BkQ⟩⟩,⟨@bq_ff,⟨@bq_ft,@bq_tf⟩⟩⟩,⟨⟨@bq_tt,⟨@fS_C,@fS_D⟩⟩,⟨⟨@fS_O,@AsZ⟩,⟨@BjQ,@AlY⟩⟩⟩⟩,⟨⟨⟨@AoZ,⟨@BjZ,@AhX⟩⟩,⟨⟨@AdZ,@AdY⟩,⟨@lS_C,@lS_D⟩⟩⟩,⟨⟨@lS_O,⟨@lS_ask,@lS_fx⟩⟩,⟨⟨@BnZ,@lS_kn⟩,⟨@lS_sv,@wB_eq⟩⟩⟩⟩⟩
theorem bld_constants (l:List Ex) (t:Bool) (b:Bd) (hw:WfK b.kn) (hl:l.length≤1000000000000):Ctr Tryz.prog 65 (.ptr 9 0 0 0::[.list 4 (l.map eEx),.bool t]) (bB b) (.list 1 ((AyY l t b).1.map eI)) (bN (AyY l t b).2):=by
 refine AqY Tryz.func65 Tryz.call65 e_model_builder_constants ?_
 generalize hR:AyY l t b=R
 obtain ⟨r,bf⟩:=R
 simp only at hR ⊢
 simp +contextual -implicitDefEqProofs only [sm,BqZ,seval,BlY,BlX,BkQ,AdY,AdZ,AhX,fS_D,fS_C,fS_O,AoZ,BjQ,BjZ,AsZ,AlY]
 refine loop_ruleW [(7,1)] (fun p:Nat × List Int × Bd=>p.2.1.length=p.1∧p.1≤l.length∧p.2.2.kn=b.kn∧(p.2.1++(AyY (l.drop p.1) t p.2.2).1,(AyY (l.drop p.1) t p.2.2).2)=(r,bf))
  (fun p=>tm 25 [(0,.ptr 9 0 0 0),(2,.bool t),(7,.sl 1 9 0 p.2.1.length),(10,.list 4 (l.map eEx)),(11,.int .i64 l.length),(12,.int .i64 p.1)]) (fun p=>[some (9,[bS 6 7 8 p.2.2]),none,none,none,some (1,[.dat (p.2.2.kn.map fun x=>eBs x.1) (p.2.2.kn.map fun x=>eTh x.2)]),some (1,[.dat (p.2.2.fx.map fun x=>eI x.1) (p.2.2.fx.map fun x=>eI x.2)]),some (1,p.2.2.D.map eRgs),some (4,p.2.2.C.map eCon),some (4,p.2.2.O.map eOt),some (1,p.2.1.map eI)]) (fun p=>l.length-p.1) (0,[],b) (by simp +contextual -implicitDefEqProofs only [sm,seval,BlY,BlX,BkQ,AdY,AdZ,AhX,fS_D,fS_C,fS_O,AoZ,BjQ,BjZ,AsZ,AlY]) ⟨rfl,Nat.zero_le _,rfl,by rw [List.drop_zero];exact hR⟩ ⟨[0,1,2,3,4,5,1,2,3,6],by show List.Nodup [0,4,5,1,2,3,6];decide,rfl,?_,?_⟩ ?_
 · simp +contextual -implicitDefEqProofs only [q3,sm,seval,List.map_nil,List.length_nil]
 · simp +contextual -implicitDefEqProofs only [q3,sm,seval,Int.natCast_zero]
 rintro ⟨k,acc,b2⟩ ⟨ha,hk0,hkn,hJ⟩
 simp only at ha hk0 hkn hJ ⊢
 by_cases hlt:k<l.length
 · have hlt':(k:Int)<(l.length:Int):=by omega
   have e2:IntKind.i64.wrap ((k:Int)+1)=((k+1:Nat):Int):=by rw [AiY] <;> omega
   obtain ⟨x,hx⟩:∃ x,l[k]? = some x:=⟨_,List.getElem?_eq_getElem hlt⟩
   have hdr:l.drop k=x::l.drop (k+1):=by
    have h1:=(List.getElem?_eq_some_iff.1 hx).2
    rw [List.drop_eq_getElem_cons hlt,h1]
   rw [hdr,show AyY (x::l.drop (k+1)) t b2=((AhY x t b2).1::(AyY (l.drop (k+1)) t (AhY x t b2).2).1,(AyY (l.drop (k+1)) t (AhY x t b2).2).2) from rfl] at hJ
   have hone:=bld_constant x t b2 (by rw [hkn];exact hw)
   have hkn2:(AhY x t b2).2.kn=b.kn:=by rw [cS_kn];exact hkn
   generalize AhY x t b2=F at hJ hone hkn2
   obtain ⟨v,b3⟩:=F
   simp only at hJ hone hkn2
   have c1:(acc.length+1) * 8≤140737488355328:=by omega
   have c2:acc.length+1≤maxLen:=by unfold maxLen;omega
   have hm:acc.map eI++[AV.int .i64 v]=(acc++[v]).map eI:=by rw [List.map_append];rfl
   have hml:(acc++[v]).length=acc.length+1:=by rw [List.length_append];rfl
   subst ha
   simp +contextual -implicitDefEqProofs only [q3,sm,seval,hlt',hlt,hx,Option.map_some,AcQ]
   refine AaX [0,6,7,8,4,5] (hone) (by decide) ?_ ?_ ?_ ?_ ?_ ?_
   iterate 6 simp +contextual -implicitDefEqProofs only [sm,seval,BlY,BlX,BkQ,AdY,AdZ,AhX,fS_D,fS_C,fS_O,AoZ,BjQ,BjZ,AsZ,AlY,AcQ,hm,hml,c1,c2,e2]
   refine ⟨(acc.length+1,acc++[v],b3),⟨hml,by omega,hkn2,?_⟩,by simp only;omega,[0,1,2,3,4,5,11,12,13,14],by show List.Nodup [0,4,5,11,12,13,14];decide,rfl,?_,?_⟩
   · simp only
     rw [← hJ]
     simp
   · simp +contextual -implicitDefEqProofs only [q3,sm,seval]
   · simp +contextual -implicitDefEqProofs only [q3,sm,seval,hml]
 · have hkl:k=l.length:=by omega
   subst hkl
   rw [List.drop_length] at hJ
   injection hJ with h1 h2
   have h1':acc=r:=by rw [← h1];exact (List.append_nil _).symm
   have h2':b2=bf:=h2
   subst h1'
   subst h2'
   have hlf:¬ ((l.length:Int)<(l.length:Int)):=by omega
   simp +contextual -implicitDefEqProofs only [q3,sm,seval,hlf]
   refine ⟨[0,1,2,3,4,5,6,7,8],by show List.Nodup [0,4,5,6,7,8];decide,rfl,?_,?_⟩
   · simp +contextual -implicitDefEqProofs only [q3,sm,seval]
   · simp +contextual -implicitDefEqProofs only [q3,sm,seval,AfY]
theorem bld_variables (l:List Ex) (t:Bool) (b:Bd) (hw:WfK b.kn) (hl:l.length≤1000000000000):Ctr Tryz.prog 66 (.ptr 9 0 0 0::[.list 4 (l.map eEx),.bool t]) (bB b) (.list 1 ((varsS l t b).1.map eI)) (bN (varsS l t b).2):=by
 refine AqY Tryz.func66 Tryz.call66 e_model_builder_variables ?_
 generalize hR:varsS l t b=R
 obtain ⟨r,bf⟩:=R
 simp only at hR ⊢
 simp +contextual -implicitDefEqProofs only [sm,BqY,seval,BlY,BlX,BkQ,AdY,AdZ,AhX,fS_D,fS_C,fS_O,AoZ,BjQ,BjZ,AsZ,AlY]
 refine loop_ruleW [(7,1)] (fun p:Nat × List Int × Bd=>p.2.1.length=p.1∧p.1≤l.length∧p.2.2.kn=b.kn∧(p.2.1++(varsS (l.drop p.1) t p.2.2).1,(varsS (l.drop p.1) t p.2.2).2)=(r,bf))
  (fun p=>tm 25 [(0,.ptr 9 0 0 0),(2,.bool t),(7,.sl 1 9 0 p.2.1.length),(10,.list 4 (l.map eEx)),(11,.int .i64 l.length),(12,.int .i64 p.1)]) (fun p=>[some (9,[bS 6 7 8 p.2.2]),none,none,none,some (1,[.dat (p.2.2.kn.map fun x=>eBs x.1) (p.2.2.kn.map fun x=>eTh x.2)]),some (1,[.dat (p.2.2.fx.map fun x=>eI x.1) (p.2.2.fx.map fun x=>eI x.2)]),some (1,p.2.2.D.map eRgs),some (4,p.2.2.C.map eCon),some (4,p.2.2.O.map eOt),some (1,p.2.1.map eI)]) (fun p=>l.length-p.1) (0,[],b) (by simp +contextual -implicitDefEqProofs only [sm,seval,BlY,BlX,BkQ,AdY,AdZ,AhX,fS_D,fS_C,fS_O,AoZ,BjQ,BjZ,AsZ,AlY]) ⟨rfl,Nat.zero_le _,rfl,by rw [List.drop_zero];exact hR⟩ ⟨[0,1,2,3,4,5,1,2,3,6],by show List.Nodup [0,4,5,1,2,3,6];decide,rfl,?_,?_⟩ ?_
 · simp +contextual -implicitDefEqProofs only [q3,sm,seval,List.map_nil,List.length_nil]
 · simp +contextual -implicitDefEqProofs only [q3,sm,seval,Int.natCast_zero]
 rintro ⟨k,acc,b2⟩ ⟨ha,hk0,hkn,hJ⟩
 simp only at ha hk0 hkn hJ ⊢
 by_cases hlt:k<l.length
 · have hlt':(k:Int)<(l.length:Int):=by omega
   have e2:IntKind.i64.wrap ((k:Int)+1)=((k+1:Nat):Int):=by rw [AiY] <;> omega
   obtain ⟨x,hx⟩:∃ x,l[k]? = some x:=⟨_,List.getElem?_eq_getElem hlt⟩
   have hdr:l.drop k=x::l.drop (k+1):=by
    have h1:=(List.getElem?_eq_some_iff.1 hx).2
    rw [List.drop_eq_getElem_cons hlt,h1]
   rw [hdr,show varsS (x::l.drop (k+1)) t b2=((varS x t b2).1::(varsS (l.drop (k+1)) t (varS x t b2).2).1,(varsS (l.drop (k+1)) t (varS x t b2).2).2) from rfl] at hJ
   have hone:=bld_variable x t b2 (by rw [hkn];exact hw)
   have hkn2:(varS x t b2).2.kn=b.kn:=by rw [varS_kn];exact hkn
   generalize varS x t b2=F at hJ hone hkn2
   obtain ⟨v,b3⟩:=F
   simp only at hJ hone hkn2
   have c1:(acc.length+1) * 8≤140737488355328:=by omega
   have c2:acc.length+1≤maxLen:=by unfold maxLen;omega
   have hm:acc.map eI++[AV.int .i64 v]=(acc++[v]).map eI:=by rw [List.map_append];rfl
   have hml:(acc++[v]).length=acc.length+1:=by rw [List.length_append];rfl
   subst ha
   simp +contextual -implicitDefEqProofs only [q3,sm,seval,hlt',hlt,hx,Option.map_some,AcQ]
   refine AaX [0,6,7,8,4,5] (hone) (by decide) ?_ ?_ ?_ ?_ ?_ ?_
   iterate 6 simp +contextual -implicitDefEqProofs only [sm,seval,BlY,BlX,BkQ,AdY,AdZ,AhX,fS_D,fS_C,fS_O,AoZ,BjQ,BjZ,AsZ,AlY,AcQ,hm,hml,c1,c2,e2]
   refine ⟨(acc.length+1,acc++[v],b3),⟨hml,by omega,hkn2,?_⟩,by simp only;omega,[0,1,2,3,4,5,11,12,13,14],by show List.Nodup [0,4,5,11,12,13,14];decide,rfl,?_,?_⟩
   · simp only
     rw [← hJ]
     simp
   · simp +contextual -implicitDefEqProofs only [q3,sm,seval]
   · simp +contextual -implicitDefEqProofs only [q3,sm,seval,hml]
 · have hkl:k=l.length:=by omega
   subst hkl
   rw [List.drop_length] at hJ
   injection hJ with h1 h2
   have h1':acc=r:=by rw [← h1];exact (List.append_nil _).symm
   have h2':b2=bf:=h2
   subst h1'
   subst h2'
   have hlf:¬ ((l.length:Int)<(l.length:Int)):=by omega
   simp +contextual -implicitDefEqProofs only [q3,sm,seval,hlf]
   refine ⟨[0,1,2,3,4,5,6,7,8],by show List.Nodup [0,4,5,6,7,8];decide,rfl,?_,?_⟩
   · simp +contextual -implicitDefEqProofs only [q3,sm,seval]
   · simp +contextual -implicitDefEqProofs only [q3,sm,seval,AfY]
end Go.Proofs.YtcmphhedaefcgaaGreatDoor
end
section
namespace Go.Proofs.YtcmphhedaefcgaaGreatDoor
open Av
attribute [local irreducible] awp AbX
attribute [local irreducible] awX opX
set_option maxRecDepth 100000
set_option maxHeartbeats 4000000
theorem q5:((((type_of% @BlY)∧((type_of% @BlX)∧(type_of% @BkQ)))∧(((type_of% @fS_C)∧(type_of% @fS_D))∧((type_of% @fS_O)∧(type_of% @AsZ))))∧(((type_of% @BjQ)∧((type_of% @AlY)∧(type_of% @AoZ)))∧(((type_of% @BjZ)∧(type_of% @AhX))∧((type_of% @AdZ)∧(type_of% @AdY))))):=⟨⟨⟨@BlY,⟨@BlX,@BkQ⟩⟩,⟨⟨@fS_C,@fS_D⟩,⟨@fS_O,@AsZ⟩⟩⟩,⟨⟨@BjQ,⟨@AlY,@AoZ⟩⟩,⟨⟨@BjZ,@AhX⟩,⟨@AdZ,@AdY⟩⟩⟩⟩
theorem q4:(((((type_of% @BlY)∧((type_of% @BlX)∧(type_of% @BkQ)))∧((type_of% @bq_ff)∧((type_of% @bq_ft)∧(type_of% @bq_tf))))∧(((type_of% @bq_tt)∧((type_of% @fS_C)∧(type_of% @fS_D)))∧(((type_of% @fS_O)∧(type_of% @AsZ))∧((type_of% @BjQ)∧(type_of% @AlY)))))∧((((type_of% @AoZ)∧((type_of% @BjZ)∧(type_of% @AhX)))∧(((type_of% @AdZ)∧(type_of% @AdY))∧((type_of% @lS_C)∧(type_of% @lS_D))))∧(((type_of% @lS_O)∧((type_of% @lS_ask)∧(type_of% @lS_fx)))∧(((type_of% @BnZ)∧(type_of% @lS_kn))∧((type_of% @lS_sv)∧(type_of% @wB_eq)))))):=⟨⟨⟨⟨@BlY,⟨@BlX,@BkQ⟩⟩,⟨@bq_ff,⟨@bq_ft,@bq_tf⟩⟩⟩,⟨⟨@bq_tt,⟨@fS_C,@fS_D⟩⟩,⟨⟨@fS_O,@AsZ⟩,⟨@BjQ,@AlY⟩⟩⟩⟩,⟨⟨⟨@AoZ,⟨@BjZ,@AhX⟩⟩,⟨⟨@AdZ,@AdY⟩,⟨@lS_C,@lS_D⟩⟩⟩,⟨⟨@lS_O,⟨@lS_ask,@lS_fx⟩⟩,⟨⟨@BnZ,@lS_kn⟩,⟨@lS_sv,@wB_eq⟩⟩⟩⟩⟩
theorem eI_c (x:Int):(eI x).cells=[.int .i64 x]:=rfl
theorem eI_3:eI 3=.int .i64 3:=rfl
theorem eI_4:eI 4=.int .i64 4:=rfl
theorem idx_int (l:List Int) (x:Int) (hl:l.length≤1000000000000):∃ n:Int,Ctr Tryz.prog 145 [.list 1 (l.map eI),.int .i64 x] [] (.int .i64 n) []∧decide (0≤n)=decide (x∈l):=by
 suffices h:∃ n:Int,decide (0≤n)=decide (x∈l)∧awp Tryz.prog 0 BfZ.body (finP BfZ.res (.int .i64 n)) ([.list 1 (l.map eI),.int .i64 x]++List.replicate (BfZ.ntmps-2) .any) [] by
  obtain ⟨n,h1,h2⟩:=h
  exact ⟨n,AcZ Tryz.func145 Tryz.call145 e_slices_Index_sint_int h2,h1⟩
 by_cases hx:x∈l
 · obtain ⟨i,hi,hg,hmin⟩:∃ i,i<l.length∧l[i]? = some x∧∀ j,j<i→l[j]?≠some x:=by
    obtain ⟨i,h1,h2⟩:=least_ex (p:=fun i=>l[i]? = some x) (List.getElem?_of_mem hx)
    refine ⟨i,?_,h1,fun j hj h=>by have:=h2 j h;omega⟩
    exact (List.getElem?_eq_some_iff.mp h1).1
   refine ⟨i,by simp [hx],?_⟩
   simp +contextual -implicitDefEqProofs only [sm,BfZ,seval]
   refine BbZ (fun k:Nat=>k≤i) (fun k=>tm 19 [(0,.list 1 (l.map eI)),(1,.int .i64 x),(7,.int .i64 l.length),(8,.int .i64 k)]) (fun _=>[]) (fun k=>l.length-k) 0 (Nat.zero_le _) ⟨[],by decide,rfl,?_,?_⟩ ?_
   · simp +contextual -implicitDefEqProofs only [sm,seval]
   · simp +contextual -implicitDefEqProofs only [sm,seval,Int.natCast_zero]
   · intro k hk
     have hkl:(k:Int)<(l.length:Int):=by omega
     obtain ⟨y,hy⟩:∃ y,l[k]? = some y:=⟨l[k],List.getElem?_eq_getElem (by omega)⟩
     have hyx:(x=y)↔k=i:=by
      constructor
      · intro h
        by_cases hki:k=i
        · exact hki
        · exact absurd (h ▸ hy) (hmin k (by omega))
      · intro h;subst h;rw [hg] at hy;injection hy
     have hw:=AiY (n:=(k:Int)+1) (by omega) (by omega)
     by_cases hki:k=i
     · have hxy:=hyx.2 hki
       subst hki
       subst hxy
       simp +contextual -implicitDefEqProofs only [sm,seval,hkl,hy,List.getElem?_map,Option.map_some,eI_c]
     · have hxy:¬ x=y:=fun h=>hki (hyx.1 h)
       simp +contextual -implicitDefEqProofs only [sm,seval,hkl,hy,List.getElem?_map,Option.map_some,eI_c,hxy,hw]
       refine ⟨k+1,by omega,by omega,[],by decide,rfl,?_,?_⟩
       · simp +contextual -implicitDefEqProofs only [sm,seval]
       · simp +contextual -implicitDefEqProofs only [sm,seval,Int.natCast_add,Int.natCast_one]
 · refine ⟨-1,by simp [hx],?_⟩
   simp +contextual -implicitDefEqProofs only [sm,BfZ,seval]
   refine BbZ (fun k:Nat=>k≤l.length) (fun k=>tm 19 [(0,.list 1 (l.map eI)),(1,.int .i64 x),(7,.int .i64 l.length),(8,.int .i64 k)]) (fun _=>[]) (fun k=>l.length-k) 0 (Nat.zero_le _) ⟨[],by decide,rfl,?_,?_⟩ ?_
   · simp +contextual -implicitDefEqProofs only [sm,seval]
   · simp +contextual -implicitDefEqProofs only [sm,seval,Int.natCast_zero]
   · intro k hk
     by_cases hkl:(k:Int)<(l.length:Int)
     · obtain ⟨y,hy⟩:∃ y,l[k]? = some y:=⟨l[k],List.getElem?_eq_getElem (by omega)⟩
       have hxy:¬ x=y:=fun h=>hx (h ▸ List.mem_of_getElem? hy)
       have hw:=AiY (n:=(k:Int)+1) (by omega) (by omega)
       simp +contextual -implicitDefEqProofs only [sm,seval,hkl,hy,List.getElem?_map,Option.map_some,eI_c,hxy,hw]
       refine ⟨k+1,by omega,by omega,[],by decide,rfl,?_,?_⟩
       · simp +contextual -implicitDefEqProofs only [sm,seval]
       · simp +contextual -implicitDefEqProofs only [sm,seval,Int.natCast_add,Int.natCast_one]
     · simp +contextual -implicitDefEqProofs only [sm,seval,hkl]
theorem cont_int (l:List Int) (x:Int) (hl:l.length≤1000000000000):Ctr Tryz.prog 127 [.list 1 (l.map eI),.int .i64 x] [] (.bool (decide (x∈l))) []:=by
 refine AcZ Tryz.func127 Tryz.call127 e_slices_Contains_sint_int ?_
 obtain ⟨n,h1,h2⟩:=idx_int l x hl
 simp +contextual -implicitDefEqProofs only [sm,BmZ,seval]
 refine AaY h1 (AaQ _) rfl ?_
 simp +contextual -implicitDefEqProofs only [sm,seval,ge_iff_le,h2]
theorem arrS_kn (x:Ex) (t:Bool) (ks:List Int) (b:Bd):(arrS x t ks b).2.kn=b.kn:=by
 unfold arrS
 split <;> simp only [AoZ,lS_kn]
theorem bld_array (x:Ex) (t:Bool) (ks:List Int) (b:Bd) (hks:ks.length≤1000000000000):Ctr Tryz.prog 102 (.ptr 9 0 0 0::[eEx x,.bool t,.list 1 (ks.map eI)]) (bB b) (.tuple [eTh (thOf x.s b),.bool (arrS x t ks b).1]) (bN (arrS x t ks b).2):=by
 refine AqY Tryz.func102 Tryz.call102 e_model_builder_array ?_
 have hth:=BdQ (thOf x.s b)
 cases hl:lookR x.s b with
 |
  false =>
  have hE:arrS x t ks b=(false,AqX x.s b):=by simp [arrS,hl]
  rw [hE]
  simp +contextual -implicitDefEqProofs only [q5,sm,AzY,AcQ,hth,seval]
  refine AaX [0,1,2,3,4,5] (bld_look x.s b) (by decide) ?_ ?_ ?_ ?_ ?_ ?_
  iterate 6 simp +contextual -implicitDefEqProofs only [q4,sm,seval,hth,hl]
  refine ⟨[0,1,2,3,4,5,8,9,10],by show List.Nodup [0,4,5,8,9,10];decide,rfl,?_,?_⟩
  · simp +contextual -implicitDefEqProofs only [q4,sm,seval,hth,hl]
  · simp +contextual -implicitDefEqProofs only [q4,sm,seval,AfY,hth,hl]
 |
  true =>
  have hc:=cont_int ks (thOf x.s b).kind hks
  by_cases hk:(thOf x.s b).kind∈ks
  · have ho:arrOk ks t (thOf x.s b)=((thOf x.s b).truth == t):=by simp [arrOk,hk]
    have hE:arrS x t ks b=(!AuY ((thOf x.s b).truth == t) 9 (AqX x.s b),AbQ ((thOf x.s b).truth == t) 9 (AqX x.s b)):=by simp [arrS,hl,ho]
    rw [hE]
    rw [decide_eq_true hk] at hc
    simp +contextual -implicitDefEqProofs only [q5,sm,AzY,AcQ,hth,seval]
    refine AaX [0,1,2,3,4,5] (bld_look x.s b) (by decide) ?_ ?_ ?_ ?_ ?_ ?_
    iterate 6 simp +contextual -implicitDefEqProofs only [q4,sm,seval,hth,hl]
    refine AaY hc (AaQ _) rfl ?_
    simp +contextual -implicitDefEqProofs only [q4,sm,seval,hth]
    refine AaX [0,8,9,10,4,5] (AcX ((thOf x.s b).truth == t) 9 (AqX x.s b)) (by decide) ?_ ?_ ?_ ?_ ?_ ?_
    iterate 6 simp +contextual -implicitDefEqProofs only [q4,sm,seval,hth]
    refine ⟨[0,1,2,3,4,5,12,13,14],by show List.Nodup [0,4,5,12,13,14];decide,rfl,?_,?_⟩
    · simp +contextual -implicitDefEqProofs only [q4,sm,seval,hth]
    · simp +contextual -implicitDefEqProofs only [q4,sm,seval,AfY,hth]
  · have ho:arrOk ks t (thOf x.s b)=(false):=by simp [arrOk,hk]
    have hE:arrS x t ks b=(!AuY (false) 9 (AqX x.s b),AbQ (false) 9 (AqX x.s b)):=by simp [arrS,hl,ho]
    rw [hE]
    rw [decide_eq_false hk] at hc
    simp +contextual -implicitDefEqProofs only [q5,sm,AzY,AcQ,hth,seval]
    refine AaX [0,1,2,3,4,5] (bld_look x.s b) (by decide) ?_ ?_ ?_ ?_ ?_ ?_
    iterate 6 simp +contextual -implicitDefEqProofs only [q4,sm,seval,hth,hl]
    refine AaY hc (AaQ _) rfl ?_
    simp +contextual -implicitDefEqProofs only [q4,sm,seval,hth]
    refine AaX [0,8,9,10,4,5] (AcX (false) 9 (AqX x.s b)) (by decide) ?_ ?_ ?_ ?_ ?_ ?_
    iterate 6 simp +contextual -implicitDefEqProofs only [q4,sm,seval,hth]
    refine ⟨[0,1,2,3,4,5,12,13,14],by show List.Nodup [0,4,5,12,13,14];decide,rfl,?_,?_⟩
    · simp +contextual -implicitDefEqProofs only [q4,sm,seval,hth]
    · simp +contextual -implicitDefEqProofs only [q4,sm,seval,AfY,hth]
theorem pe_ex (l:List Pe):(l.map Pe.ex).map eEx=l.map ePe:=by rw [List.map_map];rfl
theorem bld_ints (x:Ex) (b:Bd) (hw:WfK b.kn) (hl:x.l.length≤1000000000000):Ctr Tryz.prog 70 (.ptr 9 0 0 0::[eEx x]) (bB b) (.list 1 ((intsS x b).1.map eI)) (bN (intsS x b).2):=by
 refine AqY Tryz.func70 Tryz.call70 e_model_builder_ints ?_
 by_cases h4:x.k=4
 · have hE:intsS x b=AyY (x.l.map Pe.ex) false b:=by simp [intsS,h4]
   have hc:=bld_constants (x.l.map Pe.ex) false b hw (by rw [List.length_map];exact hl)
   rw [pe_ex] at hc
   rw [hE]
   simp +contextual -implicitDefEqProofs only [q5,sm,BpX,AcQ,h4,seval]
   refine AaX [0,1,2,3,4,5] (hc) (by decide) ?_ ?_ ?_ ?_ ?_ ?_
   iterate 6 simp +contextual -implicitDefEqProofs only [q4,sm,seval]
   refine ⟨[0,1,2,3,4,5,7,8,9],by show List.Nodup [0,4,5,7,8,9];decide,rfl,?_,?_⟩
   · simp +contextual -implicitDefEqProofs only [q4,sm,seval]
   · simp +contextual -implicitDefEqProofs only [q4,sm,seval,AfY]
 · have hE:intsS x b=((thOf x.s b).vals,(arrS x false [3] b).2):=by simp [intsS,h4]
   have hc:=bld_array x false [3] b (by simp)
   have hth:=BdQ (thOf x.s b)
   rw [hE]
   simp +contextual -implicitDefEqProofs only [q5,sm,BpX,AcQ,h4,seval]
   refine AaX [0,1,2,3,4,5] (hc) (by decide) ?_ ?_ ?_ ?_ ?_ ?_
   iterate 6 simp +contextual -implicitDefEqProofs only [q4,sm,seval,hth,AcQ,eI_3,eI_4,List.map_cons,List.map_nil]
   refine ⟨[0,1,2,3,4,5,7,8,9],by show List.Nodup [0,4,5,7,8,9];decide,rfl,?_,?_⟩
   · simp +contextual -implicitDefEqProofs only [q4,sm,seval,hth]
   · simp +contextual -implicitDefEqProofs only [q4,sm,seval,AfY,hth]
theorem bld_many (x:Ex) (t:Bool) (b:Bd) (hw:WfK b.kn) (hl:x.l.length≤1000000000000):Ctr Tryz.prog 71 (.ptr 9 0 0 0::[eEx x,.bool t]) (bB b) (.list 1 ((manyS x t b).1.map eI)) (bN (manyS x t b).2):=by
 refine AqY Tryz.func71 Tryz.call71 e_model_builder_many ?_
 by_cases h4:x.k=4
 · have hE:manyS x t b=varsS (x.l.map Pe.ex) t b:=by simp [manyS,h4]
   have hc:=bld_variables (x.l.map Pe.ex) t b hw (by rw [List.length_map];exact hl)
   rw [pe_ex] at hc
   rw [hE]
   simp +contextual -implicitDefEqProofs only [q5,sm,AuZ,AcQ,h4,seval]
   refine AaX [0,1,2,3,4,5] (hc) (by decide) ?_ ?_ ?_ ?_ ?_ ?_
   iterate 6 simp +contextual -implicitDefEqProofs only [q4,sm,seval]
   refine ⟨[0,1,2,3,4,5,7,8,9],by show List.Nodup [0,4,5,7,8,9];decide,rfl,?_,?_⟩
   · simp +contextual -implicitDefEqProofs only [q4,sm,seval]
   · simp +contextual -implicitDefEqProofs only [q4,sm,seval,AfY]
 · have hc:=bld_array x t [3,4] b (by simp)
   have hkn:=arrS_kn x t [3,4] b
   have hvl:=(wf_len hw x.s).1
   have hE:manyS x t b=if (!(arrS x t [3,4] b).1 || decide ((thOf x.s b).kind=4))=true then ((thOf x.s b).x,(arrS x t [3,4] b).2) else pinsS (thOf x.s b).vals (arrS x t [3,4] b).2:=by simp only [manyS,if_neg h4]
   rw [hE]
   clear hE
   generalize arrS x t [3,4] b=F at hc hkn ⊢
   obtain ⟨ok,b1⟩:=F
   simp only at hc hkn ⊢
   generalize thOf x.s b=th at hc hvl ⊢
   have hth:=BdQ th
   rw [hth] at hc
   cases ok with
   |
    false =>
    simp only [Bool.not_false,Bool.true_or,if_true]
    simp +contextual -implicitDefEqProofs only [q5,sm,AuZ,AcQ,h4,seval]
    refine AaX [0,1,2,3,4,5] (hc) (by decide) ?_ ?_ ?_ ?_ ?_ ?_
    iterate 6 simp +contextual -implicitDefEqProofs only [q4,sm,seval,AcQ,eI_3,eI_4,List.map_cons,List.map_nil]
    refine ⟨[0,1,2,3,4,5,7,8,9],by show List.Nodup [0,4,5,7,8,9];decide,rfl,?_,?_⟩
    · simp +contextual -implicitDefEqProofs only [q4,sm,seval]
    · simp +contextual -implicitDefEqProofs only [q4,sm,seval,AfY]
   |
    true =>
    by_cases hk:th.kind=4
    · simp only [hk,Bool.not_true,Bool.false_or,decide_true,if_true]
      simp +contextual -implicitDefEqProofs only [q5,sm,AuZ,AcQ,h4,seval]
      refine AaX [0,1,2,3,4,5] (hc) (by decide) ?_ ?_ ?_ ?_ ?_ ?_
      iterate 6 simp +contextual -implicitDefEqProofs only [q4,sm,seval,AcQ,hk,eI_3,eI_4,List.map_cons,List.map_nil]
      refine ⟨[0,1,2,3,4,5,7,8,9],by show List.Nodup [0,4,5,7,8,9];decide,rfl,?_,?_⟩
      · simp +contextual -implicitDefEqProofs only [q4,sm,seval]
      · simp +contextual -implicitDefEqProofs only [q4,sm,seval,AfY]
    · simp only [hk,Bool.not_true,Bool.false_or,decide_false,Bool.false_eq_true,if_false]
      generalize hR:pinsS th.vals b1=R
      obtain ⟨r,bf⟩:=R
      simp only at hR ⊢
      simp +contextual -implicitDefEqProofs only [q5,sm,AuZ,AcQ,h4,seval]
      refine AaX [0,1,2,3,4,5] (hc) (by decide) ?_ ?_ ?_ ?_ ?_ ?_
      iterate 6 simp +contextual -implicitDefEqProofs only [q4,sm,seval,AcQ,hk,eI_3,eI_4,List.map_cons,List.map_nil]
      refine loop_ruleW [(9,1)] (fun p:Nat × List Int × Bd=>p.2.1.length=p.1∧p.1≤th.vals.length∧p.2.2.kn=b.kn∧(p.2.1++(pinsS (th.vals.drop p.1) p.2.2).1,(pinsS (th.vals.drop p.1) p.2.2).2)=(r,bf))
       (fun p=>tm 52 [(0,.ptr 9 0 0 0),(9,.sl 1 9 0 p.2.1.length),(38,.list 1 (th.vals.map eI)),(39,.int .i64 th.vals.length),(40,.int .i64 p.1)]) (fun p=>[some (9,[bS 6 7 8 p.2.2]),none,none,none,some (1,[.dat (p.2.2.kn.map fun x=>eBs x.1) (p.2.2.kn.map fun x=>eTh x.2)]),some (1,[.dat (p.2.2.fx.map fun x=>eI x.1) (p.2.2.fx.map fun x=>eI x.2)]),some (1,p.2.2.D.map eRgs),some (4,p.2.2.C.map eCon),some (4,p.2.2.O.map eOt),some (1,p.2.1.map eI)]) (fun p=>th.vals.length-p.1) (0,[],b1) (by simp +contextual -implicitDefEqProofs only [q5,sm,seval]) ⟨rfl,Nat.zero_le _,hkn,by rw [List.drop_zero];exact hR⟩ ⟨[0,1,2,3,4,5,7,8,9,11],by show List.Nodup [0,4,5,7,8,9,11];decide,rfl,?_,?_⟩ ?_
      · simp +contextual -implicitDefEqProofs only [q4,sm,seval,List.map_nil,List.length_nil]
      · simp +contextual -implicitDefEqProofs only [q4,sm,seval,Int.natCast_zero]
      rintro ⟨k,acc,b2⟩ ⟨ha,hk0,hkn,hJ⟩
      simp only at ha hk0 hkn hJ ⊢
      by_cases hlt:k<th.vals.length
      · have hlt':(k:Int)<(th.vals.length:Int):=by omega
        have e2:IntKind.i64.wrap ((k:Int)+1)=((k+1:Nat):Int):=by rw [AiY] <;> omega
        obtain ⟨y,hx⟩:∃ y,th.vals[k]? = some y:=⟨_,List.getElem?_eq_getElem hlt⟩
        have hdr:th.vals.drop k=y::th.vals.drop (k+1):=by
         have h1:=(List.getElem?_eq_some_iff.1 hx).2
         rw [List.drop_eq_getElem_cons hlt,h1]
        rw [hdr,show pinsS (y::th.vals.drop (k+1)) b2=((pinS y b2).1::(pinsS (th.vals.drop (k+1)) (pinS y b2).2).1,(pinsS (th.vals.drop (k+1)) (pinS y b2).2).2) from rfl] at hJ
        have hone:=bld_pinned y b2
        have hkn2:(pinS y b2).2.kn=b.kn:=by rw [pinS_kn];exact hkn
        generalize pinS y b2=F at hJ hone hkn2
        obtain ⟨v,b3⟩:=F
        simp only at hJ hone hkn2
        have c1:(acc.length+1) * 8≤140737488355328:=by omega
        have c2:acc.length+1≤maxLen:=by unfold maxLen;omega
        have hm:acc.map eI++[AV.int .i64 v]=(acc++[v]).map eI:=by rw [List.map_append];rfl
        have hml:(acc++[v]).length=acc.length+1:=by rw [List.length_append];rfl
        subst ha
        simp +contextual -implicitDefEqProofs only [q4,sm,seval,hlt',hlt,hx,Option.map_some,eI_c]
        refine AaX [0,6,7,8,4,5] (hone) (by decide) ?_ ?_ ?_ ?_ ?_ ?_
        iterate 6 simp +contextual -implicitDefEqProofs only [q5,sm,seval,hm,hml,c1,c2,e2]
        refine ⟨(acc.length+1,acc++[v],b3),⟨hml,by omega,hkn2,?_⟩,by simp only;omega,[0,1,2,3,4,5,10,11,12,13],by show List.Nodup [0,4,5,10,11,12,13];decide,rfl,?_,?_⟩
        · simp only
          rw [← hJ]
          simp
        · simp +contextual -implicitDefEqProofs only [q4,sm,seval]
        · simp +contextual -implicitDefEqProofs only [q4,sm,seval,hml]
      · have hkl:k=th.vals.length:=by omega
        subst hkl
        rw [List.drop_length] at hJ
        injection hJ with h1 h2
        have h1':acc=r:=by rw [← h1];exact (List.append_nil _).symm
        have h2':b2=bf:=h2
        subst h1'
        subst h2'
        have hlf:¬ ((th.vals.length:Int)<(th.vals.length:Int)):=by omega
        simp +contextual -implicitDefEqProofs only [q4,sm,seval,hlf]
        refine ⟨[0,1,2,3,4,5,6,7,8],by show List.Nodup [0,4,5,6,7,8];decide,rfl,?_,?_⟩
        · simp +contextual -implicitDefEqProofs only [q4,sm,seval]
        · simp +contextual -implicitDefEqProofs only [q4,sm,seval,AfY]
end Go.Proofs.YtcmphhedaefcgaaGreatDoor
end
section
namespace Go.Proofs.YtcmphhedaefcgaaGreatDoor
open Av
attribute [local irreducible] awp AbX
attribute [local irreducible] awX opX
set_option maxRecDepth 100000
set_option maxHeartbeats 4000000
theorem bld_form (s:Bs):Ctr Tryz.prog 67 [.str (S8 s)] [] (.tuple [.int .i64 (AlX s).1,.str (S8 (AlX s).2)]) []:=by
 refine AcZ Tryz.func67 Tryz.call67 e_model_form ?_
 by_cases h0:s=[105,110,116,95,101,113]
 · have q:=eq_true h0
   have hE:AlX s=(15,[120,120]):=by simp only [AlX,formF,forms,q,if_true]
   clear h0
   rw [hE]
   simp +contextual -implicitDefEqProofs only [sm,AgX,seval,S8_eq,q]
 · skip
   by_cases h1:s=[98,111,111,108,95,101,113]
   · have q:=eq_true h1
     have hE:AlX s=(15,[98,98]):=by simp only [AlX,formF,forms,h0];simp only [q,if_true,if_false]
     clear h1
     rw [hE]
     simp +contextual -implicitDefEqProofs only [sm,AgX,seval,S8_eq,q,h0]
   · skip
     by_cases h2:s=[98,111,111,108,50,105,110,116]
     · have q:=eq_true h2
       have hE:AlX s=(15,[98,120]):=by simp only [AlX,formF,forms,h0,h1];simp only [q,if_true,if_false]
       clear h2
       rw [hE]
       simp +contextual -implicitDefEqProofs only [sm,AgX,seval,S8_eq,q,h0,h1]
     · skip
       by_cases h3:s=[105,110,116,95,108,105,110,95,101,113]
       · have q:=eq_true h3
         have hE:AlX s=(1,[73,88,105]):=by simp only [AlX,formF,forms,h0,h1,h2];simp only [q,if_true,if_false]
         clear h3
         rw [hE]
         simp +contextual -implicitDefEqProofs only [sm,AgX,seval,S8_eq,q,h0,h1,h2]
       · skip
         by_cases h4:s=[105,110,116,95,108,105,110,95,108,101]
         · have q:=eq_true h4
           have hE:AlX s=(2,[73,88,105]):=by simp only [AlX,formF,forms,h0,h1,h2,h3];simp only [q,if_true,if_false]
           clear h4
           rw [hE]
           simp +contextual -implicitDefEqProofs only [sm,AgX,seval,S8_eq,q,h0,h1,h2,h3]
         · skip
           by_cases h5:s=[105,110,116,95,108,105,110,95,110,101]
           · have q:=eq_true h5
             have hE:AlX s=(3,[73,88,105]):=by simp only [AlX,formF,forms,h0,h1,h2,h3,h4];simp only [q,if_true,if_false]
             clear h5
             rw [hE]
             simp +contextual -implicitDefEqProofs only [sm,AgX,seval,S8_eq,q,h0,h1,h2,h3,h4]
           · skip
             by_cases h6:s=[105,110,116,95,108,105,110,95,101,113,95,114,101,105,102]
             · have q:=eq_true h6
               have hE:AlX s=(4,[73,88,105,98]):=by simp only [AlX,formF,forms,h0,h1,h2,h3,h4,h5];simp only [q,if_true,if_false]
               clear h6
               rw [hE]
               simp +contextual -implicitDefEqProofs only [sm,AgX,seval,S8_eq,q,h0,h1,h2,h3,h4,h5]
             · skip
               by_cases h7:s=[105,110,116,95,108,105,110,95,108,101,95,114,101,105,102]
               · have q:=eq_true h7
                 have hE:AlX s=(5,[73,88,105,98]):=by simp only [AlX,formF,forms,h0,h1,h2,h3,h4,h5,h6];simp only [q,if_true,if_false]
                 clear h7
                 rw [hE]
                 simp +contextual -implicitDefEqProofs only [sm,AgX,seval,S8_eq,q,h0,h1,h2,h3,h4,h5,h6]
               · skip
                 by_cases h8:s=[105,110,116,95,108,105,110,95,108,101,95,105,109,112]
                 · have q:=eq_true h8
                   have hE:AlX s=(6,[73,88,105,98]):=by simp only [AlX,formF,forms,h0,h1,h2,h3,h4,h5,h6,h7];simp only [q,if_true,if_false]
                   clear h8
                   rw [hE]
                   simp +contextual -implicitDefEqProofs only [sm,AgX,seval,S8_eq,q,h0,h1,h2,h3,h4,h5,h6,h7]
                 · skip
                   by_cases h9:s=[105,110,116,95,116,105,109,101,115]
                   · have q:=eq_true h9
                     have hE:AlX s=(7,[120,120,120]):=by simp only [AlX,formF,forms,h0,h1,h2,h3,h4,h5,h6,h7,h8];simp only [q,if_true,if_false]
                     clear h9
                     rw [hE]
                     simp +contextual -implicitDefEqProofs only [sm,AgX,seval,S8_eq,q,h0,h1,h2,h3,h4,h5,h6,h7,h8]
                   · skip
                     by_cases h10:s=[105,110,116,95,109,105,110]
                     · have q:=eq_true h10
                       have hE:AlX s=(8,[120,120,120]):=by simp only [AlX,formF,forms,h0,h1,h2,h3,h4,h5,h6,h7,h8,h9];simp only [q,if_true,if_false]
                       clear h10
                       rw [hE]
                       simp +contextual -implicitDefEqProofs only [sm,AgX,seval,S8_eq,q,h0,h1,h2,h3,h4,h5,h6,h7,h8,h9]
                     · skip
                       by_cases h11:s=[105,110,116,95,109,97,120]
                       · have q:=eq_true h11
                         have hE:AlX s=(9,[120,120,120]):=by simp only [AlX,formF,forms,h0,h1,h2,h3,h4,h5,h6,h7,h8,h9,h10];simp only [q,if_true,if_false]
                         clear h11
                         rw [hE]
                         simp +contextual -implicitDefEqProofs only [sm,AgX,seval,S8_eq,q,h0,h1,h2,h3,h4,h5,h6,h7,h8,h9,h10]
                       · skip
                         by_cases h12:s=[105,110,116,95,97,98,115]
                         · have q:=eq_true h12
                           have hE:AlX s=(10,[120,120]):=by simp only [AlX,formF,forms,h0,h1,h2,h3,h4,h5,h6,h7,h8,h9,h10,h11];simp only [q,if_true,if_false]
                           clear h12
                           rw [hE]
                           simp +contextual -implicitDefEqProofs only [sm,AgX,seval,S8_eq,q,h0,h1,h2,h3,h4,h5,h6,h7,h8,h9,h10,h11]
                         · skip
                           by_cases h13:s=[98,111,111,108,95,99,108,97,117,115,101]
                           · have q:=eq_true h13
                             have hE:AlX s=(11,[66,66]):=by simp only [AlX,formF,forms,h0,h1,h2,h3,h4,h5,h6,h7,h8,h9,h10,h11,h12];simp only [q,if_true,if_false]
                             clear h13
                             rw [hE]
                             simp +contextual -implicitDefEqProofs only [sm,AgX,seval,S8_eq,q,h0,h1,h2,h3,h4,h5,h6,h7,h8,h9,h10,h11,h12]
                           · skip
                             by_cases h14:s=[97,114,114,97,121,95,98,111,111,108,95,97,110,100]
                             · have q:=eq_true h14
                               have hE:AlX s=(12,[66,98]):=by simp only [AlX,formF,forms,h0,h1,h2,h3,h4,h5,h6,h7,h8,h9,h10,h11,h12,h13];simp only [q,if_true,if_false]
                               clear h14
                               rw [hE]
                               simp +contextual -implicitDefEqProofs only [sm,AgX,seval,S8_eq,q,h0,h1,h2,h3,h4,h5,h6,h7,h8,h9,h10,h11,h12,h13]
                             · skip
                               by_cases h15:s=[97,114,114,97,121,95,98,111,111,108,95,111,114]
                               · have q:=eq_true h15
                                 have hE:AlX s=(13,[66,98]):=by simp only [AlX,formF,forms,h0,h1,h2,h3,h4,h5,h6,h7,h8,h9,h10,h11,h12,h13,h14];simp only [q,if_true,if_false]
                                 clear h15
                                 rw [hE]
                                 simp +contextual -implicitDefEqProofs only [sm,AgX,seval,S8_eq,q,h0,h1,h2,h3,h4,h5,h6,h7,h8,h9,h10,h11,h12,h13,h14]
                               · skip
                                 by_cases h16:s=[98,111,111,108,95,120,111,114]
                                 · have q:=eq_true h16
                                   have hE:AlX s=(14,[98,98,98]):=by simp only [AlX,formF,forms,h0,h1,h2,h3,h4,h5,h6,h7,h8,h9,h10,h11,h12,h13,h14,h15];simp only [q,if_true,if_false]
                                   clear h16
                                   rw [hE]
                                   simp +contextual -implicitDefEqProofs only [sm,AgX,seval,S8_eq,q,h0,h1,h2,h3,h4,h5,h6,h7,h8,h9,h10,h11,h12,h13,h14,h15]
                                 · skip
                                   by_cases h17:s=[97,114,114,97,121,95,105,110,116,95,101,108,101,109,101,110,116]
                                   · have q:=eq_true h17
                                     have hE:AlX s=(16,[120,73,120]):=by simp only [AlX,formF,forms,h0,h1,h2,h3,h4,h5,h6,h7,h8,h9,h10,h11,h12,h13,h14,h15,h16];simp only [q,if_true,if_false]
                                     clear h17
                                     rw [hE]
                                     simp +contextual -implicitDefEqProofs only [sm,AgX,seval,S8_eq,q,h0,h1,h2,h3,h4,h5,h6,h7,h8,h9,h10,h11,h12,h13,h14,h15,h16]
                                   · skip
                                     by_cases h18:s=[97,114,114,97,121,95,118,97,114,95,105,110,116,95,101,108,101,109,101,110,116]
                                     · have q:=eq_true h18
                                       have hE:AlX s=(17,[120,88,120]):=by simp only [AlX,formF,forms,h0,h1,h2,h3,h4,h5,h6,h7,h8,h9,h10,h11,h12,h13,h14,h15,h16,h17];simp only [q,if_true,if_false]
                                       clear h18
                                       rw [hE]
                                       simp +contextual -implicitDefEqProofs only [sm,AgX,seval,S8_eq,q,h0,h1,h2,h3,h4,h5,h6,h7,h8,h9,h10,h11,h12,h13,h14,h15,h16,h17]
                                     · skip
                                       by_cases h19:s=[102,122,110,95,97,108,108,95,100,105,102,102,101,114,101,110,116,95,105,110,116]
                                       · have q:=eq_true h19
                                         have hE:AlX s=(18,[88]):=by simp only [AlX,formF,forms,h0,h1,h2,h3,h4,h5,h6,h7,h8,h9,h10,h11,h12,h13,h14,h15,h16,h17,h18];simp only [q,if_true,if_false]
                                         clear h19
                                         rw [hE]
                                         simp +contextual -implicitDefEqProofs only [sm,AgX,seval,S8_eq,q,h0,h1,h2,h3,h4,h5,h6,h7,h8,h9,h10,h11,h12,h13,h14,h15,h16,h17,h18]
                                       · skip
                                         by_cases h20:s=[102,122,110,95,99,117,109,117,108,97,116,105,118,101]
                                         · have q:=eq_true h20
                                           have hE:AlX s=(19,[88,73,73,105]):=by simp only [AlX,formF,forms,h0,h1,h2,h3,h4,h5,h6,h7,h8,h9,h10,h11,h12,h13,h14,h15,h16,h17,h18,h19];simp only [q,if_true,if_false]
                                           clear h20
                                           rw [hE]
                                           simp +contextual -implicitDefEqProofs only [sm,AgX,seval,S8_eq,q,h0,h1,h2,h3,h4,h5,h6,h7,h8,h9,h10,h11,h12,h13,h14,h15,h16,h17,h18,h19]
                                         · skip
                                           have hE:AlX s=(0,[]):=by simp only [AlX,formF,forms,h0,h1,h2,h3,h4,h5,h6,h7,h8,h9,h10,h11,h12,h13,h14,h15,h16,h17,h18,h19,h20,if_false]
                                           rw [hE]
                                           simp +contextual -implicitDefEqProofs only [sm,AgX,seval,S8_eq,h0,h1,h2,h3,h4,h5,h6,h7,h8,h9,h10,h11,h12,h13,h14,h15,h16,h17,h18,h19,h20]
theorem fitAll_cons (x:Ex) (l:List Ex) (c:UInt8) (r:Bs):fitAll (x::l) (c::r)=if fitL x c=true then fitAll l r else false:=rfl
theorem bld_fits (l:List Ex) (a:Bs) (hl:l.length≤1000000000000):Ctr Tryz.prog 68 [.list 4 (l.map eEx),.str (S8 a)] [] (.bool (fitsM l a)) []:=by
 refine AcZ Tryz.func68 Tryz.call68 e_model_fits ?_
 by_cases hn:l.length=a.length
 · have hn':((l.length:Int)=(a.length:Int)):=by omega
   have hE:fitsM l a=fitAll l a:=by unfold fitsM;rw [if_neg (by simp [hn])]
   rw [hE]
   generalize hR:fitAll l a=R
   simp +contextual -implicitDefEqProofs only [sm,c_model_fits,seval,hn]
   refine BbZ (fun k:Nat=>k≤l.length∧fitAll (l.drop k) (a.drop k)=R) (fun k=>tm 38 [(1,.str (S8 a)),(12,.list 4 (l.map eEx)),(13,.int .i64 l.length),(14,.int .i64 k)]) (fun _=>[]) (fun k=>l.length-k) 0 ⟨Nat.zero_le _,hR⟩ ⟨[],by decide,rfl,?_,?_⟩ ?_
   · simp +contextual -implicitDefEqProofs only [sm,seval]
   · simp +contextual -implicitDefEqProofs only [sm,seval,Int.natCast_zero,hn]
   rintro k ⟨hk0,hJ⟩
   by_cases hlt:k<l.length
   · have hlt':(k:Int)<(l.length:Int):=by omega
     have hlt2:(k:Int)<(a.length:Int):=by omega
     have e2:IntKind.i64.wrap ((k:Int)+1)=((k+1:Nat):Int):=by rw [AiY] <;> omega
     obtain ⟨x,hx⟩:∃ x,l[k]? = some x:=⟨_,List.getElem?_eq_getElem hlt⟩
     obtain ⟨c,hc⟩:∃ c,a[k]? = some c:=⟨_,List.getElem?_eq_getElem (by omega)⟩
     have hdr:l.drop k=x::l.drop (k+1):=by
      have h1:=(List.getElem?_eq_some_iff.1 hx).2
      rw [List.drop_eq_getElem_cons hlt,h1]
     have hda:a.drop k=c::a.drop (k+1):=by
      have h1:=(List.getElem?_eq_some_iff.1 hc).2
      rw [List.drop_eq_getElem_cons (by omega),h1]
     rw [hdr,hda,fitAll_cons] at hJ
     have hL:letL c=(decide ((c.toNat:Int)=73) || decide ((c.toNat:Int)=88) || decide ((c.toNat:Int)=66)):=rfl
     have hF:fitL x c=if letL c=true then !(decide (x.k≠4) && decide (x.k≠3)) else decide (x.k≠4):=rfl
     rw [hL] at hF
     by_cases a1:(c.toNat:Int)=73
     · have n1:¬ ((73:Int)=88):=by decide
       have n2:¬ ((73:Int)=66):=by decide
       by_cases k4:x.k=4
       · simp only [hF,a1,n1,n2,k4,decide_true,decide_false,ne_eq,not_true_eq_false,not_false_eq_true,Bool.true_or,Bool.or_true,Bool.false_or,Bool.or_false,if_true,Bool.false_and,Bool.not_false] at hJ
         simp +contextual -implicitDefEqProofs only [sm,seval,hlt',hlt,hlt2,hx,hc,Option.map_some,AcQ,a1,n1,n2,k4,e2]
         refine ⟨k+1,⟨by omega,hJ⟩,by omega,[],by decide,rfl,?_,?_⟩
         · simp +contextual -implicitDefEqProofs only [sm,seval]
         · simp +contextual -implicitDefEqProofs only [sm,seval,e2,hn]
       · by_cases k3:x.k=3
         · have kk:¬ ((3:Int)=4):=by decide
           simp only [hF,a1,n1,n2,k3,kk,decide_true,decide_false,ne_eq,not_true_eq_false,not_false_eq_true,Bool.true_or,Bool.or_true,Bool.false_or,Bool.or_false,if_true,Bool.and_false,Bool.not_false] at hJ
           simp +contextual -implicitDefEqProofs only [sm,seval,hlt',hlt,hlt2,hx,hc,Option.map_some,AcQ,a1,n1,n2,k3,e2]
           refine ⟨k+1,⟨by omega,hJ⟩,by omega,[],by decide,rfl,?_,?_⟩
           · simp +contextual -implicitDefEqProofs only [sm,seval]
           · simp +contextual -implicitDefEqProofs only [sm,seval,e2,hn]
         · simp only [hF,a1,n1,n2,k3,k4,decide_true,decide_false,ne_eq,not_true_eq_false,not_false_eq_true,Bool.true_or,Bool.or_true,Bool.false_or,Bool.or_false,if_true,Bool.and_true,Bool.not_true,Bool.false_eq_true,if_false] at hJ
           subst hJ
           simp +contextual -implicitDefEqProofs only [sm,seval,hlt',hlt,hlt2,hx,hc,Option.map_some,AcQ,a1,n1,n2,k3,k4,e2]
     · by_cases a2:(c.toNat:Int)=88
       · have n2:¬ ((88:Int)=66):=by decide
         have n3:¬ ((88:Int)=73):=by decide
         by_cases k4:x.k=4
         · simp only [hF,a2,n2,n3,k4,decide_true,decide_false,ne_eq,not_true_eq_false,not_false_eq_true,Bool.true_or,Bool.or_true,Bool.false_or,Bool.or_false,if_true,Bool.false_and,Bool.not_false] at hJ
           simp +contextual -implicitDefEqProofs only [sm,seval,hlt',hlt,hlt2,hx,hc,Option.map_some,AcQ,a2,n2,n3,k4,e2]
           refine ⟨k+1,⟨by omega,hJ⟩,by omega,[],by decide,rfl,?_,?_⟩
           · simp +contextual -implicitDefEqProofs only [sm,seval]
           · simp +contextual -implicitDefEqProofs only [sm,seval,e2,hn]
         · by_cases k3:x.k=3
           · have kk:¬ ((3:Int)=4):=by decide
             simp only [hF,a2,n2,n3,k3,kk,decide_true,decide_false,ne_eq,not_true_eq_false,not_false_eq_true,Bool.true_or,Bool.or_true,Bool.false_or,Bool.or_false,if_true,Bool.and_false,Bool.not_false] at hJ
             simp +contextual -implicitDefEqProofs only [sm,seval,hlt',hlt,hlt2,hx,hc,Option.map_some,AcQ,a2,n2,n3,k3,e2]
             refine ⟨k+1,⟨by omega,hJ⟩,by omega,[],by decide,rfl,?_,?_⟩
             · simp +contextual -implicitDefEqProofs only [sm,seval]
             · simp +contextual -implicitDefEqProofs only [sm,seval,e2,hn]
           · simp only [hF,a2,n2,n3,k3,k4,decide_true,decide_false,ne_eq,not_true_eq_false,not_false_eq_true,Bool.true_or,Bool.or_true,Bool.false_or,Bool.or_false,if_true,Bool.and_true,Bool.not_true,Bool.false_eq_true,if_false] at hJ
             subst hJ
             simp +contextual -implicitDefEqProofs only [sm,seval,hlt',hlt,hlt2,hx,hc,Option.map_some,AcQ,a2,n2,n3,k3,k4,e2]
       · by_cases a3:(c.toNat:Int)=66
         · have n1:¬ ((66:Int)=88):=by decide
           have n2:¬ ((66:Int)=73):=by decide
           by_cases k4:x.k=4
           · simp only [hF,a3,n1,n2,k4,decide_true,decide_false,ne_eq,not_true_eq_false,not_false_eq_true,Bool.true_or,Bool.or_true,Bool.false_or,Bool.or_false,if_true,Bool.false_and,Bool.not_false] at hJ
             simp +contextual -implicitDefEqProofs only [sm,seval,hlt',hlt,hlt2,hx,hc,Option.map_some,AcQ,a3,n1,n2,k4,e2]
             refine ⟨k+1,⟨by omega,hJ⟩,by omega,[],by decide,rfl,?_,?_⟩
             · simp +contextual -implicitDefEqProofs only [sm,seval]
             · simp +contextual -implicitDefEqProofs only [sm,seval,e2,hn]
           · by_cases k3:x.k=3
             · have kk:¬ ((3:Int)=4):=by decide
               simp only [hF,a3,n1,n2,k3,kk,decide_true,decide_false,ne_eq,not_true_eq_false,not_false_eq_true,Bool.true_or,Bool.or_true,Bool.false_or,Bool.or_false,if_true,Bool.and_false,Bool.not_false] at hJ
               simp +contextual -implicitDefEqProofs only [sm,seval,hlt',hlt,hlt2,hx,hc,Option.map_some,AcQ,a3,n1,n2,k3,e2]
               refine ⟨k+1,⟨by omega,hJ⟩,by omega,[],by decide,rfl,?_,?_⟩
               · simp +contextual -implicitDefEqProofs only [sm,seval]
               · simp +contextual -implicitDefEqProofs only [sm,seval,e2,hn]
             · simp only [hF,a3,n1,n2,k3,k4,decide_true,decide_false,ne_eq,not_true_eq_false,not_false_eq_true,Bool.true_or,Bool.or_true,Bool.false_or,Bool.or_false,if_true,Bool.and_true,Bool.not_true,Bool.false_eq_true,if_false] at hJ
               subst hJ
               simp +contextual -implicitDefEqProofs only [sm,seval,hlt',hlt,hlt2,hx,hc,Option.map_some,AcQ,a3,n1,n2,k3,k4,e2]
         · skip
           by_cases k4:x.k=4
           · simp only [hF,a1,a2,a3,k4,decide_true,decide_false,ne_eq,not_true_eq_false,not_false_eq_true,Bool.or_false,Bool.false_eq_true,if_false] at hJ
             subst hJ
             simp +contextual -implicitDefEqProofs only [sm,seval,hlt',hlt,hlt2,hx,hc,Option.map_some,AcQ,a1,a2,a3,k4,e2]
           · simp only [hF,a1,a2,a3,k4,decide_true,decide_false,ne_eq,not_true_eq_false,not_false_eq_true,Bool.or_false,Bool.false_eq_true,if_false,if_true] at hJ
             simp +contextual -implicitDefEqProofs only [sm,seval,hlt',hlt,hlt2,hx,hc,Option.map_some,AcQ,a1,a2,a3,k4,e2]
             refine ⟨k+1,⟨by omega,hJ⟩,by omega,[],by decide,rfl,?_,?_⟩
             · simp +contextual -implicitDefEqProofs only [sm,seval]
             · simp +contextual -implicitDefEqProofs only [sm,seval,e2,hn]
   · have hkl:k=l.length:=by omega
     subst hkl
     rw [List.drop_length,show fitAll [] (a.drop l.length)=true from rfl] at hJ
     subst hJ
     have hlf:¬ ((l.length:Int)<(l.length:Int)):=by omega
     simp +contextual -implicitDefEqProofs only [sm,seval,hlf]
 · have hn':¬ ((l.length:Int)=(a.length:Int)):=by omega
   have hE:fitsM l a=false:=by unfold fitsM;rw [if_pos hn]
   rw [hE]
   simp +contextual -implicitDefEqProofs only [sm,c_model_fits,seval,hn,hn']
end Go.Proofs.YtcmphhedaefcgaaGreatDoor
end
section
namespace Go.Proofs.YtcmphhedaefcgaaGreatDoor
open Av
set_option maxRecDepth 100000
def kd_CCln (f:Nat):Nat:=0
def AvQ:AFunc:=⟨8,[.tmp 2],
 .seq (.region (zo 2 (.mov (.val .nils))::[])) <|
 .seq (.seq (.region (zm 3 0::zo 4 (.isnil false (.tmp 3))::[])) <|
 .cond (.tmp 4) (.seq (.region (zo 2 (.mov (.val .nils))::[])) <|
  .ret) <|
 .skip) <|
 .seq (.region (zo 5 (.bslice 2 [])::zm 6 0::zo 7 (.app 2 16 (.tmp 5) (.tmp 6))::zm 2 7::[])) <|
 .ret⟩
theorem e_slices_Clone_sRange_RangeU:AgY Tryz.prog kd_CCln Tryz.f97=some AvQ:=by kernel_rfl
end Go.Proofs.YtcmphhedaefcgaaGreatDoor
end
section
namespace Go.Proofs.YtcmphhedaefcgaaGreatDoor
open Av
attribute [local irreducible] awp AbX
attribute [local irreducible] awX opX
set_option maxRecDepth 100000
set_option maxHeartbeats 4000000
theorem clone_rgsU (l:List Rg) (hl:l.length≤1000000000000):Ctr Tryz.prog 97 [eRgs l] [] (.sl 2 0 0 l.length) [some (2,l.map eRg)]:=by
 refine call_box Tryz.func97 Tryz.call97 e_slices_Clone_sRange_RangeU ?_
 by_cases h0:l=[]
 · subst h0
   simp +contextual -implicitDefEqProofs only [sm,AvQ,eRgs,seval,Nat.zero_le]
   refine ⟨⟨[],[0],by decide,?_⟩,[2],[0],by decide,?_⟩
   iterate 2 simp +contextual -implicitDefEqProofs only [sm,seval]
 · have hnn:(AV.list 2 (l.map eRg)).nonNil=true:=by
    cases l with
    | nil=>exact absurd rfl h0
    | cons a b=>rfl
   have c1:l.length * 16≤140737488355328:=by omega
   have c2:l.length≤maxLen:=by unfold maxLen;omega
   simp +contextual -implicitDefEqProofs only [sm,AvQ,eRgs,seval,hnn,c1,c2,Nat.le_refl]
   refine ⟨[],[0],by decide,?_⟩
   simp +contextual -implicitDefEqProofs only [sm,seval]
set_option maxHeartbeats 1000000 in
theorem un_cmp:SortCmp 99:=by
 intro x y W
 have hcon:=fun W'=>cmp_old x.1 y.1 W'
 unfold cmpF
 generalize cmpL x.1 y.1=r at hcon ⊢
 go_enter Tryz.func99,Tryz.ntmps99
 go_wp2_with (go_at_call 100;refine (hcon _).mono ?_;rintro e w' ⟨rfl,n1,rfl⟩)
 go_ret
 refine ⟨rfl,n1,#[Obj.cells #[.int .i64 x.1,.int .i64 x.2] 123 (0,0)]++#[Obj.cells #[.int .i64 y.1,.int .i64 y.2] 123 (0,0)],?_⟩
 rw [Go.Sort.alloc_eq_grow,Go.Sort.alloc_eq_grow,Go.Sort.grow_grow]
 rfl
theorem bld_union (l:List Rg) (hl:l.length≤1000000000000):Ctr Tryz.prog 61 [eRgs l] [] (eRgs (unionS l)) []:=by
 refine AcZ Tryz.func61 Tryz.call61 e_model_union ?_
 have hsl:(sortV l).length=l.length:=(sortV_perm l).length_eq
 simp +contextual -implicitDefEqProofs only [sm,c_model_union,eRgs,seval]
 refine callO_rule (clone_rgsU l hl) ?_ ?_ ?_ ?_ ?_
 iterate 5 simp +contextual -implicitDefEqProofs only [sm,seval,eRgs]
 refine AaX [0] (sortf_ctr 99 Tryz.call99 un_cmp l (by omega)) (by decide) ?_ ?_ ?_ ?_ ?_ ?_
 iterate 5 simp +contextual -implicitDefEqProofs only [sm,seval]
 unfold unionS
 generalize sortV l=s at hsl ⊢
 have hle:l.length≤s.length:=by omega
 have hts:List.take l.length (s.map eRg)=s.map eRg:=by rw [← hsl];exact BqQ _ _
 simp +contextual -implicitDefEqProofs only [sm,seval,hsl]
 refine loop_freeze [11] ?_
 simp +contextual -implicitDefEqProofs only [sm,seval,hsl,AdQ,List.length_map,List.drop_zero,hts,hle]
 refine loop_ruleV [(3,2)] (fun k:Nat=>k≤s.length) (fun k=>tm 51 [(3,.sl 2 0 0 (unK s k).length),(11,.list 2 (s.map eRg)),(12,.int .i64 s.length),(13,.int .i64 k)]) (fun k=>[some (2,(unK s k).map eRg)]) (fun k=>s.length-k) 0 (by simp +contextual -implicitDefEqProofs only [sm,seval]) (Nat.zero_le _) ⟨[1],by decide,rfl,?_,?_⟩ ?_
 · simp +contextual -implicitDefEqProofs only [sm,seval,unK,List.take_zero,List.foldl_nil]
 · simp +contextual -implicitDefEqProofs only [sm,seval,Int.natCast_zero,unK,List.take_zero,List.foldl_nil,hsl]
 intro k hk
 have m1:=unK_len k hk
 by_cases hlt:k<s.length
 · have hlt':(k:Int)<(s.length:Int):=by omega
   have e2:IntKind.i64.wrap ((k:Int)+1)=((k+1:Nat):Int):=by rw [AiY] <;> omega
   obtain ⟨⟨lo,hi⟩,hr⟩:∃ r,s[k]? = some r:=⟨_,List.getElem?_eq_getElem hlt⟩
   have hst:=unK_step hr
   rcases List.eq_nil_or_concat (unK s k) with e | ⟨pre,⟨p,q⟩,e⟩
   · rw [e,un_nil] at hst
     rw [e]
     have w0:IntKind.i64.wrap (-1)=-1:=by rw [AiY] <;> omega
     have w1:IntKind.i64.wrap ((0:Int)-1)=-1:=by rw [AiY] <;> omega
     have hst1:(unK s (k+1)).length=1:=by rw [hst];rfl
     have hsm:(unK s (k+1)).map eRg=[.agg [.int .i64 lo,.int .i64 hi]]:=by rw [hst];rfl
     have z1:((([]:List Rg).length:Nat):Int)=0:=rfl
     have z2:¬ ((0:Int)≤-1):=by omega
     have z3:1≤maxLen:=by unfold maxLen;omega
     simp +contextual -implicitDefEqProofs only [sm,seval,hlt',hr,eRg,w0,w1,e2,z1,z2,z3]
     refine ⟨k+1,by omega,by omega,[2],by decide,rfl,?_,?_⟩
     · simp +contextual -implicitDefEqProofs only [sm,seval,hsm]
     · simp +contextual -implicitDefEqProofs only [sm,seval,hst1]
   · try rw [List.concat_eq_append] at e
     rw [e,un_snoc] at hst
     simp only at hst
     have hMl:(unK s k).length=pre.length+1:=by rw [e];simp
     have hMg:(unK s k)[pre.length]? = some (p,q):=by rw [e];simp
     have hMs:∀ y:Rg,(unK s k).set pre.length y=pre++[y]:=by intro y;rw [e];simp
     have hMa:∀ y:Rg,unK s k++[y]=(pre++[(p,q)])++[y]:=by intro y;rw [e]
     have w0:IntKind.i64.wrap (((pre.length+1:Nat):Int)-1)=(pre.length:Int):=by rw [AiY] <;> omega
     have hpl:pre.length<pre.length+1:=by omega
     generalize unK s k=M at hMl hMg hMs hMa m1 ⊢
     generalize pre.length=n at hMl hMg hMs hMa w0 hpl ⊢
     generalize hq1:IntKind.i64.wrap (q+1)=q1 at hst ⊢
     by_cases hc:lo≤q1
     · rw [if_pos hc] at hst
       have hsm:(M.map eRg).set n (.agg [.int .i64 p,.int .i64 (max q hi)])=(unK s (k+1)).map eRg:=by
        rw [hst,← hMs (p,max q hi),List.map_set];rfl
       have hl2:(unK s (k+1)).length=n+1:=by rw [hst,← hMs (p,max q hi),List.length_set,hMl]
       simp +contextual -implicitDefEqProofs only [sm,seval,hlt',hr,eRg,hMl,hMg,w0,e2,hc,hpl,hsm,hq1]
       refine ⟨k+1,by omega,by omega,[0],by decide,rfl,?_,?_⟩
       · simp +contextual -implicitDefEqProofs only [sm,seval]
       · simp +contextual -implicitDefEqProofs only [sm,seval,hl2]
     · rw [if_neg hc] at hst
       have hsm:M.map eRg++[AV.agg [.int .i64 lo,.int .i64 hi]]=(unK s (k+1)).map eRg:=by
        rw [hst,← hMa (lo,hi),List.map_append];rfl
       have hl2:(unK s (k+1)).length=n+1+1:=by rw [hst,← hMa (lo,hi),List.length_append,hMl];rfl
       have c1:(n+1+1) * 16≤140737488355328:=by omega
       have c2:n+1+1≤maxLen:=by unfold maxLen;omega
       simp +contextual -implicitDefEqProofs only [sm,seval,hlt',hr,eRg,hMl,hMg,w0,e2,hc,hpl,hsm,c1,c2,hq1]
       refine ⟨k+1,by omega,by omega,[2],by decide,rfl,?_,?_⟩
       · simp +contextual -implicitDefEqProofs only [sm,seval]
       · simp +contextual -implicitDefEqProofs only [sm,seval,hl2]
 · have hkn:k=s.length:=by omega
   subst hkn
   have ht:List.take (unK s s.length).length ((unK s s.length).map eRg)=(unK s s.length).map eRg:=BqQ _ _
   simp +contextual -implicitDefEqProofs only [sm,seval,Int.lt_irrefl,ht]
   rw [hsl]
end Go.Proofs.YtcmphhedaefcgaaGreatDoor
end
