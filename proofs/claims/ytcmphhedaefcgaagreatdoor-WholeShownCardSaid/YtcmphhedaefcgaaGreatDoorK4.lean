/- What the lexer and the first half of the parser compute. -/
import Derived.Test.YtcmphhedaefcgaaGreatDoorProg
import Derived.Lib.AtoiErrMem
import Derived.Test.YtcmphhedaefcgaaGreatDoorK3
set_option linter.unusedVariables false
set_option linter.unusedSimpArgs false
section
namespace Go.Proofs.YtcmphhedaefcgaaGreatDoor
open Av
set_option maxRecDepth 100000
def kd_CCont (f:Nat):Nat:=0
def BaX:AFunc:=⟨9,[.tmp 4],
 .seq (.region (zo 4 (.mov (.val (.bool false)))::[])) <|
 .seq (.region (zm 5 0::zm 6 1::zo 7 (.call (.val (.fn (.func 148) [])) [(.tmp 5),(.tmp 6)])::zo 8 (.bin .geq (.tmp 7) (.val (.int .i64 0)))::zm 4 8::[])) <|
 .ret⟩
theorem e_slices_Contains_sstring_string:AgY Tryz.prog kd_CCont Tryz.f134=some BaX:=by kernel_rfl
def AtQ:AFunc:=⟨19,[.tmp 4],
 .seq (.region (zo 4 (.mov (.val (.int .i64 0)))::[])) <|
 .seq (.seq (.region (zm 6 0::zo 7 (.len false (.tmp 6))::zo 8 (.mov (.val (.int .i64 0)))::[])) <|
 .block 0 (.loop (.seq (.region (zo 9 (.bin .lss (.tmp 8) (.tmp 7))::[])) <|
  .seq (.cond (.tmp 9) (.skip) <|
  .exit 0) <|
  .seq (.block 1 (.seq (.region (zm 10 8::zm 5 10::[])) <|
   .seq (.region (zm 11 1::zm 12 0::zm 13 5::zo 14 (.iaddr 1 (.tmp 12) (.tmp 13))::zl 15 1 14::zo 16 (.bin .eql (.tmp 11) (.tmp 15))::[])) <|
   .cond (.tmp 16) (.seq (.region (zm 17 5::zm 4 17::[])) <|
    .ret) <|
   .skip)) <|
  .region (zo 18 (.bin .add (.tmp 8) (.val (.int .i64 1)))::zm 8 18::[])))) <|
 .seq (.region (zo 4 (.mov (.val (.int .i64 (-1))))::[])) <|
 .ret⟩
theorem e_slices_Index_sstring_string:AgY Tryz.prog kd_CCont Tryz.f148=some AtQ:=by kernel_rfl
def BmZ:AFunc:=⟨9,[.tmp 4],
 .seq (.region (zo 4 (.mov (.val (.bool false)))::[])) <|
 .seq (.region (zm 5 0::zm 6 1::zo 7 (.call (.val (.fn (.func 145) [])) [(.tmp 5),(.tmp 6)])::zo 8 (.bin .geq (.tmp 7) (.val (.int .i64 0)))::zm 4 8::[])) <|
 .ret⟩
theorem e_slices_Contains_sint_int:AgY Tryz.prog kd_CCont Tryz.f127=some BmZ:=by kernel_rfl
def BfZ:AFunc:=⟨19,[.tmp 4],
 .seq (.region (zo 4 (.mov (.val (.int .i64 0)))::[])) <|
 .seq (.seq (.region (zm 6 0::zo 7 (.len false (.tmp 6))::zo 8 (.mov (.val (.int .i64 0)))::[])) <|
 .block 0 (.loop (.seq (.region (zo 9 (.bin .lss (.tmp 8) (.tmp 7))::[])) <|
  .seq (.cond (.tmp 9) (.skip) <|
  .exit 0) <|
  .seq (.block 1 (.seq (.region (zm 10 8::zm 5 10::[])) <|
   .seq (.region (zm 11 1::zm 12 0::zm 13 5::zo 14 (.iaddr 1 (.tmp 12) (.tmp 13))::zl 15 1 14::zo 16 (.bin .eql (.tmp 11) (.tmp 15))::[])) <|
   .cond (.tmp 16) (.seq (.region (zm 17 5::zm 4 17::[])) <|
    .ret) <|
   .skip)) <|
  .region (zo 18 (.bin .add (.tmp 8) (.val (.int .i64 1)))::zm 8 18::[])))) <|
 .seq (.region (zo 4 (.mov (.val (.int .i64 (-1))))::[])) <|
 .ret⟩
theorem e_slices_Index_sint_int:AgY Tryz.prog kd_CCont Tryz.f145=some BfZ:=by kernel_rfl
end Go.Proofs.YtcmphhedaefcgaaGreatDoor
end
section
namespace Go.Proofs.YtcmphhedaefcgaaGreatDoor
open Av
set_option maxRecDepth 100000
def kd_CParse (f:Nat):Nat:=if f=49 then 1 else if f=50 then 1 else if f=91 then 1 else if f=23 then 2 else if f=58 then 2 else if f=93 then 2 else if f=52 then 2 else if f=25 then 2 else if f=55 then 2 else if f=96 then 2 else if f=95 then 2 else if f=92 then 2 else if f=57 then 2 else if f=56 then 2 else if f=94 then 2 else if f=53 then 2 else if f=90 then 2 else if f=54 then 2 else if f=51 then 2 else if f=59 then 2 else if f=10 then 2 else if f=4000000 then 2 else 0
def BoX:AFunc:=⟨20,[.tmp 2],
 .seq (.region (zo 2 (.mov (.val (.int .i64 0)))::[])) <|
 .seq (.seq (.region (zm 3 0::zo 4 (.nilc (.tmp 3))::zf 5 0 4::zl 6 1 5::zo 7 (.len false (.tmp 6))::zq 8 7 0::[])) <|
 .cond (.tmp 8) (.seq (.region (zm 9 0::zo 10 (.nilc (.tmp 9))::zf 11 1 10::zl 12 1 11::zm 2 12::[])) <|
  .ret) <|
 .skip) <|
 .seq (.region (zm 13 0::zo 14 (.nilc (.tmp 13))::zf 15 0 14::zl 16 1 15::zo 17 (.iaddr 4 (.tmp 16) (.val (.int .i64 0)))::zf 18 3 17::zl 19 1 18::zm 2 19::[])) <|
 .ret⟩
theorem e_parse_parser_place:AgY Tryz.prog kd_CParse Tryz.f49=some BoX:=by kernel_rfl
def c_parse_parser_is:AFunc:=⟨22,[.tmp 4],
 .seq (.region (zo 4 (.mov (.val (.bool false)))::[])) <|
 .seq (.region (zm 5 0::zo 6 (.nilc (.tmp 5))::zf 7 0 6::zl 8 1 7::zo 9 (.len false (.tmp 8))::zo 10 (.bin .gtr (.tmp 9) (.val (.int .i64 0)))::zm 11 10::zg 12 (.mov (.tmp 0)) 11 true::zg 13 (.nilc (.tmp 12)) 11 true::zg 14 (.faddr 0 (.tmp 13)) 11 true::zg 15 (.load false 1 (.tmp 14)) 11 true::zg 16 (.iaddr 4 (.tmp 15) (.val (.int .i64 0))) 11 true::zg 17 (.faddr 1 (.tmp 16)) 11 true::zg 18 (.load false 1 (.tmp 17)) 11 true::zg 19 (.mov (.tmp 1)) 11 true::zg 20 (.bin .eql (.tmp 18) (.tmp 19)) 11 true::zo 21 (.pick (.tmp 11) (.tmp 20) (.val (.bool false)))::zm 4 21::[])) <|
 .ret⟩
theorem e_parse_parser_is:AgY Tryz.prog kd_CParse Tryz.f50=some c_parse_parser_is:=by kernel_rfl
def BgX:AFunc:=⟨36,[.tmp 2],
 .seq (.region (zo 2 (.mov (.val (.int .i64 0)))::[])) <|
 .seq (.block 0 (.seq (.region (zm 4 0::zo 5 (.nilc (.tmp 4))::zf 6 0 5::zl 7 1 6::zo 8 (.len false (.tmp 7))::zq 9 8 0::zm 3 9::[])) <|
  .cond (.tmp 3) (.seq (.region (zo 2 (.mov (.val (.int .i64 0)))::[])) <|
   .ret) <|
  .seq (.region (zm 11 0::zo 12 (.nilc (.tmp 11))::zf 13 0 12::zl 14 1 13::zo 15 (.iaddr 4 (.tmp 14) (.val (.int .i64 0)))::zf 16 0 15::zl 17 1 16::zq 18 17 1::zm 19 18::zg 20 (.mov (.tmp 0)) 19 true::zg 21 (.nilc (.tmp 20)) 19 true::zg 22 (.faddr 0 (.tmp 21)) 19 true::zg 23 (.load false 1 (.tmp 22)) 19 true::zg 24 (.iaddr 4 (.tmp 23) (.val (.int .i64 0))) 19 true::zg 25 (.faddr 1 (.tmp 24)) 19 true::zg 26 (.load false 1 (.tmp 25)) 19 true::zg 27 (.call (.val (.fn (.func 123) [])) [(.tmp 26)]) 19 true::zo 28 (.pick (.tmp 19) (.tmp 27) (.val (.bool false)))::zm 10 28::[])) <|
  .cond (.tmp 10) (.seq (.region (zo 2 (.mov (.val (.int .i64 0)))::[])) <|
   .ret) <|
  .skip)) <|
 .seq (.region (zm 29 0::zo 30 (.nilc (.tmp 29))::zf 31 0 30::zl 32 1 31::zo 33 (.iaddr 4 (.tmp 32) (.val (.int .i64 0)))::zf 34 0 33::zl 35 1 34::zm 2 35::[])) <|
 .ret⟩
theorem e_parse_parser_kind:AgY Tryz.prog kd_CParse Tryz.f91=some BgX:=by kernel_rfl
def BnQ:AFunc:=⟨12,[],
 .seq (.seq (.region (zm 2 0::zo 3 (.nilc (.tmp 2))::zf 4 0 3::zl 5 1 4::zo 6 (.len false (.tmp 5))::zq 7 6 0::[])) <|
 .cond (.tmp 7) (.region (zm 8 0::zo 9 (.callm (.val (.fn (.func 23) [])) [(.tmp 8),(.val (.int .i64 6))])::[])) <|
 .skip) <|
 .region (zm 10 0::zo 11 (.callm (.val (.fn (.func 23) [])) [(.tmp 10),(.val (.int .i64 5))])::[])⟩
theorem e_parse_parser_wrong:AgY Tryz.prog kd_CParse Tryz.f58=some BnQ:=by kernel_rfl
def c_parse_parser_next:AFunc:=⟨19,[.cell 2 true 4],
 .seq (.region (zo 2 (.alloc (.agg [(.int .i64 0),(.str (S8 [])),(.int .i64 0),(.int .i64 0)]))::[])) <|
 .seq (.region (zm 4 0::zo 5 (.nilc (.tmp 4))::zf 6 0 5::zl 7 1 6::zo 8 (.iaddr 4 (.tmp 7) (.val (.int .i64 0)))::zo 9 (.load true 4 (.tmp 8))::zo 3 (.alloc (.agg [(.int .i64 0),(.str (S8 [])),(.int .i64 0),(.int .i64 0)]))::zs 4 3 9::[])) <|
 .seq (.region (zm 10 0::zm 11 0::zo 12 (.nilc (.tmp 11))::zf 13 0 12::zl 14 1 13::zo 15 (.slc 4 (.tmp 14) (some (.val (.int .i64 1))) none)::zo 16 (.nilc (.tmp 10))::zf 17 0 16::zs 1 17 15::[])) <|
 .seq (.region (zo 18 (.load true 4 (.tmp 3))::zs 4 2 18::[])) <|
 .ret⟩
theorem e_parse_parser_next:AgY Tryz.prog kd_CParse Tryz.f93=some c_parse_parser_next:=by kernel_rfl
def c_parse_parser_may:AFunc:=⟨11,[.tmp 4],
 .seq (.region (zo 4 (.mov (.val (.bool false)))::[])) <|
 .seq (.seq (.region (zm 5 0::zm 6 1::zo 7 (.callv (.val (.fn (.func 50) [])) [(.tmp 5),(.tmp 6)])::zo 8 (.un .not (.tmp 7))::[])) <|
 .cond (.tmp 8) (.seq (.region (zo 4 (.mov (.val (.bool false)))::[])) <|
  .ret) <|
 .skip) <|
 .seq (.region (zm 9 0::zo 10 (.callm (.val (.fn (.func 93) [])) [(.tmp 9)])::[])) <|
 .seq (.region (zo 4 (.mov (.val (.bool true)))::[])) <|
 .ret⟩
theorem e_parse_parser_may:AgY Tryz.prog kd_CParse Tryz.f52=some c_parse_parser_may:=by kernel_rfl
def c_parse_parser_take:AFunc:=⟨19,[],
 .seq (.region (zm 6 1::zo 7 (.len false (.tmp 6))::zo 8 (.mov (.val (.int .i64 0)))::[])) <|
 .block 0 (.loop (.seq (.region (zo 9 (.bin .lss (.tmp 8) (.tmp 7))::[])) <|
  .seq (.cond (.tmp 9) (.skip) <|
  .exit 0) <|
  .seq (.block 1 (.seq (.region (zo 10 (.iaddr 1 (.tmp 6) (.tmp 8))::zl 11 1 10::zm 5 11::[])) <|
   .seq (.region (zm 12 0::zm 13 5::zo 14 (.callm (.val (.fn (.func 52) [])) [(.tmp 12),(.tmp 13)])::zo 15 (.un .not (.tmp 14))::[])) <|
   .cond (.tmp 15) (.region (zm 16 0::zo 17 (.callm (.val (.fn (.func 58) [])) [(.tmp 16)])::[])) <|
   .skip)) <|
  .region (zo 18 (.bin .add (.tmp 8) (.val (.int .i64 1)))::zm 8 18::[])))⟩
theorem e_parse_parser_take:AgY Tryz.prog kd_CParse Tryz.f25=some c_parse_parser_take:=by kernel_rfl
def c_parse_parser_name:AFunc:=⟨11,[.tmp 2],
 .seq (.region (zo 2 (.mov (.val (.str (S8 []))))::[])) <|
 .seq (.seq (.region (zm 3 0::zo 4 (.callv (.val (.fn (.func 91) [])) [(.tmp 3)])::zo 5 (.bin .neq (.tmp 4) (.val (.int .i64 1)))::[])) <|
 .cond (.tmp 5) (.region (zm 6 0::zo 7 (.callm (.val (.fn (.func 58) [])) [(.tmp 6)])::[])) <|
 .skip) <|
 .seq (.region (zm 8 0::zo 9 (.callm (.val (.fn (.func 93) [])) [(.tmp 8)])::zo 10 (.fld false 1 1 (.tmp 9))::zm 2 10::[])) <|
 .ret⟩
theorem e_parse_parser_name:AgY Tryz.prog kd_CParse Tryz.f55=some c_parse_parser_name:=by kernel_rfl
def c_parse_parser_number:AFunc:=⟨11,[.tmp 2],
 .seq (.region (zo 2 (.mov (.val (.int .i64 0)))::[])) <|
 .seq (.seq (.region (zm 3 0::zo 4 (.callv (.val (.fn (.func 91) [])) [(.tmp 3)])::zo 5 (.bin .neq (.tmp 4) (.val (.int .i64 2)))::[])) <|
 .cond (.tmp 5) (.region (zm 6 0::zo 7 (.callm (.val (.fn (.func 58) [])) [(.tmp 6)])::[])) <|
 .skip) <|
 .seq (.region (zm 8 0::zo 9 (.callm (.val (.fn (.func 93) [])) [(.tmp 8)])::zo 10 (.fld false 1 2 (.tmp 9))::zm 2 10::[])) <|
 .ret⟩
theorem e_parse_parser_number:AgY Tryz.prog kd_CParse Tryz.f96=some c_parse_parser_number:=by kernel_rfl
def c_parse_parser_exact:AFunc:=⟨22,[],
 .seq (.seq (.region (zm 4 0::zo 5 (.callv (.val (.fn (.func 91) [])) [(.tmp 4)])::zo 6 (.bin .neq (.tmp 5) (.val (.int .i64 2)))::zm 7 6::zg 8 (.mov (.tmp 0)) 7 false::zg 9 (.nilc (.tmp 8)) 7 false::zg 10 (.faddr 0 (.tmp 9)) 7 false::zg 11 (.load false 1 (.tmp 10)) 7 false::zg 12 (.iaddr 4 (.tmp 11) (.val (.int .i64 0))) 7 false::zg 13 (.faddr 2 (.tmp 12)) 7 false::zg 14 (.load false 1 (.tmp 13)) 7 false::zg 15 (.mov (.tmp 1)) 7 false::zg 16 (.bin .neq (.tmp 14) (.tmp 15)) 7 false::zo 17 (.pick (.tmp 7) (.val (.bool true)) (.tmp 16))::[])) <|
 .cond (.tmp 17) (.region (zm 18 0::zo 19 (.callm (.val (.fn (.func 58) [])) [(.tmp 18)])::[])) <|
 .skip) <|
 .region (zm 20 0::zo 21 (.callm (.val (.fn (.func 93) [])) [(.tmp 20)])::[])⟩
theorem e_parse_parser_exact:AgY Tryz.prog kd_CParse Tryz.f95=some c_parse_parser_exact:=by kernel_rfl
def c_parse_parser_plain:AFunc:=⟨31,[.cell 2 true 4],
 .seq (.region (zo 2 (.alloc (.agg [(.int .i64 0),(.int .i64 0),(.str (S8 [])),.nils]))::[])) <|
 .seq (.seq (.region (zm 4 0::zo 5 (.callv (.val (.fn (.func 91) [])) [(.tmp 4)])::zm 3 5::[])) <|
 .block 0 (.seq (.region (zm 7 3::zq 8 7 2::zm 6 8::[])) <|
  .cond (.tmp 6) (.seq (.region (zm 9 0::zo 10 (.callm (.val (.fn (.func 93) [])) [(.tmp 9)])::zo 11 (.fld false 1 2 (.tmp 10))::zo 12 (.build [(.int .i64 0),(.int .i64 0),(.str (S8 [])),.nils] [(0,1,(.val (.int .i64 1))),(1,1,(.tmp 11))])::zs 4 2 12::[])) <|
   .ret) <|
  .seq (.region (zm 14 3::zq 15 14 1::zm 13 15::[])) <|
  .cond (.tmp 13) (.seq (.region (zm 16 0::zo 17 (.callm (.val (.fn (.func 93) [])) [(.tmp 16)])::zo 18 (.fld false 1 1 (.tmp 17))::zo 19 (.build [(.int .i64 0),(.int .i64 0),(.str (S8 [])),.nils] [(0,1,(.val (.int .i64 3))),(2,1,(.tmp 18))])::zs 4 2 19::[])) <|
   .ret) <|
  .seq (.region (zm 21 0::zo 22 (.callm (.val (.fn (.func 52) [])) [(.tmp 21),(.val (.str (S8 [116,114,117,101])))])::zm 20 22::[])) <|
  .cond (.tmp 20) (.seq (.region (zo 23 (.build [(.int .i64 0),(.int .i64 0),(.str (S8 [])),.nils] [(0,1,(.val (.int .i64 2))),(1,1,(.val (.int .i64 1)))])::zs 4 2 23::[])) <|
   .ret) <|
  .seq (.region (zm 25 0::zo 26 (.callm (.val (.fn (.func 52) [])) [(.tmp 25),(.val (.str (S8 [102,97,108,115,101])))])::zo 27 (.un .not (.tmp 26))::zm 24 27::[])) <|
  .cond (.tmp 24) (.region (zm 28 0::zo 29 (.callm (.val (.fn (.func 58) [])) [(.tmp 28)])::[])) <|
  .skip)) <|
 .seq (.region (zo 30 (.build [(.int .i64 0),(.int .i64 0),(.str (S8 [])),.nils] [(0,1,(.val (.int .i64 2)))])::zs 4 2 30::[])) <|
 .ret⟩
theorem e_parse_parser_plain:AgY Tryz.prog kd_CParse Tryz.f92=some c_parse_parser_plain:=by kernel_rfl
def c_parse_parser_expr:AFunc:=⟨12,[.cell 2 true 4],
 .seq (.region (zo 2 (.alloc (.agg [(.int .i64 0),(.int .i64 0),(.str (S8 [])),.nils]))::[])) <|
 .seq (.seq (.region (zm 3 0::zo 4 (.callm (.val (.fn (.func 52) [])) [(.tmp 3),(.val (.str (S8 [91])))])::[])) <|
 .cond (.tmp 4) (.seq (.region (zm 5 0::zm 6 0::zo 7 (.mkb (.func 92) [(.tmp 6)])::zo 8 (.callm (.val (.fn (.func 56) [])) [(.tmp 5),(.val (.str (S8 [93]))),(.tmp 7)])::zo 9 (.build [(.int .i64 0),(.int .i64 0),(.str (S8 [])),.nils] [(0,1,(.val (.int .i64 4))),(3,1,(.tmp 8))])::zs 4 2 9::[])) <|
  .ret) <|
 .skip) <|
 .seq (.region (zm 10 0::zo 11 (.callm (.val (.fn (.func 92) [])) [(.tmp 10)])::zs 4 2 11::[])) <|
 .ret⟩
theorem e_parse_parser_expr:AgY Tryz.prog kd_CParse Tryz.f57=some c_parse_parser_expr:=by kernel_rfl
def BoY:AFunc:=⟨28,[.tmp 6],
 .seq (.region (zo 6 (.mov (.val .nils))::[])) <|
 .seq (.region (zo 7 (.mov (.val .nils))::[])) <|
 .seq (.seq (.region (zm 8 0::zm 9 1::zo 10 (.callm (.val (.fn (.func 52) [])) [(.tmp 8),(.tmp 9)])::[])) <|
 .cond (.tmp 10) (.seq (.region (zo 6 (.mov (.val .nils))::[])) <|
  .ret) <|
 .skip) <|
 .block 0 (.loop (.block 1 (.seq (.seq (.region (zm 11 7::zo 12 (.len false (.tmp 11))::zq 13 12 64::[])) <|
  .cond (.tmp 13) (.region (zm 14 0::zo 15 (.callm (.val (.fn (.func 23) [])) [(.tmp 14),(.val (.int .i64 3))])::[])) <|
  .skip) <|
  .seq (.region (zm 16 7::zm 17 2::zo 18 (.callm (.tmp 17) [])::zo 19 (.bslice 4 [(.tmp 18)])::zo 20 (.app 4 56 (.tmp 16) (.tmp 19))::zm 7 20::[])) <|
  .seq (.seq (.region (zm 21 0::zm 22 1::zo 23 (.callm (.val (.fn (.func 52) [])) [(.tmp 21),(.tmp 22)])::[])) <|
  .cond (.tmp 23) (.seq (.region (zm 24 7::zm 6 24::[])) <|
   .ret) <|
  .skip) <|
  .region (zm 25 0::zo 26 (.bslice 1 [(.val (.str (S8 [44])))])::zo 27 (.callm (.val (.fn (.func 25) [])) [(.tmp 25),(.tmp 26)])::[]))))⟩
theorem e_parse_parser_exprs:AgY Tryz.prog kd_CParse Tryz.f56=some BoY:=by kernel_rfl
def c_parse_parser_dom:AFunc:=⟨55,[],
 .block 0 (.seq (.region (zm 20 0::zo 21 (.callm (.val (.fn (.func 52) [])) [(.tmp 20),(.val (.str (S8 [98,111,111,108])))])::zm 19 21::[])) <|
  .cond (.tmp 19) (.region (zm 22 1::zo 23 (.nilc (.tmp 22))::zf 24 2 23::⟨none,.store 1 (.tmp 24) (.val (.bool true)),none⟩::[])) <|
  .seq (.region (zm 26 0::zo 27 (.callm (.val (.fn (.func 52) [])) [(.tmp 26),(.val (.str (S8 [123])))])::zm 25 27::[])) <|
  .cond (.tmp 25) (.block 1 (.loop (.block 2 (.seq (.seq (.region (zm 28 1::zo 29 (.nilc (.tmp 28))::zf 30 3 29::zl 31 1 30::zo 32 (.len false (.tmp 31))::zq 33 32 256::[])) <|
   .cond (.tmp 33) (.region (zm 34 0::zo 35 (.callm (.val (.fn (.func 23) [])) [(.tmp 34),(.val (.int .i64 3))])::[])) <|
   .skip) <|
   .seq (.region (zm 36 0::zo 37 (.callm (.val (.fn (.func 96) [])) [(.tmp 36)])::zm 4 37::[])) <|
   .seq (.region (zm 38 1::zm 39 1::zo 40 (.nilc (.tmp 39))::zf 41 3 40::zl 42 1 41::zm 43 4::zm 44 4::zo 45 (.build [(.int .i64 0),(.int .i64 0)] [(0,1,(.tmp 43)),(1,1,(.tmp 44))])::zo 46 (.bslice 2 [(.tmp 45)])::zo 47 (.app 2 16 (.tmp 42) (.tmp 46))::zo 48 (.nilc (.tmp 38))::zf 49 3 48::zs 1 49 47::[])) <|
   .seq (.seq (.region (zm 50 0::zo 51 (.callm (.val (.fn (.func 52) [])) [(.tmp 50),(.val (.str (S8 [125])))])::[])) <|
   .cond (.tmp 51) (.ret) <|
   .skip) <|
   .region (zm 52 0::zo 53 (.bslice 1 [(.val (.str (S8 [44])))])::zo 54 (.callm (.val (.fn (.func 25) [])) [(.tmp 52),(.tmp 53)])::[]))))) <|
  .seq (.region (zm 6 0::zo 7 (.callm (.val (.fn (.func 96) [])) [(.tmp 6)])::zm 5 7::[])) <|
  .seq (.region (zm 8 0::zo 9 (.bslice 1 [(.val (.str (S8 [46,46])))])::zo 10 (.callm (.val (.fn (.func 25) [])) [(.tmp 8),(.tmp 9)])::[])) <|
  .region (zm 11 1::zm 12 5::zm 13 0::zo 14 (.callm (.val (.fn (.func 96) [])) [(.tmp 13)])::zo 15 (.build [(.int .i64 0),(.int .i64 0)] [(0,1,(.tmp 12)),(1,1,(.tmp 14))])::zo 16 (.bslice 2 [(.tmp 15)])::zo 17 (.nilc (.tmp 11))::zf 18 3 17::zs 1 18 16::[]))⟩
theorem e_parse_parser_dom:AgY Tryz.prog kd_CParse Tryz.f94=some c_parse_parser_dom:=by kernel_rfl
def BvX:AFunc:=⟨26,[.cell 2 true 8],
 .seq (.region (zo 2 (.alloc (.agg [(.int .i64 0),(.str (S8 [])),(.bool false),.nils,(.int .i64 0),(.bool false),.nils,(.int .i64 0)]))::[])) <|
 .seq (.region (zo 4 (.build [(.int .i64 0),(.str (S8 [])),(.bool false),.nils,(.int .i64 0),(.bool false),.nils,(.int .i64 0)] [(0,1,(.val (.int .i64 2)))])::zo 3 (.alloc (.agg [(.int .i64 0),(.str (S8 [])),(.bool false),.nils,(.int .i64 0),(.bool false),.nils,(.int .i64 0)]))::zs 8 3 4::[])) <|
 .seq (.region (zm 5 0::zo 6 (.callm (.val (.fn (.func 94) [])) [(.tmp 5),(.tmp 3)])::[])) <|
 .seq (.region (zm 7 0::zo 8 (.bslice 1 [(.val (.str (S8 [58])))])::zo 9 (.callm (.val (.fn (.func 25) [])) [(.tmp 7),(.tmp 8)])::[])) <|
 .seq (.region (zm 10 0::zo 11 (.callm (.val (.fn (.func 55) [])) [(.tmp 10)])::zf 12 1 3::zs 1 12 11::[])) <|
 .seq (.seq (.region (zm 13 0::zo 14 (.callm (.val (.fn (.func 52) [])) [(.tmp 13),(.val (.str (S8 [58,58])))])::[])) <|
 .cond (.tmp 14) (.seq (.region (zm 15 0::zo 16 (.bslice 1 [(.val (.str (S8 [111,117,116,112,117,116,95,118,97,114])))])::zo 17 (.callm (.val (.fn (.func 25) [])) [(.tmp 15),(.tmp 16)])::[])) <|
  .region (zf 18 5 3::⟨none,.store 1 (.tmp 18) (.val (.bool true)),none⟩::[])) <|
 .skip) <|
 .seq (.seq (.region (zm 19 0::zo 20 (.callm (.val (.fn (.func 52) [])) [(.tmp 19),(.val (.str (S8 [61])))])::[])) <|
 .cond (.tmp 20) (.region (zm 21 0::zo 22 (.callm (.val (.fn (.func 92) [])) [(.tmp 21)])::zo 23 (.bslice 4 [(.tmp 22)])::zf 24 6 3::zs 1 24 23::[])) <|
 .skip) <|
 .seq (.region (zo 25 (.load true 8 (.tmp 3))::zs 8 2 25::[])) <|
 .ret⟩
theorem e_parse_parser_variable:AgY Tryz.prog kd_CParse Tryz.f53=some BvX:=by kernel_rfl
def c_parse_parser_truth:AFunc:=⟨8,[.tmp 2],
 .seq (.region (zo 2 (.mov (.val (.bool false)))::[])) <|
 .seq (.seq (.region (zm 3 0::zo 4 (.callm (.val (.fn (.func 52) [])) [(.tmp 3),(.val (.str (S8 [98,111,111,108])))])::[])) <|
 .cond (.tmp 4) (.seq (.region (zo 2 (.mov (.val (.bool true)))::[])) <|
  .ret) <|
 .skip) <|
 .seq (.region (zm 5 0::zo 6 (.bslice 1 [(.val (.str (S8 [105,110,116])))])::zo 7 (.callm (.val (.fn (.func 25) [])) [(.tmp 5),(.tmp 6)])::[])) <|
 .seq (.region (zo 2 (.mov (.val (.bool false)))::[])) <|
 .ret⟩
theorem e_parse_parser_truth:AgY Tryz.prog kd_CParse Tryz.f90=some c_parse_parser_truth:=by kernel_rfl
def c_parse_parser_array:AFunc:=⟨63,[.cell 2 true 8],
 .seq (.region (zo 2 (.alloc (.agg [(.int .i64 0),(.str (S8 [])),(.bool false),.nils,(.int .i64 0),(.bool false),.nils,(.int .i64 0)]))::[])) <|
 .seq (.region (zo 4 (.build [(.int .i64 0),(.str (S8 [])),(.bool false),.nils,(.int .i64 0),(.bool false),.nils,(.int .i64 0)] [(0,1,(.val (.int .i64 3)))])::zo 3 (.alloc (.agg [(.int .i64 0),(.str (S8 [])),(.bool false),.nils,(.int .i64 0),(.bool false),.nils,(.int .i64 0)]))::zs 8 3 4::[])) <|
 .seq (.region (zm 5 0::zo 6 (.bslice 1 [(.val (.str (S8 [91])))])::zo 7 (.callm (.val (.fn (.func 25) [])) [(.tmp 5),(.tmp 6)])::[])) <|
 .seq (.region (zm 8 0::zo 9 (.callm (.val (.fn (.func 95) [])) [(.tmp 8),(.val (.int .i64 1))])::[])) <|
 .seq (.region (zm 10 0::zo 11 (.bslice 1 [(.val (.str (S8 [46,46])))])::zo 12 (.callm (.val (.fn (.func 25) [])) [(.tmp 10),(.tmp 11)])::[])) <|
 .seq (.region (zm 13 0::zo 14 (.callm (.val (.fn (.func 96) [])) [(.tmp 13)])::zf 15 4 3::zs 1 15 14::[])) <|
 .seq (.region (zm 16 0::zo 17 (.bslice 1 [(.val (.str (S8 [93]))),(.val (.str (S8 [111,102])))])::zo 18 (.callm (.val (.fn (.func 25) [])) [(.tmp 16),(.tmp 17)])::[])) <|
 .seq (.seq (.region (zm 19 0::zo 20 (.callm (.val (.fn (.func 52) [])) [(.tmp 19),(.val (.str (S8 [118,97,114])))])::[])) <|
 .cond (.tmp 20) (.region (zf 21 0 3::⟨none,.store 1 (.tmp 21) (.val (.int .i64 4)),none⟩::[])) <|
 .skip) <|
 .seq (.region (zm 22 0::zo 23 (.callm (.val (.fn (.func 90) [])) [(.tmp 22)])::zf 24 2 3::zs 1 24 23::[])) <|
 .seq (.region (zm 25 0::zo 26 (.bslice 1 [(.val (.str (S8 [58])))])::zo 27 (.callm (.val (.fn (.func 25) [])) [(.tmp 25),(.tmp 26)])::[])) <|
 .seq (.region (zm 28 0::zo 29 (.callm (.val (.fn (.func 55) [])) [(.tmp 28)])::zf 30 1 3::zs 1 30 29::[])) <|
 .seq (.seq (.region (zf 31 0 3::zl 32 1 31::zq 33 32 4::zm 34 33::zg 35 (.mov (.tmp 0)) 34 true::zg 36 (.callm (.val (.fn (.func 52) [])) [(.tmp 35),(.val (.str (S8 [58,58])))]) 34 true::zo 37 (.pick (.tmp 34) (.tmp 36) (.val (.bool false)))::[])) <|
 .cond (.tmp 37) (.seq (.region (zm 38 0::zo 39 (.bslice 1 [(.val (.str (S8 [111,117,116,112,117,116,95,97,114,114,97,121]))),(.val (.str (S8 [40]))),(.val (.str (S8 [91])))])::zo 40 (.callm (.val (.fn (.func 25) [])) [(.tmp 38),(.tmp 39)])::[])) <|
  .seq (.region (zm 41 0::zo 42 (.callm (.val (.fn (.func 95) [])) [(.tmp 41),(.val (.int .i64 1))])::[])) <|
  .seq (.region (zm 43 0::zo 44 (.bslice 1 [(.val (.str (S8 [46,46])))])::zo 45 (.callm (.val (.fn (.func 25) [])) [(.tmp 43),(.tmp 44)])::[])) <|
  .seq (.region (zm 46 0::zf 47 4 3::zl 48 1 47::zo 49 (.callm (.val (.fn (.func 95) [])) [(.tmp 46),(.tmp 48)])::[])) <|
  .seq (.region (zm 50 0::zo 51 (.bslice 1 [(.val (.str (S8 [93]))),(.val (.str (S8 [41])))])::zo 52 (.callm (.val (.fn (.func 25) [])) [(.tmp 50),(.tmp 51)])::[])) <|
  .region (zf 53 5 3::⟨none,.store 1 (.tmp 53) (.val (.bool true)),none⟩::[])) <|
 .skip) <|
 .seq (.region (zm 54 0::zo 55 (.bslice 1 [(.val (.str (S8 [61]))),(.val (.str (S8 [91])))])::zo 56 (.callm (.val (.fn (.func 25) [])) [(.tmp 54),(.tmp 55)])::[])) <|
 .seq (.region (zm 57 0::zm 58 0::zo 59 (.mkb (.func 92) [(.tmp 58)])::zo 60 (.callm (.val (.fn (.func 56) [])) [(.tmp 57),(.val (.str (S8 [93]))),(.tmp 59)])::zf 61 6 3::zs 1 61 60::[])) <|
 .seq (.region (zo 62 (.load true 8 (.tmp 3))::zs 8 2 62::[])) <|
 .ret⟩
theorem e_parse_parser_array:AgY Tryz.prog kd_CParse Tryz.f54=some c_parse_parser_array:=by kernel_rfl
def c_parse_parser_par:AFunc:=⟨42,[.cell 2 true 8],
 .seq (.region (zo 2 (.alloc (.agg [(.int .i64 0),(.str (S8 [])),(.bool false),.nils,(.int .i64 0),(.bool false),.nils,(.int .i64 0)]))::[])) <|
 .seq (.region (zm 4 0::zo 5 (.callm (.val (.fn (.func 90) [])) [(.tmp 4)])::zo 6 (.build [(.int .i64 0),(.str (S8 [])),(.bool false),.nils,(.int .i64 0),(.bool false),.nils,(.int .i64 0)] [(0,1,(.val (.int .i64 1))),(2,1,(.tmp 5))])::zo 3 (.alloc (.agg [(.int .i64 0),(.str (S8 [])),(.bool false),.nils,(.int .i64 0),(.bool false),.nils,(.int .i64 0)]))::zs 8 3 6::[])) <|
 .seq (.region (zm 7 0::zo 8 (.bslice 1 [(.val (.str (S8 [58])))])::zo 9 (.callm (.val (.fn (.func 25) [])) [(.tmp 7),(.tmp 8)])::[])) <|
 .seq (.region (zm 10 0::zo 11 (.callm (.val (.fn (.func 55) [])) [(.tmp 10)])::zf 12 1 3::zs 1 12 11::[])) <|
 .seq (.region (zm 13 0::zo 14 (.bslice 1 [(.val (.str (S8 [61])))])::zo 15 (.callm (.val (.fn (.func 25) [])) [(.tmp 13),(.tmp 14)])::[])) <|
 .seq (.seq (.draw (zf 16 2 3::zl 17 1 16::zm 18 0::zo 19 (.callv (.val (.fn (.func 50) [])) [(.tmp 18),(.val (.str (S8 [116,114,117,101])))])::zm 20 19::zg 21 (.mov (.tmp 0)) 20 false::zg 22 (.callv (.val (.fn (.func 50) [])) [(.tmp 21),(.val (.str (S8 [102,97,108,115,101])))]) 20 false::zo 23 (.pick (.tmp 20) (.val (.bool true)) (.tmp 22))::zo 24 (.eqb true (.tmp 17) (.tmp 23))::zm 25 24::zg 26 (.faddr 2 (.tmp 3)) 25 false::zg 27 (.load false 1 (.tmp 26)) 25 false::zg 28 (.un .not (.tmp 27)) 25 false::zg 29 (.mov (.tmp 28)) 25 false::zg 30 (.mov (.tmp 0)) 29 true::zg 31 (.callv (.val (.fn (.func 91) [])) [(.tmp 30)]) 29 true::zg 32 (.bin .neq (.tmp 31) (.val (.int .i64 2))) 29 true::zg 33 (.pick (.tmp 29) (.tmp 32) (.val (.bool false))) 25 false::zo 34 (.pick (.tmp 25) (.val (.bool true)) (.tmp 33))::[])) <|
 .cond (.tmp 34) (.region (zm 35 0::zo 36 (.callm (.val (.fn (.func 58) [])) [(.tmp 35)])::[])) <|
 .skip) <|
 .seq (.region (zm 37 0::zo 38 (.callm (.val (.fn (.func 92) [])) [(.tmp 37)])::zo 39 (.bslice 4 [(.tmp 38)])::zf 40 6 3::zs 1 40 39::[])) <|
 .seq (.region (zo 41 (.load true 8 (.tmp 3))::zs 8 2 41::[])) <|
 .ret⟩
theorem e_parse_parser_par:AgY Tryz.prog kd_CParse Tryz.f51=some c_parse_parser_par:=by kernel_rfl
def c_parse_parser_goal:AFunc:=⟨23,[.cell 2 true 8],
 .seq (.region (zo 2 (.alloc (.agg [(.int .i64 0),(.str (S8 [])),(.bool false),.nils,(.int .i64 0),(.bool false),.nils,(.int .i64 0)]))::[])) <|
 .seq (.region (zo 4 (.build [(.int .i64 0),(.str (S8 [])),(.bool false),.nils,(.int .i64 0),(.bool false),.nils,(.int .i64 0)] [(0,1,(.val (.int .i64 6)))])::zo 3 (.alloc (.agg [(.int .i64 0),(.str (S8 [])),(.bool false),.nils,(.int .i64 0),(.bool false),.nils,(.int .i64 0)]))::zs 8 3 4::[])) <|
 .seq (.block 0 (.seq (.region (zm 8 0::zo 9 (.callm (.val (.fn (.func 52) [])) [(.tmp 8),(.val (.str (S8 [115,97,116,105,115,102,121])))])::zm 7 9::[])) <|
  .cond (.tmp 7) (.seq (.region (zo 10 (.load true 8 (.tmp 3))::zs 8 2 10::[])) <|
   .ret) <|
  .seq (.region (zm 12 0::zo 13 (.callm (.val (.fn (.func 52) [])) [(.tmp 12),(.val (.str (S8 [109,105,110,105,109,105,122,101])))])::zm 11 13::[])) <|
  .cond (.tmp 11) (.region (zf 14 7 3::⟨none,.store 1 (.tmp 14) (.val (.int .i64 1)),none⟩::[])) <|
  .seq (.region (zm 16 0::zo 17 (.callm (.val (.fn (.func 52) [])) [(.tmp 16),(.val (.str (S8 [109,97,120,105,109,105,122,101])))])::zm 15 17::[])) <|
  .cond (.tmp 15) (.region (zf 18 7 3::⟨none,.store 1 (.tmp 18) (.val (.int .i64 2)),none⟩::[])) <|
  .region (zm 5 0::zo 6 (.callm (.val (.fn (.func 58) [])) [(.tmp 5)])::[]))) <|
 .seq (.region (zm 19 0::zo 20 (.callm (.val (.fn (.func 55) [])) [(.tmp 19)])::zf 21 1 3::zs 1 21 20::[])) <|
 .seq (.region (zo 22 (.load true 8 (.tmp 3))::zs 8 2 22::[])) <|
 .ret⟩
theorem e_parse_parser_goal:AgY Tryz.prog kd_CParse Tryz.f59=some c_parse_parser_goal:=by kernel_rfl
def c_parse_parser_item:AFunc:=⟨44,[.cell 2 true 8],
 .seq (.region (zo 2 (.alloc (.agg [(.int .i64 0),(.str (S8 [])),(.bool false),.nils,(.int .i64 0),(.bool false),.nils,(.int .i64 0)]))::[])) <|
 .seq (.block 0 (.seq (.seq (.region (zm 5 0::zo 6 (.callv (.val (.fn (.func 50) [])) [(.tmp 5),(.val (.str (S8 [105,110,116])))])::zm 4 6::[])) <|
  .cond (.tmp 4) (.skip) <|
  .region (zm 7 0::zo 8 (.callv (.val (.fn (.func 50) [])) [(.tmp 7),(.val (.str (S8 [98,111,111,108])))])::zm 4 8::[])) <|
  .cond (.tmp 4) (.seq (.region (zm 9 0::zo 10 (.callm (.val (.fn (.func 51) [])) [(.tmp 9)])::zs 8 2 10::[])) <|
   .ret) <|
  .seq (.region (zm 12 0::zo 13 (.callm (.val (.fn (.func 52) [])) [(.tmp 12),(.val (.str (S8 [118,97,114])))])::zm 11 13::[])) <|
  .cond (.tmp 11) (.seq (.region (zm 14 0::zo 15 (.callm (.val (.fn (.func 53) [])) [(.tmp 14)])::zs 8 2 15::[])) <|
   .ret) <|
  .seq (.region (zm 17 0::zo 18 (.callm (.val (.fn (.func 52) [])) [(.tmp 17),(.val (.str (S8 [97,114,114,97,121])))])::zm 16 18::[])) <|
  .cond (.tmp 16) (.seq (.region (zm 19 0::zo 20 (.callm (.val (.fn (.func 54) [])) [(.tmp 19)])::zs 8 2 20::[])) <|
   .ret) <|
  .seq (.region (zm 22 0::zo 23 (.callm (.val (.fn (.func 52) [])) [(.tmp 22),(.val (.str (S8 [99,111,110,115,116,114,97,105,110,116])))])::zm 21 23::[])) <|
  .cond (.tmp 21) (.seq (.region (zm 24 0::zo 25 (.callm (.val (.fn (.func 55) [])) [(.tmp 24)])::zo 26 (.build [(.int .i64 0),(.str (S8 [])),(.bool false),.nils,(.int .i64 0),(.bool false),.nils,(.int .i64 0)] [(0,1,(.val (.int .i64 5))),(1,1,(.tmp 25))])::zo 3 (.alloc (.agg [(.int .i64 0),(.str (S8 [])),(.bool false),.nils,(.int .i64 0),(.bool false),.nils,(.int .i64 0)]))::zs 8 3 26::[])) <|
   .seq (.region (zm 27 0::zo 28 (.bslice 1 [(.val (.str (S8 [40])))])::zo 29 (.callm (.val (.fn (.func 25) [])) [(.tmp 27),(.tmp 28)])::[])) <|
   .seq (.region (zm 30 0::zm 31 0::zo 32 (.mkb (.func 57) [(.tmp 31)])::zo 33 (.callm (.val (.fn (.func 56) [])) [(.tmp 30),(.val (.str (S8 [41]))),(.tmp 32)])::zf 34 6 3::zs 1 34 33::[])) <|
   .seq (.region (zo 35 (.load true 8 (.tmp 3))::zs 8 2 35::[])) <|
   .ret) <|
  .seq (.region (zm 37 0::zo 38 (.callm (.val (.fn (.func 52) [])) [(.tmp 37),(.val (.str (S8 [115,111,108,118,101])))])::zo 39 (.un .not (.tmp 38))::zm 36 39::[])) <|
  .cond (.tmp 36) (.region (zm 40 0::zo 41 (.callm (.val (.fn (.func 58) [])) [(.tmp 40)])::[])) <|
  .skip)) <|
 .seq (.region (zm 42 0::zo 43 (.callm (.val (.fn (.func 59) [])) [(.tmp 42)])::zs 8 2 43::[])) <|
 .ret⟩
theorem e_parse_parser_item:AgY Tryz.prog kd_CParse Tryz.f24=some c_parse_parser_item:=by kernel_rfl
def c_parse_word:AFunc:=⟨6,[.tmp 2],
 .seq (.region (zo 2 (.mov (.val (.bool false)))::[])) <|
 .seq (.region (zo 3 (.bslice 1 [(.val (.str (S8 [97,114,114,97,121]))),(.val (.str (S8 [98,111,111,108]))),(.val (.str (S8 [99,111,110,115,116,114,97,105,110,116]))),(.val (.str (S8 [102,97,108,115,101]))),(.val (.str (S8 [105,110,116]))),(.val (.str (S8 [109,97,120,105,109,105,122,101]))),(.val (.str (S8 [109,105,110,105,109,105,122,101]))),(.val (.str (S8 [111,102]))),(.val (.str (S8 [111,117,116,112,117,116,95,97,114,114,97,121]))),(.val (.str (S8 [111,117,116,112,117,116,95,118,97,114]))),(.val (.str (S8 [115,97,116,105,115,102,121]))),(.val (.str (S8 [115,111,108,118,101]))),(.val (.str (S8 [116,114,117,101]))),(.val (.str (S8 [118,97,114])))])::zm 4 0::zo 5 (.call (.val (.fn (.func 134) [])) [(.tmp 3),(.tmp 4)])::zm 2 5::[])) <|
 .ret⟩
theorem e_parse_word:AgY Tryz.prog kd_CParse Tryz.f123=some c_parse_word:=by kernel_rfl
def c_parse_Text:AFunc:=⟨36,[.tmp 2,.tmp 3,.tmp 4],
 .seq (.region (zo 2 (.mov (.val .nils))::zo 3 (.mov (.val (.int .i64 0)))::zo 4 (.mov (.val (.int .i64 0)))::[])) <|
 .seq (.region (zm 12 0::zo 13 (.call (.val (.fn (.func 9) [])) [(.tmp 12)])::zm 11 13::zx 14 11 0::zx 15 11 1::zx 16 11 2::zm 5 14::zm 6 15::zm 7 16::[])) <|
 .seq (.seq (.region (zm 17 7::zo 18 (.bin .neq (.tmp 17) (.val (.int .i64 0)))::[])) <|
 .cond (.tmp 18) (.seq (.region (zm 19 6::zm 20 7::zo 2 (.mov (.val .nils))::zm 3 19::zm 4 20::[])) <|
  .ret) <|
 .skip) <|
 .seq (.region (zm 21 5::zm 22 0::zo 23 (.len true (.tmp 22))::zo 24 (.build [.nils,(.int .i64 0)] [(0,1,(.tmp 21)),(1,1,(.tmp 23))])::zo 25 (.box 2 (.tmp 24))::zm 8 25::[])) <|
 .seq (.region (zm 27 8::zo 28 (.callm (.val (.fn (.func 10) [])) [(.tmp 27)])::zm 26 28::zx 29 26 0::zx 30 26 1::zo 10 (.alloc (.agg [(.int .i64 0),(.int .i64 0)]))::zm 9 29::zs 2 10 30::[])) <|
 .seq (.draw (zm 31 9::zf 32 0 10::zl 33 1 32::zf 34 1 10::zl 35 1 34::zm 2 31::zm 3 33::zm 4 35::[])) <|
 .ret⟩
theorem e_parse_Text:AgY Tryz.prog kd_CParse Tryz.f4=some c_parse_Text:=by kernel_rfl
end Go.Proofs.YtcmphhedaefcgaaGreatDoor
end
section
namespace Go.Proofs.YtcmphhedaefcgaaGreatDoor
open Av
set_option maxRecDepth 100000
def kd_CLex (f:Nat):Nat:=if f=41 then 1 else if f=38 then 2 else if f=19 then 2 else if f=45 then 2 else if f=20 then 2 else 0
def BgY:AFunc:=⟨29,[.tmp 2],
 .seq (.region (zo 2 (.mov (.val (.int .i64 0)))::[])) <|
 .seq (.block 0 (.seq (.seq (.region (zm 4 0::zo 5 (.bin .eql (.tmp 4) (.val (.int .u8 95)))::zm 3 5::[])) <|
  .cond (.tmp 3) (.skip) <|
  .seq (.region (zm 6 0::zo 7 (.bin .geq (.tmp 6) (.val (.int .u8 97)))::zm 8 7::zg 9 (.mov (.tmp 0)) 8 true::zg 10 (.bin .leq (.tmp 9) (.val (.int .u8 122))) 8 true::zo 11 (.pick (.tmp 8) (.tmp 10) (.val (.bool false)))::zm 3 11::[])) <|
  .cond (.tmp 3) (.skip) <|
  .region (zm 12 0::zo 13 (.bin .geq (.tmp 12) (.val (.int .u8 65)))::zm 14 13::zg 15 (.mov (.tmp 0)) 14 true::zg 16 (.bin .leq (.tmp 15) (.val (.int .u8 90))) 14 true::zo 17 (.pick (.tmp 14) (.tmp 16) (.val (.bool false)))::zm 3 17::[])) <|
  .cond (.tmp 3) (.seq (.region (zo 2 (.mov (.val (.int .i64 1)))::[])) <|
   .ret) <|
  .seq (.region (zm 19 0::zo 20 (.bin .geq (.tmp 19) (.val (.int .u8 48)))::zm 21 20::zg 22 (.mov (.tmp 0)) 21 true::zg 23 (.bin .leq (.tmp 22) (.val (.int .u8 57))) 21 true::zo 24 (.pick (.tmp 21) (.tmp 23) (.val (.bool false)))::zm 18 24::[])) <|
  .cond (.tmp 18) (.seq (.region (zo 2 (.mov (.val (.int .i64 2)))::[])) <|
   .ret) <|
  .seq (.region (zm 26 0::zo 27 (.call (.val (.fn (.func 40) [])) [(.val (.str (S8 [58,123,125,91,93,40,41,44,59,61]))),(.tmp 26)])::zo 28 (.bin .geq (.tmp 27) (.val (.int .i64 0)))::zm 25 28::[])) <|
  .cond (.tmp 25) (.seq (.region (zo 2 (.mov (.val (.int .i64 3)))::[])) <|
   .ret) <|
  .skip)) <|
 .seq (.region (zo 2 (.mov (.val (.int .i64 0)))::[])) <|
 .ret⟩
theorem e_lex_class:AgY Tryz.prog kd_CLex Tryz.f43=some BgY:=by kernel_rfl
def c_lex_reader_more:AFunc:=⟨23,[.tmp 2,.tmp 3],
 .seq (.region (zo 2 (.mov (.val (.int .u8 0)))::zo 3 (.mov (.val (.bool false)))::[])) <|
 .seq (.seq (.draw (zm 4 0::zo 5 (.nilc (.tmp 4))::zf 6 1 5::zl 7 1 6::zm 8 0::zo 9 (.nilc (.tmp 8))::zf 10 0 9::zl 11 1 10::zo 12 (.len true (.tmp 11))::zo 13 (.bin .lss (.tmp 7) (.tmp 12))::[])) <|
 .cond (.tmp 13) (.seq (.draw (zm 14 0::zo 15 (.nilc (.tmp 14))::zf 16 0 15::zl 17 1 16::zm 18 0::zo 19 (.nilc (.tmp 18))::zf 20 1 19::zl 21 1 20::zo 22 (.sidx (.tmp 17) (.tmp 21))::zm 2 22::zo 3 (.mov (.val (.bool true)))::[])) <|
  .ret) <|
 .skip) <|
 .seq (.region (zo 2 (.mov (.val (.int .u8 0)))::zo 3 (.mov (.val (.bool false)))::[])) <|
 .ret⟩
theorem e_lex_reader_more:AgY Tryz.prog kd_CLex Tryz.f41=some c_lex_reader_more:=by kernel_rfl
def c_lex_reader_skip:AFunc:=⟨29,[],
 .seq (.region (zm 7 0::zo 8 (.callv (.val (.fn (.func 41) [])) [(.tmp 7)])::zm 6 8::zx 9 6 0::zx 10 6 1::zm 4 9::zm 5 10::[])) <|
 .block 0 (.loop (.seq (.seq (.region (zm 11 5::zm 12 11::zg 13 (.mov (.tmp 1)) 12 true::zg 14 (.mov (.tmp 4)) 12 true::zg 15 (.call (.tmp 13) [(.tmp 14)]) 12 true::zo 16 (.pick (.tmp 12) (.tmp 15) (.val (.bool false)))::[])) <|
  .cond (.tmp 16) (.skip) <|
  .exit 0) <|
  .seq (.block 1 (.region (zm 22 0::zo 23 (.nilc (.tmp 22))::zf 24 1 23::zl 25 1 24::zo 26 (.bin .add (.tmp 25) (.val (.int .i64 1)))::zo 27 (.nilc (.tmp 22))::zf 28 1 27::zs 1 28 26::[]))) <|
  .region (zm 18 0::zo 19 (.callv (.val (.fn (.func 41) [])) [(.tmp 18)])::zm 17 19::zx 20 17 0::zx 21 17 1::zm 4 20::zm 5 21::[])))⟩
theorem e_lex_reader_skip:AgY Tryz.prog kd_CLex Tryz.f38=some c_lex_reader_skip:=by kernel_rfl
def c_lex_reader_blank_1:AFunc:=⟨6,[.tmp 2],
 .seq (.region (zo 2 (.mov (.val (.bool false)))::[])) <|
 .seq (.region (zm 3 0::zo 4 (.call (.val (.fn (.func 40) [])) [(.val (.str (S8 [32,9,13,10]))),(.tmp 3)])::zo 5 (.bin .geq (.tmp 4) (.val (.int .i64 0)))::zm 2 5::[])) <|
 .ret⟩
theorem e_lex_reader_blank_1:AgY Tryz.prog kd_CLex Tryz.f39=some c_lex_reader_blank_1:=by kernel_rfl
def c_lex_reader_blank_2:AFunc:=⟨5,[.tmp 2],
 .seq (.region (zo 2 (.mov (.val (.bool false)))::[])) <|
 .seq (.region (zm 3 0::zo 4 (.bin .neq (.tmp 3) (.val (.int .u8 10)))::zm 2 4::[])) <|
 .ret⟩
theorem e_lex_reader_blank_2:AgY Tryz.prog kd_CLex Tryz.f42=some c_lex_reader_blank_2:=by kernel_rfl
def c_lex_reader_blank:AFunc:=⟨15,[],
 .block 0 (.loop (.block 1 (.seq (.region (zm 4 0::zo 5 (.callm (.val (.fn (.func 38) [])) [(.tmp 4),(.val (.fn (.func 39) []))])::[])) <|
  .seq (.seq (.region (zm 7 0::zo 8 (.callv (.val (.fn (.func 41) [])) [(.tmp 7)])::zm 6 8::zx 9 6 0::zx 10 6 1::zm 2 9::zm 3 10::[])) <|
  .seq (.region (zm 11 2::zo 12 (.bin .neq (.tmp 11) (.val (.int .u8 37)))::[])) <|
  .cond (.tmp 12) (.ret) <|
  .skip) <|
  .region (zm 13 0::zo 14 (.callm (.val (.fn (.func 38) [])) [(.tmp 13),(.val (.fn (.func 42) []))])::[]))))⟩
theorem e_lex_reader_blank:AgY Tryz.prog kd_CLex Tryz.f19=some c_lex_reader_blank:=by kernel_rfl
def c_lex_reader_digits_1:AFunc:=⟨6,[.tmp 2],
 .seq (.region (zo 2 (.mov (.val (.bool false)))::[])) <|
 .seq (.region (zm 3 0::zo 4 (.call (.val (.fn (.func 43) [])) [(.tmp 3)])::zq 5 4 2::zm 2 5::[])) <|
 .ret⟩
theorem e_lex_reader_digits_1:AgY Tryz.prog kd_CLex Tryz.f83=some c_lex_reader_digits_1:=by kernel_rfl
def c_lex_reader_digits:AFunc:=⟨4,[],
 .region (zm 2 0::zo 3 (.callm (.val (.fn (.func 38) [])) [(.tmp 2),(.val (.fn (.func 83) []))])::[])⟩
theorem e_lex_reader_digits:AgY Tryz.prog kd_CLex Tryz.f45=some c_lex_reader_digits:=by kernel_rfl
def c_lex_reader_word_1:AFunc:=⟨11,[.tmp 2],
 .seq (.region (zo 2 (.mov (.val (.bool false)))::[])) <|
 .seq (.region (zm 3 0::zo 4 (.call (.val (.fn (.func 43) [])) [(.tmp 3)])::zq 5 4 1::zm 6 5::zg 7 (.mov (.tmp 0)) 6 false::zg 8 (.call (.val (.fn (.func 43) [])) [(.tmp 7)]) 6 false::zg 9 (.bin .eql (.tmp 8) (.val (.int .i64 2))) 6 false::zo 10 (.pick (.tmp 6) (.val (.bool true)) (.tmp 9))::zm 2 10::[])) <|
 .ret⟩
theorem e_lex_reader_word_1:AgY Tryz.prog kd_CLex Tryz.f44=some c_lex_reader_word_1:=by kernel_rfl
def c_lex_reader_word:AFunc:=⟨74,[.tmp 2],
 .seq (.region (zo 2 (.mov (.val (.int .i64 0)))::[])) <|
 .seq (.draw (zm 5 0::zo 6 (.nilc (.tmp 5))::zf 7 0 6::zl 8 1 7::zm 9 0::zo 10 (.nilc (.tmp 9))::zf 11 1 10::zl 12 1 11::zo 13 (.sslc (.tmp 8) (some (.tmp 12)) none)::zm 3 13::[])) <|
 .seq (.region (zm 14 3::zo 15 (.sidx (.tmp 14) (.val (.int .i64 0)))::zo 16 (.call (.val (.fn (.func 43) [])) [(.tmp 15)])::zm 4 16::[])) <|
 .seq (.block 0 (.seq (.region (zm 18 4::zq 19 18 1::zm 17 19::[])) <|
  .cond (.tmp 17) (.region (zm 20 0::zo 21 (.callm (.val (.fn (.func 38) [])) [(.tmp 20),(.val (.fn (.func 44) []))])::[])) <|
  .seq (.region (zm 23 4::zq 24 23 2::zm 22 24::[])) <|
  .cond (.tmp 22) (.region (zm 25 0::zo 26 (.callm (.val (.fn (.func 45) [])) [(.tmp 25)])::[])) <|
  .seq (.region (zm 28 3::zo 29 (.sidx (.tmp 28) (.val (.int .i64 0)))::zo 30 (.bin .eql (.tmp 29) (.val (.int .u8 45)))::zm 31 30::zg 32 (.mov (.tmp 3)) 31 true::zg 33 (.len true (.tmp 32)) 31 true::zg 34 (.bin .gtr (.tmp 33) (.val (.int .i64 1))) 31 true::zo 35 (.pick (.tmp 31) (.tmp 34) (.val (.bool false)))::zm 36 35::zg 37 (.mov (.tmp 3)) 36 true::zg 38 (.sidx (.tmp 37) (.val (.int .i64 1))) 36 true::zg 39 (.call (.val (.fn (.func 43) [])) [(.tmp 38)]) 36 true::zg 40 (.bin .eql (.tmp 39) (.val (.int .i64 2))) 36 true::zo 41 (.pick (.tmp 36) (.tmp 40) (.val (.bool false)))::zm 27 41::[])) <|
  .cond (.tmp 27) (.seq (.region (zm 42 0::zo 43 (.nilc (.tmp 42))::zf 44 1 43::zl 45 1 44::zo 46 (.bin .add (.tmp 45) (.val (.int .i64 1)))::zo 47 (.nilc (.tmp 42))::zf 48 1 47::zs 1 48 46::[])) <|
   .seq (.region (zm 49 0::zo 50 (.callm (.val (.fn (.func 45) [])) [(.tmp 49)])::[])) <|
   .seq (.region (zo 2 (.mov (.val (.int .i64 2)))::[])) <|
   .ret) <|
  .seq (.seq (.region (zm 52 3::zo 53 (.call (.val (.fn (.func 46) [])) [(.tmp 52),(.val (.str (S8 [58,58])))])::zm 51 53::[])) <|
  .cond (.tmp 51) (.skip) <|
  .region (zm 54 3::zo 55 (.call (.val (.fn (.func 46) [])) [(.tmp 54),(.val (.str (S8 [46,46])))])::zm 51 55::[])) <|
  .cond (.tmp 51) (.seq (.region (zm 56 0::zo 57 (.nilc (.tmp 56))::zf 58 1 57::zl 59 1 58::zo 60 (.bin .add (.tmp 59) (.val (.int .i64 2)))::zo 61 (.nilc (.tmp 56))::zf 62 1 61::zs 1 62 60::[])) <|
   .seq (.region (zo 2 (.mov (.val (.int .i64 3)))::[])) <|
   .ret) <|
  .seq (.region (zm 64 4::zq 65 64 3::zm 63 65::[])) <|
  .cond (.tmp 63) (.region (zm 66 0::zo 67 (.nilc (.tmp 66))::zf 68 1 67::zl 69 1 68::zo 70 (.bin .add (.tmp 69) (.val (.int .i64 1)))::zo 71 (.nilc (.tmp 66))::zf 72 1 71::zs 1 72 70::[])) <|
  .skip)) <|
 .seq (.region (zm 73 4::zm 2 73::[])) <|
 .ret⟩
theorem e_lex_reader_word:AgY Tryz.prog kd_CLex Tryz.f20=some c_lex_reader_word:=by kernel_rfl
def c_lex_Split:AFunc:=⟨74,[.tmp 2,.tmp 3,.tmp 4],
 .seq (.region (zo 2 (.mov (.val .nils))::zo 3 (.mov (.val (.int .i64 0)))::zo 4 (.mov (.val (.int .i64 0)))::[])) <|
 .seq (.seq (.region (zm 10 0::zo 11 (.len true (.tmp 10))::zo 12 (.bin .gtr (.tmp 11) (.val (.int .i64 8192)))::[])) <|
 .cond (.tmp 12) (.seq (.region (zo 2 (.mov (.val .nils))::zo 3 (.mov (.val (.int .i64 0)))::zo 4 (.mov (.val (.int .i64 3)))::[])) <|
  .ret) <|
 .skip) <|
 .seq (.region (zo 5 (.mov (.val .nils))::[])) <|
 .seq (.region (zm 13 0::zo 14 (.build [(.str (S8 [])),(.int .i64 0)] [(0,1,(.tmp 13))])::zo 15 (.box 2 (.tmp 14))::zm 6 15::[])) <|
 .seq (.seq (.region (zm 16 6::zo 17 (.callm (.val (.fn (.func 19) [])) [(.tmp 16)])::[])) <|
 .block 0 (.loop (.seq (.seq (.region (zm 18 6::zo 19 (.nilc (.tmp 18))::zf 20 1 19::zl 21 1 20::zm 22 0::zo 23 (.len true (.tmp 22))::zo 24 (.bin .lss (.tmp 21) (.tmp 23))::[])) <|
  .cond (.tmp 24) (.skip) <|
  .exit 0) <|
  .seq (.block 1 (.seq (.region (zm 27 6::zo 28 (.nilc (.tmp 27))::zf 29 1 28::zl 30 1 29::zo 31 (.build [(.int .i64 0),(.str (S8 [])),(.int .i64 0),(.int .i64 0)] [(3,1,(.tmp 30))])::zo 7 (.alloc (.agg [(.int .i64 0),(.str (S8 [])),(.int .i64 0),(.int .i64 0)]))::zs 4 7 31::[])) <|
   .seq (.seq (.region (zm 32 5::zo 33 (.len false (.tmp 32))::zq 34 33 4096::[])) <|
   .cond (.tmp 34) (.seq (.draw (zf 35 3 7::zl 36 1 35::zo 2 (.mov (.val .nils))::zm 3 36::zo 4 (.mov (.val (.int .i64 3)))::[])) <|
    .ret) <|
   .skip) <|
   .seq (.region (zm 37 6::zo 38 (.callm (.val (.fn (.func 20) [])) [(.tmp 37)])::zf 39 0 7::zs 1 39 38::[])) <|
   .seq (.draw (zm 40 0::zf 41 3 7::zl 42 1 41::zm 43 6::zo 44 (.nilc (.tmp 43))::zf 45 1 44::zl 46 1 45::zo 47 (.sslc (.tmp 40) (some (.tmp 42)) (some (.tmp 46)))::zf 48 1 7::zs 1 48 47::[])) <|
   .seq (.seq (.region (zf 49 0 7::zl 50 1 49::zq 51 50 0::[])) <|
   .cond (.tmp 51) (.seq (.draw (zf 52 3 7::zl 53 1 52::zo 2 (.mov (.val .nils))::zm 3 53::zo 4 (.mov (.val (.int .i64 5)))::[])) <|
    .ret) <|
   .skip) <|
   .seq (.seq (.region (zf 54 0 7::zl 55 1 54::zq 56 55 2::[])) <|
   .cond (.tmp 56) (.seq (.region (zf 58 1 7::zl 59 1 58::zo 60 (.call (.val (.fn (.func 21) [])) [(.tmp 59),(.val (.int .i64 10)),(.val (.int .i64 64))])::zm 57 60::zx 61 57 0::zx 62 57 1::zm 8 61::zm 9 62::[])) <|
    .seq (.seq (.region (zm 63 9::zo 64 (.isni true (.tmp 63))::[])) <|
    .cond (.tmp 64) (.seq (.draw (zf 65 3 7::zl 66 1 65::zo 2 (.mov (.val .nils))::zm 3 66::zo 4 (.mov (.val (.int .i64 4)))::[])) <|
     .ret) <|
    .skip) <|
    .region (zm 67 8::zf 68 2 7::zs 1 68 67::[])) <|
   .skip) <|
   .region (zm 69 5::zo 70 (.load true 4 (.tmp 7))::zo 71 (.bslice 4 [(.tmp 70)])::zo 72 (.app 4 40 (.tmp 69) (.tmp 71))::zm 5 72::[]))) <|
  .region (zm 25 6::zo 26 (.callm (.val (.fn (.func 19) [])) [(.tmp 25)])::[])))) <|
 .seq (.region (zm 73 5::zm 2 73::zo 3 (.mov (.val (.int .i64 0)))::zo 4 (.mov (.val (.int .i64 0)))::[])) <|
 .ret⟩
theorem e_lex_Split:AgY Tryz.prog kd_CLex Tryz.f9=some c_lex_Split:=by kernel_rfl
end Go.Proofs.YtcmphhedaefcgaaGreatDoor
end
section
namespace Go.Proofs.YtcmphhedaefcgaaGreatDoor
open Av
attribute [local irreducible] awp AbX
set_option maxRecDepth 100000
set_option maxHeartbeats 4000000
theorem ctr_lib {P:Program} {f:FuncId} {args:List AV} {vs:Array Value} {r:AV} {v:Value} (hcf:∀ (xs:Array Value) (w:World),(callFunc f xs).run P w=.ok (.enter f xs) w)
 (hl:args.length=vs.size) (ha:∀ (fz:Fz) (pl:Pl) (i:Nat) a c,args[i]? = some a→Rep fz pl a c→vs[i]? = some c) (h:∀ w,Calls P f vs w fun e w'=>e=.returned v∧w'=w) (hr:∀ fz,RepF fz r v):Ctr P f args [] r []:=by
 refine ⟨hcf,fun w0 pr fz pl w cs hS hcl hA=>?_⟩
 have hcs:cs=vs:=by
  apply Array.ext
  · omega
  · intro i h1 h2
    have hi:i<args.length:=by omega
    have:=ha fz pl i args[i] cs[i] (List.getElem?_eq_getElem hi) (hA i _ _ (List.getElem?_eq_getElem hi) (Array.getElem?_eq_getElem h1))
    rw [Array.getElem?_eq_getElem h2] at this
    injection this with this;exact this.symm
 subst hcs
 refine (h w).mono ?_
 rintro e w' ⟨rfl,rfl⟩
 exact ⟨v,fz,pl,rfl,.refl _,List.prefix_refl _,.frz (hr fz),hS⟩
theorem lib_IndexByte (s:Bs) (c:UInt8):Ctr Tryz.prog 40 [.str (S8 s),.int .u8 c.toNat] [] (.int .i64 (Lib.indexByte s c)) []:=by
 refine ctr_lib (vs:=#[.string (S8 s),.int .u8 c.toNat]) Tryz.call40 rfl ?_ (v:=.int .i64 (Lib.indexByte s c)) ?_ (fun fz=>.int _ _)
 · intro fz pl i a v hi hR
   match i,hi with
   | 0,hi=>simp at hi;subst hi;rw [hR.inv_str];rfl
   | 1,hi=>simp at hi;subst hi;rw [hR.inv_int];rfl
 · intro w
   refine (Tryz.strings_IndexByte (S8 s) c.toNat w).mono ?_
   rintro e w' ⟨rfl,rfl⟩
   refine ⟨?_,rfl⟩
   rw [S8_data]
   simp
theorem lib_HasPrefix (s p:Bs):Ctr Tryz.prog 46 [.str (S8 s),.str (S8 p)] [] (.bool (Lib.hasPrefix s p)) []:=by
 refine ctr_lib (vs:=#[.string (S8 s),.string (S8 p)]) Tryz.call46 rfl ?_ (v:=.bool (Lib.hasPrefix s p)) ?_ (fun fz=>.bool _)
 · intro fz pl i a v hi hR
   match i,hi with
   | 0,hi=>simp at hi;subst hi;rw [hR.inv_str];rfl
   | 1,hi=>simp at hi;subst hi;rw [hR.inv_str];rfl
 · intro w
   refine (Tryz.strings_HasPrefix (S8 s) (S8 p) w).mono ?_
   rintro e w' ⟨rfl,rfl⟩
   exact ⟨by rw [S8_data,S8_data],rfl⟩
theorem ge_index (s:Bs) (c:UInt8):decide (0≤Lib.indexByte s c)=s.contains c:=(Lib.contains_iff_indexByte s c).symm
theorem lex_class (c:UInt8):Ctr Tryz.prog 43 [.int .u8 c.toNat] [] (.int .i64 (clsB c)) []:=by
 refine AcZ Tryz.func43 Tryz.call43 e_lex_class ?_
 by_cases a1:(c.toNat:Int)=95
 · rw [show clsB c=1 by unfold clsB;rw [if_pos a1]]
   simp +contextual -implicitDefEqProofs only [sm,BgY,seval,a1]
 have hI:=lib_IndexByte [58,123,125,91,93,40,41,44,59,61] c
 have hG:=ge_index [58,123,125,91,93,40,41,44,59,61] c
 have hcl:=clsB.eq_1 c
 rw [if_neg a1] at hcl
 generalize hn:(c.toNat:Int)=n at hI hcl a1 ⊢
 have hseg:(n≤47)∨(48≤n∧n≤57)∨(58≤n∧n≤64)∨(65≤n∧n≤90)∨(91≤n∧n≤96)∨(97≤n∧n≤122)∨(123≤n):=by omega
 rcases hseg with h | h | h | h | h | h | h
 · have f0:¬ (97:Int)≤n:=by omega
   have f1:n≤(122:Int):=by omega
   have f2:¬ (65:Int)≤n:=by omega
   have f3:n≤(90:Int):=by omega
   have f4:¬ (48:Int)≤n:=by omega
   have f5:n≤(57:Int):=by omega
   have hz:clsB c=if signs8.contains c=true then 3 else 0:=by
    rw [hcl,if_neg (by omega),if_neg (by omega),if_neg (by omega)]
   rw [hz]
   simp +contextual -implicitDefEqProofs only [sm,BgY,seval,a1,f0,f1,f2,f3,f4,f5,ge_iff_le]
   refine AaY hI (AaQ _) rfl ?_
   cases hs:signs8.contains c
   · have hs':([58,123,125,91,93,40,41,44,59,61]:Bs).contains c=false:=hs
     rw [hs'] at hG
     simp +contextual -implicitDefEqProofs only [sm,seval,ge_iff_le,hG]
   · have hs':([58,123,125,91,93,40,41,44,59,61]:Bs).contains c=true:=hs
     rw [hs'] at hG
     simp +contextual -implicitDefEqProofs only [sm,seval,ge_iff_le,hG]
 · have f0:¬ (97:Int)≤n:=by omega
   have f1:n≤(122:Int):=by omega
   have f2:¬ (65:Int)≤n:=by omega
   have f3:n≤(90:Int):=by omega
   have f4:(48:Int)≤n:=by omega
   have f5:n≤(57:Int):=by omega
   have hz:clsB c=2:=by
    rw [hcl,if_neg (by omega),if_neg (by omega),if_pos (by omega)]
   rw [hz]
   simp +contextual -implicitDefEqProofs only [sm,BgY,seval,a1,f0,f1,f2,f3,f4,f5,ge_iff_le]
 · have f0:¬ (97:Int)≤n:=by omega
   have f1:n≤(122:Int):=by omega
   have f2:¬ (65:Int)≤n:=by omega
   have f3:n≤(90:Int):=by omega
   have f4:(48:Int)≤n:=by omega
   have f5:¬ n≤(57:Int):=by omega
   have hz:clsB c=if signs8.contains c=true then 3 else 0:=by
    rw [hcl,if_neg (by omega),if_neg (by omega),if_neg (by omega)]
   rw [hz]
   simp +contextual -implicitDefEqProofs only [sm,BgY,seval,a1,f0,f1,f2,f3,f4,f5,ge_iff_le]
   refine AaY hI (AaQ _) rfl ?_
   cases hs:signs8.contains c
   · have hs':([58,123,125,91,93,40,41,44,59,61]:Bs).contains c=false:=hs
     rw [hs'] at hG
     simp +contextual -implicitDefEqProofs only [sm,seval,ge_iff_le,hG]
   · have hs':([58,123,125,91,93,40,41,44,59,61]:Bs).contains c=true:=hs
     rw [hs'] at hG
     simp +contextual -implicitDefEqProofs only [sm,seval,ge_iff_le,hG]
 · have f0:¬ (97:Int)≤n:=by omega
   have f1:n≤(122:Int):=by omega
   have f2:(65:Int)≤n:=by omega
   have f3:n≤(90:Int):=by omega
   have f4:(48:Int)≤n:=by omega
   have f5:¬ n≤(57:Int):=by omega
   have hz:clsB c=1:=by
    first | rw [hcl,if_pos (by omega)] | rw [hcl,if_neg (by omega),if_pos (by omega)]
   rw [hz]
   simp +contextual -implicitDefEqProofs only [sm,BgY,seval,a1,f0,f1,f2,f3,f4,f5,ge_iff_le]
 · have f0:¬ (97:Int)≤n:=by omega
   have f1:n≤(122:Int):=by omega
   have f2:(65:Int)≤n:=by omega
   have f3:¬ n≤(90:Int):=by omega
   have f4:(48:Int)≤n:=by omega
   have f5:¬ n≤(57:Int):=by omega
   have hz:clsB c=if signs8.contains c=true then 3 else 0:=by
    rw [hcl,if_neg (by omega),if_neg (by omega),if_neg (by omega)]
   rw [hz]
   simp +contextual -implicitDefEqProofs only [sm,BgY,seval,a1,f0,f1,f2,f3,f4,f5,ge_iff_le]
   refine AaY hI (AaQ _) rfl ?_
   cases hs:signs8.contains c
   · have hs':([58,123,125,91,93,40,41,44,59,61]:Bs).contains c=false:=hs
     rw [hs'] at hG
     simp +contextual -implicitDefEqProofs only [sm,seval,ge_iff_le,hG]
   · have hs':([58,123,125,91,93,40,41,44,59,61]:Bs).contains c=true:=hs
     rw [hs'] at hG
     simp +contextual -implicitDefEqProofs only [sm,seval,ge_iff_le,hG]
 · have f0:(97:Int)≤n:=by omega
   have f1:n≤(122:Int):=by omega
   have f2:(65:Int)≤n:=by omega
   have f3:¬ n≤(90:Int):=by omega
   have f4:(48:Int)≤n:=by omega
   have f5:¬ n≤(57:Int):=by omega
   have hz:clsB c=1:=by
    first | rw [hcl,if_pos (by omega)] | rw [hcl,if_neg (by omega),if_pos (by omega)]
   rw [hz]
   simp +contextual -implicitDefEqProofs only [sm,BgY,seval,a1,f0,f1,f2,f3,f4,f5,ge_iff_le]
 · have f0:(97:Int)≤n:=by omega
   have f1:¬ n≤(122:Int):=by omega
   have f2:(65:Int)≤n:=by omega
   have f3:¬ n≤(90:Int):=by omega
   have f4:(48:Int)≤n:=by omega
   have f5:¬ n≤(57:Int):=by omega
   have hz:clsB c=if signs8.contains c=true then 3 else 0:=by
    rw [hcl,if_neg (by omega),if_neg (by omega),if_neg (by omega)]
   rw [hz]
   simp +contextual -implicitDefEqProofs only [sm,BgY,seval,a1,f0,f1,f2,f3,f4,f5,ge_iff_le]
   refine AaY hI (AaQ _) rfl ?_
   cases hs:signs8.contains c
   · have hs':([58,123,125,91,93,40,41,44,59,61]:Bs).contains c=false:=hs
     rw [hs'] at hG
     simp +contextual -implicitDefEqProofs only [sm,seval,ge_iff_le,hG]
   · have hs':([58,123,125,91,93,40,41,44,59,61]:Bs).contains c=true:=hs
     rw [hs'] at hG
     simp +contextual -implicitDefEqProofs only [sm,seval,ge_iff_le,hG]
theorem lex_blank1 (c:UInt8):Ctr Tryz.prog 39 [.int .u8 c.toNat] [] (.bool (AsY c)) []:=by
 refine AcZ Tryz.func39 Tryz.call39 e_lex_reader_blank_1 ?_
 have hG:=ge_index [32,9,13,10] c
 simp +contextual -implicitDefEqProofs only [sm,c_lex_reader_blank_1,seval]
 refine AaY (lib_IndexByte _ c) (AaQ _) rfl ?_
 simp +contextual -implicitDefEqProofs only [sm,seval,ge_iff_le,hG,AsY]
theorem lex_blank2 (c:UInt8):Ctr Tryz.prog 42 [.int .u8 c.toNat] [] (.bool (isRow c)) []:=by
 refine AcZ Tryz.func42 Tryz.call42 e_lex_reader_blank_2 ?_
 simp +contextual -implicitDefEqProofs only [sm,c_lex_reader_blank_2,seval,isRow]
theorem lex_digits1 (c:UInt8):Ctr Tryz.prog 83 [.int .u8 c.toNat] [] (.bool (BuZ c)) []:=by
 refine AcZ Tryz.func83 Tryz.call83 e_lex_reader_digits_1 ?_
 simp +contextual -implicitDefEqProofs only [sm,c_lex_reader_digits_1,seval]
 refine AaY (lex_class c) (AaQ _) rfl ?_
 simp +contextual -implicitDefEqProofs only [sm,seval,BuZ]
theorem lex_word1 (c:UInt8):Ctr Tryz.prog 44 [.int .u8 c.toNat] [] (.bool (AzQ c)) []:=by
 refine AcZ Tryz.func44 Tryz.call44 e_lex_reader_word_1 ?_
 simp +contextual -implicitDefEqProofs only [sm,c_lex_reader_word_1,seval]
 refine AaY (lex_class c) (AaQ _) rfl ?_
 by_cases h:clsB c=1
 · have hw:AzQ c=true:=by unfold AzQ;rw [decide_eq_true h];rfl
   simp +contextual -implicitDefEqProofs only [sm,seval,h,hw]
 · have hw:AzQ c=decide (clsB c=2):=by unfold AzQ;rw [decide_eq_false h];rfl
   simp +contextual -implicitDefEqProofs only [sm,seval,h,hw]
   refine AaY (lex_class c) (AaQ _) rfl ?_
   simp +contextual -implicitDefEqProofs only [sm,seval,h]
def rdE (s r:Bs):AV:=.agg [.str (S8 s),.int .i64 (posR s r:Int)]
theorem AwX (s r:Bs):rdE s r=.agg [.str (S8 s),.int .i64 (posR s r:Int)]:=rfl
def hdN:Bs→Int
 | []=>0
 | c::_=>c.toNat
def neB:Bs→Bool
 | []=>false
 | _::_=>true
theorem hdN_nil:hdN []=0:=rfl
theorem hdN_cons (c:UInt8) (r:Bs):hdN (c::r)=c.toNat:=rfl
theorem neB_nil:neB []=false:=rfl
theorem neB_cons (c:UInt8) (r:Bs):neB (c::r)=true:=rfl
theorem lex_more (s r:Bs) (hs:r <:+ s):Ctr Tryz.prog 41 [.rptr [.str (S8 s),.int .i64 (posR s r:Int)]] [] (.tuple [.int .u8 (hdN r),.bool (neB r)]) []:=by
 refine AcZ Tryz.func41 Tryz.call41 e_lex_reader_more ?_
 cases r with
 |
  nil =>
  have h:¬ ((posR s []:Nat):Int)<(s.length:Int):=by unfold posR;simp
  simp +contextual -implicitDefEqProofs only [sm,c_lex_reader_more,seval,h,hdN_nil,hdN_cons,neB_nil,neB_cons]
 |
  cons c r =>
  have h0:posR s (c::r)<s.length:=(posR_lt hs).2 (by simp)
  have h:((posR s (c::r):Nat):Int)<(s.length:Int):=by omega
  have hg:s[posR s (c::r)]? = some c:=by rw [posR_get hs];rfl
  simp +contextual -implicitDefEqProofs only [sm,c_lex_reader_more,seval,h,hg,hdN_nil,hdN_cons,neB_nil,neB_cons]
theorem lex_skip (g:FuncId) (p:UInt8→Bool) (hg:∀ c:UInt8,Ctr Tryz.prog g [.int .u8 c.toNat] [] (.bool (p c)) []) (s r:Bs) (hs:r <:+ s) (hl:s.length≤1000000000000) :
 Ctr Tryz.prog 38 [.ptr 2 0 0 0,.fn (.func g) []] [some (2,[rdE s r])] (.tuple []) [some (2,[rdE s (r.dropWhile p)])]:=by
 refine call_box Tryz.func38 Tryz.call38 e_lex_reader_skip ?_
 simp +contextual -implicitDefEqProofs only [sm,c_lex_reader_skip,AwX,seval]
 refine AfZ (lex_more s r hs) ?_ rfl ?_
 iterate 2 simp +contextual -implicitDefEqProofs only [sm,seval]
 refine BbZ (fun q:Bs=>q <:+ s∧q.dropWhile p=r.dropWhile p) (fun q=>tm 29 [(0,.ptr 2 0 0 0),(1,.fn (.func g) []),(4,.int .u8 (hdN q)),(5,.bool (neB q))]) (fun q=>[some (2,[rdE s q])]) (fun q=>q.length) r ⟨hs,rfl⟩ ⟨[0],by decide,rfl,?_,?_⟩ ?_
 iterate 2 simp +contextual -implicitDefEqProofs only [sm,seval,AwX]
 · rintro q ⟨hq,hd⟩
   cases q with
   |
    nil =>
    have hd':r.dropWhile p=[]:=by rw [← hd];rfl
    simp +contextual -implicitDefEqProofs only [sm,seval,AwX,hdN_nil,hdN_cons,neB_nil,neB_cons,hd']
    refine ⟨[],[0],by decide,rfl,?_⟩
    simp +contextual -implicitDefEqProofs only [sm,seval]
   |
    cons c q =>
    have hq2:q <:+ s:=(List.suffix_cons c q).trans hq
    have hg':=hg c
    cases hp:p c
    · rw [hp] at hg'
      have hd':r.dropWhile p=c::q:=by rw [← hd,List.dropWhile_cons_of_neg (by simp [hp])]
      simp +contextual -implicitDefEqProofs only [sm,seval,AwX,hdN_nil,hdN_cons,neB_nil,neB_cons,hd']
      refine AaY hg' (AaQ _) rfl ?_
      simp +contextual -implicitDefEqProofs only [sm,seval]
      refine ⟨[],[0],by decide,rfl,?_⟩
      simp +contextual -implicitDefEqProofs only [sm,seval]
    · rw [hp] at hg'
      have hd':q.dropWhile p=r.dropWhile p:=by rw [← hd,List.dropWhile_cons_of_pos hp]
      have hle:=hq.length_le
      have e1:IntKind.i64.wrap ((posR s (c::q):Int)+1)=((posR s q:Nat):Int):=by
       have h1:posR s q=posR s (c::q)+1:=by
        unfold posR
        simp only [List.length_cons] at hle ⊢;omega
       have h2:=posR_le s (c::q)
       rw [AiY] <;> omega
      simp +contextual -implicitDefEqProofs only [sm,seval,AwX,hdN_nil,hdN_cons,neB_nil,neB_cons]
      refine AaY hg' (AaQ _) rfl ?_
      simp +contextual -implicitDefEqProofs only [sm,seval,e1]
      refine AfZ (lex_more s q hq2) ?_ rfl ?_
      iterate 2 simp +contextual -implicitDefEqProofs only [sm,seval]
      refine ⟨q,⟨hq2,hd'⟩,by simp,[0],by decide,rfl,?_,?_⟩
      iterate 2 simp +contextual -implicitDefEqProofs only [sm,seval,AwX]
theorem lex_digits (s r:Bs) (hs:r <:+ s) (hl:s.length≤1000000000000) :
 Ctr Tryz.prog 45 [.ptr 2 0 0 0] [some (2,[rdE s r])] (.tuple []) [some (2,[rdE s (r.dropWhile BuZ)])]:=by
 refine call_box Tryz.func45 Tryz.call45 e_lex_reader_digits ?_
 simp +contextual -implicitDefEqProofs only [sm,c_lex_reader_digits,AwX,seval]
 refine AaX [0] (lex_skip _ BuZ lex_digits1 s r hs hl) (by decide) ?_ ?_ ?_ ?_ ?_ ?_
 iterate 6 simp +contextual -implicitDefEqProofs only [sm,seval,AwX]
 refine ⟨[],[0],by decide,rfl,?_⟩
 simp +contextual -implicitDefEqProofs only [sm,seval]
theorem lex_blank (s r:Bs) (hs:r <:+ s) (hl:s.length≤1000000000000) :
 Ctr Tryz.prog 19 [.ptr 2 0 0 0] [some (2,[rdE s r])] (.tuple []) [some (2,[rdE s (AnZ r)])]:=by
 refine call_box Tryz.func19 Tryz.call19 e_lex_reader_blank ?_
 simp +contextual -implicitDefEqProofs only [sm,c_lex_reader_blank,AwX,seval]
 refine BbZ (fun q:Bs=>q <:+ s∧AnZ q=AnZ r) (fun q=>tm 15 [(0,.ptr 2 0 0 0)]) (fun q=>[some (2,[rdE s q])]) (fun q=>q.length) r ⟨hs,rfl⟩ ⟨[0],by decide,rfl,?_,?_⟩ ?_
 iterate 2 simp +contextual -implicitDefEqProofs only [sm,seval,AwX]
 · rintro q ⟨hq,hd⟩
   have h1:q.dropWhile AsY <:+ q:=List.dropWhile_suffix _
   have h2:=h1.trans hq
   simp +contextual -implicitDefEqProofs only [sm,seval,AwX]
   refine AaX [0] (lex_skip _ AsY lex_blank1 s q hq hl) (by decide) ?_ ?_ ?_ ?_ ?_ ?_
   iterate 6 simp +contextual -implicitDefEqProofs only [sm,seval,AwX]
   refine AfZ (lex_more s _ h2) ?_ rfl ?_
   · simp +contextual -implicitDefEqProofs only [sm,seval]
   cases hb:q.dropWhile AsY with
   |
    nil =>
    have hz:AnZ r=[]:=by rw [← hd,blankR_nil hb]
    simp +contextual -implicitDefEqProofs only [sm,seval,hdN_nil,hdN_cons,neB_nil,neB_cons,hz]
    refine ⟨[],[0],by decide,rfl,?_⟩
    simp +contextual -implicitDefEqProofs only [sm,seval]
   |
    cons c t =>
    rw [hb] at h1 h2
    by_cases hc:(c.toNat:Int)=37
    · have hrow:isRow c=true:=by unfold isRow;rw [decide_eq_true_eq];omega
      have h3:(c::t).dropWhile isRow <:+ t:=by rw [List.dropWhile_cons_of_pos hrow];exact List.dropWhile_suffix _
      have h4:=h3.length_le
      have h5:=h1.length_le
      simp only [List.length_cons] at h5
      have hz:AnZ ((c::t).dropWhile isRow)=AnZ r:=by rw [← hd,blankR_row hb hc]
      simp +contextual -implicitDefEqProofs only [sm,seval,hdN_nil,hdN_cons,neB_nil,neB_cons,hc]
      refine AaX [0] (lex_skip _ isRow lex_blank2 s (c::t) h2 hl) (by decide) ?_ ?_ ?_ ?_ ?_ ?_
      iterate 5 simp +contextual -implicitDefEqProofs only [sm,seval,AwX]
      generalize hT:(c::t).dropWhile isRow=T at h3 h4 hz
      simp +contextual -implicitDefEqProofs only [sm,seval,AwX]
      refine ⟨T,⟨h3.trans ((List.suffix_cons c t).trans h2),hz⟩,by omega,[0],by decide,rfl,?_,?_⟩
      iterate 2 simp +contextual -implicitDefEqProofs only [sm,seval,AwX]
    · have hz:AnZ r=c::t:=by rw [← hd,blankR_end hb hc]
      simp +contextual -implicitDefEqProofs only [sm,seval,hdN_nil,hdN_cons,neB_nil,neB_cons,hz,hc]
      refine ⟨[],[0],by decide,rfl,?_⟩
      simp +contextual -implicitDefEqProofs only [sm,seval]
end Go.Proofs.YtcmphhedaefcgaaGreatDoor
end
section
namespace Go.Proofs.YtcmphhedaefcgaaGreatDoor
open Av
attribute [local irreducible] awp AbX
set_option maxRecDepth 100000
set_option maxHeartbeats 4000000
theorem posR_next {s:Bs} {c:UInt8} {t:Bs} (h:c::t <:+ s) (hl:s.length≤1000000000000):IntKind.i64.wrap ((posR s (c::t):Int)+1)=((posR s t:Nat):Int):=by
 have hle:=h.length_le
 have h1:posR s t=posR s (c::t)+1:=by
  unfold posR
  simp only [List.length_cons] at hle ⊢;omega
 have h2:=posR_le s (c::t)
 rw [AiY] <;> omega
theorem posR_next2 {s:Bs} {c d:UInt8} {t:Bs} (h:c::d::t <:+ s) (hl:s.length≤1000000000000):IntKind.i64.wrap ((posR s (c::d::t):Int)+2)=((posR s t:Nat):Int):=by
 have hle:=h.length_le
 have h1:posR s t=posR s (c::d::t)+2:=by
  unfold posR
  simp only [List.length_cons] at hle ⊢;omega
 have h2:=posR_le s (c::d::t)
 rw [AiY] <;> omega
theorem prefix2 {c:UInt8} {t:Bs} {a b:UInt8} (h:Lib.hasPrefix (c::t) [a,b]=true):∃ t',t=b::t':=by
 unfold Lib.hasPrefix at h
 cases t with
 | nil=>simp [List.isPrefixOf] at h
 | cons d t=>simp [List.isPrefixOf] at h;exact ⟨t,by rw [h.2]⟩
theorem clsB_or (c:UInt8):clsB c=1∨clsB c=2∨clsB c=3∨clsB c=0:=by
 unfold clsB
 repeat' split
 all_goals simp
theorem lex_word (s:Bs) (c:UInt8) (t:Bs) (hs:c::t <:+ s) (hl:s.length≤1000000000000) :
 Ctr Tryz.prog 20 [.ptr 2 0 0 0] [some (2,[rdE s (c::t)])] (.int .i64 (ApY (c::t)).1) [some (2,[rdE s (ApY (c::t)).2])]:=by
 refine call_box Tryz.func20 Tryz.call20 e_lex_reader_word ?_
 have hdr:(List.take s.length s).drop (posR s (c::t))=c::t:=by rw [List.take_length];exact posR_drop hs
 have hp1:posR s (c::t)≤s.length:=posR_le _ _
 have hp0:(0:Int)≤(posR s (c::t):Int):=by omega
 have hts:t <:+ s:=(List.suffix_cons c t).trans hs
 have hnx:=posR_next hs hl
 have hc0:(c::t)[0]? = some c:=rfl
 simp +contextual -implicitDefEqProofs only [sm,c_lex_reader_word,AwX,seval,hp0,hp1,Nat.le_refl,hdr,hc0]
 refine AaY (lex_class c) (AaQ _) rfl ?_
 by_cases k1:clsB c=1
 · have hw:ApY (c::t)=(1,(c::t).dropWhile AzQ):=by rw [AsQ,if_pos k1]
   rw [hw]
   simp +contextual -implicitDefEqProofs only [sm,seval,k1]
   refine AaX [0] (lex_skip _ AzQ lex_word1 s (c::t) hs hl) (by decide) ?_ ?_ ?_ ?_ ?_ ?_
   iterate 6 simp +contextual -implicitDefEqProofs only [sm,seval,AwX]
   refine ⟨[],[0],by decide,rfl,?_⟩
   simp +contextual -implicitDefEqProofs only [sm,seval]
 by_cases k2:clsB c=2
 · have hw:ApY (c::t)=(2,(c::t).dropWhile BuZ):=by rw [AsQ,if_neg k1,if_pos k2]
   rw [hw]
   simp +contextual -implicitDefEqProofs only [sm,seval,k1,k2]
   refine AaX [0] (lex_digits s (c::t) hs hl) (by decide) ?_ ?_ ?_ ?_ ?_ ?_
   iterate 6 simp +contextual -implicitDefEqProofs only [sm,seval,AwX]
   refine ⟨[],[0],by decide,rfl,?_⟩
   simp +contextual -implicitDefEqProofs only [sm,seval]
 by_cases k3:(c.toNat:Int)=45∧secD t=true
 · have hw:ApY (c::t)=(2,t.dropWhile BuZ):=by rw [AsQ,if_neg k1,if_neg k2,if_pos k3]
   rw [hw]
   obtain ⟨k3,k4⟩:=k3
   cases t with
   | nil=>cases k4
   |
    cons d t =>
    have k5:clsB d=2:=by simpa [secD] using k4
    have hc1:(c::d::t)[1]? = some d:=rfl
    have hln:(1:Int)<((t.length+1+1:Nat):Int):=by omega
    simp +contextual -implicitDefEqProofs only [sm,seval,k1,k2,k3,hc0,hc1,hln,gt_iff_lt]
    refine AaY (lex_class d) (AaQ _) rfl ?_
    simp +contextual -implicitDefEqProofs only [sm,seval,k5,hnx]
    refine AaX [0] (lex_digits s (d::t) hts hl) (by decide) ?_ ?_ ?_ ?_ ?_ ?_
    iterate 6 simp +contextual -implicitDefEqProofs only [sm,seval,AwX]
    refine ⟨[],[0],by decide,rfl,?_⟩
    simp +contextual -implicitDefEqProofs only [sm,seval]
 have hfall:(ApY (c::t))=(if Lib.hasPrefix (c::t) [58,58]=true∨Lib.hasPrefix (c::t) [46,46]=true then (3,t.drop 1) else if clsB c=3 then (3,t) else (0,c::t)):=by
  rw [AsQ,if_neg k1,if_neg k2,if_neg k3]
 have hP1:=lib_HasPrefix (c::t) [58,58]
 have hP2:=lib_HasPrefix (c::t) [46,46]
 by_cases k3a:(c.toNat:Int)=45
 · have k4:secD t=false:=by
    cases h:secD t with
    | false=>rfl
    | true=>exact absurd ⟨k3a,h⟩ k3
   by_cases ht:t=[]
   · have hlen:t.length=0:=by rw [ht];rfl
     have hln:((0+1:Nat):Int)=1:=rfl
     have hln2:((1:Nat):Int)=1:=rfl
     simp +contextual -implicitDefEqProofs only [sm,seval,k1,k2,k3a,hc0,hlen,hln,hln2,gt_iff_lt,Int.lt_irrefl]
     cases q1:Lib.hasPrefix (c::t) [58,58]
     · rw [q1] at hP1 hfall
       refine AaY hP1 (AaQ _) rfl ?_
       simp +contextual -implicitDefEqProofs only [sm,seval]
       cases q2:Lib.hasPrefix (c::t) [46,46]
       · rw [q2] at hP2 hfall
         refine AaY hP2 (AaQ _) rfl ?_
         by_cases k6:clsB c=3
         · have hw:ApY (c::t)=(3,t):=by rw [hfall,if_neg (by simp),if_pos k6]
           rw [hw]
           simp +contextual -implicitDefEqProofs only [sm,seval,k6,hnx]
           refine ⟨[],[0],by decide,rfl,?_⟩
           simp +contextual -implicitDefEqProofs only [sm,seval]
         · have hw:ApY (c::t)=(0,c::t):=by rw [hfall,if_neg (by simp),if_neg k6]
           have h0:clsB c=0:=by
            have:=clsB_or c
            omega
           rw [hw]
           simp +contextual -implicitDefEqProofs only [sm,seval,k6,h0]
           refine ⟨[],[0],by decide,rfl,?_⟩
           simp +contextual -implicitDefEqProofs only [sm,seval]
       · obtain ⟨t',rfl⟩:=prefix2 q2
         rw [q2] at hP2 hfall
         have hw:ApY (c::46::t')=(3,t'):=by rw [hfall,if_pos (by simp)];rfl
         rw [hw]
         have hn2:=posR_next2 hs hl
         refine AaY hP2 (AaQ _) rfl ?_
         simp +contextual -implicitDefEqProofs only [sm,seval,hn2]
         refine ⟨[],[0],by decide,rfl,?_⟩
         simp +contextual -implicitDefEqProofs only [sm,seval]
     · obtain ⟨t',rfl⟩:=prefix2 q1
       rw [q1] at hP1 hfall
       have hw:ApY (c::58::t')=(3,t'):=by rw [hfall,if_pos (by simp)];rfl
       rw [hw]
       have hn2:=posR_next2 hs hl
       refine AaY hP1 (AaQ _) rfl ?_
       simp +contextual -implicitDefEqProofs only [sm,seval,hn2]
       refine ⟨[],[0],by decide,rfl,?_⟩
       simp +contextual -implicitDefEqProofs only [sm,seval]
   · obtain ⟨d,t2,rfl⟩:=List.exists_cons_of_ne_nil ht
     have k5:¬ clsB d=2:=by simpa [secD] using k4
     have hc1:(c::d::t2)[1]? = some d:=rfl
     have hln:(1:Int)<((t2.length+1+1:Nat):Int):=by omega
     simp +contextual -implicitDefEqProofs only [sm,seval,k1,k2,k3a,hc0,hc1,hln,gt_iff_lt]
     refine AaY (lex_class d) (AaQ _) rfl ?_
     simp +contextual -implicitDefEqProofs only [sm,seval,k5]
     clear hln hc1 ht k4 k3
     generalize d::t2=t at hs hdr hp1 hp0 hts hnx hc0 hfall hP1 hP2 ⊢
     cases q1:Lib.hasPrefix (c::t) [58,58]
     · rw [q1] at hP1 hfall
       refine AaY hP1 (AaQ _) rfl ?_
       simp +contextual -implicitDefEqProofs only [sm,seval]
       cases q2:Lib.hasPrefix (c::t) [46,46]
       · rw [q2] at hP2 hfall
         refine AaY hP2 (AaQ _) rfl ?_
         by_cases k6:clsB c=3
         · have hw:ApY (c::t)=(3,t):=by rw [hfall,if_neg (by simp),if_pos k6]
           rw [hw]
           simp +contextual -implicitDefEqProofs only [sm,seval,k6,hnx]
           refine ⟨[],[0],by decide,rfl,?_⟩
           simp +contextual -implicitDefEqProofs only [sm,seval]
         · have hw:ApY (c::t)=(0,c::t):=by rw [hfall,if_neg (by simp),if_neg k6]
           have h0:clsB c=0:=by
            have:=clsB_or c
            omega
           rw [hw]
           simp +contextual -implicitDefEqProofs only [sm,seval,k6,h0]
           refine ⟨[],[0],by decide,rfl,?_⟩
           simp +contextual -implicitDefEqProofs only [sm,seval]
       · obtain ⟨t',rfl⟩:=prefix2 q2
         rw [q2] at hP2 hfall
         have hw:ApY (c::46::t')=(3,t'):=by rw [hfall,if_pos (by simp)];rfl
         rw [hw]
         have hn2:=posR_next2 hs hl
         refine AaY hP2 (AaQ _) rfl ?_
         simp +contextual -implicitDefEqProofs only [sm,seval,hn2]
         refine ⟨[],[0],by decide,rfl,?_⟩
         simp +contextual -implicitDefEqProofs only [sm,seval]
     · obtain ⟨t',rfl⟩:=prefix2 q1
       rw [q1] at hP1 hfall
       have hw:ApY (c::58::t')=(3,t'):=by rw [hfall,if_pos (by simp)];rfl
       rw [hw]
       have hn2:=posR_next2 hs hl
       refine AaY hP1 (AaQ _) rfl ?_
       simp +contextual -implicitDefEqProofs only [sm,seval,hn2]
       refine ⟨[],[0],by decide,rfl,?_⟩
       simp +contextual -implicitDefEqProofs only [sm,seval]
 · simp +contextual -implicitDefEqProofs only [sm,seval,k1,k2,k3a,hc0]
   cases q1:Lib.hasPrefix (c::t) [58,58]
   · rw [q1] at hP1 hfall
     refine AaY hP1 (AaQ _) rfl ?_
     simp +contextual -implicitDefEqProofs only [sm,seval]
     cases q2:Lib.hasPrefix (c::t) [46,46]
     · rw [q2] at hP2 hfall
       refine AaY hP2 (AaQ _) rfl ?_
       by_cases k6:clsB c=3
       · have hw:ApY (c::t)=(3,t):=by rw [hfall,if_neg (by simp),if_pos k6]
         rw [hw]
         simp +contextual -implicitDefEqProofs only [sm,seval,k6,hnx]
         refine ⟨[],[0],by decide,rfl,?_⟩
         simp +contextual -implicitDefEqProofs only [sm,seval]
       · have hw:ApY (c::t)=(0,c::t):=by rw [hfall,if_neg (by simp),if_neg k6]
         have h0:clsB c=0:=by
          have:=clsB_or c
          omega
         rw [hw]
         simp +contextual -implicitDefEqProofs only [sm,seval,k6,h0]
         refine ⟨[],[0],by decide,rfl,?_⟩
         simp +contextual -implicitDefEqProofs only [sm,seval]
     · obtain ⟨t',rfl⟩:=prefix2 q2
       rw [q2] at hP2 hfall
       have hw:ApY (c::46::t')=(3,t'):=by rw [hfall,if_pos (by simp)];rfl
       rw [hw]
       have hn2:=posR_next2 hs hl
       refine AaY hP2 (AaQ _) rfl ?_
       simp +contextual -implicitDefEqProofs only [sm,seval,hn2]
       refine ⟨[],[0],by decide,rfl,?_⟩
       simp +contextual -implicitDefEqProofs only [sm,seval]
   · obtain ⟨t',rfl⟩:=prefix2 q1
     rw [q1] at hP1 hfall
     have hw:ApY (c::58::t')=(3,t'):=by rw [hfall,if_pos (by simp)];rfl
     rw [hw]
     have hn2:=posR_next2 hs hl
     refine AaY hP1 (AaQ _) rfl ?_
     simp +contextual -implicitDefEqProofs only [sm,seval,hn2]
     refine ⟨[],[0],by decide,rfl,?_⟩
     simp +contextual -implicitDefEqProofs only [sm,seval]
end Go.Proofs.YtcmphhedaefcgaaGreatDoor
end
section
namespace Go.Proofs.YtcmphhedaefcgaaGreatDoor
open Av
attribute [local irreducible] awp AbX
set_option maxRecDepth 100000
set_option maxHeartbeats 4000000
theorem ctr_libB {P:Program} {f:FuncId} {args:List AV} {vs:Array Value} {r:AV} (hP:P=Tryz.prog) (hcf:∀ (xs:Array Value) (w:World),(callFunc f xs).run P w=.ok (.enter f xs) w)
 (hl:args.length=vs.size) (ha:∀ (fz:Fz) (pl:Pl) (i:Nat) a c,args[i]? = some a→Rep fz pl a c→vs[i]? = some c)
 (h:∀ w,LayOf P (fun b=>w.heap[b]?)→Calls P f vs w fun e w'=>∃ v,e=.returned v∧(∀ fz,RepF fz r v)∧RowKit.Below w.heap.size w w'):Ctr P f args [] r []:=by
 subst hP
 refine ⟨hcf,fun w0 pr fz pl w cs hS hcl hA=>?_⟩
 have hcs:cs=vs:=by
  apply Array.ext
  · omega
  · intro i h1 h2
    have hi:i<args.length:=by omega
    have:=ha fz pl i args[i] cs[i] (List.getElem?_eq_getElem hi) (hA i _ _ (List.getElem?_eq_getElem hi) (Array.getElem?_eq_getElem h1))
    rw [Array.getElem?_eq_getElem h2] at this
    injection this with this;exact this.symm
 subst hcs
 have hlay:LayOf Tryz.prog (fun b=>w.heap[b]?):=LayOf.mono (fun b o hb=>hS.frz b o hb) hS.lay
 refine (h w hlay).mono ?_
 rintro e w' ⟨v,rfl,hr,hb⟩
 exact ⟨v,fz,pl,rfl,.refl _,List.prefix_refl _,.frz (hr fz),hS.below hb⟩
theorem var_of {w:World} {name:String} {g:Nat} {cs:Array Value} {e:TypeId} {fr:Nat × Nat} (hg:Tryz.prog.globalNamed name=some g) (h:w.heap[g]? = some (.cells cs e fr)):w.var? Tryz.prog name=some cs:=by
 unfold World.var?
 rw [hg]
 simp only [Option.bind_some,h]
theorem pi_args (s:Bs):∀ (fz:Fz) (pl:Pl) (i:Nat) a c,([.str (S8 s),.int .i64 10,.int .i64 64]:List AV)[i]? = some a→Rep fz pl a c→(#[.string (S8 s),.int .i64 10,.int .i64 64]:Array Value)[i]? = some c:=by
 intro fz pl i a v hi hR
 match i,hi with
 | 0,hi=>simp at hi;subst hi;rw [hR.inv_str];rfl
 | 1,hi=>simp at hi;subst hi;rw [hR.inv_int];rfl
 | 2,hi=>simp at hi;subst hi;rw [hR.inv_int];rfl
theorem lib_ParseInt_ok (s:Bs) (hs:s.length≤1000000000000) (v:Int) (h:Lib.parseIntB 64 s=.ok v):Ctr Tryz.prog 21 [.str (S8 s),.int .i64 10,.int .i64 64] [] (.tuple [.int .i64 v,.ifn]) []:=by
 refine ctr_libB (vs:=#[.string (S8 s),.int .i64 10,.int .i64 64]) rfl Tryz.call21 rfl (pi_args s) ?_
 intro w hL
 have hsz:(S8 s).size=s.length:=rfl
 refine (Tryz.strconv_ParseInt_10_at64_ok (S8 s) (by omega) v h w).mono ?_
 rintro e w' ⟨rfl,hw⟩
 refine ⟨_,rfl,fun fz=>?_,?_⟩
 · refine .tuple _ _ rfl ?_
   intro i a c hi hc
   match i,hi with
   | 0,hi=>simp at hi hc;subst hi;subst hc;exact .int _ _
   | 1,hi=>simp at hi hc;subst hi;subst hc;exact .ifn
 · rcases hw with rfl | ⟨t,rfl⟩
   · exact RowKit.Below.refl _ _
   · exact Lib.bytesWorld_below _ _ _
theorem lib_ParseInt_err (s:Bs) (hs:s.length≤1000000000000) (h:∀ v,Lib.parseIntB 64 s≠.ok v):Ctr Tryz.prog 21 [.str (S8 s),.int .i64 10,.int .i64 64] [] (.tuple [.any,.ifc]) []:=by
 refine ctr_libB (vs:=#[.string (S8 s),.int .i64 10,.int .i64 64]) rfl Tryz.call21 rfl (pi_args s) ?_
 intro w hL
 have hsz:(S8 s).size=s.length:=rfl
 have hrep:∀ (n:Int) (t:TypeId) (x:Value) (fz:Fz),RepF fz (.tuple [.any,.ifc]) (.tuple #[.int .i64 n,.iface t x]):=by
  intro n t x fz
  refine .tuple _ _ rfl ?_
  intro i a c hi hc
  match i,hi with
  | 0,hi=>simp at hi hc;subst hi;exact .any _
  | 1,hi=>simp at hi hc;subst hi;subst hc;exact .ifc _ _
 cases hp:Lib.parseIntB 64 s with
 | ok v=>exact absurd hp (h v)
 |
  range =>
  obtain ⟨tp, p, e0, fr, hg⟩ := hL.2.2 _ (show Tryz.prog.globalNamed "strconv.ErrRange" = some 1 by kernel_rfl)
  refine (Tryz.strconv_ParseInt_10_at64_range_var (S8 s) (by omega) hp tp p w (var_of (g:=1) (by kernel_rfl) hg)).mono ?_
  rintro e w' ⟨N,rfl,_,_,hb⟩
  exact ⟨_,rfl,hrep _ _ _,hb⟩
 |
  _ =>
  obtain ⟨tp, p, e0, fr, hg⟩ := hL.2.1 _ (show Tryz.prog.globalNamed "strconv.ErrSyntax" = some 0 by kernel_rfl)
  refine (Tryz.strconv_ParseInt_10_at64_syntax_var (S8 s) (by omega) hp tp p w (var_of (g:=0) (by kernel_rfl) hg)).mono ?_
  rintro e w' ⟨N,rfl,_,_,hb⟩
  exact ⟨_,rfl,hrep _ _ _,hb⟩
theorem flatL_Tok (l:List Tok):BdX (l.map eTok)=true:=by
 induction l with
 | nil=>rfl
 | cons x l ih=>simp only [List.map_cons,BsX,ih,Bool.and_true];rfl
theorem snoc_Tok (l:List Tok) (k:Int) (t:Bs) (v a:Int):l.map eTok++[.agg [.int .i64 k,.str (S8 t),.int .i64 v,.int .i64 a]]=(l++[(⟨k,t,v,a⟩:Tok)]).map eTok:=by simp [eTok]
def splitV:Except Int (List Tok)→AV
 | .ok ts=>.tuple [.list 4 (ts.map eTok),.int .i64 0,.int .i64 0]
 | .error e=>.tuple [.nils,.any,.int .i64 e]
theorem splitV_ok (ts:List Tok):splitV (.ok ts)=.tuple [.list 4 (ts.map eTok),.int .i64 0,.int .i64 0]:=rfl
theorem splitV_err (e:Int):splitV (.error e)=.tuple [.nils,.any,.int .i64 e]:=rfl
theorem lex_Split (s:Bs) (hl:s.length≤9223372036854775807):Ctr Tryz.prog 9 [.str (S8 s)] [] (splitV (lexS s)) []:=by
 refine AcZ Tryz.func9 Tryz.call9 e_lex_Split ?_
 by_cases h8:8192<s.length
 · have h8':(8192:Int)<(s.length:Int):=by omega
   have hz:lexS s=.error 3:=by unfold lexS;rw [if_pos h8]
   rw [hz]
   simp +contextual -implicitDefEqProofs only [sm,c_lex_Split,splitV_err,seval,h8',gt_iff_lt]
 have h8':¬ (8192:Int)<(s.length:Int):=by omega
 have hsb:s.length≤1000000000000:=by omega
 have hz:lexS s=lexF s (s.length+1) 0 (AnZ s):=by unfold lexS;rw [if_neg h8]
 have hp0:posR s s=0:=by unfold posR;omega
 have hbl:=lex_blank s s (List.suffix_refl _) hsb
 rw [AwX,hp0] at hbl
 have hn0:((0:Nat):Int)=0:=rfl
 rw [hn0] at hbl
 rw [hz]
 generalize hR:lexF s (s.length+1) 0 (AnZ s)=R
 simp +contextual -implicitDefEqProofs only [sm,c_lex_Split,seval,h8',gt_iff_lt]
 refine AaX [0] hbl (by decide) ?_ ?_ ?_ ?_ ?_ ?_
 iterate 6 simp +contextual -implicitDefEqProofs only [sm,seval,AwX]
 refine loop_ruleV [(5,4)] (fun b:Nat × Bs × List Tok=>b.2.1.length<b.1∧b.2.1 <:+ s∧b.2.2.length≤4096∧appE b.2.2 (lexF s b.1 b.2.2.length b.2.1)=R) (fun b=>tm 74 [(0,.str (S8 s)),(5,.sl 4 1 0 b.2.2.length),(6,.ptr 2 0 0 0)])
  (fun b=>[some (2,[rdE s b.2.1]),some (4,b.2.2.map eTok)]) (fun b=>b.1) (s.length+1,AnZ s,[]) (by simp +contextual -implicitDefEqProofs only [sm,seval]) ⟨by have:=(blankR_suf s).length_le;simp only;omega,blankR_suf s,by simp,by rw [← hR];unfold appE;simp;cases lexF s (s.length+1) 0 (AnZ s) <;> rfl⟩ ⟨[0,1],by decide,rfl,?_,?_⟩ ?_
 · simp +contextual -implicitDefEqProofs only [sm,seval,AwX]
 · simp +contextual -implicitDefEqProofs only [sm,seval,Int.natCast_zero]
 · rintro ⟨f,r,acc⟩ ⟨hf,hrs,hac,hgo⟩
   simp only at hf hrs hac hgo
   obtain ⟨f,rfl⟩:∃ g,f=g+1:=⟨f-1,by omega⟩
   cases r with
   |
    nil =>
    have hR2:R=.ok acc:=by rw [← hgo];simp [lexF,appE]
    have hlt:¬ ((posR s []:Nat):Int)<(s.length:Int):=by unfold posR;simp
    rw [hR2]
    simp +contextual -implicitDefEqProofs only [sm,seval,AwX,hlt,splitV_ok,flatL_Tok,wk_list]
   |
    cons c t =>
    have hlt:((posR s (c::t):Nat):Int)<(s.length:Int):=by have:=(posR_lt hrs).2 (by simp);omega
    have hsuf:=hrs
    by_cases hn:acc.length=4096
    · have hR2:R=.error 3:=by rw [← hgo];simp [lexF,appE,hn]
      rw [hR2]
      have hn2:((acc.length:Nat):Int)=4096:=by omega
      simp +contextual -implicitDefEqProofs only [sm,seval,AwX,hlt,splitV_err,hn2]
    have hn2:¬ ((acc.length:Nat):Int)=4096:=by omega
    have hwd:=lex_word s c t hrs hsb
    have hsf:(ApY (c::t)).2 <:+ c::t:=by
     by_cases h0:(ApY (c::t)).1=0
     · rw [AsQ] at h0 ⊢
       split
       · rename_i k;rw [if_pos k] at h0;simp at h0
       · split
         · rename_i k1 k;rw [if_neg k1,if_pos k] at h0;simp at h0
         · split
           · rename_i k1 k2 k;rw [if_neg k1,if_neg k2,if_pos k] at h0;simp at h0
           · split
             · rename_i k1 k2 k3 k;rw [if_neg k1,if_neg k2,if_neg k3,if_pos k] at h0;simp at h0
             · split
               · rename_i k1 k2 k3 k4 k;rw [if_neg k1,if_neg k2,if_neg k3,if_neg k4,if_pos k] at h0;simp at h0
               · exact List.suffix_refl _
     · exact (wordR_suf c t h0).trans (List.suffix_cons c t)
    have hsu:=wordR_suf c t
    have hunf:lexF s (f+1) acc.length (c::t)=(if acc.length=4096 then .error 3
     else if (ApY (c::t)).1=0 then .error 5
     else if (ApY (c::t)).1=2 then
      match Lib.parseIntB 64 ((c::t).take ((c::t).length-(ApY (c::t)).2.length)) with
      | .ok v=>(lexF s f (acc.length+1) (AnZ (ApY (c::t)).2)).map (⟨2,(c::t).take ((c::t).length-(ApY (c::t)).2.length),v,posR s (c::t)⟩::·)
      | _=>.error 4
     else (lexF s f (acc.length+1) (AnZ (ApY (c::t)).2)).map (⟨(ApY (c::t)).1,(c::t).take ((c::t).length-(ApY (c::t)).2.length),0,posR s (c::t)⟩::·)):=by simp only [lexF];rfl
    rw [hunf,if_neg hn] at hgo
    generalize hkq:ApY (c::t)=kq at hwd hsf hsu hgo
    obtain ⟨kd,q⟩:=kq
    simp only at hwd hsf hsu hgo
    have hqs:q <:+ s:=hsf.trans hrs
    have hcut:=cut_text hrs hsf
    have hp1:posR s (c::t)≤posR s q:=by have:=posR_add hrs hsf;omega
    have hp2:posR s q≤s.length:=posR_le _ _
    have hp0:(0:Int)≤(posR s (c::t):Int):=by omega
    have hp3:(0:Int)≤(posR s q:Int):=by omega
    simp +contextual -implicitDefEqProofs only [sm,seval,AwX,hlt,hn2]
    refine AaX [0] hwd (by decide) ?_ ?_ ?_ ?_ ?_ ?_
    iterate 6 simp +contextual -implicitDefEqProofs only [sm,seval,AwX,hcut,hp0,hp1,hp2,hp3]
    by_cases k0:kd=0
    · have hR2:R=.error 5:=by rw [← hgo,if_pos k0];rfl
      rw [hR2]
      rw [if_pos k0,splitV_err]
      simp +contextual -implicitDefEqProofs only [sm,wk_tuple,seval]
    rw [if_neg k0] at hgo
    have hqt:q.length≤t.length:=(hsu k0).length_le
    have hsl:(c::t).length-q.length=t.length+1-q.length:=rfl
    have hqb:=lex_blank s q hqs hsb
    have hbs:AnZ q <:+ s:=(blankR_suf q).trans hqs
    have hbl2:(AnZ q).length<f:=by
     have h1:=(blankR_suf q).length_le
     simp only [List.length_cons] at hf
     omega
    have hac2:acc.length+1≤4096:=by omega
    have happ:∀ tk:Tok,appE acc ((lexF s f (acc.length+1) (AnZ q)).map (tk::·))=appE (acc++[tk]) (lexF s f (acc++[tk]).length (AnZ q)):=by
     intro tk;rw [appE_map];simp
    have hlx:(List.take (t.length+1-q.length) (c::t)).length≤1000000000000:=by
     have:=hrs.length_le
     simp only [List.length_cons] at this
     simp only [List.length_take,List.length_cons];omega
    by_cases k2:kd=2
    · subst k2
      rw [if_pos rfl,hsl] at hgo
      simp +contextual -implicitDefEqProofs only [sm,show ¬ ((2:Int)=0) by omega,seval]
      cases hpi:Lib.parseIntB 64 (List.take (t.length+1-q.length) (c::t)) with
      |
       ok v =>
       rw [hpi] at hgo
       simp only [happ] at hgo
       refine AaY (lib_ParseInt_ok _ hlx v hpi) (AaQ _) rfl ?_
       simp +contextual -implicitDefEqProofs only [sm,seval,flatL_Tok]
       refine ⟨⟨by omega,by unfold maxLen;omega⟩,?_⟩
       refine AaX [0] hqb (by decide) ?_ ?_ ?_ ?_ ?_ ?_
       iterate 6 simp +contextual -implicitDefEqProofs only [sm,seval,AwX]
       refine ⟨(f,AnZ q,acc++[⟨2,List.take (t.length+1-q.length) (c::t),v,posR s (c::t)⟩]),⟨hbl2,hbs,by simp only [List.length_append,List.length_cons,List.length_nil];omega,hgo⟩,by simp only;omega,[0,3],by decide,rfl,?_,?_⟩
       · simp +contextual -implicitDefEqProofs only [sm,seval,AwX]
         simp only [snoc_Tok,flatL_Tok,wkEs_same,true_and]
       · simp +contextual -implicitDefEqProofs only [sm,seval,AwX]
      |
       _ =>
       have hR2:R=.error 4:=by rw [← hgo,hpi];rfl
       rw [hR2]
       refine AaY (lib_ParseInt_err _ hlx (by intro v h;rw [hpi] at h;cases h)) (AaQ _) rfl ?_
       simp +contextual -implicitDefEqProofs only [sm,seval,splitV_err]
    rw [if_neg k2,hsl,happ] at hgo
    simp +contextual -implicitDefEqProofs only [sm,k0,k2,seval,flatL_Tok]
    refine ⟨⟨by omega,by unfold maxLen;omega⟩,?_⟩
    refine AaX [0] hqb (by decide) ?_ ?_ ?_ ?_ ?_ ?_
    iterate 6 simp +contextual -implicitDefEqProofs only [sm,seval,AwX]
    refine ⟨(f,AnZ q,acc++[⟨kd,List.take (t.length+1-q.length) (c::t),0,posR s (c::t)⟩]),⟨hbl2,hbs,by simp only [List.length_append,List.length_cons,List.length_nil];omega,hgo⟩,by simp only;omega,[0,3],by decide,rfl,?_,?_⟩
    · simp +contextual -implicitDefEqProofs only [sm,seval,AwX]
      simp only [snoc_Tok,flatL_Tok,wkEs_same,true_and]
    · simp +contextual -implicitDefEqProofs only [sm,seval,AwX]
end Go.Proofs.YtcmphhedaefcgaaGreatDoor
end
section
namespace Go.Proofs.YtcmphhedaefcgaaGreatDoor
open Av
attribute [local irreducible] awp AbX
set_option maxRecDepth 100000
set_option maxHeartbeats 4000000
def eS (s:Bs):AV:=.str (S8 s)
theorem BhX (s:Bs):eS s=.str (S8 s):=rfl
theorem idx_string (l:List Bs) (x:Bs) (hl:l.length≤1000000000000):∃ n:Int,Ctr Tryz.prog 148 [.list 1 (l.map eS),eS x] [] (.int .i64 n) []∧decide (0≤n)=decide (x∈l):=by
 suffices h:∃ n:Int,decide (0≤n)=decide (x∈l)∧awp Tryz.prog 0 AtQ.body (finP AtQ.res (.int .i64 n)) ([.list 1 (l.map eS),eS x]++List.replicate (AtQ.ntmps-2) .any) [] by
  obtain ⟨n,h1,h2⟩:=h
  exact ⟨n,AcZ Tryz.func148 Tryz.call148 e_slices_Index_sstring_string h2,h1⟩
 by_cases hx:x∈l
 · obtain ⟨i,hi,hg,hmin⟩:∃ i,i<l.length∧l[i]? = some x∧∀ j,j<i→l[j]?≠some x:=by
    obtain ⟨i,h1,h2⟩:=least_ex (p:=fun i=>l[i]? = some x) (List.getElem?_of_mem hx)
    refine ⟨i,?_,h1,fun j hj h=>by have:=h2 j h;omega⟩
    exact (List.getElem?_eq_some_iff.mp h1).1
   refine ⟨i,by simp [hx],?_⟩
   simp +contextual -implicitDefEqProofs only [sm,AtQ,BhX,seval]
   refine BbZ (fun k:Nat=>k≤i) (fun k=>tm 19 [(0,.list 1 (l.map eS)),(1,eS x),(7,.int .i64 l.length),(8,.int .i64 k)]) (fun _=>[]) (fun k=>l.length-k) 0 (Nat.zero_le _) ⟨[],by decide,rfl,?_,?_⟩ ?_
   · simp +contextual -implicitDefEqProofs only [sm,seval,BhX]
   · simp +contextual -implicitDefEqProofs only [sm,seval,BhX,Int.natCast_zero]
   · intro k hk
     have hkl:(k:Int)<(l.length:Int):=by omega
     obtain ⟨y,hy⟩:∃ y,l[k]? = some y:=⟨l[k],List.getElem?_eq_getElem (by omega)⟩
     have hyx:(x=y)↔k=i:=by
      constructor
      · intro h
        by_cases hki:k=i
        · exact hki
        · exact absurd (h ▸ hy) (hmin k (by omega))
      · intro h;subst h;rw [hg] at hy;injection hy
     have hw:=AiY (n:=(k:Int)+1) (by omega) (by omega)
     by_cases hki:k=i
     · have hxy:=hyx.2 hki
       subst hki
       subst hxy
       simp +contextual -implicitDefEqProofs only [sm,seval,BhX,hkl,hy,List.getElem?_map,Option.map_some]
     · have hxy:¬ x=y:=fun h=>hki (hyx.1 h)
       simp +contextual -implicitDefEqProofs only [sm,seval,BhX,hkl,hy,List.getElem?_map,Option.map_some,S8_eq,hxy,hw]
       refine ⟨k+1,by omega,by omega,[],by decide,rfl,?_,?_⟩
       · simp +contextual -implicitDefEqProofs only [sm,seval,BhX]
       · simp +contextual -implicitDefEqProofs only [sm,seval,BhX,Int.natCast_add,Int.natCast_one]
 · refine ⟨-1,by simp [hx],?_⟩
   simp +contextual -implicitDefEqProofs only [sm,AtQ,BhX,seval]
   refine BbZ (fun k:Nat=>k≤l.length) (fun k=>tm 19 [(0,.list 1 (l.map eS)),(1,eS x),(7,.int .i64 l.length),(8,.int .i64 k)]) (fun _=>[]) (fun k=>l.length-k) 0 (Nat.zero_le _) ⟨[],by decide,rfl,?_,?_⟩ ?_
   · simp +contextual -implicitDefEqProofs only [sm,seval,BhX]
   · simp +contextual -implicitDefEqProofs only [sm,seval,BhX,Int.natCast_zero]
   · intro k hk
     by_cases hkl:(k:Int)<(l.length:Int)
     · obtain ⟨y,hy⟩:∃ y,l[k]? = some y:=⟨l[k],List.getElem?_eq_getElem (by omega)⟩
       have hxy:¬ x=y:=fun h=>hx (h ▸ List.mem_of_getElem? hy)
       have hw:=AiY (n:=(k:Int)+1) (by omega) (by omega)
       simp +contextual -implicitDefEqProofs only [sm,seval,BhX,hkl,hy,List.getElem?_map,Option.map_some,S8_eq,hxy,hw]
       refine ⟨k+1,by omega,by omega,[],by decide,rfl,?_,?_⟩
       · simp +contextual -implicitDefEqProofs only [sm,seval,BhX]
       · simp +contextual -implicitDefEqProofs only [sm,seval,BhX,Int.natCast_add,Int.natCast_one]
     · simp +contextual -implicitDefEqProofs only [sm,seval,BhX,hkl]
theorem cont_string (l:List Bs) (x:Bs) (hl:l.length≤1000000000000):Ctr Tryz.prog 134 [.list 1 (l.map eS),eS x] [] (.bool (decide (x∈l))) []:=by
 refine AcZ Tryz.func134 Tryz.call134 e_slices_Contains_sstring_string ?_
 obtain ⟨n,h1,h2⟩:=idx_string l x hl
 simp +contextual -implicitDefEqProofs only [sm,BaX,BhX,seval]
 refine AaY h1 (AaQ _) rfl ?_
 simp +contextual -implicitDefEqProofs only [sm,seval,ge_iff_le,h2]
end Go.Proofs.YtcmphhedaefcgaaGreatDoor
end
section
namespace Go.Proofs.YtcmphhedaefcgaaGreatDoor
open Av
attribute [local irreducible] awp AbX
set_option maxRecDepth 100000
set_option maxHeartbeats 4000000
def pS (l:List Tok) (z:Int):AV:=.agg [.list 4 (l.map eTok),.int .i64 z]
theorem AgZ (l:List Tok) (z:Int):pS l z=.agg [.list 4 (l.map eTok),.int .i64 z]:=rfl
def pR (l:List Tok) (z:Int):AV:=.rptr [.list 4 (l.map eTok),.int .i64 z]
theorem pR_eq (l:List Tok) (z:Int):pR l z=.rptr [.list 4 (l.map eTok),.int .i64 z]:=rfl
def placeV (z:Int):List Tok→Int
 | []=>z
 | t::_=>t.at_
theorem p_place (l:List Tok) (z:Int):Ctr Tryz.prog 49 [pR l z] [] (.int .i64 (placeV z l)) []:=by
 refine AcZ Tryz.func49 Tryz.call49 e_parse_parser_place ?_
 cases l with
 |
  nil =>
  simp +contextual -implicitDefEqProofs only [sm,BoX,pR_eq,seval,placeV]
 |
  cons t l =>
  have hn:¬ (((l.length+1:Nat):Int)=0):=by omega
  simp +contextual -implicitDefEqProofs only [sm,BoX,pR_eq,BdZ,seval,hn,placeV]
theorem p_is (s:Bs) (l:List Tok) (z:Int):Ctr Tryz.prog 50 [pR l z,.str (S8 s)] [] (.bool (isW s l)) []:=by
 refine AcZ Tryz.func50 Tryz.call50 e_parse_parser_is ?_
 cases l with
 |
  nil =>
  simp +contextual -implicitDefEqProofs only [sm,c_parse_parser_is,pR_eq,seval,isW]
 |
  cons t l =>
  have hn:((l.length+1:Nat):Int) > 0:=by omega
  simp +contextual -implicitDefEqProofs only [sm,c_parse_parser_is,pR_eq,BdZ,seval,hn,isW]
theorem p_word (s:Bs):Ctr Tryz.prog 123 [.str (S8 s)] [] (.bool (wordB s)) []:=by
 refine AcZ Tryz.func123 Tryz.call123 e_parse_word ?_
 have hc:=cont_string words s (by decide)
 have hw:wordB s=decide (s∈words):=by
  unfold wordB
  by_cases h:s∈words
  · rw [decide_eq_true h];exact List.contains_iff_mem.mpr h
  · rw [decide_eq_false h];exact Bool.eq_false_iff.mpr fun h2=>h (List.contains_iff_mem.mp h2)
 rw [hw]
 simp +contextual -implicitDefEqProofs only [sm,c_parse_word,seval]
 refine AaY hc ?_ rfl ?_
 · exact AaQ _
 simp +contextual -implicitDefEqProofs only [sm,seval]
theorem kindP_cons (t:Tok) (l:List Tok):BeQ (t::l)=if t.k=1∧wordB t.t=true then 0 else t.k:=rfl
theorem p_kind (l:List Tok) (z:Int):Ctr Tryz.prog 91 [pR l z] [] (.int .i64 (BeQ l)) []:=by
 refine AcZ Tryz.func91 Tryz.call91 e_parse_parser_kind ?_
 cases l with
 |
  nil =>
  simp +contextual -implicitDefEqProofs only [sm,BgX,pR_eq,seval,BeQ]
 |
  cons t l =>
  have hn:¬ (((l.length+1:Nat):Int)=0):=by omega
  by_cases k:t.k=1
  · simp +contextual -implicitDefEqProofs only [sm,BgX,pR_eq,BdZ,seval,hn,k]
    refine AaY (p_word t.t) (AaQ _) rfl ?_
    cases hw:wordB t.t
    · have hk:BeQ (t::l)=t.k:=by rw [kindP_cons,hw];simp
      rw [hk]
      simp +contextual -implicitDefEqProofs only [sm,seval,k]
    · have hk:BeQ (t::l)=0:=by rw [kindP_cons,hw,if_pos ⟨k,rfl⟩]
      rw [hk]
      simp +contextual -implicitDefEqProofs only [sm,seval]
  · have hk:BeQ (t::l)=t.k:=by rw [kindP_cons,if_neg (fun h=>k h.1)]
    rw [hk]
    simp +contextual -implicitDefEqProofs only [sm,BgX,pR_eq,BdZ,seval,hn,k]
theorem p_next (t:Tok) (l:List Tok) (z:Int):Ctr Tryz.prog 93 [.ptr 2 0 0 0] [some (2,[pS (t::l) z])] (eTok t) [some (2,[pS l z])]:=by
 refine call_box Tryz.func93 Tryz.call93 e_parse_parser_next ?_
 simp +contextual -implicitDefEqProofs only [sm,c_parse_parser_next,AgZ,BdZ,seval]
 refine ⟨[],[0],by decide,rfl,?_⟩
 simp +contextual -implicitDefEqProofs only [sm,seval]
theorem isW_nil (s:Bs):isW s []=false:=rfl
theorem AnX {s:Bs} {l:List Tok} (h:isW s l=false):mayR s l=l:=by unfold mayR;rw [h];rfl
theorem mayR_yes {s:Bs} {t:Tok} {l:List Tok} (h:isW s (t::l)=true):mayR s (t::l)=l:=by unfold mayR;rw [h];rfl
theorem BnY (s:Bs) (l:List Tok) (z:Int):Ctr Tryz.prog 52 [.ptr 2 0 0 0,.str (S8 s)] [some (2,[pS l z])] (.bool (isW s l)) [some (2,[pS (mayR s l) z])]:=by
 refine call_box Tryz.func52 Tryz.call52 e_parse_parser_may ?_
 simp +contextual -implicitDefEqProofs only [sm,c_parse_parser_may,AgZ,seval]
 refine AfZ (p_is s l z) ?_ rfl ?_
 · simp +contextual -implicitDefEqProofs only [sm,seval,pR_eq]
 cases h:isW s l
 · rw [AnX h]
   simp +contextual -implicitDefEqProofs only [sm,seval]
   refine ⟨[],[0],by decide,rfl,?_⟩
   simp +contextual -implicitDefEqProofs only [sm,seval]
 · cases l with
   | nil=>rw [isW_nil] at h;cases h
   |
    cons t l =>
    rw [mayR_yes h]
    simp +contextual -implicitDefEqProofs only [sm,seval]
    refine AaX [0] (p_next t l z) (by decide) ?_ ?_ ?_ ?_ ?_ ?_
    iterate 6 simp +contextual -implicitDefEqProofs only [sm,seval,AgZ,BdZ]
    refine ⟨[],[0],by decide,rfl,?_⟩
    simp +contextual -implicitDefEqProofs only [sm,seval]
end Go.Proofs.YtcmphhedaefcgaaGreatDoor
end
section
namespace Go.Proofs.YtcmphhedaefcgaaGreatDoor
open Av
attribute [local irreducible] awp AbX
set_option maxRecDepth 100000
set_option maxHeartbeats 4000000
section
variable {w0:World} {pr fz:Fz} {pl pls:Pl} {bx bs:Bx} {w:World} {P:Program}
theorem opers_pre {mt:FuncId→Nat} {ops:Array Oper} {Q:Exit→Act→World→Prop}:∀ (os r:List Oper) (k:Nat) (az:List AOper),ops.toList.drop k=os++r→BhQ P mt ops os=some az →
 ∀ (K:List AV→Bx→Prop) (l:List AV) (bx:Bx) (fz:Fz) (pl:Pl) (a:Act) (w:World),AbX P az K l bx→RepT fz pl l a→Sim w0 pr fz pl bx w →
  (∀ l' bx' a' w' fz' pl',K l' bx'→FzLe fz fz'→pl <+: pl'→RepT fz' pl' l' a'→Sim w0 pr fz' pl' bx' w'→a'.defers=a.defers→wpOps P ops Q (List.range' (k+os.length) r.length) a' w')→wpOps P ops Q (List.range' k (os.length+r.length)) a w
 |
  [],r,k,az,hd,hz,K,l,bx,fz,pl,a,w,hK,hT,hS,hQ=>by
  simp [BhQ] at hz;subst hz
  have hK:K l bx:=by unfold AbX at hK;exact hK
  have:=hQ l bx a w fz pl hK (.refl _) (List.prefix_refl _) hT hS rfl
  simpa using this
 |
  o::os,r,k,az,hd,hz,K,l,bx,fz,pl,a,w,hK,hT,hS,hQ=>by
  simp only [BhQ] at hz
  split at hz
  · rename_i p rr hp hr
    injection hz with hz;subst hz
    have ho:ops[k]? = some o:=by
     have:(ops.toList.drop k)[0]? = some o:=by rw [hd];rfl
     simpa using this
    have hd':ops.toList.drop (k+1)=os++r:=by rw [← List.drop_drop,hd];rfl
    have e1:(o::os).length+r.length=(os.length+r.length)+1:=by simp only [List.length_cons];omega
    have e2:∀ (j:Nat),List.range' (k+(o::os).length) j=List.range' (k+1+os.length) j:=by intro j;congr 1;simp only [List.length_cons];omega
    rw [e2] at hQ
    unfold cOper at hp
    generalize hq:(cOp P mt o).getD .bad=q at hp
    split at hp
    · rename_i g hg
      injection hp with hp;subst hp
      rw [e1]
      simp only [List.range'_succ,wpOps,ho]
      have go:AwY P (q.map (·.ev l)) (AxY (AbX P rr K) l o.dst) bx→o.wp P a w (wpOps P ops Q (List.range' (k+1) (os.length+r.length))) Q:=by
       intro hdo
       refine awpDo_soundB hq hT hS hdo ?_
       intro v bx' cv w' fz' pl' hk h1 h2 h3 h4
       refine opers_pre os r (k+1) rr hd' hr K _ bx' fz' pl' _ w' hk ((hT.mono h1 h2).put o.dst h3) h4 ?_
       intro l' bx'' a' w'' fz'' pl'' g1 g2 g3 g4 g5 g6
       exact hQ l' bx'' a' w'' fz'' pl'' g1 (h1.trans g2) (h2.trans g3) g4 g5 (by rw [g6,AkY])
      have skip:AbX P rr K (putT l o.dst (.tuple [])) bx→wpOps P ops Q (List.range' (k+1) (os.length+r.length)) (a.put o.dst undef) w:=by
       intro hk
       refine opers_pre os r (k+1) rr hd' hr K _ bx fz pl _ w hk (hT.put o.dst rep_undef) hS ?_
       intro l' bx'' a' w'' fz'' pl'' g1 g2 g3 g4 g5 g6
       exact hQ l' bx'' a' w'' fz'' pl'' g1 g2 g3 g4 g5 (by rw [g6,AkY])
      simp only [AbX] at hK
      cases g with
      |
       none =>
       simp only [awpOper] at hK
       rw [if_pos (guard_none hg a)]
       exact .inl (go hK)
      |
       some gg =>
       obtain ⟨t,want⟩:=gg
       simp only [awpOper] at hK
       obtain ⟨y1,y2⟩:=BjY hg hT
       split at hK
       · rename_i b hb
         rw [y1 b hb]
         by_cases hbw:b=want
         · subst hbw
           rw [if_pos (by simp)]
           exact .inl (go (by simpa using hK))
         · rw [if_neg (by simpa using hbw)]
           exact skip (by rwa [if_neg hbw] at hK)
       · rename_i hb
         rw [y2 hb,if_neg (by simp)]
         exact skip hK
       · exact hK.elim
    · cases hp
  · cases hz
theorem AyZ {ops:Array Oper} {Q:Exit→Act→World→Prop} {i:Nat} {r:List Nat} {a:Act} {o:Oper} (ho:ops[i]? = some o) (hg:o.guard=none) (h:o.wp P a w (wpOps P ops Q r) Q):wpOps P ops Q (i::r) a w:=by
 simp only [wpOps,ho]
 rw [if_pos (by unfold Region.wanted;rw [hg])]
 exact .inl h
end
def Flt (e:Int) (v:Value):Prop:=∃ n:Int,v=.iface 50 (.agg #[.int .i64 n,.int .i64 e])
theorem agg2 {fz:Fz} {pl:Pl} {a b:Int} {c:Value} (h:Rep fz pl (.agg [.int .i64 a,.int .i64 b]) c):c=.agg #[.int .i64 a,.int .i64 b]:=by
 obtain ⟨cs,rfl,h1,_,h2⟩:=h.inv_agg
 have hs:cs.size=2:=h1.symm
 have e0:=(h2 0 _ _ rfl (Array.getElem?_eq_getElem (by omega))).inv_int
 have e1:=(h2 1 _ _ rfl (Array.getElem?_eq_getElem (by omega))).inv_int
 congr 1
 apply Array.ext
 · exact hs
 · intro i q1 q2
   have:i=0∨i=1:=by omega
   rcases this with rfl | rfl
   · exact e0
   · exact e1
noncomputable def thrO:Array Oper:=match Tryz.f23.body with | some (.region _ ops _)=>ops | _=>#[]
def thrOps:List AOper:=[⟨some 4,.mov (.tmp 0),none⟩,⟨some 5,.callv (.val (.fn (.func 49) [])) [(.tmp 4)],none⟩,⟨some 6,.mov (.tmp 1),none⟩,⟨some 7,.build [(.int .i64 0),(.int .i64 0)] [(0,1,(.tmp 5)),(1,1,(.tmp 6))],none⟩]
theorem p_throw (l:List Tok) (z e:Int):Thr Tryz.prog 23 [.ptr 2 0 0 0,.int .i64 e] [some (2,[pS l z])] (Flt e):=by
 refine ⟨Tryz.call23,?_⟩
 intro w0 pr fz pl w cs hS hl hA
 have hT:=BpY (n:=9) hl hA
 refine calls_of_wp Tryz.func23 rfl ?_
 refine wp_region ?_
 have hq:AbX Tryz.prog thrOps (fun l' bx'=>l'.length=9∧getT l' 7=.agg [.int .i64 (placeV z l),.int .i64 e]∧bx'=[some (2,[pS l z])]) ([.ptr 2 0 0 0,.int .i64 e]++List.replicate (9-2) .any) [some (2,[pS l z])]:=by
  unfold thrOps
  simp +contextual -implicitDefEqProofs only [sm,AgZ,seval]
  refine AfZ (p_place l z) ?_ rfl ?_
  · simp +contextual -implicitDefEqProofs only [sm,seval,pR_eq]
  simp +contextual -implicitDefEqProofs only [sm,seval]
 have hcz:BhQ Tryz.prog kd_CParse thrO (thrO.toList.take 4)=some thrOps:=by kernel_rfl
 have hpre:=opers_pre (w0:=w0) (pr:=pr) (Q:=bodyPost Tryz.prog Tryz.f23 fun e_1 w'=>∃ v fz',e_1=Ending.panicked [{ v:=v,recovered:=false }]∧Flt e v∧FzLe fz fz'∧Sim w0 pr fz' [] [] w') (thrO.toList.take 4) (thrO.toList.drop 4) 0 thrOps (by rw [List.take_append_drop,List.drop_zero]) hcz _ _ _ fz pl _ w hq hT hS
 refine hpre ?_
 rintro l' bx' a' w' fz' pl' ⟨hl9,h7,rfl⟩ hf hp hT' hS' hd
 have e4:List.range' (0+(thrO.toList.take 4).length) (thrO.toList.drop 4).length=[4,5]:=rfl
 rw [e4]
 have h7':=hT'.2 7
 rw [h7] at h7'
 obtain ⟨o4,ho4,hd4,hp4,hg4⟩:∃ o,thrO[4]? = some o∧o.dst=some 8∧o.op=.makeInterface 50 (.tmp 7)∧o.guard=none:=⟨_,rfl,rfl,rfl,rfl⟩
 obtain ⟨o5,ho5,hp5,hg5⟩:∃ o,thrO[5]? = some o∧o.op=.panic (.tmp 8)∧o.guard=none:=⟨_,rfl,rfl,rfl⟩
 refine AyZ ho4 hg4 ?_
 unfold Oper.wp
 have h7e:a'.eval (.tmp 7)=.agg #[.int .i64 (placeV z l),.int .i64 e]:=agg2 h7'
 have hrun:(execOp a'.eval o4).run Tryz.prog w'=.ok (.value (.iface 50 (.agg #[.int .i64 (placeV z l),.int .i64 e]))) w':=by
  simp only [execOp,hp4,h7e]
  rfl
 rw [hrun,Oper.upon_value,hd4]
 have hsz:8<a'.tmps.size:=by have:=hT'.1;omega
 have h8:(a'.put (some 8) (Value.iface 50 (.agg #[.int .i64 (placeV z l),.int .i64 e]))).eval (.tmp 8)=.iface 50 (.agg #[.int .i64 (placeV z l),.int .i64 e]):=by
  simp [Act.put,Act.eval,hsz]
 refine AyZ ho5 hg5 ?_
 unfold Oper.wp
 have hrun2:(execOp (a'.put (some 8) (Value.iface 50 (.agg #[.int .i64 (placeV z l),.int .i64 e]))).eval o5).run Tryz.prog w'=.halt (.panic (.iface 50 (.agg #[.int .i64 (placeV z l),.int .i64 e]))) w':=by
  simp only [execOp,hp5,h8]
  simp [Instr.panic]
 rw [hrun2,Oper.upon_panic]
 exact ⟨hd,_,fz',rfl,⟨placeV z l,rfl⟩,hf,hS'.drop⟩
end Go.Proofs.YtcmphhedaefcgaaGreatDoor
end
section
namespace Go.Proofs.YtcmphhedaefcgaaGreatDoor
open Av
attribute [local irreducible] awp AbX
attribute [local irreducible] awX opX
set_option maxRecDepth 100000
set_option maxHeartbeats 4000000
theorem q12:(((type_of% @BhX)∧(type_of% @BdZ))∧((type_of% @pR_eq)∧(type_of% @AgZ))):=⟨⟨@BhX,@BdZ⟩,⟨@pR_eq,@AgZ⟩⟩
def outR {α:Type} (eA:α→AV) (z:Int):PR α→Except Int (AV × Bx)
 | .ok (a,l)=>.ok (eA a,[some (2,[pS l z])])
 | .error e=>.error e
theorem AiZ {α:Type} (eA:α→AV) (z:Int) (a:α) (l:List Tok):outR eA z (.ok (a,l))=.ok (eA a,[some (2,[pS l z])]):=rfl
theorem BrX {α:Type} (eA:α→AV) (z:Int) (e:Int):outR eA z (.error e)=.error e:=rfl
theorem AoQ (res:List ARes) (m:Nat) (r:AV) (bs:Bx):postM res m (.ok (r,bs))=finM res m r bs:=rfl
theorem BmQ (res:List ARes) (m:Nat) (r:AV) (bs:Bx):postF res m (.ok (r,bs))=finF res m r bs:=rfl
def Pd {α:Type} (f:FuncId) (args:List AV) (l:List Tok) (z:Int) (eA:α→AV) (q:PR α):Prop:=Does Tryz.prog Flt f (.ptr 2 0 0 0::args) [some (2,[pS l z])] (outR eA z q)
theorem Pd.ctr {α:Type} {f:FuncId} {args:List AV} {l l1:List Tok} {z:Int} {eA:α→AV} {q:PR α} {a:α} (h:Pd f args l z eA q) (hq:q=.ok (a,l1)):Ctr Tryz.prog f (.ptr 2 0 0 0::args) [some (2,[pS l z])] (eA a) [some (2,[pS l1 z])]:=by
 subst hq;exact h
theorem Pd.thr {α:Type} {f:FuncId} {args:List AV} {l:List Tok} {z:Int} {eA:α→AV} {q:PR α} {e:Int} (h:Pd f args l z eA q) (hq:q=.error e):Thr Tryz.prog f (.ptr 2 0 0 0::args) [some (2,[pS l z])] (Flt e):=by
 subst hq;exact h
theorem BnX (l:List Tok) (z:Int):Thr Tryz.prog 58 [.ptr 2 0 0 0] [some (2,[pS l z])] (Flt (wrongE l)):=by
 refine call_thr Tryz.func58 Tryz.call58 e_parse_parser_wrong ?_
 cases l with
 |
  nil =>
  simp +contextual -implicitDefEqProofs only [sm,BnQ,AgZ,seval]
  refine .inl (AbZ [0] (p_throw [] z 6) (by decide) ?_ ?_ ?_ trivial)
  iterate 3 simp +contextual -implicitDefEqProofs only [q12,sm,seval]
 |
  cons t l =>
  have hn:¬ (((l.length+1:Nat):Int)=0):=by omega
  simp +contextual -implicitDefEqProofs only [sm,BnQ,AgZ,seval,hn]
  refine .inl (AbZ [0] (p_throw (t::l) z 5) (by decide) ?_ ?_ ?_ trivial)
  iterate 3 simp +contextual -implicitDefEqProofs only [q12,sm,seval]
theorem takeP_cons (s:Bs) (ss:List Bs) (l:List Tok):AeQ (s::ss) l=if isW s l=true then AeQ ss l.tail else .error (wrongE l):=rfl
def eU (_:Unit):AV:=.tuple []
theorem eU_eq (u:Unit):eU u=.tuple []:=rfl
theorem AjY (ss:List Bs) (l:List Tok) (z:Int) (hb:ss.length≤1000000000000):Pd 25 [.list 1 (ss.map eS)] l z eU (AeQ ss l):=by
 refine BeX Tryz.func25 Tryz.call25 e_parse_parser_take ?_
 generalize hR:outR eU z (AeQ ss l)=R
 simp +contextual -implicitDefEqProofs only [sm,c_parse_parser_take,AgZ,seval]
 refine BbZ (fun b:Nat × List Tok=>b.1≤ss.length∧outR eU z (AeQ (ss.drop b.1) b.2)=R) (fun b=>tm 19 [(0,.ptr 2 0 0 0),(6,.list 1 (ss.map eS)),(7,.int .i64 ss.length),(8,.int .i64 b.1)]) (fun b=>[some (2,[pS b.2 z])]) (fun b=>ss.length-b.1) (0,l) ⟨Nat.zero_le _,hR⟩ ⟨[0],by decide,rfl,?_,?_⟩ ?_
 · simp +contextual -implicitDefEqProofs only [sm,seval,AgZ]
 · simp +contextual -implicitDefEqProofs only [sm,seval,Int.natCast_zero]
 · rintro ⟨k,q⟩ ⟨hk,hR⟩
   simp only at hk hR
   by_cases hlt:k<ss.length
   · have hlt':(k:Int)<(ss.length:Int):=by omega
     obtain ⟨s,hs⟩:∃ s,ss[k]? = some s:=⟨ss[k],List.getElem?_eq_getElem hlt⟩
     have hdr:ss.drop k=s::ss.drop (k+1):=by
      rw [List.drop_eq_getElem_cons hlt]
      congr 1
      rw [List.getElem?_eq_getElem hlt] at hs;injection hs
     have hw:=AiY (n:=(k:Int)+1) (by omega) (by omega)
     rw [hdr] at hR
     cases hm:isW s q
     · have hR2:R=.error (wrongE q):=by rw [← hR];unfold AeQ;rw [hm];rfl
       subst hR2
       have hma:=BnY s q z
       rw [AnX hm,hm] at hma
       simp +contextual -implicitDefEqProofs only [sm,seval,AgZ,hlt',hs,List.getElem?_map,Option.map_some,BhX]
       refine .inr (AaX [0] hma (by decide) ?_ ?_ ?_ ?_ ?_ ?_)
       iterate 6 simp +contextual -implicitDefEqProofs only [q12,sm,seval,hw]
       refine .inl (AbZ [0] (BnX q z) (by decide) ?_ ?_ ?_ trivial)
       iterate 3 simp +contextual -implicitDefEqProofs only [q12,sm,seval]
     · have hR2:outR eU z (AeQ (ss.drop (k+1)) q.tail)=R:=by rw [← hR];rw [takeP_cons,hm];rfl
       have hma:=BnY s q z
       have hmr:mayR s q=q.tail:=by unfold mayR;rw [hm];rfl
       rw [hmr,hm] at hma
       simp +contextual -implicitDefEqProofs only [sm,seval,AgZ,hlt',hs,List.getElem?_map,Option.map_some,BhX]
       refine .inr (AaX [0] hma (by decide) ?_ ?_ ?_ ?_ ?_ ?_)
       iterate 6 simp +contextual -implicitDefEqProofs only [q12,sm,seval,hw]
       refine ⟨(k+1,q.tail),⟨by omega,hR2⟩,by simp only;omega,[0],by decide,rfl,?_,?_⟩
       · simp +contextual -implicitDefEqProofs only [sm,seval,AgZ]
       · simp +contextual -implicitDefEqProofs only [sm,seval,hw,Int.natCast_add,Int.natCast_one]
   · have hlt':¬ (k:Int)<(ss.length:Int):=by omega
     have hdr:ss.drop k=[]:=List.drop_eq_nil_of_le (by omega)
     rw [hdr] at hR
     have hR2:outR eU z (.ok ((),q))=R:=hR
     clear hR
     have hR:=hR2
     clear hR2
     simp only [AiZ] at hR
     subst hR
     simp +contextual -implicitDefEqProofs only [sm,seval,AgZ,hlt',AoQ,eU_eq]
     refine ⟨[],[0],by decide,rfl,?_⟩
     simp +contextual -implicitDefEqProofs only [sm,seval,AgZ]
theorem om_Tok (t:Tok):Option.map eTok (some t)=some (.agg [.int .i64 t.k,.str (S8 t.t),.int .i64 t.v,.int .i64 t.at_]):=rfl
theorem wkN_str (b:ByteArray) (u:AV):wkN (.str b) u=wk (.str b) u:=rfl
theorem nameP_cons (t:Tok) (l:List Tok):BiQ (t::l)=if BeQ (t::l)=1 then .ok (t.t,l) else .error 5:=rfl
theorem numP_cons (t:Tok) (l:List Tok):numP (t::l)=if BeQ (t::l)=2 then .ok (t.v,l) else .error 5:=rfl
theorem exactP_cons (n:Int) (t:Tok) (l:List Tok):BmY n (t::l)=if BeQ (t::l)=2∧t.v=n then .ok ((),l) else .error 5:=rfl
theorem plainP_cons (t:Tok) (l:List Tok):AjQ (t::l)=if BeQ (t::l)=2 then .ok (⟨1,t.v,[]⟩,l) else if BeQ (t::l)=1 then .ok (⟨3,0,t.t⟩,l) else if t.t=[116,114,117,101] then .ok (⟨2,1,[]⟩,l) else if t.t=[102,97,108,115,101] then .ok (⟨2,0,[]⟩,l) else .error 5:=rfl
theorem mayR_nil (s:Bs):mayR s []=[]:=rfl
theorem kindP_nil:BeQ []=0:=rfl
theorem p_name (l:List Tok) (z:Int):Pd 55 [] l z eS (BiQ l):=by
 refine BeX Tryz.func55 Tryz.call55 e_parse_parser_name ?_
 generalize hR:outR eS z (BiQ l)=R
 simp +contextual -implicitDefEqProofs only [sm,c_parse_parser_name,AgZ,seval]
 refine AfZ (p_kind l z) ?_ rfl ?_
 iterate 2 simp +contextual -implicitDefEqProofs only [q12,sm,seval]
 cases l with
 |
  nil =>
  have hR2:R=.error 6:=by rw [← hR];rfl
  subst hR2
  simp +contextual -implicitDefEqProofs only [sm,seval,kindP_nil]
  refine .inl (AbZ [0] (BnX [] z) (by decide) ?_ ?_ ?_ trivial)
  iterate 3 simp +contextual -implicitDefEqProofs only [q12,sm,seval]
 |
  cons t l =>
  by_cases hk:BeQ (t::l)=1
  · have hR2:R=outR eS z (.ok (t.t,l)):=by rw [← hR];rw [nameP_cons,if_pos hk]
    simp only [AiZ] at hR2
    subst hR2
    simp +contextual -implicitDefEqProofs only [sm,seval,hk,AoQ,BhX,wkN_str]
    refine .inr (AaX [0] (p_next t l z) (by decide) ?_ ?_ ?_ ?_ ?_ ?_)
    iterate 6 simp +contextual -implicitDefEqProofs only [q12,sm,seval]
    refine ⟨[],[0],by decide,rfl,?_⟩
    simp +contextual -implicitDefEqProofs only [sm,seval,wkN_str]
  · have hR2:R=.error 5:=by rw [← hR];rw [nameP_cons,if_neg hk];rfl
    subst hR2
    simp +contextual -implicitDefEqProofs only [sm,seval,hk]
    refine .inl (AbZ [0] (BnX (t::l) z) (by decide) ?_ ?_ ?_ trivial)
    iterate 3 simp +contextual -implicitDefEqProofs only [q12,sm,seval]
def eI64 (n:Int):AV:=.int .i64 n
theorem eI64_eq (n:Int):eI64 n=.int .i64 n:=rfl
theorem p_number (l:List Tok) (z:Int):Pd 96 [] l z eI64 (numP l):=by
 refine BeX Tryz.func96 Tryz.call96 e_parse_parser_number ?_
 generalize hR:outR eI64 z (numP l)=R
 simp +contextual -implicitDefEqProofs only [sm,c_parse_parser_number,AgZ,seval]
 refine AfZ (p_kind l z) ?_ rfl ?_
 iterate 2 simp +contextual -implicitDefEqProofs only [q12,sm,seval]
 cases l with
 |
  nil =>
  have hR2:R=.error 6:=by rw [← hR];rfl
  subst hR2
  simp +contextual -implicitDefEqProofs only [sm,seval,kindP_nil]
  refine .inl (AbZ [0] (BnX [] z) (by decide) ?_ ?_ ?_ trivial)
  iterate 3 simp +contextual -implicitDefEqProofs only [q12,sm,seval]
 |
  cons t l =>
  by_cases hk:BeQ (t::l)=2
  · have hR2:R=outR eI64 z (.ok (t.v,l)):=by rw [← hR];rw [numP_cons,if_pos hk]
    simp only [AiZ] at hR2
    subst hR2
    simp +contextual -implicitDefEqProofs only [sm,seval,hk,AoQ,eI64_eq]
    refine .inr (AaX [0] (p_next t l z) (by decide) ?_ ?_ ?_ ?_ ?_ ?_)
    iterate 6 simp +contextual -implicitDefEqProofs only [q12,sm,seval]
    refine ⟨[],[0],by decide,rfl,?_⟩
    simp +contextual -implicitDefEqProofs only [sm,seval]
  · have hR2:R=.error 5:=by rw [← hR];rw [numP_cons,if_neg hk];rfl
    subst hR2
    simp +contextual -implicitDefEqProofs only [sm,seval,hk]
    refine .inl (AbZ [0] (BnX (t::l) z) (by decide) ?_ ?_ ?_ trivial)
    iterate 3 simp +contextual -implicitDefEqProofs only [q12,sm,seval]
theorem p_exact (n:Int) (l:List Tok) (z:Int):Pd 95 [.int .i64 n] l z eU (BmY n l):=by
 refine BeX Tryz.func95 Tryz.call95 e_parse_parser_exact ?_
 generalize hR:outR eU z (BmY n l)=R
 simp +contextual -implicitDefEqProofs only [sm,c_parse_parser_exact,AgZ,seval]
 refine AfZ (p_kind l z) ?_ rfl ?_
 iterate 2 simp +contextual -implicitDefEqProofs only [q12,sm,seval]
 cases l with
 |
  nil =>
  have hR2:R=.error 6:=by rw [← hR];rfl
  subst hR2
  simp +contextual -implicitDefEqProofs only [sm,seval,kindP_nil]
  refine .inl (AbZ [0] (BnX [] z) (by decide) ?_ ?_ ?_ trivial)
  iterate 3 simp +contextual -implicitDefEqProofs only [q12,sm,seval]
 |
  cons t l =>
  by_cases hk:BeQ (t::l)=2
  · by_cases hv:t.v=n
    · have hR2:R=outR eU z (.ok ((),l)):=by rw [← hR];rw [exactP_cons,if_pos ⟨hk,hv⟩]
      simp only [AiZ] at hR2
      subst hR2
      simp +contextual -implicitDefEqProofs only [sm,seval,hk,hv,om_Tok,AoQ,eU_eq]
      refine .inr (AaX [0] (p_next t l z) (by decide) ?_ ?_ ?_ ?_ ?_ ?_)
      iterate 6 simp +contextual -implicitDefEqProofs only [q12,sm,seval]
      refine ⟨[],[0],by decide,rfl,?_⟩
      simp +contextual -implicitDefEqProofs only [sm,seval]
    · have hR2:R=.error 5:=by rw [← hR];rw [exactP_cons,if_neg (fun h=>hv h.2)];rfl
      subst hR2
      simp +contextual -implicitDefEqProofs only [sm,seval,hk,hv,om_Tok]
      refine .inl (AbZ [0] (BnX (t::l) z) (by decide) ?_ ?_ ?_ trivial)
      iterate 3 simp +contextual -implicitDefEqProofs only [q12,sm,seval]
  · have hR2:R=.error 5:=by rw [← hR];rw [exactP_cons,if_neg (fun h=>hk h.1)];rfl
    subst hR2
    simp +contextual -implicitDefEqProofs only [sm,seval,hk]
    refine .inl (AbZ [0] (BnX (t::l) z) (by decide) ?_ ?_ ?_ trivial)
    iterate 3 simp +contextual -implicitDefEqProofs only [q12,sm,seval]
theorem AyX (l:List Tok) (z:Int):Pd 92 [] l z ePe (AjQ l):=by
 refine BeX Tryz.func92 Tryz.call92 e_parse_parser_plain ?_
 generalize hR:outR ePe z (AjQ l)=R
 simp +contextual -implicitDefEqProofs only [sm,c_parse_parser_plain,AgZ,seval]
 refine AfZ (p_kind l z) ?_ rfl ?_
 iterate 2 simp +contextual -implicitDefEqProofs only [q12,sm,seval]
 cases l with
 |
  nil =>
  have hR2:R=.error 6:=by rw [← hR];rfl
  subst hR2
  simp +contextual -implicitDefEqProofs only [sm,seval,kindP_nil]
  refine .inr (AaX [0] (BnY [116,114,117,101] [] z) (by decide) ?_ ?_ ?_ ?_ ?_ ?_)
  iterate 6 simp +contextual -implicitDefEqProofs only [q12,sm,seval,isW_nil,mayR_nil]
  refine .inr (AaX [0] (BnY [102,97,108,115,101] [] z) (by decide) ?_ ?_ ?_ ?_ ?_ ?_)
  iterate 6 simp +contextual -implicitDefEqProofs only [q12,sm,seval,isW_nil,mayR_nil]
  refine .inl (AbZ [0] (BnX [] z) (by decide) ?_ ?_ ?_ trivial)
  iterate 3 simp +contextual -implicitDefEqProofs only [q12,sm,seval]
 |
  cons t l =>
  rw [plainP_cons] at hR
  by_cases hk2:BeQ (t::l)=2
  · rw [if_pos hk2,AiZ] at hR
    subst hR
    simp +contextual -implicitDefEqProofs only [sm,seval,hk2,AoQ,AnY]
    refine .inr (AaX [0] (p_next t l z) (by decide) ?_ ?_ ?_ ?_ ?_ ?_)
    iterate 6 simp +contextual -implicitDefEqProofs only [q12,sm,seval]
    refine ⟨[],[0],by decide,rfl,?_⟩
    simp +contextual -implicitDefEqProofs only [sm,seval]
  rw [if_neg hk2] at hR
  by_cases hk1:BeQ (t::l)=1
  · rw [if_pos hk1,AiZ] at hR
    subst hR
    simp +contextual -implicitDefEqProofs only [sm,seval,hk1,hk2,AoQ,AnY]
    refine .inr (AaX [0] (p_next t l z) (by decide) ?_ ?_ ?_ ?_ ?_ ?_)
    iterate 6 simp +contextual -implicitDefEqProofs only [q12,sm,seval]
    refine ⟨[],[0],by decide,rfl,?_⟩
    simp +contextual -implicitDefEqProofs only [sm,seval]
  rw [if_neg hk1] at hR
  simp +contextual -implicitDefEqProofs only [sm,seval,hk1,hk2]
  have hmt:=BnY [116,114,117,101] (t::l) z
  have hmf:=BnY [102,97,108,115,101] (t::l) z
  by_cases ht:t.t=[116,114,117,101]
  · rw [if_pos ht,AiZ] at hR
    subst hR
    have hi:isW [116,114,117,101] (t::l)=true:=decide_eq_true ht
    rw [mayR_yes hi,hi] at hmt
    refine .inr (AaX [0] hmt (by decide) ?_ ?_ ?_ ?_ ?_ ?_)
    iterate 6 simp +contextual -implicitDefEqProofs only [q12,sm,seval]
    simp +contextual -implicitDefEqProofs only [sm,seval,AoQ,AnY]
    refine ⟨[],[0],by decide,rfl,?_⟩
    simp +contextual -implicitDefEqProofs only [sm,seval]
  · rw [if_neg ht] at hR
    have hi:isW [116,114,117,101] (t::l)=false:=decide_eq_false ht
    rw [AnX hi,hi] at hmt
    refine .inr (AaX [0] hmt (by decide) ?_ ?_ ?_ ?_ ?_ ?_)
    iterate 6 simp +contextual -implicitDefEqProofs only [q12,sm,seval]
    by_cases hf:t.t=[102,97,108,115,101]
    · rw [if_pos hf,AiZ] at hR
      subst hR
      have hi:isW [102,97,108,115,101] (t::l)=true:=decide_eq_true hf
      rw [mayR_yes hi,hi] at hmf
      refine .inr (AaX [0] hmf (by decide) ?_ ?_ ?_ ?_ ?_ ?_)
      iterate 6 simp +contextual -implicitDefEqProofs only [q12,sm,seval]
      simp +contextual -implicitDefEqProofs only [sm,seval,AoQ,AnY]
      refine ⟨[],[0],by decide,rfl,?_⟩
      simp +contextual -implicitDefEqProofs only [sm,seval]
    · rw [if_neg hf,BrX] at hR
      subst hR
      have hi:isW [102,97,108,115,101] (t::l)=false:=decide_eq_false hf
      rw [AnX hi,hi] at hmf
      refine .inr (AaX [0] hmf (by decide) ?_ ?_ ?_ ?_ ?_ ?_)
      iterate 6 simp +contextual -implicitDefEqProofs only [q12,sm,seval]
      refine .inl (AbZ [0] (BnX (t::l) z) (by decide) ?_ ?_ ?_ trivial)
      iterate 3 simp +contextual -implicitDefEqProofs only [q12,sm,seval]
end Go.Proofs.YtcmphhedaefcgaaGreatDoor
end
section
namespace Go.Proofs.YtcmphhedaefcgaaGreatDoor
open Av
attribute [local irreducible] awp AbX
attribute [local irreducible] awX opX
set_option maxRecDepth 100000
set_option maxHeartbeats 4000000
theorem q13:(((type_of% @BhX)∧(type_of% @BdZ))∧((type_of% @pR_eq)∧(type_of% @AgZ))):=⟨⟨@BhX,@BdZ⟩,⟨@pR_eq,@AgZ⟩⟩
def eL_Pe (r:List Pe):AV:=.list 4 (r.map ePe)
theorem eL_Pe_eq (r:List Pe):eL_Pe r=.list 4 (r.map ePe):=rfl
theorem snoc_Pe (acc:List Pe) (x:Pe):acc.map ePe++[AV.agg [.int .i64 x.k,.int .i64 x.n,.str (S8 x.s),.list 4 []]]=(acc++[x]).map ePe:=by simp [ePe]
theorem exprsF_Pe (e:Bs) (k:Nat) (l:List Tok):BmX AjQ e (k+1) l=andP (AjQ l) fun x l1=>if isW e l1=true then .ok ([x],l1.tail) else andP (AeQ [[44]] l1) fun _ l2=>andP (BmX AjQ e k l2) fun r l3=>.ok (x::r,l3):=rfl
theorem BrQ (e:Bs) (l:List Tok) (z:Int):Pd 56 [.str (S8 e),.fb (.func 92) [.ptr 2 0 0 0]] l z eL_Pe (BdY AjQ e l):=by
 refine call_doesF Tryz.func56 Tryz.call56 e_parse_parser_exprs ?_
 generalize hR:outR eL_Pe z (BdY AjQ e l)=R
 have hma:=BnY e l z
 simp +contextual -implicitDefEqProofs only [sm,BoY,AgZ,seval]
 cases hm:isW e l
 · rw [AnX hm,hm] at hma
   have hR2:outR eL_Pe z (BmX AjQ e 64 l)=R:=by rw [← hR];unfold BdY;rw [hm];rfl
   refine .inr (AaX [0] hma (by decide) ?_ ?_ ?_ ?_ ?_ ?_)
   iterate 6 simp +contextual -implicitDefEqProofs only [q13,sm,seval]
   refine loop_ruleV [(7,4)] (fun b:Nat × List Pe × List Tok=>b.2.1.length+b.1=64∧outR eL_Pe z (andP (BmX AjQ e b.1 b.2.2) fun r l3=>.ok (b.2.1++r,l3))=R) (fun b=>tm 28 [(0,.ptr 2 0 0 0),(1,.str (S8 e)),(2,.fb (.func 92) [.ptr 2 0 0 0]),(7,.sl 4 1 0 b.2.1.length)])
    (fun b=>[some (2,[pS b.2.2 z]),some (4,b.2.1.map ePe)]) (fun b=>b.1) (64,[],l) (by simp +contextual -implicitDefEqProofs only [sm,seval]) ⟨rfl,by rw [← hR2];simp only [List.nil_append];cases BmX AjQ e 64 l <;> rfl⟩ ⟨[0,1],by decide,rfl,?_,?_⟩ ?_
   · simp +contextual -implicitDefEqProofs only [sm,seval,AgZ,AxZ]
   · simp +contextual -implicitDefEqProofs only [sm,seval]
   · rintro ⟨k,acc,q⟩ ⟨hk,hR⟩
     simp only at hk hR
     cases k with
     |
      zero =>
      have hR2:R=.error 3:=by rw [← hR];rfl
      subst hR2
      have hn:((acc.length:Nat):Int)=64:=by omega
      simp +contextual -implicitDefEqProofs only [sm,seval,AgZ,hn]
      refine .inl (AbZ [0] (p_throw q z 3) (by decide) ?_ ?_ ?_ trivial)
      iterate 3 simp +contextual -implicitDefEqProofs only [q13,sm,seval,AxZ,AnY]
     |
      succ k =>
      have hn:¬ ((acc.length:Nat):Int)=64:=by omega
      simp +contextual -implicitDefEqProofs only [sm,seval,AgZ,hn]
      rw [exprsF_Pe] at hR
      cases hq1:AjQ q with
      |
       error er =>
       have hR2:R=.error er:=by rw [← hR,hq1];rfl
       subst hR2
       refine .inl (thr_ruleB [0] ((AyX q z).thr hq1) (by decide) ?_ ?_ ?_ trivial)
       iterate 3 simp +contextual -implicitDefEqProofs only [q13,sm,seval,AxZ,AnY]
      |
       ok x =>
       obtain ⟨x,l1⟩:=x
       rw [hq1] at hR
       simp only [AbY] at hR
       refine .inr (callM_ruleB [0] ((AyX q z).ctr hq1) (by decide) ?_ ?_ ?_ ?_ ?_ ?_)
       iterate 6 simp +contextual -implicitDefEqProofs only [q13,sm,seval,AxZ,AnY]
       refine ⟨⟨by omega,by unfold maxLen;omega⟩,?_⟩
       have hmb:=BnY e l1 z
       cases hm1:isW e l1
       · rw [AnX hm1,hm1] at hmb
         rw [hm1,if_neg (by simp)] at hR
         refine .inr (AaX [0] hmb (by decide) ?_ ?_ ?_ ?_ ?_ ?_)
         iterate 6 simp +contextual -implicitDefEqProofs only [q13,sm,seval,AxZ]
         cases hq2:AeQ [[44]] l1 with
         |
          error er =>
          have hR2:R=.error er:=by rw [← hR,hq2];rfl
          subst hR2
          refine .inl (AbZ [0] ((AjY [[44]] l1 z (by decide)).thr hq2) (by decide) ?_ ?_ ?_ trivial)
          iterate 3 simp +contextual -implicitDefEqProofs only [q13,sm,seval,eU_eq,AxZ]
         |
          ok x =>
          obtain ⟨_,l2⟩:=x
          rw [hq2] at hR
          simp only [AbY] at hR
          refine .inr (AaX [0] ((AjY [[44]] l1 z (by decide)).ctr hq2) (by decide) ?_ ?_ ?_ ?_ ?_ ?_)
          iterate 6 simp +contextual -implicitDefEqProofs only [q13,sm,seval,eU_eq,AxZ]
          refine ⟨(k,acc++[x],l2),⟨by simp only [List.length_append,List.length_cons,List.length_nil];omega,?_⟩,by simp only;omega,[0,2],by decide,rfl,?_,?_⟩
          · rw [← hR]
            cases BmX AjQ e k l2 with
            | error er=>rfl
            | ok y=>obtain ⟨r,l3⟩:=y;simp only [AbY,List.append_assoc,List.singleton_append]
          · simp +contextual -implicitDefEqProofs only [sm,seval,AgZ]
            simp only [snoc_Pe,AxZ,wkEs_same,true_and]
          · simp +contextual -implicitDefEqProofs only [sm,seval]
       · have hmr:mayR e l1=l1.tail:=by unfold mayR;rw [hm1];rfl
         rw [hmr,hm1] at hmb
         rw [hm1,if_pos rfl,AbY,AiZ] at hR
         subst hR
         refine .inr (AaX [0] hmb (by decide) ?_ ?_ ?_ ?_ ?_ ?_)
         iterate 6 simp +contextual -implicitDefEqProofs only [q13,sm,seval,AxZ]
         have htk:(acc.map ePe++[AV.agg [.int .i64 x.k,.int .i64 x.n,.str (S8 x.s),.list 4 []]]).take (acc.length+1)=(acc++[x]).map ePe:=by rw [snoc_Pe];exact List.take_of_length_le (by simp)
         have hle:acc.length+1≤(acc++[x]).length:=by simp
         simp +contextual -implicitDefEqProofs only [sm,seval,BmQ,h_ret,eL_Pe_eq]
         refine ⟨[0],by decide,rfl,?_,?_⟩
         · simp +contextual -implicitDefEqProofs only [sm,seval]
         · simp +contextual -implicitDefEqProofs only [sm,seval,AfY,htk,AxZ]
 · rw [hm] at hma
   have hR2:outR eL_Pe z (.ok ([],l.tail))=R:=by rw [← hR];unfold BdY;rw [hm];rfl
   have hmr:mayR e l=l.tail:=by unfold mayR;rw [hm];rfl
   rw [hmr] at hma
   rw [AiZ] at hR2
   subst hR2
   refine .inr (AaX [0] hma (by decide) ?_ ?_ ?_ ?_ ?_ ?_)
   iterate 6 simp +contextual -implicitDefEqProofs only [q13,sm,seval]
   simp +contextual -implicitDefEqProofs only [sm,seval,BmQ,h_ret,eL_Pe_eq]
   refine ⟨[0],by decide,rfl,?_,?_⟩
   iterate 2 simp +contextual -implicitDefEqProofs only [sm,seval]
theorem p_expr (l:List Tok) (z:Int):Pd 57 [] l z eEx (exprP l):=by
 refine BeX Tryz.func57 Tryz.call57 e_parse_parser_expr ?_
 generalize hR:outR eEx z (exprP l)=R
 have hma:=BnY [91] l z
 simp +contextual -implicitDefEqProofs only [sm,c_parse_parser_expr,AgZ,seval]
 cases hm:isW [91] l
 · rw [AnX hm,hm] at hma
   have hR2:outR eEx z (andP (AjQ l) fun p l1=>.ok (p.ex,l1))=R:=by rw [← hR];unfold exprP;rw [hm];rfl
   clear hR
   have hR:=hR2
   clear hR2
   refine .inr (AaX [0] hma (by decide) ?_ ?_ ?_ ?_ ?_ ?_)
   iterate 6 simp +contextual -implicitDefEqProofs only [q13,sm,seval]
   cases hq:AjQ l with
   |
    error er =>
    have hR2:R=.error er:=by rw [← hR,hq];rfl
    subst hR2
    refine .inl (AbZ [0] ((AyX l z).thr hq) (by decide) ?_ ?_ ?_ trivial)
    iterate 3 simp +contextual -implicitDefEqProofs only [q13,sm,seval,AnY]
   |
    ok x =>
    obtain ⟨p,l1⟩:=x
    rw [hq] at hR
    simp only [AbY] at hR
    refine .inr (AaX [0] ((AyX l z).ctr hq) (by decide) ?_ ?_ ?_ ?_ ?_ ?_)
    iterate 6 simp +contextual -implicitDefEqProofs only [q13,sm,seval,AnY]
    rw [AiZ] at hR
    subst hR
    simp +contextual -implicitDefEqProofs only [sm,seval,AoQ,AgZ,eEx_ex,AnY]
    refine ⟨[],[0],by decide,rfl,?_⟩
    simp +contextual -implicitDefEqProofs only [sm,seval,AnY]
 · have hmr:mayR [91] l=l.tail:=by unfold mayR;rw [hm];rfl
   rw [hmr,hm] at hma
   have hR2:outR eEx z (andP (BdY AjQ [93] l.tail) fun r l1=>.ok (⟨4,0,[],r⟩,l1))=R:=by rw [← hR];unfold exprP;rw [hm];rfl
   clear hR
   have hR:=hR2
   clear hR2
   refine .inr (AaX [0] hma (by decide) ?_ ?_ ?_ ?_ ?_ ?_)
   iterate 6 simp +contextual -implicitDefEqProofs only [q13,sm,seval]
   cases hq:BdY AjQ [93] l.tail with
   |
    error er =>
    have hR2:R=.error er:=by rw [← hR,hq];rfl
    subst hR2
    refine .inl (AbZ [0] ((BrQ [93] l.tail z).thr hq) (by decide) ?_ ?_ ?_ trivial)
    iterate 3 simp +contextual -implicitDefEqProofs only [q13,sm,seval,eL_Pe_eq,AxZ]
   |
    ok x =>
    obtain ⟨r,l1⟩:=x
    rw [hq] at hR
    simp only [AbY] at hR
    refine .inr (AaX [0] ((BrQ [93] l.tail z).ctr hq) (by decide) ?_ ?_ ?_ ?_ ?_ ?_)
    iterate 6 simp +contextual -implicitDefEqProofs only [q13,sm,seval,eL_Pe_eq,AxZ]
    rw [AiZ] at hR
    subst hR
    simp +contextual -implicitDefEqProofs only [sm,seval,AoQ,AgZ,AcQ]
    refine ⟨[],[0],by decide,rfl,?_⟩
    simp +contextual -implicitDefEqProofs only [sm,seval]
def eL_Ex (r:List Ex):AV:=.list 4 (r.map eEx)
theorem eL_Ex_eq (r:List Ex):eL_Ex r=.list 4 (r.map eEx):=rfl
theorem snoc_Ex (acc:List Ex) (x:Ex):acc.map eEx++[AV.agg [.int .i64 x.k,.int .i64 x.n,.str (S8 x.s),.list 4 (x.l.map ePe)]]=(acc++[x]).map eEx:=by simp [eEx]
theorem exprsF_Ex (e:Bs) (k:Nat) (l:List Tok):BmX exprP e (k+1) l=andP (exprP l) fun x l1=>if isW e l1=true then .ok ([x],l1.tail) else andP (AeQ [[44]] l1) fun _ l2=>andP (BmX exprP e k l2) fun r l3=>.ok (x::r,l3):=rfl
theorem p_exprs_Ex (e:Bs) (l:List Tok) (z:Int):Pd 56 [.str (S8 e),.fb (.func 57) [.ptr 2 0 0 0]] l z eL_Ex (BdY exprP e l):=by
 refine call_doesF Tryz.func56 Tryz.call56 e_parse_parser_exprs ?_
 generalize hR:outR eL_Ex z (BdY exprP e l)=R
 have hma:=BnY e l z
 simp +contextual -implicitDefEqProofs only [sm,BoY,AgZ,seval]
 cases hm:isW e l
 · rw [AnX hm,hm] at hma
   have hR2:outR eL_Ex z (BmX exprP e 64 l)=R:=by rw [← hR];unfold BdY;rw [hm];rfl
   refine .inr (AaX [0] hma (by decide) ?_ ?_ ?_ ?_ ?_ ?_)
   iterate 6 simp +contextual -implicitDefEqProofs only [q13,sm,seval]
   refine loop_ruleV [(7,4)] (fun b:Nat × List Ex × List Tok=>b.2.1.length+b.1=64∧outR eL_Ex z (andP (BmX exprP e b.1 b.2.2) fun r l3=>.ok (b.2.1++r,l3))=R) (fun b=>tm 28 [(0,.ptr 2 0 0 0),(1,.str (S8 e)),(2,.fb (.func 57) [.ptr 2 0 0 0]),(7,.sl 4 1 0 b.2.1.length)])
    (fun b=>[some (2,[pS b.2.2 z]),some (4,b.2.1.map eEx)]) (fun b=>b.1) (64,[],l) (by simp +contextual -implicitDefEqProofs only [sm,seval]) ⟨rfl,by rw [← hR2];simp only [List.nil_append];cases BmX exprP e 64 l <;> rfl⟩ ⟨[0,1],by decide,rfl,?_,?_⟩ ?_
   · simp +contextual -implicitDefEqProofs only [sm,seval,AgZ,AeY]
   · simp +contextual -implicitDefEqProofs only [sm,seval]
   · rintro ⟨k,acc,q⟩ ⟨hk,hR⟩
     simp only at hk hR
     cases k with
     |
      zero =>
      have hR2:R=.error 3:=by rw [← hR];rfl
      subst hR2
      have hn:((acc.length:Nat):Int)=64:=by omega
      simp +contextual -implicitDefEqProofs only [sm,seval,AgZ,hn]
      refine .inl (AbZ [0] (p_throw q z 3) (by decide) ?_ ?_ ?_ trivial)
      iterate 3 simp +contextual -implicitDefEqProofs only [q13,sm,seval,AeY,AcQ]
     |
      succ k =>
      have hn:¬ ((acc.length:Nat):Int)=64:=by omega
      simp +contextual -implicitDefEqProofs only [sm,seval,AgZ,hn]
      rw [exprsF_Ex] at hR
      cases hq1:exprP q with
      |
       error er =>
       have hR2:R=.error er:=by rw [← hR,hq1];rfl
       subst hR2
       refine .inl (thr_ruleB [0] ((p_expr q z).thr hq1) (by decide) ?_ ?_ ?_ trivial)
       iterate 3 simp +contextual -implicitDefEqProofs only [q13,sm,seval,AeY,AcQ]
      |
       ok x =>
       obtain ⟨x,l1⟩:=x
       rw [hq1] at hR
       simp only [AbY] at hR
       refine .inr (callM_ruleB [0] ((p_expr q z).ctr hq1) (by decide) ?_ ?_ ?_ ?_ ?_ ?_)
       iterate 6 simp +contextual -implicitDefEqProofs only [q13,sm,seval,AeY,AcQ]
       refine ⟨⟨by omega,by unfold maxLen;omega⟩,?_⟩
       have hmb:=BnY e l1 z
       cases hm1:isW e l1
       · rw [AnX hm1,hm1] at hmb
         rw [hm1,if_neg (by simp)] at hR
         refine .inr (AaX [0] hmb (by decide) ?_ ?_ ?_ ?_ ?_ ?_)
         iterate 6 simp +contextual -implicitDefEqProofs only [q13,sm,seval,AeY]
         cases hq2:AeQ [[44]] l1 with
         |
          error er =>
          have hR2:R=.error er:=by rw [← hR,hq2];rfl
          subst hR2
          refine .inl (AbZ [0] ((AjY [[44]] l1 z (by decide)).thr hq2) (by decide) ?_ ?_ ?_ trivial)
          iterate 3 simp +contextual -implicitDefEqProofs only [q13,sm,seval,eU_eq,AeY]
         |
          ok x =>
          obtain ⟨_,l2⟩:=x
          rw [hq2] at hR
          simp only [AbY] at hR
          refine .inr (AaX [0] ((AjY [[44]] l1 z (by decide)).ctr hq2) (by decide) ?_ ?_ ?_ ?_ ?_ ?_)
          iterate 6 simp +contextual -implicitDefEqProofs only [q13,sm,seval,eU_eq,AeY]
          refine ⟨(k,acc++[x],l2),⟨by simp only [List.length_append,List.length_cons,List.length_nil];omega,?_⟩,by simp only;omega,[0,2],by decide,rfl,?_,?_⟩
          · rw [← hR]
            cases BmX exprP e k l2 with
            | error er=>rfl
            | ok y=>obtain ⟨r,l3⟩:=y;simp only [AbY,List.append_assoc,List.singleton_append]
          · simp +contextual -implicitDefEqProofs only [sm,seval,AgZ]
            simp only [snoc_Ex,AeY,wkEs_same,true_and]
          · simp +contextual -implicitDefEqProofs only [sm,seval]
       · have hmr:mayR e l1=l1.tail:=by unfold mayR;rw [hm1];rfl
         rw [hmr,hm1] at hmb
         rw [hm1,if_pos rfl,AbY,AiZ] at hR
         subst hR
         refine .inr (AaX [0] hmb (by decide) ?_ ?_ ?_ ?_ ?_ ?_)
         iterate 6 simp +contextual -implicitDefEqProofs only [q13,sm,seval,AeY]
         have htk:(acc.map eEx++[AV.agg [.int .i64 x.k,.int .i64 x.n,.str (S8 x.s),.list 4 (x.l.map ePe)]]).take (acc.length+1)=(acc++[x]).map eEx:=by rw [snoc_Ex];exact List.take_of_length_le (by simp)
         have hle:acc.length+1≤(acc++[x]).length:=by simp
         simp +contextual -implicitDefEqProofs only [sm,seval,BmQ,h_ret,eL_Ex_eq]
         refine ⟨[0],by decide,rfl,?_,?_⟩
         · simp +contextual -implicitDefEqProofs only [sm,seval]
         · simp +contextual -implicitDefEqProofs only [sm,seval,AfY,htk,AeY]
 · rw [hm] at hma
   have hR2:outR eL_Ex z (.ok ([],l.tail))=R:=by rw [← hR];unfold BdY;rw [hm];rfl
   have hmr:mayR e l=l.tail:=by unfold mayR;rw [hm];rfl
   rw [hmr] at hma
   rw [AiZ] at hR2
   subst hR2
   refine .inr (AaX [0] hma (by decide) ?_ ?_ ?_ ?_ ?_ ?_)
   iterate 6 simp +contextual -implicitDefEqProofs only [q13,sm,seval]
   simp +contextual -implicitDefEqProofs only [sm,seval,BmQ,h_ret,eL_Ex_eq]
   refine ⟨[0],by decide,rfl,?_,?_⟩
   iterate 2 simp +contextual -implicitDefEqProofs only [sm,seval]
end Go.Proofs.YtcmphhedaefcgaaGreatDoor
end
section
namespace Go.Proofs.YtcmphhedaefcgaaGreatDoor
open Av
attribute [local irreducible] awp AbX
attribute [local irreducible] awX opX
set_option maxRecDepth 100000
set_option maxHeartbeats 4000000
def itB (b:Bool) (dom:AV):Option (Nat × List AV):=some (8,[.agg [.int .i64 2,.str (S8 []),.bool b,dom,.int .i64 0,.bool false,.nils,.int .i64 0]])
theorem AhQ (b:Bool) (dom:AV):itB b dom=some (8,[.agg [.int .i64 2,.str (S8 []),.bool b,dom,.int .i64 0,.bool false,.nils,.int .i64 0]]):=rfl
theorem q14:(((type_of% @eI64_eq)∧((type_of% @BhX)∧(type_of% @BdZ)))∧(((type_of% @eU_eq)∧(type_of% @AhQ))∧((type_of% @pR_eq)∧(type_of% @AgZ)))):=⟨⟨@eI64_eq,⟨@BhX,@BdZ⟩⟩,⟨⟨@eU_eq,@AhQ⟩,⟨@pR_eq,@AgZ⟩⟩⟩
def sg (n:Int):Int × Int:=(n,n)
def domBx (l:List Tok) (z:Int):Dm→Bx
 | .b=>[some (2,[pS l z]),itB true .nils]
 | .set r=>[some (2,[pS l z]),itB false (.sl 2 2 0 r.length),some (2,(r.map sg).map eRg)]
 | .rng lo hi=>[some (2,[pS l z]),itB false (.list 2 [eRg (lo,hi)])]
theorem domBx_b (l:List Tok) (z:Int):domBx l z .b=[some (2,[pS l z]),itB true .nils]:=rfl
theorem domBx_set (l:List Tok) (z:Int) (r:List Int):domBx l z (.set r)=[some (2,[pS l z]),itB false (.sl 2 2 0 r.length),some (2,(r.map sg).map eRg)]:=rfl
theorem domBx_rng (l:List Tok) (z lo hi:Int):domBx l z (.rng lo hi)=[some (2,[pS l z]),itB false (.list 2 [eRg (lo,hi)])]:=rfl
def outD (z:Int):PR Dm→Except Int (AV × Bx)
 | .ok (d,l)=>.ok (.tuple [],domBx l z d)
 | .error e=>.error e
theorem outD_ok (z:Int) (d:Dm) (l:List Tok):outD z (.ok (d,l))=.ok (.tuple [],domBx l z d):=rfl
theorem setF_step (k:Nat) (l:List Tok):setF (k+1) l=andP (numP l) fun x l1=>if isW [125] l1=true then .ok ([x],l1.tail) else andP (AeQ [[44]] l1) fun _ l2=>andP (setF k l2) fun r l3=>.ok (x::r,l3):=rfl
theorem snoc_sg (acc:List Int) (x:Int):acc.map sg++[(x,x)]=(acc++[x]).map sg:=by simp [sg]
theorem p_dom (l:List Tok) (z:Int):Does Tryz.prog Flt 94 [.ptr 2 0 0 0,.ptr 8 1 0 0] [some (2,[pS l z]),itB false .nils] (outD z (domP l)):=by
 refine BeX Tryz.func94 Tryz.call94 e_parse_parser_dom ?_
 generalize hR:outD z (domP l)=R
 unfold domP at hR
 have hmb:=BnY [98,111,111,108] l z
 have hms:=BnY [123] l z
 simp +contextual -implicitDefEqProofs only [sm,c_parse_parser_dom,AgZ,AhQ,seval]
 by_cases hb:isW [98,111,111,108] l=true
 · have hmr:mayR [98,111,111,108] l=l.tail:=by unfold mayR;rw [hb];rfl
   rw [hmr,hb] at hmb
   rw [hb,if_pos rfl,outD_ok,domBx_b] at hR
   subst hR
   refine .inr (AaX [0] hmb (by decide) ?_ ?_ ?_ ?_ ?_ ?_)
   iterate 6 simp +contextual -implicitDefEqProofs only [q14,sm,seval]
   simp +contextual -implicitDefEqProofs only [sm,seval,AgZ,AhQ,AoQ]
   refine ⟨[],[0,1],by decide,rfl,?_⟩
   simp +contextual -implicitDefEqProofs only [sm,seval]
 have hb:isW [98,111,111,108] l=false:=by simpa using hb
 rw [AnX hb,hb] at hmb
 rw [hb,if_neg (by simp)] at hR
 refine .inr (AaX [0] hmb (by decide) ?_ ?_ ?_ ?_ ?_ ?_)
 iterate 6 simp +contextual -implicitDefEqProofs only [q14,sm,seval]
 cases hs:isW [123] l
 · rw [AnX hs,hs] at hms
   rw [hs,if_neg (by simp)] at hR
   refine .inr (AaX [0] hms (by decide) ?_ ?_ ?_ ?_ ?_ ?_)
   iterate 6 simp +contextual -implicitDefEqProofs only [q14,sm,seval]
   cases hq1:numP l with
   |
    error er =>
    have hR2:R=.error er:=by rw [← hR,hq1];rfl
    subst hR2
    refine .inl (AbZ [0] ((p_number l z).thr hq1) (by decide) ?_ ?_ ?_ trivial)
    iterate 3 simp +contextual -implicitDefEqProofs only [q14,sm,seval]
   |
    ok x =>
    obtain ⟨lo,l1⟩:=x
    rw [hq1] at hR
    simp only [AbY] at hR
    refine .inr (AaX [0] ((p_number l z).ctr hq1) (by decide) ?_ ?_ ?_ ?_ ?_ ?_)
    iterate 6 simp +contextual -implicitDefEqProofs only [q14,sm,seval]
    cases hq2:AeQ [[46,46]] l1 with
    |
     error er =>
     have hR2:R=.error er:=by rw [← hR,hq2];rfl
     subst hR2
     refine .inl (AbZ [0] ((AjY [[46,46]] l1 z (by decide)).thr hq2) (by decide) ?_ ?_ ?_ trivial)
     iterate 3 simp +contextual -implicitDefEqProofs only [q14,sm,seval]
    |
     ok x =>
     obtain ⟨_,l2⟩:=x
     rw [hq2] at hR
     simp only [AbY] at hR
     refine .inr (AaX [0] ((AjY [[46,46]] l1 z (by decide)).ctr hq2) (by decide) ?_ ?_ ?_ ?_ ?_ ?_)
     iterate 6 simp +contextual -implicitDefEqProofs only [q14,sm,seval]
     cases hq3:numP l2 with
     |
      error er =>
      have hR2:R=.error er:=by rw [← hR,hq3];rfl
      subst hR2
      refine .inl (AbZ [0] ((p_number l2 z).thr hq3) (by decide) ?_ ?_ ?_ trivial)
      iterate 3 simp +contextual -implicitDefEqProofs only [q14,sm,seval]
     |
      ok x =>
      obtain ⟨hi,l3⟩:=x
      rw [hq3] at hR
      simp only [AbY] at hR
      refine .inr (AaX [0] ((p_number l2 z).ctr hq3) (by decide) ?_ ?_ ?_ ?_ ?_ ?_)
      iterate 6 simp +contextual -implicitDefEqProofs only [q14,sm,seval]
      rw [outD_ok,domBx_rng] at hR
      subst hR
      simp +contextual -implicitDefEqProofs only [sm,seval,AgZ,AhQ,AoQ,eRg]
      refine ⟨[],[0,1],by decide,rfl,?_⟩
      simp +contextual -implicitDefEqProofs only [sm,seval]
 · have hmr:mayR [123] l=l.tail:=by unfold mayR;rw [hs];rfl
   rw [hmr,hs] at hms
   rw [hs,if_pos rfl] at hR
   refine .inr (AaX [0] hms (by decide) ?_ ?_ ?_ ?_ ?_ ?_)
   iterate 6 simp +contextual -implicitDefEqProofs only [q14,sm,seval]
   refine loop_ruleF [(1,3,2)] [] (fun b:Nat × List Int × List Tok=>b.2.1.length+b.1=256∧outD z (andP (setF b.1 b.2.2) fun r l3=>.ok (.set (b.2.1++r),l3))=R) (fun b=>tm 55 [(0,.ptr 2 0 0 0),(1,.ptr 8 1 0 0)])
    (fun b=>[some (2,[pS b.2.2 z]),itB false (.sl 2 2 0 b.2.1.length),some (2,(b.2.1.map sg).map eRg)]) (fun b=>b.1) (256,[],l.tail) (by simp +contextual -implicitDefEqProofs only [sm,seval]) (by simp +contextual -implicitDefEqProofs only [sm,seval]) ⟨rfl,hR⟩ ⟨[0,1,2],by decide,rfl,?_,?_⟩ ?_
   · simp +contextual -implicitDefEqProofs only [sm,seval,AgZ,AhQ]
   · simp +contextual -implicitDefEqProofs only [sm,seval]
   · rintro ⟨k,acc,q⟩ ⟨hk,hR⟩
     simp only at hk hR
     cases k with
     |
      zero =>
      have hR2:R=.error 3:=by rw [← hR];rfl
      subst hR2
      have hn:((acc.length:Nat):Int)=256:=by omega
      simp +contextual -implicitDefEqProofs only [sm,seval,AgZ,AhQ,hn]
      refine .inl (AbZ [0] (p_throw q z 3) (by decide) ?_ ?_ ?_ trivial)
      iterate 3 simp +contextual -implicitDefEqProofs only [q14,sm,seval]
     |
      succ k =>
      have hn:¬ ((acc.length:Nat):Int)=256:=by omega
      rw [setF_step] at hR
      simp +contextual -implicitDefEqProofs only [sm,seval,AgZ,AhQ,hn]
      cases hq1:numP q with
      |
       error er =>
       have hR2:R=.error er:=by rw [← hR,hq1];rfl
       subst hR2
       refine .inl (AbZ [0] ((p_number q z).thr hq1) (by decide) ?_ ?_ ?_ trivial)
       iterate 3 simp +contextual -implicitDefEqProofs only [q14,sm,seval]
      |
       ok x =>
       obtain ⟨x,l1⟩:=x
       rw [hq1] at hR
       simp only [AbY] at hR
       refine .inr (AaX [0] ((p_number q z).ctr hq1) (by decide) ?_ ?_ ?_ ?_ ?_ ?_)
       iterate 6 simp +contextual -implicitDefEqProofs only [q14,sm,seval]
       refine ⟨⟨by omega,by unfold maxLen;omega⟩,?_⟩
       have hmc:=BnY [125] l1 z
       cases hc:isW [125] l1
       · rw [AnX hc,hc] at hmc
         rw [hc,if_neg (by simp)] at hR
         refine .inr (AaX [0] hmc (by decide) ?_ ?_ ?_ ?_ ?_ ?_)
         iterate 6 simp +contextual -implicitDefEqProofs only [q14,sm,seval]
         cases hq2:AeQ [[44]] l1 with
         |
          error er =>
          have hR2:R=.error er:=by rw [← hR,hq2];rfl
          subst hR2
          refine .inl (AbZ [0] ((AjY [[44]] l1 z (by decide)).thr hq2) (by decide) ?_ ?_ ?_ trivial)
          iterate 3 simp +contextual -implicitDefEqProofs only [q14,sm,seval]
         |
          ok x =>
          obtain ⟨_,l2⟩:=x
          rw [hq2] at hR
          simp only [AbY] at hR
          refine .inr (AaX [0] ((AjY [[44]] l1 z (by decide)).ctr hq2) (by decide) ?_ ?_ ?_ ?_ ?_ ?_)
          iterate 6 simp +contextual -implicitDefEqProofs only [q14,sm,seval]
          refine ⟨(k,acc++[x],l2),⟨by simp only [List.length_append,List.length_cons,List.length_nil];omega,?_⟩,by simp only;omega,[0,1,3],by decide,rfl,?_,?_⟩
          · rw [← hR]
            cases setF k l2 with
            | error er=>rfl
            | ok y=>obtain ⟨r,l3⟩:=y;simp only [AbY,List.append_assoc,List.singleton_append]
          · simp +contextual -implicitDefEqProofs only [sm,seval,AgZ,AhQ,snoc_sg]
          · simp +contextual -implicitDefEqProofs only [sm,seval]
       · have hmr:mayR [125] l1=l1.tail:=by unfold mayR;rw [hc];rfl
         rw [hmr,hc] at hmc
         rw [hc,if_pos rfl,AbY,outD_ok,domBx_set] at hR
         subst hR
         refine .inr (AaX [0] hmc (by decide) ?_ ?_ ?_ ?_ ?_ ?_)
         iterate 6 simp +contextual -implicitDefEqProofs only [q14,sm,seval]
         simp +contextual -implicitDefEqProofs only [sm,seval,AgZ,AhQ,AoQ,List.length_append,List.length_cons,List.length_nil,Nat.zero_add]
         refine ⟨[],[0,1,3],by decide,rfl,?_⟩
         simp +contextual -implicitDefEqProofs only [sm,seval,snoc_sg]
end Go.Proofs.YtcmphhedaefcgaaGreatDoor
end
section
namespace Go.Proofs.YtcmphhedaefcgaaGreatDoor
open Av
set_option maxRecDepth 100000
def kd_CParseA (f:Nat):Nat:=if f=23 then 2 else if f=25 then 2 else if f=24 then 2 else if f=4000000 then 2 else 0
end Go.Proofs.YtcmphhedaefcgaaGreatDoor
end
