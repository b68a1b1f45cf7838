/- P. -/
import Derived.Test.YtiobopjhbneieaaGreatDoorVcb
set_option linter.unusedSimpArgs false
set_option linter.unusedVariables false
set_option linter.unusedSectionVars false
noncomputable section
set_option maxRecDepth 1000000
namespace Go.Vam
open Go.Proofs Go.Proofs.Tryz
theorem Bim(x0 x1 x2 x3:D):Hd C1 55 f55 (bd f55) [] [.ptr 0 0,.dyn x0,.dyn x1] [.cells [.dyn x2,.dyn x3]]=
 .bind (.bin .lss 3 x3 i0) fun x4=>
 .ite x4 (
  .bind (.ia 59 x2 i0) fun x5=>
  .bind (.fa 67 x5 0) fun x6=>
  .bind (.ld 3 x6) fun x7=>
  .bind (.bin .eql 3 x7 x0) fun x8=>
  .ite x8 (
  .bind (.ia 59 x2 i0) fun x9=>
  .bind (.fa 67 x9 2) fun x10=>
  .bind (.ld 9 x10) fun x11=>
  .bind (.bin .eql 9 x11 x1) fun x12=>
  .leaf [x12] [[x2,x3]]) (
  .leaf [bf] [[x2,x3]])) (
  .leaf [bf] [[x2,x3]]):=by kernel_rfl
theorem Bh6(x0 x1:D):Hd C1 25 Tryz.f25 (bd Tryz.f25) [] [.ptr 0 0] [.cells [.dyn x0,.dyn x1]]=
 .bind (.bin .lss 3 x1 i0) fun x2=>
 .ite x2 (
  .bind (.ia 59 x0 i0) fun x3=>
  .bind (.fa 67 x3 1) fun x4=>
  .bind (.ld 3 x4) fun x5=>
  .bind (.cell x5) fun x6=>
  .chk [x6] (
  .leaf [] [[x0,x6]])) (
  .leaf [] [[x0,x1]]):=by kernel_rfl
theorem Bic(x0 x1 x2 x3:D):Hd C1 57 Tryz.f57 (bd Tryz.f57) [] [.ptr 0 0,.dyn x0,.dyn x1] [.cells [.dyn x2,.dyn x3]]=
 .meth 55 [] [none,(some x0),(some x1)] [] [x2,x3] fun x4 x5=>
 .bind (.un .not x4) fun x6=>
 .ite x6 (
  .meth 25 [] [none] [] (gl x5 2) fun x7 x8=>
  .leaf [] [(gl x8 2)]) (
  .bind (.slc 59 (gd x5 0) (some i1) none none) fun x7=>
  .bind (.cell x7) fun x8=>
  .chk [x8] (
  .leaf [] [[x8,(gd x5 1)]])):=by kernel_rfl
theorem Bh0(x0 x1 x2:D):Hd C1 59 f59 (bd f59) [] [.ptr 0 0,.dyn x0] [.cells [.dyn x1,.dyn x2]]=
 .meth 57 [] [none,(some (.int .i64 3)),(some x0)] [] [x1,x2] fun x3 x4=>
 .leaf [] [(gl x4 2)]:=by kernel_rfl
theorem Bij(x0 x1:D):Hd C1 58 f58 (bd f58) [] [.ptr 0 0] [.cells [.dyn x0,.dyn x1]]=
 .meth 107 [] [none,(some i1),(some (.func 108 [] []))] [] [x0,x1] fun x2 x3=>
 .leaf [x2] [(gl x3 2)]:=by kernel_rfl
def Tu(g:FuncId)(x0 x1 x2:D):Tree:=
 .bind (.bin .geq 3 x2 i0) fun x3=>
 .ite x3 (
  .meth 25 [] [none] [] [x1,x2] fun x4 x5=>
  .leaf [s0] [(gl x5 2)]) (
  .bind (.ia 59 x1 i0) fun x4=>
  .bind (.fa 67 x4 0) fun x5=>
  .bind (.ld 3 x5) fun x6=>
  .bind (.bin .neq 3 x6 x0) fun x7=>
  .ite x7 (
  .meth 25 [] [none] [] [x1,x2] fun x8 x9=>
  .leaf [s0] [(gl x9 2)]) (
  .bind (.ia 59 x1 i0) fun x8=>
  .bind (.fa 67 x8 2) fun x9=>
  .bind (.ld 9 x9) fun x10=>
  .call g [] [x10] [] fun x11=>
  .bind (.un .not x11) fun x12=>
  .ite x12 (
   .meth 25 [] [none] [] [x1,x2] fun x13 x14=>
   .leaf [s0] [(gl x14 2)]) (
   .bind (.ia 59 x1 i0) fun x13=>
   .bind (.ld 67 x13) fun x14=>
   .bind (.agg 3 x14) fun x15=>
   .chk (cl x15 3) (
   .bind (.slc 59 x1 (some i1) none none) fun x16=>
   .bind (.cell x16) fun x17=>
   .chk [x17] (
   .leaf [(gc x15 2)] [[x17,x2]])))))
theorem Bcu(x0 x1 x2:D):Hd C1 107 f107 (bd f107) [] [.ptr 0 0,.dyn x0,.lit (.func 108 [] [])] [.cells [.dyn x1,.dyn x2]]=Tu 108 x0 x1 x2:=by kernel_rfl
theorem A8p(x0 x1 x2:D):Hd C1 107 f107 (bd f107) [] [.ptr 0 0,.dyn x0,.lit (.func 235 [] [])] [.cells [.dyn x1,.dyn x2]]=Tu 235 x0 x1 x2:=by kernel_rfl
theorem A8u(x0 x1 x2:D):Hd C1 107 f107 (bd f107) [] [.ptr 0 0,.dyn x0,.lit (.func 233 [] [])] [.cells [.dyn x1,.dyn x2]]=Tu 233 x0 x1 x2:=by kernel_rfl
theorem A7c(x0 x1 x2:D):Hd C1 107 f107 (bd f107) [] [.ptr 0 0,.dyn x0,.lit (.func 202 [] [])] [.cells [.dyn x1,.dyn x2]]=Tu 202 x0 x1 x2:=by kernel_rfl
theorem Bdv(x0 x1:D):Hd C1 201 f201 (bd f201) [] [.ptr 0 0] [.cells [.dyn x0,.dyn x1]]=
 .meth 107 [] [none,(some i1),(some (.func 235 [] []))] [] [x0,x1] fun x2 x3=>
 .leaf [x2] [(gl x3 2)]:=by kernel_rfl
theorem Beb(x0:D):Hd C1 235 f235 (bd f235) [] [.dyn x0] []=
 .bind (.bin .eql 9 x0 (.str [114,117,108,101])) fun x1=>
 .ite x1 (
  .leaf [bt] []) (
  .bind (.bin .eql 9 x0 (.str [109,97,100,101])) fun x2=>
  .ite x2 (
  .leaf [bt] []) (
  .bind (.bin .eql 9 x0 (.str [115,111,117,114,99,101])) fun x3=>
  .leaf [x3] [])):=by kernel_rfl
theorem Bfj(x0 x1:D):Hd C1 200 f200 (bd f200) [] [.ptr 0 0] [.cells [.dyn x0,.dyn x1]]=
 .meth 107 [] [none,(some i1),(some (.func 233 [] []))] [] [x0,x1] fun x2 x3=>
 .call 234 [] [x2,.int .i64 1000] [] fun x4=>
 .bind (.ext x4 0) fun x5=>
 .bind (.ext x4 1) fun x6=>
 .leaf [x5] [(gl x3 2)]:=by kernel_rfl
theorem Bfz(x0:D):Hd C1 202 f202 (bd f202) [] [.dyn x0] []=
 .leaf [bt] []:=by kernel_rfl
theorem Beu(x0 x1:D):Hd C1 106 f106 (bd f106) [] [.ptr 0 0] [.cells [.dyn x0,.dyn x1]]=
 .meth 55 [] [none,(some (.int .i64 3)),(some (.str [43]))] [] [x0,x1] fun x2 x3=>
 .ite x2 (
  .leaf [.int .i64 3] [(gl x3 2)]) (
  .meth 55 [] [none,(some (.int .i64 3)),(some (.str [94]))] [] (gl x3 2) fun x4 x5=>
  .ite x4 (
  .leaf [.int .i64 4] [(gl x5 2)]) (
  .meth 55 [] [none,(some i1),(some (.str [45]))] [] (gl x5 2) fun x6 x7=>
  .ite x6 (
   .leaf [.int .i64 5] [(gl x7 2)]) (
   .leaf [i0] [(gl x7 2)]))):=by kernel_rfl
theorem Bha(x0 x1:D):Hd C1 56 f56 (bd f56) [{alts:= [[]],objs:= [0,1,2]}] [.ptr 0 0] [.cells [.dyn x0,.dyn x1]]=
 .meth 105 [] [none] [] [x0,x1] fun x2 x3=>
 .bind (.agg 7 x2) fun x4=>
 .chk (cl x4 7) (
 .meth 106 [] [none] [] (gl x3 2) fun x5 x6=>
 .loop 0 0 [x5,(gd x6 0),(gd x6 1),i0,i0,bf,s0,s0,i0,.nilsl,(gc x4 0),(gc x4 1),(gc x4 2),(gc x4 3),(gc x4 4),(gc x4 5),(gc x4 6)] (Ca [fun x7=>
  .bind (.bin .neq 3 (hv x7 0) i0) fun x8=>
  .ite x8 (
  .bind (.ia 59 (hv x7 1) i0) fun x9=>
  .bind (.fa 67 x9 1) fun x10=>
  .bind (.ld 3 x10) fun x11=>
  .bind (.slc 59 (hv x7 1) (some i1) none none) fun x12=>
  .bind (.cell x12) fun x13=>
  .chk [x13] (
  .meth 105 [] [none] [] [x13,(hv x7 2)] fun x14 x15=>
  .bind (.slm (hv x7 10)) fun x16=>
  .bind (.slm (hv x7 11)) fun x17=>
  .bind (.slm (hv x7 12)) fun x18=>
  .bind (.slm (hv x7 13)) fun x19=>
  .bind (.slm (hv x7 14)) fun x20=>
  .bind (.slm (hv x7 15)) fun x21=>
  .bind (.slm (hv x7 16)) fun x22=>
  .bind (.slim x14) fun x23=>
  .bind (.agg 7 x23) fun x24=>
  .bind (.cell (hv x7 0)) fun x25=>
  .bind (.cell x11) fun x26=>
  .chk [x25,x26] (
  .meth 106 [] [none] [] (gl x15 2) fun x27 x28=>
  .again 0 0 [x27,(gd x28 0),(gd x28 1),(hv x7 3),(hv x7 4),(hv x7 5),(hv x7 6),(hv x7 7),(hv x7 8),(hv x7 9),x25,x26,bf,s0,s0,i0,(.sl [[x16,x17,x18,x19,x20,x21,x22],(cl x24 7)] .exact)]))) (
  .chk [(hv x7 10),(hv x7 11),(hv x7 12),(hv x7 13),(hv x7 14),(hv x7 15),(hv x7 16)] (
  .leaf [.agg [(hv x7 10),(hv x7 11),(hv x7 12),(hv x7 13),(hv x7 14),(hv x7 15),(hv x7 16)]] [[(hv x7 1),(hv x7 2)]]))])):=by kernel_rfl
theorem Bgo(x0 x1:D):Hd C1 24 Tryz.f24 (bd Tryz.f24) [] [.ptr 0 0] [.cells [.dyn x0,.dyn x1]]=
 .meth 55 [] [none,(some i1),(some (.str [108,101,116]))] [] [x0,x1] fun x2 x3=>
 .bind (.un .not x2) fun x4=>
 .ite x4 (
  .meth 56 [] [none] [] (gl x3 2) fun x5 x6=>
  .bind (.agg 7 x5) fun x7=>
  .chk (cl x7 7) (
  .leaf [.agg (cl x7 7)] [(gl x6 2)])) (
  .bind (.ia 59 (gd x3 0) i0) fun x5=>
  .bind (.fa 67 x5 1) fun x6=>
  .bind (.ld 3 x6) fun x7=>
  .bind (.cell x7) fun x8=>
  .chk [x8] (
  .meth 57 [] [none,(some i1),(some (.str [108,101,116]))] [] (gl x3 2) fun x9 x10=>
  .meth 58 [] [none] [] (gl x10 2) fun x11 x12=>
  .bind (.cell x11) fun x13=>
  .chk [x13] (
  .meth 59 [] [none,(some (.str [61]))] [] (gl x12 2) fun x14 x15=>
  .meth 24 [] [none] [] (gl x15 2) fun x16 x17=>
  .bind (.slim x16) fun x18=>
  .bind (.agg 7 x18) fun x19=>
  .meth 57 [] [none,(some i1),(some (.str [105,110]))] [] (gl x17 2) fun x20 x21=>
  .meth 24 [] [none] [] (gl x21 2) fun x22 x23=>
  .bind (.slim x22) fun x24=>
  .bind (.agg 7 x24) fun x25=>
  .bind (.app 28 (.sl [(cl x19 7)] .exact) (.sl [(cl x25 7)] .exact)) fun x26=>
  .chk [x8,x13] (
  .leaf [.agg [(.int .i64 12),x8,bf,s0,x13,i0,x26]] [(gl x23 2)])))):=by kernel_rfl
theorem Beh(x0 x1:D):Hd C1 105 f105 (bd f105) [] [.ptr 0 0] [.cells [.dyn x0,.dyn x1]]=
 .bind (.ia 59 x0 i0) fun x2=>
 .bind (.fa 67 x2 1) fun x3=>
 .bind (.ld 3 x3) fun x4=>
 .meth 55 [] [none,(some (.int .i64 3)),(some (.str [58]))] [] [x0,x1] fun x5 x6=>
 .ite x5 (
  .meth 59 [] [none,(some (.str [58]))] [] (gl x6 2) fun x7 x8=>
  .meth 58 [] [none] [] (gl x8 2) fun x9 x10=>
  .bind (.cell x9) fun x11=>
  .bind (.cell x4) fun x12=>
  .chk [x12,x11] (
  .leaf [.agg [i1,x12,bt,x11,s0,i0,.nilsl]] [(gl x10 2)])) (
  .meth 55 [] [none,(some (.int .i64 3)),(some (.str [36]))] [] (gl x6 2) fun x7 x8=>
  .ite x7 (
  .meth 59 [] [none,(some (.str [36]))] [] (gl x8 2) fun x9 x10=>
  .meth 58 [] [none] [] (gl x10 2) fun x11 x12=>
  .bind (.cell x4) fun x13=>
  .bind (.cell x11) fun x14=>
  .chk [x13,x14] (
  .leaf [.agg [(.int .i64 2),x13,bf,s0,x14,i0,.nilsl]] [(gl x12 2)])) (
  .meth 55 [] [none,(some (.int .i64 3)),(some (.str [40]))] [] (gl x8 2) fun x9 x10=>
  .ite x9 (
   .meth 59 [] [none,(some (.str [40]))] [] (gl x10 2) fun x11 x12=>
   .meth 24 [] [none] [] (gl x12 2) fun x13 x14=>
   .bind (.agg 7 x13) fun x15=>
   .chk (cl x15 7) (
   .meth 59 [] [none,(some (.str [41]))] [] (gl x14 2) fun x16 x17=>
   .chk (cl x15 7) (
   .leaf [.agg (cl x15 7)] [(gl x17 2)]))) (
   .bind (.bin .lss 3 (gd x10 1) i0) fun x11=>
   .ite x11 (
   .bind (.ia 59 (gd x10 0) i0) fun x12=>
   .bind (.fa 67 x12 0) fun x13=>
   .bind (.ld 3 x13) fun x14=>
   .bind (.bin .eql 3 x14 i1) fun x15=>
   .ite x15 (
    .bind (.ia 59 (gd x10 0) i0) fun x16=>
    .bind (.fa 67 x16 2) fun x17=>
    .bind (.ld 9 x17) fun x18=>
    .call 161 [] [] [] fun x19=>
    .bind (.slc 23 x19 (some i1) none none) fun x20=>
    .call 36 [] [x20,x18] [] fun x21=>
    .ite x21 (
    .meth 162 [] [none,(some x4)] [] (gl x10 2) fun x22 x23=>
    .bind (.agg 7 x22) fun x24=>
    .chk (cl x24 7) (
    .leaf [.agg (cl x24 7)] [(gl x23 2)])) (
    .meth 58 [] [none] [] (gl x10 2) fun x22 x23=>
    .bind (.cell x22) fun x24=>
    .bind (.cell x4) fun x25=>
    .chk [x25,x24] (
    .leaf [.agg [i1,x25,bf,x24,s0,i0,.nilsl]] [(gl x23 2)]))) (
    .meth 58 [] [none] [] (gl x10 2) fun x16 x17=>
    .bind (.cell x16) fun x18=>
    .bind (.cell x4) fun x19=>
    .chk [x19,x18] (
    .leaf [.agg [i1,x19,bf,x18,s0,i0,.nilsl]] [(gl x17 2)]))) (
   .meth 58 [] [none] [] (gl x10 2) fun x12 x13=>
   .bind (.cell x12) fun x14=>
   .bind (.cell x4) fun x15=>
   .chk [x15,x14] (
   .leaf [.agg [i1,x15,bf,x14,s0,i0,.nilsl]] [(gl x13 2)]))))):=by kernel_rfl
theorem Bfb(x0 x1 x2:D):Hd C1 162 f162 (bd f162) [] [.ptr 0 0,.dyn x0] [.cells [.dyn x1,.dyn x2]]=
 .bind (.cell x0) fun x3=>
 .chk [x3] (
 .bind (.ia 59 x1 i0) fun x4=>
 .bind (.fa 67 x4 2) fun x5=>
 .bind (.ld 9 x5) fun x6=>
 .bind (.slc 59 x1 (some i1) none none) fun x7=>
 .bind (.cell x7) fun x8=>
 .chk [x8] (
 .meth 59 [] [none,(some (.str [40]))] [] [x8,x2] fun x9 x10=>
 .bind (.bin .eql 9 x6 (.str [100,101,112,115])) fun x11=>
 .ite x11 (
  .meth 24 [] [none] [] (gl x10 2) fun x12 x13=>
  .bind (.slim x12) fun x14=>
  .bind (.agg 7 x14) fun x15=>
  .meth 55 [] [none,(some (.int .i64 3)),(some (.str [44]))] [] (gl x13 2) fun x16 x17=>
  .ite x16 (
  .meth 59 [] [none,(some (.str [44]))] [] (gl x17 2) fun x18 x19=>
  .meth 200 [] [none] [] (gl x19 2) fun x20 x21=>
  .bind (.cell x20) fun x22=>
  .chk [x22] (
  .meth 59 [] [none,(some (.str [41]))] [] (gl x21 2) fun x23 x24=>
  .chk [x3,x22] (
  .leaf [.agg [(.int .i64 6),x3,bf,s0,s0,x22,(.sl [(cl x15 7)] .exact)]] [(gl x24 2)]))) (
  .meth 59 [] [none,(some (.str [41]))] [] (gl x17 2) fun x18 x19=>
  .chk [x3] (
  .leaf [.agg [(.int .i64 6),x3,bf,s0,s0,.int .i64 (-1),(.sl [(cl x15 7)] .exact)]] [(gl x19 2)]))) (
  .bind (.bin .eql 9 x6 (.str [114,100,101,112,115])) fun x12=>
  .ite x12 (
  .meth 24 [] [none] [] (gl x10 2) fun x13 x14=>
  .bind (.slim x13) fun x15=>
  .bind (.agg 7 x15) fun x16=>
  .meth 59 [] [none,(some (.str [41]))] [] (gl x14 2) fun x17 x18=>
  .chk [x3] (
  .leaf [.agg [(.int .i64 7),x3,bf,s0,s0,i0,(.sl [(cl x16 7)] .exact)]] [(gl x18 2)])) (
  .bind (.bin .eql 9 x6 (.str [115,111,109,101,112,97,116,104])) fun x13=>
  .ite x13 (
   .bind (.bin .eql 9 x6 (.str [97,108,108,112,97,116,104,115])) fun x14=>
   .ite x14 (
   .meth 24 [] [none] [] (gl x10 2) fun x15 x16=>
   .bind (.slim x15) fun x17=>
   .bind (.agg 7 x17) fun x18=>
   .meth 59 [] [none,(some (.str [44]))] [] (gl x16 2) fun x19 x20=>
   .meth 24 [] [none] [] (gl x20 2) fun x21 x22=>
   .bind (.slim x21) fun x23=>
   .bind (.agg 7 x23) fun x24=>
   .bind (.app 28 (.sl [(cl x18 7)] .exact) (.sl [(cl x24 7)] .exact)) fun x25=>
   .meth 59 [] [none,(some (.str [41]))] [] (gl x22 2) fun x26 x27=>
   .chk [x3] (
   .leaf [.agg [(.int .i64 9),x3,bf,s0,s0,i0,x25]] [(gl x27 2)])) (
   .meth 24 [] [none] [] (gl x10 2) fun x15 x16=>
   .bind (.slim x15) fun x17=>
   .bind (.agg 7 x17) fun x18=>
   .meth 59 [] [none,(some (.str [44]))] [] (gl x16 2) fun x19 x20=>
   .meth 24 [] [none] [] (gl x20 2) fun x21 x22=>
   .bind (.slim x21) fun x23=>
   .bind (.agg 7 x23) fun x24=>
   .bind (.app 28 (.sl [(cl x18 7)] .exact) (.sl [(cl x24 7)] .exact)) fun x25=>
   .meth 59 [] [none,(some (.str [41]))] [] (gl x22 2) fun x26 x27=>
   .chk [x3] (
   .leaf [.agg [(.int .i64 8),x3,bf,s0,s0,i0,x25]] [(gl x27 2)]))) (
   .bind (.bin .eql 9 x6 (.str [97,108,108,112,97,116,104,115])) fun x14=>
   .ite x14 (
   .bind (.bin .eql 9 x6 (.str [97,108,108,112,97,116,104,115])) fun x15=>
   .ite x15 (
    .meth 24 [] [none] [] (gl x10 2) fun x16 x17=>
    .bind (.slim x16) fun x18=>
    .bind (.agg 7 x18) fun x19=>
    .meth 59 [] [none,(some (.str [44]))] [] (gl x17 2) fun x20 x21=>
    .meth 24 [] [none] [] (gl x21 2) fun x22 x23=>
    .bind (.slim x22) fun x24=>
    .bind (.agg 7 x24) fun x25=>
    .bind (.app 28 (.sl [(cl x19 7)] .exact) (.sl [(cl x25 7)] .exact)) fun x26=>
    .meth 59 [] [none,(some (.str [41]))] [] (gl x23 2) fun x27 x28=>
    .chk [x3] (
    .leaf [.agg [(.int .i64 9),x3,bf,s0,s0,i0,x26]] [(gl x28 2)])) (
    .meth 24 [] [none] [] (gl x10 2) fun x16 x17=>
    .bind (.slim x16) fun x18=>
    .bind (.agg 7 x18) fun x19=>
    .meth 59 [] [none,(some (.str [44]))] [] (gl x17 2) fun x20 x21=>
    .meth 24 [] [none] [] (gl x21 2) fun x22 x23=>
    .bind (.slim x22) fun x24=>
    .bind (.agg 7 x24) fun x25=>
    .bind (.app 28 (.sl [(cl x19 7)] .exact) (.sl [(cl x25 7)] .exact)) fun x26=>
    .meth 59 [] [none,(some (.str [41]))] [] (gl x23 2) fun x27 x28=>
    .chk [x3] (
    .leaf [.agg [(.int .i64 8),x3,bf,s0,s0,i0,x26]] [(gl x28 2)]))) (
   .bind (.bin .eql 9 x6 (.str [107,105,110,100])) fun x15=>
   .ite x15 (
    .meth 201 [] [none] [] (gl x10 2) fun x16 x17=>
    .bind (.cell x16) fun x18=>
    .chk [x18] (
    .meth 59 [] [none,(some (.str [44]))] [] (gl x17 2) fun x19 x20=>
    .meth 24 [] [none] [] (gl x20 2) fun x21 x22=>
    .bind (.slim x21) fun x23=>
    .bind (.agg 7 x23) fun x24=>
    .meth 59 [] [none,(some (.str [41]))] [] (gl x22 2) fun x25 x26=>
    .chk [x3,x18] (
    .leaf [.agg [(.int .i64 10),x3,bf,s0,x18,i0,(.sl [(cl x24 7)] .exact)]] [(gl x26 2)]))) (
    .bind (.bin .eql 9 x6 (.str [102,105,108,116,101,114])) fun x16=>
    .ite x16 (
    .meth 107 [] [none,(some (.int .i64 2)),(some (.func 202 [] []))] [] (gl x10 2) fun x17 x18=>
    .bind (.cell x17) fun x19=>
    .chk [x19] (
    .meth 59 [] [none,(some (.str [44]))] [] (gl x18 2) fun x20 x21=>
    .meth 24 [] [none] [] (gl x21 2) fun x22 x23=>
    .bind (.slim x22) fun x24=>
    .bind (.agg 7 x24) fun x25=>
    .meth 59 [] [none,(some (.str [41]))] [] (gl x23 2) fun x26 x27=>
    .chk [x3,x19] (
    .leaf [.agg [(.int .i64 11),x3,bf,s0,x19,i0,(.sl [(cl x25 7)] .exact)]] [(gl x27 2)]))) (
    .bind (.bin .eql 9 x6 (.str [97,108,108])) fun x17=>
    .ite x17 (
     .meth 59 [] [none,(some (.str [41]))] [] (gl x10 2) fun x18 x19=>
     .chk [x3] (
     .leaf [.agg [(.int .i64 13),x3,bf,s0,s0,i0,.nilsl]] [(gl x19 2)])) (
     .meth 59 [] [none,(some (.str [41]))] [] (gl x10 2) fun x18 x19=>
     .chk [x3] (
     .leaf [.agg [i0,x3,bf,s0,s0,i0,.nilsl]] [(gl x19 2)])))))))))):=by kernel_rfl
theorem Bge(x0:D):Hd C1 8 f8 (bd f8) [] [.dyn x0] []=
 .bind (.ln 9 x0) fun x1=>
 .bind (.bin .gtr 3 x1 (.int .i64 400)) fun x2=>
 .ite x2 (
  .leaf [.agg [i0,i0,bf,s0,s0,i0,.nilsl],.agg [.int .i64 4,im]] []) (
  .call 23 [] [x0] [] fun x3=>
  .bind (.ext x3 0) fun x4=>
  .bind (.ext x3 1) fun x5=>
  .bind (.agg 2 x5) fun x6=>
  .chk (cl x6 2) (
  .bind (.bin .neq 31 (gc x6 0) i0) fun x7=>
  .ite x7 (
  .chk (cl x6 2) (
  .leaf [.agg [i0,i0,bf,s0,s0,i0,.nilsl],.agg (cl x6 2)] [])) (
  .bind (.cell x4) fun x8=>
  .meth 24 [] [none] [] [x8,.int .i64 (-1)] fun x9 x10=>
  .bind (.agg 7 x9) fun x11=>
  .chk (cl x11 7) (
  .bind (.bin .lss 3 (gd x10 1) i0) fun x12=>
  .ite x12 (
   .bind (.ia 59 (gd x10 0) i0) fun x13=>
   .bind (.fa 67 x13 0) fun x14=>
   .bind (.ld 3 x14) fun x15=>
   .bind (.bin .neq 3 x15 (.int .i64 4)) fun x16=>
   .ite x16 (
   .meth 25 [] [none] [] (gl x10 2) fun x17 x18=>
   .bind (.bin .geq 3 (gd x18 1) i0) fun x19=>
   .ite x19 (
    .bind (.cell (gd x18 1)) fun x20=>
    .chk [x20] (
    .leaf [.agg [i0,i0,bf,s0,s0,i0,.nilsl],.agg [i1,x20]] [])) (
    .call 18 [] [.agg (cl x11 7)] [] fun x20=>
    .bind (.bin .gtr 3 x20 (.int .i64 30)) fun x21=>
    .ite x21 (
    .leaf [.agg [i0,i0,bf,s0,s0,i0,.nilsl],.agg [.int .i64 4,im]] []) (
    .chk (cl x11 7) (
    .leaf [.agg (cl x11 7),.agg [i0,i0]] [])))) (
   .bind (.bin .geq 3 (gd x10 1) i0) fun x17=>
   .ite x17 (
    .bind (.cell (gd x10 1)) fun x18=>
    .chk [x18] (
    .leaf [.agg [i0,i0,bf,s0,s0,i0,.nilsl],.agg [i1,x18]] [])) (
    .call 18 [] [.agg (cl x11 7)] [] fun x18=>
    .bind (.bin .gtr 3 x18 (.int .i64 30)) fun x19=>
    .ite x19 (
    .leaf [.agg [i0,i0,bf,s0,s0,i0,.nilsl],.agg [.int .i64 4,im]] []) (
    .chk (cl x11 7) (
    .leaf [.agg (cl x11 7),.agg [i0,i0]] []))))) (
   .bind (.bin .geq 3 (gd x10 1) i0) fun x13=>
   .ite x13 (
   .bind (.cell (gd x10 1)) fun x14=>
   .chk [x14] (
   .leaf [.agg [i0,i0,bf,s0,s0,i0,.nilsl],.agg [i1,x14]] [])) (
   .call 18 [] [.agg (cl x11 7)] [] fun x14=>
   .bind (.bin .gtr 3 x14 (.int .i64 30)) fun x15=>
   .ite x15 (
    .leaf [.agg [i0,i0,bf,s0,s0,i0,.nilsl],.agg [.int .i64 4,im]] []) (
    .chk (cl x11 7) (
    .leaf [.agg (cl x11 7),.agg [i0,i0]] [])))))))):=by kernel_rfl
theorem Bgu(x0:D):Hd C1 18 f18 (bd f18) [] [.dyn x0] []=
 .bind (.agg 7 x0) fun x1=>
 .bind (.ln 28 (gc x1 6)) fun x2=>
 .req [((gc x1 0),(gc x1 0)),((gc x1 1),(gc x1 1)),((gc x1 2),(gc x1 2)),((gc x1 3),(gc x1 3)),((gc x1 4),(gc x1 4)),((gc x1 5),(gc x1 5)),((gc x1 6),(gc x1 6))] (
 .loop 0 0 [i0,i0] (Ca [fun x3=>
  .bind (.bin .lss 3 (hv x3 1) x2) fun x4=>
  .ite x4 (
  .bind (.ia 28 (gc x1 6) (hv x3 1)) fun x5=>
  .bind (.ld 30 x5) fun x6=>
  .bind (.agg 7 x6) fun x7=>
  .chk (cl x7 7) (
  .call 18 [] [.agg (cl x7 7)] [] fun x8=>
  .bind (.mx (hv x3 0) [x8]) fun x9=>
  .bind (.bin .add 3 (hv x3 1) i1) fun x10=>
  .req [((gc x1 0),(gc x1 0)),((gc x1 1),(gc x1 1)),((gc x1 2),(gc x1 2)),((gc x1 3),(gc x1 3)),((gc x1 4),(gc x1 4)),((gc x1 5),(gc x1 5)),((gc x1 6),(gc x1 6))] (
  .again 0 0 [x9,x10]))) (
  .bind (.bin .add 3 (hv x3 0) i1) fun x5=>
  .leaf [x5] [])])):=by kernel_rfl
def Vk(L:Nat)(s:PS):List D:= [.sl (Dt L s.ws) .none,Nv s.bad]
def E9(cf:Ah)(f:Nat)(xs:List D)(L:Nat)(s:PS)(v:D)(s':PS):Prop:=Acn cf f (none::xs.map some) (Vk L s) v (Vk L s')
theorem Ae7(L:Nat)(ws:List Wd)(gr:Gr):(Av.ia 59 (.sl (Dt L ws) gr) (.int .i64 0)).sem prog=some (.eptr [.int .i64 ((Cn L ws).k:Int),.int .i64 ((Cn L ws).at_:Int),.str (Cn L ws).tx]):=by simp only[Av.sem,Bg2,Et];rfl
theorem Aok(a b c:D):(Av.fa 67 (.eptr [a,b,c]) 0).sem prog=some (.eptr [a,b,c]):=by simp only[Av.sem,Bbx,Et]
theorem Aox(a b c:D):(Av.fa 67 (.eptr [a,b,c]) 1).sem prog=some (.eptr [b,c]):=by simp only[Av.sem,A81,Et]
theorem Akx(a b c:D):(Av.fa 67 (.eptr [a,b,c]) 2).sem prog=some (.eptr [c]):=by simp only[Av.sem,A7o,Et]
theorem Z4(x:D)(l:List D):(Av.ld 3 (.eptr (x::l))).sem prog=some x:=take3 x l
theorem Tc(x:D)(l:List D):(Av.ld 9 (.eptr (x::l))).sem prog=some x:=Bd2 x l
theorem At6(a b c:D):(Av.ld 67 (.eptr [a,b,c])).sem prog=some (.agg [a,b,c]):=by show Dk prog 67 [a,b,c] 0=_;unfold Dk;simp[Tz,A9t]
theorem An9(L:Nat)(w:Wd)(ws:List Wd):(Av.slc 59 (.sl (Dt L (w::ws)) .none) (some (.int .i64 1)) none none).sem prog=some (.sl (Dt L ws) .none):=by have h:E5 (.int .i64 1)=some 1:=rfl;simp[Av.sem,Aes,h,Bid,Et]
theorem Yu(L:Nat)(ws:List Wd):Gt 0 (Dt L ws)=false:=by
 rw[Pj];intro i r j d hi hj;unfold Dt at hi;have hr:r∈ws.map Ci++ [Ci (Nq L)]:=List.mem_of_getElem? hi;have hw:∃w,r=Ci w:=by
  rcases List.mem_append.1 hr with h|h
  ·obtain⟨w,_,rfl⟩:=List.mem_map.1 h;exact⟨w,rfl⟩
  ·rw[List.mem_singleton]at h;exact⟨_,h⟩
 obtain⟨w,rfl⟩:=hw;have hd:d∈Ci w:=List.mem_of_getElem? hj;unfold Ci at hd;simp only[List.mem_cons,List.not_mem_nil,or_false]at hd;rcases hd with rfl|rfl|rfl<;>rfl
theorem A4n(L:Nat)(s:PS):F6 0 (Vk L s)=false:=by
 unfold Vk;have:D8 0 (Nv s.bad)=false:=by cases s.bad<;>rfl
 simp[F6,D8,Yu,this]
theorem Xk(b:Option Nat)(t:TypeId):(Av.bin .lss t (Nv b) (.int .i64 0)).sem prog=some (.bool b.isNone):=by
 cases b with
 |none=>rfl
 |some b=>unfold Nv;rw[Da];simp
theorem A2v(b:Option Nat)(t:TypeId):(Av.bin .geq t (Nv b) (.int .i64 0)).sem prog=some (.bool (!b.isNone)):=by
 cases b with
 |none=>rfl
 |some b=>unfold Nv;rw[Lx];simp
section
variable{cf:Ah}{N:Nat}{L:Nat}
theorem Kk(hK:∀f,Ba (cf f)){f:FuncId}{fn:Func}{c:Code}{hs:List Hint}{args:List S}{xs:List D}{s s':PS}{v:D}{T:Tree}(hfn:prog.funcs[f]?=some fn)(hb:fn.body=some c)(hh:C1.hnd.contains f=false)(hk:C1.keepArr.contains f=false)(hk2:C1.keepNil.contains f=false)
  (ha:Ux 0 Ef args=some (none::xs.map some))(hpe:Hd C1 f fn c hs args [.cells [.dyn (.sl (Dt L s.ws) .none),.dyn (Nv s.bad)]]=T)
  (hw:wp prog cf N (fun rs os=>Ck v rs∧os= [Vk L s']) T []):E9 (run C1 cf N) f xs L s v s':=by
 refine Alw hK hfn hb hh hk hk2 (hs:=hs) ha (l:= [.dyn (.sl (Dt L s.ws) .none),.dyn (Nv s.bad)]) rfl ?_;rw[hpe];have:(fun rs os=>Ck v rs∧os= [Vk L s']∧F6 0 (Vk L s')=false)=(fun rs os=>Ck v rs∧os= [Vk L s']):=by funext rs os;simp[A4n]
 rw[this];exact hw
theorem Ajz:∀(xs:List D),Ml (xs.map .dyn)=some xs
 | []=>rfl
 |x::xs=>by simp[Ml,Ajz xs,Ef]
theorem Cg(hK:∀f,Ba (cf f)){f:FuncId}{fn:Func}{c:Code}{hs:List Hint}{xs:List D}{v:D}{T:Tree}(hfn:prog.funcs[f]?=some fn)(hb:fn.body=some c)(hh:C1.hnd.contains f=false)(hk:C1.keepArr.contains f=false)(hk2:C1.keepNil.contains f=false)
  (hpe:Hd C1 f fn c hs (xs.map .dyn) []=T)(hw:wp prog cf N (fun rs os=>Ck v rs) T []):Ao (run C1 cf N) f xs v:=by
 refine run_pure hK hfn hb hh hk hk2 (hs:=hs) (Ajz xs) ?_;rw[hpe];exact hw
theorem A8q(hK:∀f,Ba (cf f))(s:PS)(K:Int)(tx:List UInt8):E9 (run C1 cf N) 55 [.int .i64 K,.str tx] L s (.bool (Ry L s K tx)) s:=by refine Kk hK func55 bdy rfl rfl rfl rfl (Bim _ _ _ _) ?_;simp only[Aa,Ac,Ab,Xk,Ae7,Aok,Akx,Z4,Tc,En,Di];unfold Ry;cases s.bad.isNone<;>cases(((Cn L s.ws).k:Int) == K)<;>exact⟨Bf rfl,rfl⟩
theorem Bbn(hK:∀f,Ba (cf f))(s:PS):E9 (run C1 cf N) 25 [] L s (.tup []) (Hf L s):=by
 refine Kk hK func25 bdy rfl rfl rfl rfl (Bh6 _ _) ?_;simp only[Aa,Ac,Ae,Ab,Xk,Ae7,Aox,Z4,A9,Al,if_true];obtain⟨ws,bad⟩:=s;cases bad with
 |none=>exact⟨rfl,Oz,rfl⟩
 |some b=>exact⟨Oz,rfl⟩
variable(hK:∀f,Ba (cf f))(h68:∀(s:PS) (K:Int) (tx:List UInt8),E9 cf 55 [.int .i64 K,.str tx] L s (.bool (Ry L s K tx)) s)(h31:∀s:PS,E9 cf 25 [] L s (.tup []) (Hf L s))
 (h70:∀(s:PS) (K:Int) (tx:List UInt8),K≠4→E9 cf 57 [.int .i64 K,.str tx] L s (.tup []) (A8 L s K tx))
include hK h68 h31 in
theorem Bca(s:PS)(K:Int)(tx:List UInt8)(hK4:K≠4):E9 (run C1 cf N) 57 [.int .i64 K,.str tx] L s (.tup []) (A8 L s K tx):=by
 refine Kk hK func57 bdy rfl rfl rfl rfl (Bic _ _ _ _) ?_;refine Ad rfl (h68 s K tx) rfl ?_;simp only[Aa,Ac,K5];cases hb:Ry L s K tx with
 |false=>
  refine Ad rfl (h31 s) rfl ?_;rw[Ab,show A8 L s K tx=Hf L s from by unfold A8;rw[hb];rfl]
  exact⟨Oz,rfl⟩
 |true=>
  obtain⟨w,ws,hs,hbad,_,_⟩:=X0 hK4 hb;simp only[Vk,gd,hs,List.getD_cons_zero,List.getD_cons_succ,An9,A9,Ae,Ab,Al,if_true];rw[show A8 L s K tx=⟨ws,s.bad⟩from by unfold A8;rw[hb,hs];rfl]
  exact⟨rfl,Oz,rfl⟩
include hK h70 in
theorem Bb2(s:PS)(tx:List UInt8):E9 (run C1 cf N) 59 [.str tx] L s (.tup []) (A8 L s 3 tx):=by
 refine Kk hK func59 bdy rfl rfl rfl rfl (Bh0 _ _ _) ?_;refine Ad rfl (h70 s 3 tx (by decide)) rfl ?_
 rw[Ab];exact⟨Oz,rfl⟩
include hK h31 in
theorem Abb(s:PS)(hS:Sm s)(K:Int)(hK4:K≠4)(g:FuncId)(m:List UInt8→Bool)(hg:∀x0 x1 x2:D,Hd C1 107 f107 (bd f107) [] [.ptr 0 0,.dyn x0,.lit (.func g [] [])] [.cells [.dyn x1,.dyn x2]]=Tu g x0 x1 x2)
  (hm:∀t:List UInt8,(K=1→Lt t)→Ao cf g [.str t] (.bool (m t))):E9 (run C1 cf N) 107 [.int .i64 K,.func g [] []] L s (.str (Bb L s K m).1) (Bb L s K m).2:=by
 refine Kk hK func107 bdy rfl rfl rfl (args:= [.ptr 0 0,.dyn (.int .i64 K),.lit (.func g [] [])]) rfl (hg _ _ _) ?_;unfold Tu;simp only[Aa,Ac,A2v,Ae7,Aok,Z4,Nn];have hfail:M9 L s K m=false→∀T,(∀x14 x15,T x14 x15=Tree.leaf [.str []] [gl x15 2])→wp prog cf N (fun rs os=>Ck (.str (Bb L s K m).1) rs∧os= [Vk L (Bb L s K m).2]) (.meth 25 [] [none] [] [.sl (Dt L s.ws) .none,Nv s.bad] T) []:=fun hn T hT=>by
  refine Ad rfl (h31 s) rfl ?_;rw[hT,Ab,show Bb L s K m=([],Hf L s)from by unfold Bb;rw[hn];rfl]
  exact⟨Bf rfl,rfl⟩
 cases hb:s.bad with
 |some b=>simp only[Option.isNone_some,Bool.not_false,if_true];rw[← hb];refine hfail ?_ _ fun _ _=>rfl;unfold M9;rw[hb];rfl
 |none=>
  simp only[Option.isNone_none,Bool.not_true,BF];cases hk:(((Cn L s.ws).k:Int) !=K)with
  |true=>simp only[if_true];rw[← hb];refine hfail ?_ _ fun _ _=>rfl;unfold M9;rw[bne_iff_ne,ne_eq]at hk;simp[hk]
  |false=>
   simp only[BF,Akx,Tc];rw[bne_eq_false_iff_eq]at hk;refine Aw rfl (hm _ fun h1=>hS.hd (by omega)) ?_
   simp only[Aa,Ac,K5];cases hmt:m (Cn L s.ws).tx with
   |false=>simp only[Bool.not_false,if_true];rw[← hb];refine hfail ?_ _ fun _ _=>rfl;unfold M9;simp[hmt]
   |true=>
    have hnb:M9 L s K m=true:=by unfold M9;rw[hb];simp[hk,hmt]
    obtain⟨w,ws,hs,_,_,_⟩:=Am0 hK4 hnb;simp only[Bool.not_true,BF,Aa,Ae,Ab,Ae7,At6,M5,List.length_cons,List.length_nil,if_true,gc,cl,D.cells,A9,hs,An9,Al];rw[show Bb L s K m=(w.tx,⟨ws,s.bad⟩)from by unfold Bb;rw[hnb,hs];rfl]
    refine⟨rfl,rfl,Bf rfl,?_⟩;rw[hb];rfl
variable{may:List UInt8→Bool}{gn:List UInt8→Int × Bool}
 (h126n:∀s:PS,Sm s→E9 cf 107 [.int .i64 1,.func 108 [] []] L s (.str (Bb L s 1 may).1) (Bb L s 1 may).2)
 (h126k:∀s:PS,Sm s→E9 cf 107 [.int .i64 1,.func 235 [] []] L s (.str (Bb L s 1 Jd).1) (Bb L s 1 Jd).2)
 (h126u:∀s:PS,Sm s→E9 cf 107 [.int .i64 1,.func 233 [] []] L s (.str (Bb L s 1 (fun t=>(gn t).2)).1) (Bb L s 1 (fun t=>(gn t).2)).2)
include hK h126n in
theorem Bay(s:PS)(hS:Sm s):E9 (run C1 cf N) 58 [] L s (.str (Bb L s 1 may).1) (Bb L s 1 may).2:=by refine Kk hK func58 bdy rfl rfl rfl rfl (Bij _ _) ?_;refine Ad rfl (h126n s hS) rfl ?_;rw[Ab];exact⟨Bf rfl,rfl⟩
include hK h126k in
theorem A5i(s:PS)(hS:Sm s):E9 (run C1 cf N) 201 [] L s (.str (Bb L s 1 Jd).1) (Bb L s 1 Jd).2:=by refine Kk hK func201 bdy rfl rfl rfl rfl (Bdv _ _) ?_;refine Ad rfl (h126k s hS) rfl ?_;rw[Ab];exact⟨Bf rfl,rfl⟩
include hK h126u in
theorem Azo(s:PS)(hS:Sm s)(h263:∀t,Lt t→Ao cf 234 [.str t,.int .i64 1000] (.tup [.int .i64 (gn t).1,.bool (gn t).2])):E9 (run C1 cf N) 200 [] L s (.int .i64 (Zk L gn s).1) (Zk L gn s).2:=by
 refine Kk hK func200 bdy rfl rfl rfl rfl (Bfj _ _) ?_;refine Ad rfl (h126u s hS) rfl ?_;have hl:Lt (Bb L s 1 (fun t=>(gn t).2)).1:=by
  unfold Bb;split
  ·rename_i hn;unfold M9 at hn;simp only[Bool.and_eq_true,beq_iff_eq]at hn;exact hS.hd (by have:=hn.2.1;omega)
  ·exact⟨by simp,by simp⟩
 refine Aw rfl (h263 _ hl) ?_;simp only[Aa,Hg,GC,Ab];exact⟨Bf rfl,rfl⟩
include hK in
theorem A5n(t:List UInt8):Ao (run C1 cf N) 235 [.str t] (.bool (Jd t)):=by
 refine Cg hK func235 bdy rfl rfl rfl (Beb _) ?_;simp only[Aa,Ac,Di,Ab];unfold Jd;split
 ·rename_i h;rw[h];exact Bf rfl
 ·rename_i h;rw[Bool.not_eq_true]at h;rw[h];simp only[Bool.false_or]
  first
   |exact Bf rfl
   |(split
     ·rename_i h2;rw[h2];exact Bf rfl
     ·rename_i h2;rw[Bool.not_eq_true]at h2;rw[h2];exact Bf rfl)
include hK in
theorem A1x(t:List UInt8):Ao (run C1 cf N) 202 [.str t] (.bool true):=by refine Cg hK func202 bdy rfl rfl rfl (Bfz _) ?_;simp only[Ab];exact Bf rfl
include hK h68 in
theorem A3t(s:PS):E9 (run C1 cf N) 106 [] L s (.int .i64 (Hz L s)) s:=by
 refine Kk hK func106 bdy rfl rfl rfl rfl (Beu _ _) ?_;refine Ad rfl (h68 s 3 [43]) rfl ?_;simp only[Ac];unfold Hz;split
 ·rw[Ab];exact⟨Bf rfl,rfl⟩
 ·refine Ad rfl (h68 s 3 [94]) rfl ?_;simp only[Ac];split
  ·rw[Ab];exact⟨Bf rfl,rfl⟩
  ·refine Ad rfl (h68 s 1 [45]) rfl ?_;simp only[Ac];split
   ·rw[Ab];exact⟨Bf rfl,rfl⟩
   ·rw[Ab];exact⟨Bf rfl,rfl⟩
end
theorem J9(x:Qy):∃k a r ln nm n rows,Br x= [.int .i64 k,.int .i64 a,.bool r,.str ln,.str nm,.int .i64 n,.sl rows .none]:=by cases x<;>exact⟨_,_,_,_,_,_,_,rfl⟩
theorem K3:∀(x:Qy),F6 0 (Br x)=false
 | .label .. =>rfl
 | .var .. =>rfl
 | .whole _=>rfl
 | .bin k a x y=>by simp[Br,qc,F6,D8,Gt,K3 x,K3 y]
 | .un k a nm n x=>by simp[Br,qc,F6,D8,Gt,K3 x]
 | .lt a nm x y=>by simp[Br,qc,F6,D8,Gt,K3 x,K3 y]
theorem Su(x:Qy):(Br x).length=7:=by obtain⟨k,a,r,ln,nm,n,rows,h⟩:=J9 x;rw[h];rfl
theorem Kq(x:Qy):(Br x).all Al=true:=by obtain⟨k,a,r,ln,nm,n,rows,h⟩:=J9 x;rw[h];rfl
theorem Axv{l:List D}{n:Nat}(h:l.length=n):cl (.agg l) n=l:=by
 unfold cl;apply List.ext_getElem?;intro i;rw[List.getElem?_map];by_cases hi:i<n
 ·rw[List.getElem?_range hi,List.getElem?_eq_getElem (by omega)]
  simp[D.cells,List.getElem?_eq_getElem (show i<l.length by omega)]
 ·rw[List.getElem?_eq_none (by simp;omega),List.getElem?_eq_none (by omega)]
  rfl
theorem Hm(x:Qy):cl (.agg (Br x)) 7=Br x:=Axv (Su x)
theorem Hl(x:Qy):(Av.agg 7 (.agg (Br x))).sem prog=some (.agg (Br x)):=by rw[M5,if_pos (Su x)]
theorem Md(x:Qy):Jf (.agg (Br x))=some (.agg (Br x)):=by obtain⟨k,a,r,ln,nm,n,rows,h⟩:=J9 x;rw[h];rfl
theorem Q3(x:Qy):(Av.slim (.agg (Br x))).sem prog=some (.agg (Br x)):=by obtain⟨k,a,r,ln,nm,n,rows,h⟩:=J9 x;rw[h];rfl
theorem Iu{x:Qy}{d:D}(h:Jf d=some (.agg (Br x))):Ck (.agg (Br x)) [d]:=by refine⟨K3 x,[.agg (Br x)],?_,rfl⟩;simp[Eb,h]
theorem A60:Cx prog 28=some 30:=by kernel_rfl
theorem Bhp:∃n,Jm prog 30=some n∧n≤1000:=⟨88,by kernel_rfl,by decide⟩
theorem A7y:Kt prog 30 7=true:=by kernel_rfl
theorem A6t:prog.underlying 28=some (.slice 30):=underlying28
theorem Ate(x y:Qy):(Av.app 28 (.sl [Br x] .exact) (.sl [Br y] .exact)).sem prog=some (.sl [Br x,Br y] .none):=by
 obtain⟨n,hb,hn⟩:=Bhp;have h1:C8 prog false 28 (.sl [Br x] .exact) (.sl [Br y] .exact) []=some (.sl [Br x,Br y] (.tok 0 0),[.tok 0],[]):=by
  unfold C8;rw[A60];dsimp only;rw[Wp,hb];simp only[rowsOf,List.all_cons,List.all_nil,Bool.and_true,Su,beq_self_eq_true,A7y,Kq,if_true,List.isEmpty_cons,BF,List.length_cons,List.length_nil];have:(decide ((0+1+(0+1))*n≤Dh) && decide (0+1+(0+1)≤Dh))=true:=by simp[Dh];omega
  rw[this];rfl
 simp only[Av.sem,h1]
section
variable{cf:Ah}{N:Nat}{L:Nat}{may:List UInt8→Bool}{gn:List UInt8→Int × Bool}
 (hK:∀f,Ba (cf f))(h68:∀(s:PS) (K:Int) (tx:List UInt8),E9 cf 55 [.int .i64 K,.str tx] L s (.bool (Ry L s K tx)) s)
 (h70:∀(s:PS) (K:Int) (tx:List UInt8),K≠4→E9 cf 57 [.int .i64 K,.str tx] L s (.tup []) (A8 L s K tx))
 (h72:∀(s:PS) (tx:List UInt8),E9 cf 59 [.str tx] L s (.tup []) (A8 L s 3 tx))
 (h71:∀s:PS,Sm s→E9 cf 58 [] L s (.str (Bb L s 1 may).1) (Bb L s 1 may).2)
 (h125:∀s:PS,E9 cf 106 [] L s (.int .i64 (Hz L s)) s)
def Wv(cf:Ah)(f:FuncId)(xs:List D)(L:Nat)(g:PS→Option (Qy × PS)):Prop:=∀(s:PS) (x:Qy) (s':PS),Sm s→g s=some (x,s')→E9 cf f xs L s (.agg (Br x)) s'
def SmG(g:PS→Option (Qy × PS)):Prop:=∀(s:PS) (x:Qy) (s':PS),Sm s→g s=some (x,s')→Sm s'
include hK h68 h70 h71 h72 in
theorem A65{q sm:PS→Option (Qy × PS)}(h30:Wv cf 24 [] L q)(h69:Wv cf 56 [] L sm)(hq:SmG q)(s:PS)(hS:Sm s)(x:Qy)(s':PS)
  (h:(if Ry L s 1 Ib then
   match q (A8 L (Bb L (A8 L s 1 Ib) 1 may).2 3 [61])with
   |none=>none
   |some (x,s4)=>match q (A8 L s4 1 Vx)with
    |none=>none
    |some (y,s6)=>some (.lt (Cn L s.ws).at_ (Bb L (A8 L s 1 Ib) 1 may).1 x y,s6)
   else sm s)=some (x,s')):E9 (run C1 cf N) 24 [] L s (.agg (Br x)) s':=by
 refine Kk hK func24 bdy rfl rfl rfl rfl (Bgo _ _) ?_;refine Ad rfl (h68 s 1 Ib) rfl ?_;simp only[Aa,Ac,K5];cases hb:Ry L s 1 Ib with
 |false=>rw[hb]at h;simp only[BF]at h;simp only[Bool.not_false,if_true];refine Ad rfl (h69 s x s' hS h) rfl ?_;simp only[Aa,Hl,Ae,Ab,Hm];exact⟨Kq x,Iu (Md x),rfl⟩
 |true=>
  rw[hb]at h;simp only[if_true]at h;simp only[Bool.not_true,BF];split at h
  ·cases h
  rename_i x1 s4 hx;split at h
  ·cases h
  rename_i y s6 hy;cases h;have hS1:Sm (A8 L s 1 Ib):=hS.must;have hS2:Sm (A8 L (Bb L (A8 L s 1 Ib) 1 may).2 3 [61]):=(hS1.next).must;have hS4:Sm s4:=hq _ _ _ hS2 hx;simp only[Vk,gd,List.getD_cons_zero,Ae7,Aox,Z4,A9,Al,if_true,Ae];refine⟨rfl,?_⟩;refine Ad rfl (h70 s 1 Ib (by decide)) rfl ?_
  refine Ad rfl (h71 _ hS1) rfl ?_;simp only[Aa,A9,Al,if_true,Ae];refine⟨rfl,?_⟩;refine Ad rfl (h72 _ [61]) rfl ?_;refine Ad rfl (h30 _ _ _ hS2 hx) rfl ?_;simp only[Aa,Q3,Hl];refine Ad rfl (h70 s4 1 Vx (by decide)) rfl ?_
  refine Ad rfl (h30 _ _ _ hS4.must hy) rfl ?_;simp only[Aa,Q3,Hl,Hm,Ate,Ae,Ab];exact⟨rfl,Iu rfl,rfl⟩
include hK h68 h71 h72 in
theorem Ayo{q c:PS→Option (Qy × PS)}(h30:Wv cf 24 [] L q)(h184:∀(s:PS) (x:Qy) (s':PS),Sm s→Ij L s=true→c s=some (x,s')→E9 cf 162 [.int .i64 ((Cn L s.ws).at_:Int)] L s (.agg (Br x)) s')(hcalls:Ao cf 161 [] (.sl (Bl.map fun t=> [.str t]) .none))
  (h56:∀t:List UInt8,Lt t→Ao cf 36 [.sl (Bl.tail.map fun t=> [.str t]) .none,.str t] (.bool (Bl.tail.contains t)))(hq:SmG q)(s:PS)(hS:Sm s)(x:Qy)(s':PS)
  (h:(if Ry L s 3 [58]then some (Qy.label (Cn L s.ws).at_ true (Bb L (A8 L s 3 [58]) 1 may).1,(Bb L (A8 L s 3 [58]) 1 may).2)
  else if Ry L s 3 [36]then some (Qy.var (Cn L s.ws).at_ (Bb L (A8 L s 3 [36]) 1 may).1,(Bb L (A8 L s 3 [36]) 1 may).2)
  else if Ry L s 3 [40]then match q (A8 L s 3 [40])with
   |none=>none
   |some (x,s2)=>some (x,A8 L s2 3 [41])
  else if Ij L s then c s
  else some (Qy.label (Cn L s.ws).at_ false (Bb L s 1 may).1,(Bb L s 1 may).2))=some (x,s')):E9 (run C1 cf N) 105 [] L s (.agg (Br x)) s':=by
 refine Kk hK func105 bdy rfl rfl rfl rfl (Beh _ _) ?_;simp only[Aa,Ae7,Aox,Z4];refine Ad rfl (h68 s 3 [58]) rfl ?_;simp only[Ac];split at h
 ·rename_i hb;rw[if_pos hb];cases h;refine Ad rfl (h72 s [58]) rfl ?_;refine Ad rfl (h71 _ hS.must) rfl ?_;simp only[Aa,A9,Al,if_true,Ae,Ab];exact⟨rfl,Iu rfl,rfl⟩
 rename_i hb;rw[if_neg hb];refine Ad rfl (h68 s 3 [36]) rfl ?_;simp only[Ac];split at h
 ·rename_i hb;rw[if_pos hb];cases h;refine Ad rfl (h72 s [36]) rfl ?_;refine Ad rfl (h71 _ hS.must) rfl ?_;simp only[Aa,A9,Al,if_true,Ae,Ab];exact⟨rfl,Iu rfl,rfl⟩
 rename_i hb;rw[if_neg hb];refine Ad rfl (h68 s 3 [40]) rfl ?_;simp only[Ac];split at h
 ·rename_i hb;rw[if_pos hb];split at h
  ·cases h
  rename_i x1 s2 hx;cases h;refine Ad rfl (h72 s [40]) rfl ?_;refine Ad rfl (h30 _ _ _ hS.must hx) rfl ?_;simp only[Aa,Hl,Ae,Hm];refine⟨Kq _,Ad rfl (h72 _ [41]) rfl ?_⟩;simp only[Ae,Ab];exact⟨Kq _,Iu (Md _),rfl⟩
 rename_i hb;rw[if_neg hb];have hlab:Ij L s=false→∀{T:D→List D→Tree},(∀(t:List UInt8) x13,wp prog cf N (fun rs os=>Ck (.agg (Br x)) rs∧os= [Vk L s']) (T (.str t) x13) []=(Ck (.agg (Br x)) [.agg [.int .i64 1,.int .i64 ((Cn L s.ws).at_:Int),.bool false,.str t,.str [],.int .i64 0,.nilsl]]∧ [gl x13 2]= [Vk L s']))→wp prog cf N (fun rs os=>Ck (.agg (Br x)) rs∧os= [Vk L s']) (.meth 58 [] [none] [] (Vk L s) T) []:=fun hc {T} hT=>by rw[hc]at h;simp only[BF]at h;cases h;refine Ad rfl (h71 s hS) rfl ?_;rw[hT];exact⟨Iu rfl,rfl⟩
 have hT:∀(t:List UInt8) (x13:List D),wp prog cf N (fun rs os=>Ck (.agg (Br x)) rs∧os= [Vk L s']) (.bind (.cell (.str t)) fun x14=> .bind (.cell (.int .i64 ((Cn L s.ws).at_:Int))) fun x15=> .chk [x15,x14] (.leaf [(.agg [(.int .i64 1),x15,(.bool false),x14,(.str []),(.int .i64 0),.nilsl])] [(gl x13 2)])) []=(Ck (.agg (Br x)) [.agg [.int .i64 1,.int .i64 ((Cn L s.ws).at_:Int),.bool false,.str t,.str [],.int .i64 0,.nilsl]]∧ [gl x13 2]= [Vk L s']):=fun t x13=>by simp only[Aa,A9,Al,if_true,Ae,Ab,List.all_cons,List.all_nil,Bool.and_self,true_and]
 simp only[Vk,gd,List.getD_cons_zero,List.getD_cons_succ,Aa,Ac,Xk,Ae7,Aok,Akx,Z4,Tc,En];cases hbad:s.bad with
 |some b=>simp only[Option.isNone_some,BF];rw[← hbad];exact hlab (by unfold Ij;rw[hbad];rfl) hT
 |none=>
  simp only[Option.isNone_none,if_true];cases hk:(((Cn L s.ws).k:Int) == 1)with
  |false=>simp only[BF];rw[← hbad];exact hlab (by unfold Ij;rw[hk];simp) hT
  |true=>
   simp only[if_true];have hl:Lt (Cn L s.ws).tx:=hS.hd (by rw[beq_iff_eq]at hk;omega)
   refine Aw rfl hcalls ?_;rw[Aa,show(Av.slc 23 (.sl (Bl.map fun t=> [.str t]) .none) (some (.int .i64 1)) none none).sem prog=some (.sl (Bl.tail.map fun t=> [.str t]) .none)from by kernel_rfl]
   refine Aw rfl (h56 _ hl) ?_;simp only[Ac];cases hc:Bl.tail.contains (Cn L s.ws).tx with
   |false=>simp only[BF];rw[← hbad];exact hlab (by unfold Ij;rw[hc];simp) hT
   |true=>
    have hcb:Ij L s=true:=by unfold Ij;rw[hbad,hk,hc];rfl
    rw[hcb]at h;simp only[if_true]at h ⊢;rw[← hbad];refine Ad rfl (h184 s x s' hS hcb h) rfl ?_;simp only[Aa,Hl,Ae,Hm,Ab];exact⟨Kq _,Iu (Md _),rfl⟩
end
theorem eqB{a b:List UInt8}(h:a=b):(a == b)=true:=by rw[h];exact beq_self_eq_true b
theorem neB{a b:List UInt8}(h:¬ a=b):(a == b)=false:=by simpa using h
section
variable{cf:Ah}{N:Nat}{L:Nat}{may:List UInt8→Bool}{gn:List UInt8→Int × Bool}
 (hK:∀f,Ba (cf f))(h68:∀(s:PS) (K:Int) (tx:List UInt8),E9 cf 55 [.int .i64 K,.str tx] L s (.bool (Ry L s K tx)) s)
 (h72:∀(s:PS) (tx:List UInt8),E9 cf 59 [.str tx] L s (.tup []) (A8 L s 3 tx))
 (h125:∀s:PS,E9 cf 106 [] L s (.int .i64 (Hz L s)) s)
 (h227:∀s:PS,Sm s→E9 cf 201 [] L s (.str (Bb L s 1 Jd).1) (Bb L s 1 Jd).2)
 (h226:∀s:PS,Sm s→E9 cf 200 [] L s (.int .i64 (Zk L gn s).1) (Zk L gn s).2)
 (h126s:∀s:PS,Sm s→E9 cf 107 [.int .i64 2,.func 202 [] []] L s (.str (Bb L s 2 (fun _=>true)).1) (Bb L s 2 (fun _=>true)).2)
include hK h68 h72 h226 h227 h126s in
theorem A4t{q:PS→Option (Qy × PS)}(h30:Wv cf 24 [] L q)(hq:SmG q)(s:PS)(hS:Sm s)(hc:Ij L s=true)(a:Nat)(x:Qy)(s1:PS)
  (h:Q7 L gn q a (Cn L s.ws).tx (A8 L ⟨s.ws.tail,s.bad⟩ 3 [40])=some (x,s1)):E9 (run C1 cf N) 162 [.int .i64 (a:Int)] L s (.agg (Br x)) (A8 L s1 3 [41]):=by
 refine Kk hK func162 bdy rfl rfl rfl rfl (Bfb _ _ _) ?_;obtain⟨w,ws,hs⟩:∃w ws,s.ws=w::ws:=by
  cases hw:s.ws with
  |nil=>unfold Ij at hc;rw[hw]at hc;simp[Cn,Nq]at hc
  |cons w ws=>exact⟨w,ws,rfl⟩
 have hmem:Bl.tail.contains w.tx=true:=by unfold Ij at hc;rw[hs]at hc;simp only[Bool.and_eq_true]at hc;exact hc.2.2
 rw[hs]at h;simp only[hs,Aa,Ae,A9,Al,if_true,Ae7,Akx,Tc,An9,List.all_cons,List.all_nil,Bool.and_self,true_and];simp only[show Cn L (w::ws)=w from rfl,List.tail_cons]at h ⊢;have hS1:Sm ⟨ws,s.bad⟩:=fun v hv=>hS v (by rw[hs];simp[hv])
 refine Ad rfl (h72 ⟨ws,s.bad⟩ [40]) rfl ?_;generalize hp:A8 L ⟨ws,s.bad⟩ 3 [40]=s2 at h ⊢;have hS2:Sm s2:=by rw[← hp];exact hS1.must
 simp only[Aa,Di,Ac];unfold Q7 at h;split at h
 ·rename_i hw;rw[show(w.tx == [100,101,112,115])=true from eqB hw];simp only[if_true];split at h
  ·cases h
  rename_i y s3 hy;refine Ad rfl (h30 _ _ _ hS2 hy) rfl ?_;simp only[Aa,Q3,Hl];refine Ad rfl (h68 s3 3 [44]) rfl ?_;simp only[Ac];split at h
  ·rename_i hb;rw[if_pos hb];cases h;have hS3:=hq _ _ _ hS2 hy;refine Ad rfl (h72 s3 [44]) rfl ?_;refine Ad rfl (h226 _ hS3.must) rfl ?_;simp only[Aa,A9,Al,if_true,Ae];refine⟨rfl,Ad rfl (h72 _ [41]) rfl ?_⟩;simp only[Ae,Ab,Hm];exact⟨rfl,Iu rfl,rfl⟩
  ·rename_i hb;rw[if_neg hb];cases h;refine Ad rfl (h72 _ [41]) rfl ?_;simp only[Ae,Ab,Hm];exact⟨rfl,Iu rfl,rfl⟩
 rename_i hw;rw[show(w.tx == [100,101,112,115])=false from neB hw];simp only[BF];split at h
 ·rename_i hw;rw[show(w.tx == [114,100,101,112,115])=true from eqB hw];simp only[if_true];split at h
  ·cases h
  rename_i y s3 hy;cases h;refine Ad rfl (h30 _ _ _ hS2 hy) rfl ?_;simp only[Aa,Q3,Hl];refine Ad rfl (h72 _ [41]) rfl ?_;simp only[Ae,Ab,Hm];exact⟨rfl,Iu rfl,rfl⟩
 rename_i hw;rw[show(w.tx == [114,100,101,112,115])=false from neB hw];simp only[BF];have htwo:∀(k:Int) (T:D→List D→Tree),(∀v c,T v c= .bind (.slim v) fun x17=> .bind (.agg 7 x17) fun x18=> .meth 59 [] [none,(some (.str [44]))] [] (gl c 2) fun x19 x20=> .meth 24 [] [none] [] (gl x20 2) fun x21 x22=> .bind (.slim x21) fun x23=> .bind (.agg 7 x23) fun x24=>
    .bind (.app 28 (.sl [(cl x18 7)] .exact) (.sl [(cl x24 7)] .exact)) fun x25=> .meth 59 [] [none,(some (.str [41]))] [] (gl x22 2) fun x26 x27=> .chk [.int .i64 (a:Int)] (.leaf [(.agg [(.int .i64 k),.int .i64 (a:Int),(.bool false),(.str []),(.str []),(.int .i64 0),x25])] [(gl x27 2)]))→
   (match q s2 with
   |none=>none
   |some (x,s1)=>match q (A8 L s1 3 [44])with
    |none=>none
    |some (y,s2)=>some (Qy.bin k a x y,s2))=some (x,s1)→wp prog cf N (fun rs os=>Ck (.agg (Br x)) rs∧os= [Vk L (A8 L s1 3 [41])]) (.meth 24 [] [none] [] (gl (Vk L s2) 2) T) []:=fun k T hT h=>by
  split at h
  ·cases h
  rename_i y s3 hy;split at h
  ·cases h
  rename_i z s4 hz;cases h;have hS3:=hq _ _ _ hS2 hy;refine Ad rfl (h30 _ _ _ hS2 hy) rfl ?_;rw[hT];simp only[Aa,Q3,Hl];refine Ad rfl (h72 _ [44]) rfl ?_;refine Ad rfl (h30 _ _ _ hS3.must hz) rfl ?_;simp only[Aa,Q3,Hl,Hm,Ate];refine Ad rfl (h72 _ [41]) rfl ?_;simp only[Ae,Ab];exact⟨rfl,Iu rfl,rfl⟩
 split at h
 ·rename_i hw;by_cases hall:w.tx=Zq
  ·rw[if_pos hall]at h;rw[show(w.tx == [115,111,109,101,112,97,116,104])=false from by rw[hall];rfl,show(w.tx == [97,108,108,112,97,116,104,115])=true from eqB hall]
   simp only[BF,if_true];exact htwo 9 _ (fun _ _=>rfl) h
  ·rw[if_neg hall]at h;rw[show(w.tx == [115,111,109,101,112,97,116,104])=true from eqB (hw.resolve_right hall),show(w.tx == [97,108,108,112,97,116,104,115])=false from neB hall];simp only[BF,if_true];exact htwo 8 _ (fun _ _=>rfl) h
 rename_i hw;have hw1:¬ w.tx=Afo:=fun h=>hw (.inl h);have hw2:¬ w.tx=Zq:=fun h=>hw (.inr h);rw[show(w.tx == [115,111,109,101,112,97,116,104])=false from neB hw1,show(w.tx == [97,108,108,112,97,116,104,115])=false from neB hw2];simp only[BF];split at h
 ·rename_i hw;rw[show(w.tx == [107,105,110,100])=true from eqB hw];simp only[if_true];split at h
  ·cases h
  rename_i y s3 hy;cases h;refine Ad rfl (h227 _ hS2) rfl ?_;simp only[Aa,A9,Al,if_true,Ae];refine⟨rfl,Ad rfl (h72 _ [44]) rfl ?_⟩;refine Ad rfl (h30 _ _ _ hS2.next.must hy) rfl ?_;simp only[Aa,Q3,Hl];refine Ad rfl (h72 _ [41]) rfl ?_;simp only[Ae,Ab,Hm];exact⟨rfl,Iu rfl,rfl⟩
 rename_i hw;rw[show(w.tx == [107,105,110,100])=false from neB hw];simp only[BF];split at h
 ·rename_i hw;rw[show(w.tx == [102,105,108,116,101,114])=true from eqB hw];simp only[if_true];split at h
  ·cases h
  rename_i y s3 hy;cases h;refine Ad rfl (h126s _ hS2) rfl ?_;simp only[Aa,A9,Al,if_true,Ae];refine⟨rfl,Ad rfl (h72 _ [44]) rfl ?_⟩;refine Ad rfl (h30 _ _ _ hS2.next.must hy) rfl ?_;simp only[Aa,Q3,Hl];refine Ad rfl (h72 _ [41]) rfl ?_;simp only[Ae,Ab,Hm];exact⟨rfl,Iu rfl,rfl⟩
 rename_i hw;rw[show(w.tx == [102,105,108,116,101,114])=false from neB hw];simp only[BF];cases h;have hall:w.tx=A76:=by simp only[Bl,List.tail_cons,List.contains_cons,List.contains_nil,Bool.or_false,Bool.or_eq_true,beq_iff_eq]at hmem;rcases hmem with h|h|h|h|h|h|h<;>first|exact h|exact absurd h (by assumption)
 rw[show(w.tx == [97,108,108])=true from eqB hall];simp only[if_true];refine Ad rfl (h72 _ [41]) rfl ?_;simp only[Ae,Ab];exact⟨rfl,Iu rfl,rfl⟩
theorem Aqw{s:PS}(h:¬ Hz L s=0):∃w ws,s.ws=w::ws:=by
 unfold Hz at h;split at h
 ·rename_i h1;obtain⟨w,ws,h2,_⟩:=X0 (by decide) h1
  exact⟨w,ws,h2⟩
 ·split at h
  ·rename_i h1;obtain⟨w,ws,h2,_⟩:=X0 (by decide) h1
   exact⟨w,ws,h2⟩
  ·split at h
   ·rename_i h1;obtain⟨w,ws,h2,_⟩:=X0 (by decide) h1
    exact⟨w,ws,h2⟩
   ·exact absurd rfl h
include hK h125 in
theorem A8h{it:PS→Option (Qy × PS)}(h124:Wv cf 105 [] L it)(hit:SmG it)(m:Nat)(hm:m<N)(s:PS)(hS:Sm s)(x:Qy)(s':PS)
  (h:(match it s with
   |none=>none
   |some (x,s1)=>Kw L it m x s1)=some (x,s')):E9 (run C1 cf N) 56 [] L s (.agg (Br x)) s':=by
 refine Kk hK func56 bdy rfl rfl rfl rfl (Bha _ _) ?_;split at h
 ·cases h
 rename_i x1 s1 hx;have hS1:=hit _ _ _ hS hx;refine Ad rfl (h124 _ _ _ hS hx) rfl ?_;simp only[Aa,Hl,Ae,Hm];refine⟨Kq _,Ad rfl (h125 s1) rfl ?_⟩;obtain⟨k,a,r,ln,nm,n,rows,hf⟩:=J9 x1;refine wp_loop (fun m a ds=>a=0∧∃y t j0 j1 j2 j3 j4 j5 j6 c0 c1 c2 c3 c4 c5 rows gr,Sm t∧Kw L it m y t=some (x,s')∧Br y= [c0,c1,c2,c3,c4,c5,.sl rows .none]∧ds= [.int .i64 (Hz L t),.sl (Dt L t.ws) .none,Nv t.bad,j0,j1,j2,j3,j4,j5,j6,c0,c1,c2,c3,c4,c5,.sl rows gr]) m hm ⟨rfl,x1,s1,_,_,_,_,_,_,_,_,_,_,_,_,_,rows,.none,hS1,h,hf,by rw[hf];rfl⟩ ?_
 rintro m a ds ⟨rfl,y,t,j0,j1,j2,j3,j4,j5,j6,c0,c1,c2,c3,c4,c5,rows,gr,hSt,hgo,hy,rfl⟩;have hyok:c0=c0:=rfl;obtain⟨yk,ya,yr,yln,ynm,yn,yrows,hyf⟩:=J9 y;rw[hyf]at hy;simp only[List.cons.injEq,D.sl.injEq,and_true]at hy;obtain⟨rfl,rfl,rfl,rfl,rfl,rfl,rfl⟩:=hy;simp only[Ca,hv,tails,List.tail_cons,List.headD_cons,Aa,Nn,Ac];cases m with
 |zero=>simp[Kw]at hgo
 |succ m=>
  unfold Kw at hgo;by_cases hz:Hz L t=0
  ·rw[if_pos hz]at hgo;cases hgo;have:(Hz L s' !=0)=false:=by rw[bne_eq_false_iff_eq];exact hz
   rw[this];simp only[BF,Ae,Ab];refine⟨rfl,Iu ?_,rfl⟩;rw[hyf];rfl
  ·rw[if_neg hz]at hgo;have:(Hz L t !=0)=true:=by rw[bne_iff_ne];exact hz
   rw[this];obtain⟨w,ws,hw⟩:=Aqw hz;split at hgo
   ·cases hgo
   rename_i y2 t2 hy2;rw[hw]at hy2;simp only[if_true,hw,Ae7,Aox,Z4,An9,A9,Al,Ae];have hS2:Sm ⟨ws,t.bad⟩:=fun v hv=>hSt v (by rw[hw];simp[hv])
   have hS3:=hit _ _ _ hS2 hy2;refine⟨rfl,Ad rfl (h124 _ _ _ hS2 hy2) rfl ?_⟩;simp only[Aa,Jj,Ax3,Ot,Auw,Q3,Hl,A9,Al,if_true,Ae];refine⟨rfl,Ad rfl (h125 t2) rfl ?_⟩;rw[Az];refine⟨m,Nat.lt_succ_self m,rfl,_,t2,j0,j1,j2,j3,j4,j5,j6,_,_,_,_,_,_,[Br y,Br y2],.exact,hS3,hgo,rfl,?_⟩;simp only[Hm,hw];rw[hyf];rfl
end
theorem Be1(x0:D):Hd C1 103 f103 (bd f103) [] [.dyn x0] []=
 .bind (.bin .geq 5 x0 (.int .u8 97)) fun x1=>
 .ite x1 (
  .bind (.bin .leq 5 x0 (.int .u8 122)) fun x2=>
  .ite x2 (
  .leaf [bt] []) (
  .bind (.bin .geq 5 x0 (.int .u8 65)) fun x3=>
  .ite x3 (
   .bind (.bin .leq 5 x0 (.int .u8 90)) fun x4=>
   .ite x4 (
   .leaf [bt] []) (
   .bind (.bin .geq 5 x0 (.int .u8 48)) fun x5=>
   .ite x5 (
    .bind (.bin .leq 5 x0 (.int .u8 57)) fun x6=>
    .ite x6 (
    .leaf [bt] []) (
    .bind (.bin .eql 5 x0 (.int .u8 46)) fun x7=>
    .ite x7 (
     .leaf [bt] []) (
     .bind (.bin .eql 5 x0 (.int .u8 95)) fun x8=>
     .ite x8 (
     .leaf [bt] []) (
     .bind (.bin .eql 5 x0 (.int .u8 45)) fun x9=>
     .ite x9 (
      .leaf [bt] []) (
      .bind (.bin .eql 5 x0 (.int .u8 47)) fun x10=>
      .leaf [x10] []))))) (
    .bind (.bin .eql 5 x0 (.int .u8 46)) fun x6=>
    .ite x6 (
    .leaf [bt] []) (
    .bind (.bin .eql 5 x0 (.int .u8 95)) fun x7=>
    .ite x7 (
     .leaf [bt] []) (
     .bind (.bin .eql 5 x0 (.int .u8 45)) fun x8=>
     .ite x8 (
     .leaf [bt] []) (
     .bind (.bin .eql 5 x0 (.int .u8 47)) fun x9=>
     .leaf [x9] [])))))) (
   .bind (.bin .geq 5 x0 (.int .u8 48)) fun x4=>
   .ite x4 (
   .bind (.bin .leq 5 x0 (.int .u8 57)) fun x5=>
   .ite x5 (
    .leaf [bt] []) (
    .bind (.bin .eql 5 x0 (.int .u8 46)) fun x6=>
    .ite x6 (
    .leaf [bt] []) (
    .bind (.bin .eql 5 x0 (.int .u8 95)) fun x7=>
    .ite x7 (
     .leaf [bt] []) (
     .bind (.bin .eql 5 x0 (.int .u8 45)) fun x8=>
     .ite x8 (
     .leaf [bt] []) (
     .bind (.bin .eql 5 x0 (.int .u8 47)) fun x9=>
     .leaf [x9] []))))) (
   .bind (.bin .eql 5 x0 (.int .u8 46)) fun x5=>
   .ite x5 (
    .leaf [bt] []) (
    .bind (.bin .eql 5 x0 (.int .u8 95)) fun x6=>
    .ite x6 (
    .leaf [bt] []) (
    .bind (.bin .eql 5 x0 (.int .u8 45)) fun x7=>
    .ite x7 (
     .leaf [bt] []) (
     .bind (.bin .eql 5 x0 (.int .u8 47)) fun x8=>
     .leaf [x8] []))))))) (
  .bind (.bin .geq 5 x0 (.int .u8 65)) fun x2=>
  .ite x2 (
  .bind (.bin .leq 5 x0 (.int .u8 90)) fun x3=>
  .ite x3 (
   .leaf [bt] []) (
   .bind (.bin .geq 5 x0 (.int .u8 48)) fun x4=>
   .ite x4 (
   .bind (.bin .leq 5 x0 (.int .u8 57)) fun x5=>
   .ite x5 (
    .leaf [bt] []) (
    .bind (.bin .eql 5 x0 (.int .u8 46)) fun x6=>
    .ite x6 (
    .leaf [bt] []) (
    .bind (.bin .eql 5 x0 (.int .u8 95)) fun x7=>
    .ite x7 (
     .leaf [bt] []) (
     .bind (.bin .eql 5 x0 (.int .u8 45)) fun x8=>
     .ite x8 (
     .leaf [bt] []) (
     .bind (.bin .eql 5 x0 (.int .u8 47)) fun x9=>
     .leaf [x9] []))))) (
   .bind (.bin .eql 5 x0 (.int .u8 46)) fun x5=>
   .ite x5 (
    .leaf [bt] []) (
    .bind (.bin .eql 5 x0 (.int .u8 95)) fun x6=>
    .ite x6 (
    .leaf [bt] []) (
    .bind (.bin .eql 5 x0 (.int .u8 45)) fun x7=>
    .ite x7 (
     .leaf [bt] []) (
     .bind (.bin .eql 5 x0 (.int .u8 47)) fun x8=>
     .leaf [x8] [])))))) (
  .bind (.bin .geq 5 x0 (.int .u8 48)) fun x3=>
  .ite x3 (
   .bind (.bin .leq 5 x0 (.int .u8 57)) fun x4=>
   .ite x4 (
   .leaf [bt] []) (
   .bind (.bin .eql 5 x0 (.int .u8 46)) fun x5=>
   .ite x5 (
    .leaf [bt] []) (
    .bind (.bin .eql 5 x0 (.int .u8 95)) fun x6=>
    .ite x6 (
    .leaf [bt] []) (
    .bind (.bin .eql 5 x0 (.int .u8 45)) fun x7=>
    .ite x7 (
     .leaf [bt] []) (
     .bind (.bin .eql 5 x0 (.int .u8 47)) fun x8=>
     .leaf [x8] []))))) (
   .bind (.bin .eql 5 x0 (.int .u8 46)) fun x4=>
   .ite x4 (
   .leaf [bt] []) (
   .bind (.bin .eql 5 x0 (.int .u8 95)) fun x5=>
   .ite x5 (
    .leaf [bt] []) (
    .bind (.bin .eql 5 x0 (.int .u8 45)) fun x6=>
    .ite x6 (
    .leaf [bt] []) (
    .bind (.bin .eql 5 x0 (.int .u8 47)) fun x7=>
    .leaf [x7] [])))))):=by kernel_rfl
theorem Bhr(x0 x1:D):Hd C1 53 f53 (bd f53) [] [.dyn x0,.dyn x1] []=
 .loop 0 0 [x1,i0] (Ca [fun x2=>
  .bind (.ln 9 x0) fun x3=>
  .bind (.bin .lss 3 (hv x2 0) x3) fun x4=>
  .ite x4 (
  .bind (.idx 9 x0 (hv x2 0)) fun x5=>
  .call 102 [] [.str [32,10,9,13],x5] [] fun x6=>
  .bind (.bin .geq 3 x6 i0) fun x7=>
  .ite x7 (
   .bind (.bin .add 3 (hv x2 0) i1) fun x8=>
   .again 0 0 [x8,(hv x2 1)]) (
   .bind (.idx 9 x0 (hv x2 0)) fun x8=>
   .bind (.bin .eql 5 x8 (.int .u8 35)) fun x9=>
   .ite x9 (
   .loop 1 0 [(hv x2 0)] (Ca [fun x10=>
    .bind (.ln 9 x0) fun x11=>
    .bind (.bin .lss 3 (hv x10 0) x11) fun x12=>
    .ite x12 (
    .bind (.idx 9 x0 (hv x10 0)) fun x13=>
    .bind (.bin .neq 5 x13 (.int .u8 10)) fun x14=>
    .ite x14 (
     .bind (.bin .add 3 (hv x10 0) i1) fun x15=>
     .again 1 0 [x15]) (
     .again 0 0 [(hv x10 0),(hv x2 1)])) (
    .again 0 0 [(hv x10 0),(hv x2 1)])])) (
   .leaf [(hv x2 0)] []))) (
  .leaf [(hv x2 0)] [])]):=by kernel_rfl
theorem Bh2(x0 x1:D):Hd C1 54 f54 (bd f54) [] [.dyn x0,.dyn x1] []=
 .req [(i0,i0),(i0,i0),(s0,s0)] (
 .loop 0 0 [x1] (Ca [fun x2=>
  .bind (.ln 9 x0) fun x3=>
  .bind (.bin .lss 3 (hv x2 0) x3) fun x4=>
  .ite x4 (
  .bind (.idx 9 x0 (hv x2 0)) fun x5=>
  .call 103 [] [x5] [] fun x6=>
  .ite x6 (
   .bind (.bin .add 3 (hv x2 0) i1) fun x7=>
   .req [(i0,i0),(i0,i0),(s0,s0)] (
   .again 0 0 [x7])) (
   .bind (.bin .gtr 3 (hv x2 0) x1) fun x7=>
   .ite x7 (
   .bind (.slc 9 x0 (some x1) (some (hv x2 0)) none) fun x8=>
   .bind (.cell x1) fun x9=>
   .bind (.cell x8) fun x10=>
   .chk [x9,x10] (
   .leaf [.agg [i1,x9,x10],(hv x2 0)] [])) (
   .bind (.idx 9 x0 x1) fun x8=>
   .bind (.bin .eql 5 x8 (.int .u8 34)) fun x9=>
   .ite x9 (
    .bind (.bin .add 3 x1 i1) fun x10=>
    .call 104 [] [x0,x10] [] fun x11=>
    .bind (.ext x11 0) fun x12=>
    .bind (.ext x11 1) fun x13=>
    .bind (.cell x1) fun x14=>
    .bind (.cell x12) fun x15=>
    .chk [x14,x15] (
    .leaf [.agg [(.int .i64 2),x14,x15],x13] [])) (
    .bind (.idx 9 x0 x1) fun x10=>
    .call 102 [] [.str [123,125,44,59,61,40,41,43,94,58,36],x10] [] fun x11=>
    .bind (.bin .geq 3 x11 i0) fun x12=>
    .ite x12 (
    .bind (.bin .add 3 x1 i1) fun x13=>
    .bind (.slc 9 x0 (some x1) (some x13) none) fun x14=>
    .bind (.cell x1) fun x15=>
    .bind (.cell x14) fun x16=>
    .bind (.bin .add 3 x1 i1) fun x17=>
    .chk [x15,x16] (
    .leaf [.agg [(.int .i64 3),x15,x16],x17] [])) (
    .leaf [.agg [i0,i0,s0],.int .i64 (-1)] []))))) (
  .bind (.bin .gtr 3 (hv x2 0) x1) fun x5=>
  .ite x5 (
   .bind (.slc 9 x0 (some x1) (some (hv x2 0)) none) fun x6=>
   .bind (.cell x1) fun x7=>
   .bind (.cell x6) fun x8=>
   .chk [x7,x8] (
   .leaf [.agg [i1,x7,x8],(hv x2 0)] [])) (
   .bind (.idx 9 x0 x1) fun x6=>
   .bind (.bin .eql 5 x6 (.int .u8 34)) fun x7=>
   .ite x7 (
   .bind (.bin .add 3 x1 i1) fun x8=>
   .call 104 [] [x0,x8] [] fun x9=>
   .bind (.ext x9 0) fun x10=>
   .bind (.ext x9 1) fun x11=>
   .bind (.cell x1) fun x12=>
   .bind (.cell x10) fun x13=>
   .chk [x12,x13] (
   .leaf [.agg [(.int .i64 2),x12,x13],x11] [])) (
   .bind (.idx 9 x0 x1) fun x8=>
   .call 102 [] [.str [123,125,44,59,61,40,41,43,94,58,36],x8] [] fun x9=>
   .bind (.bin .geq 3 x9 i0) fun x10=>
   .ite x10 (
    .bind (.bin .add 3 x1 i1) fun x11=>
    .bind (.slc 9 x0 (some x1) (some x11) none) fun x12=>
    .bind (.cell x1) fun x13=>
    .bind (.cell x12) fun x14=>
    .bind (.bin .add 3 x1 i1) fun x15=>
    .chk [x13,x14] (
    .leaf [.agg [(.int .i64 3),x13,x14],x15] [])) (
    .leaf [.agg [i0,i0,s0],.int .i64 (-1)] []))))])):=by kernel_rfl
theorem Be9(x0:D):Hd C1 160 f160 (bd f160) [] [.dyn x0] []=
 .bind (.bin .eql 9 x0 s0) fun x1=>
 .ite x1 (
  .leaf [.int .u8 0,i0] []) (
  .bind (.idx 9 x0 i0) fun x2=>
  .bind (.bin .eql 5 x2 (.int .u8 110)) fun x3=>
  .ite x3 (
  .leaf [.int .u8 10,i1] []) (
  .bind (.bin .eql 5 x2 (.int .u8 116)) fun x4=>
  .ite x4 (
   .leaf [.int .u8 9,i1] []) (
   .bind (.bin .eql 5 x2 (.int .u8 92)) fun x5=>
   .ite x5 (
   .bind (.idx 9 x0 i0) fun x6=>
   .leaf [x6,i1] []) (
   .bind (.bin .eql 5 x2 (.int .u8 34)) fun x6=>
   .ite x6 (
    .bind (.idx 9 x0 i0) fun x7=>
    .leaf [x7,i1] []) (
    .bind (.bin .eql 5 x2 (.int .u8 120)) fun x7=>
    .ite x7 (
    .bind (.ln 9 x0) fun x8=>
    .bind (.bin .lss 3 x8 (.int .i64 3)) fun x9=>
    .ite x9 (
     .leaf [.int .u8 0,i0] []) (
     .bind (.idx 9 x0 i1) fun x10=>
     .bind (.idx 9 x0 (.int .i64 2)) fun x11=>
     .call 102 [] [.str [48,49,50,51,52,53,54,55,56,57,97,98,99,100,101,102],x10] [] fun x12=>
     .call 102 [] [.str [48,49,50,51,52,53,54,55,56,57,97,98,99,100,101,102],x11] [] fun x13=>
     .bind (.bin .geq 3 x12 i0) fun x14=>
     .ite x14 (
     .bind (.bin .geq 3 x13 i0) fun x15=>
     .ite x15 (
      .bind (.bin .mul 3 (.int .i64 16) x12) fun x16=>
      .bind (.bin .add 3 x16 x13) fun x17=>
      .bind (.conv 3 5 x17) fun x18=>
      .leaf [x18,.int .i64 3] []) (
      .leaf [.int .u8 0,i0] [])) (
     .leaf [.int .u8 0,i0] []))) (
    .leaf [.int .u8 0,i0] [])))))):=by kernel_rfl
theorem Bff(x0 x1:D):Hd C1 104 f104 (bd f104) [{alts:= [[],[6]],objs:= []}] [.dyn x0,.dyn x1] []=
 .loop 0 0 [x1,s0,i0] (Ca [fun x2=>
  .bind (.ln 9 x0) fun x3=>
  .bind (.bin .lss 3 (hv x2 0) x3) fun x4=>
  .ite x4 (
  .bind (.idx 9 x0 (hv x2 0)) fun x5=>
  .bind (.bin .eql 5 x5 (.int .u8 34)) fun x6=>
  .ite x6 (
   .bind (.conv 144 9 .nilsl) fun x7=>
   .bind (.bin .add 3 (hv x2 0) i1) fun x8=>
   .leaf [x7,x8] []) (
   .bind (.bin .eql 5 x5 (.int .u8 92)) fun x7=>
   .ite x7 (
   .bind (.bin .add 3 (hv x2 0) i1) fun x8=>
   .bind (.slc 9 x0 (some x8) none none) fun x9=>
   .call 160 [] [x9] [] fun x10=>
   .bind (.ext x10 0) fun x11=>
   .bind (.ext x10 1) fun x12=>
   .bind (.bin .eql 3 x12 i0) fun x13=>
   .ite x13 (
    .leaf [s0,.int .i64 (-1)] []) (
    .bind (.slim x11) fun x14=>
    .bind (.cell x14) fun x15=>
    .bind (.app 144 .nilsl (.sl [[x15]] .exact)) fun x16=>
    .bind (.bin .add 3 x12 i1) fun x17=>
    .bind (.bin .add 3 (hv x2 0) x17) fun x18=>
    .req [(i0,i0)] (
    .again 0 1 [x18,(hv x2 1),(hv x2 2),x16,i0]))) (
   .bind (.bin .lss 5 x5 (.int .u8 32)) fun x8=>
   .ite x8 (
    .leaf [s0,.int .i64 (-1)] []) (
    .bind (.bin .gtr 5 x5 (.int .u8 126)) fun x9=>
    .ite x9 (
    .leaf [s0,.int .i64 (-1)] []) (
    .bind (.slim x5) fun x10=>
    .bind (.cell x10) fun x11=>
    .bind (.app 144 .nilsl (.sl [[x11]] .exact)) fun x12=>
    .bind (.bin .add 3 (hv x2 0) i1) fun x13=>
    .req [(i0,i0)] (
    .again 0 1 [x13,(hv x2 1),(hv x2 2),x12,i0])))))) (
  .leaf [s0,.int .i64 (-1)] []),fun x2=>
  .bind (.ln 9 x0) fun x3=>
  .bind (.bin .lss 3 (hv x2 0) x3) fun x4=>
  .ite x4 (
  .bind (.idx 9 x0 (hv x2 0)) fun x5=>
  .bind (.bin .eql 5 x5 (.int .u8 34)) fun x6=>
  .ite x6 (
   .bind (.conv 144 9 (hv x2 3)) fun x7=>
   .bind (.bin .add 3 (hv x2 0) i1) fun x8=>
   .leaf [x7,x8] []) (
   .bind (.bin .eql 5 x5 (.int .u8 92)) fun x7=>
   .ite x7 (
   .bind (.bin .add 3 (hv x2 0) i1) fun x8=>
   .bind (.slc 9 x0 (some x8) none none) fun x9=>
   .call 160 [] [x9] [] fun x10=>
   .bind (.ext x10 0) fun x11=>
   .bind (.ext x10 1) fun x12=>
   .bind (.bin .eql 3 x12 i0) fun x13=>
   .ite x13 (
    .leaf [s0,.int .i64 (-1)] []) (
    .bind (.slim x11) fun x14=>
    .bind (.cell x14) fun x15=>
    .req [((.int .i64 (((gD (hv x2 4)):Nat):Int)),(.int .i64 (((gD (hv x2 4)):Nat):Int)))] (
    .bind (.app1 144 (hv x2 3) (.sl [[x15]] .exact)) fun x16=>
    .bind (.bin .add 3 x12 i1) fun x17=>
    .bind (.bin .add 3 (hv x2 0) x17) fun x18=>
    .req [((.int .i64 (((gD (hv x2 4)+1):Nat):Int)),(.int .i64 (((gD (hv x2 4)+1):Nat):Int)))] (
    .again 0 1 [x18,(hv x2 1),(hv x2 2),x16,(.int .i64 (((gD (hv x2 4)+1):Nat):Int))])))) (
   .bind (.bin .lss 5 x5 (.int .u8 32)) fun x8=>
   .ite x8 (
    .leaf [s0,.int .i64 (-1)] []) (
    .bind (.bin .gtr 5 x5 (.int .u8 126)) fun x9=>
    .ite x9 (
    .leaf [s0,.int .i64 (-1)] []) (
    .bind (.slim x5) fun x10=>
    .bind (.cell x10) fun x11=>
    .req [((.int .i64 (((gD (hv x2 4)):Nat):Int)),(.int .i64 (((gD (hv x2 4)):Nat):Int)))] (
    .bind (.app1 144 (hv x2 3) (.sl [[x11]] .exact)) fun x12=>
    .bind (.bin .add 3 (hv x2 0) i1) fun x13=>
    .req [((.int .i64 (((gD (hv x2 4)+1):Nat):Int)),(.int .i64 (((gD (hv x2 4)+1):Nat):Int)))] (
    .again 0 1 [x13,(hv x2 1),(hv x2 2),x12,(.int .i64 (((gD (hv x2 4)+1):Nat):Int))]))))))) (
  .leaf [s0,.int .i64 (-1)] [])]):=by kernel_rfl
theorem Bhm(x0:D):Hd C1 23 Tryz.f23 (bd Tryz.f23) [{alts:= [[],[4]],objs:= []}] [.dyn x0] []=
 .call 53 [] [x0,i0] [] fun x1=>
 .req [(i0,i0),(i0,i0)] (
 .loop 0 0 [.nilsl,x1] (Ca [fun x2=>
  .bind (.ln 9 x0) fun x3=>
  .bind (.bin .lss 3 (hv x2 1) x3) fun x4=>
  .ite x4 (
  .call 54 [] [x0,(hv x2 1)] [] fun x5=>
  .bind (.ext x5 0) fun x6=>
  .bind (.ext x5 1) fun x7=>
  .bind (.agg 3 x6) fun x8=>
  .chk (cl x8 3) (
  .bind (.bin .lss 3 x7 i0) fun x9=>
  .ite x9 (
   .bind (.cell (hv x2 1)) fun x10=>
   .chk [x10] (
   .leaf [.nilsl,.agg [i1,x10]] [])) (
   .bind (.slm (gc x8 0)) fun x10=>
   .bind (.slm (gc x8 1)) fun x11=>
   .bind (.slm (gc x8 2)) fun x12=>
   .bind (.app 59 .nilsl (.sl [[x10,x11,x12]] .exact)) fun x13=>
   .call 53 [] [x0,x7] [] fun x14=>
   .req [(i0,i0),(i0,i0),(i0,i0)] (
   .again 0 1 [(hv x2 0),x13,i0,x14])))) (
  .bind (.ln 9 x0) fun x5=>
  .bind (.cell x5) fun x6=>
  .bind (.slm x6) fun x7=>
  .bind (.app 59 .nilsl (.sl [[.int .i64 4,x7,s0]] .exact)) fun x8=>
  .leaf [x8,.agg [i0,i0]] []),fun x2=>
  .bind (.ln 9 x0) fun x3=>
  .bind (.bin .lss 3 (hv x2 3) x3) fun x4=>
  .ite x4 (
  .call 54 [] [x0,(hv x2 3)] [] fun x5=>
  .bind (.ext x5 0) fun x6=>
  .bind (.ext x5 1) fun x7=>
  .bind (.agg 3 x6) fun x8=>
  .chk (cl x8 3) (
  .bind (.bin .lss 3 x7 i0) fun x9=>
  .ite x9 (
   .bind (.cell (hv x2 3)) fun x10=>
   .chk [x10] (
   .leaf [.nilsl,.agg [i1,x10]] [])) (
   .bind (.slm (gc x8 0)) fun x10=>
   .bind (.slm (gc x8 1)) fun x11=>
   .bind (.slm (gc x8 2)) fun x12=>
   .req [((.int .i64 (((gD (hv x2 2)):Nat):Int)),(.int .i64 (((gD (hv x2 2)):Nat):Int)))] (
   .bind (.app1 59 (hv x2 1) (.sl [[x10,x11,x12]] .exact)) fun x13=>
   .call 53 [] [x0,x7] [] fun x14=>
   .req [((.int .i64 (((gD (hv x2 2)+1):Nat):Int)),(.int .i64 (((gD (hv x2 2)+1):Nat):Int))),(i0,i0),(i0,i0)] (
   .again 0 1 [(hv x2 0),x13,(.int .i64 (((gD (hv x2 2)+1):Nat):Int)),x14]))))) (
  .bind (.ln 9 x0) fun x5=>
  .bind (.cell x5) fun x6=>
  .bind (.slm x6) fun x7=>
  .req [((.int .i64 (((gD (hv x2 2)):Nat):Int)),(.int .i64 (((gD (hv x2 2)):Nat):Int)))] (
  .bind (.app1 59 (hv x2 1) (.sl [[.int .i64 4,x7,s0]] .exact)) fun x8=>
  .leaf [x8,.agg [i0,i0]] []))])):=by kernel_rfl
theorem Bdk(x0 x1:D):Hd C1 102 f102 (bd f102) [] [.dyn x0,.dyn x1] []=
 .call 159 [] [x0,x1] [] fun x2=>
 .leaf [x2] []:=by kernel_rfl
theorem Bhq(x0 x1:D):Hd C1 36 f36 (bd f36) [] [.dyn x0,.dyn x1] []=
 .call 64 [] [x0,x1] [] fun x2=>
 .bind (.bin .geq 3 x2 i0) fun x3=>
 .leaf [x3] []:=by kernel_rfl
theorem Bdl:Hd C1 161 f161 (bd f161) [] [] []=
 .leaf [(.sl [[.str [108,101,116]],[.str [100,101,112,115]],[.str [114,100,101,112,115]],[.str [115,111,109,101,112,97,116,104]],[.str [97,108,108,112,97,116,104,115]],[.str [107,105,110,100]],[.str [102,105,108,116,101,114]],[.str [97,108,108]]] .exact)] []:=by kernel_rfl
theorem Bfl(x0:D):Hd C1 108 f108 (bd f108) [] [.dyn x0] []=
 .call 163 [] [x0] [] fun x1=>
 .ite x1 (
  .bind (.bin .neq 9 x0 (.str [45])) fun x2=>
  .ite x2 (
  .call 161 [] [] [] fun x3=>
  .call 36 [] [x3,x0] [] fun x4=>
  .bind (.un .not x4) fun x5=>
  .leaf [x5] []) (
  .leaf [bf] [])) (
  .leaf [bf] []):=by kernel_rfl
theorem Be5(x0:D):Hd C1 233 f233 (bd f233) [] [.dyn x0] []=
 .call 234 [] [x0,.int .i64 1000] [] fun x1=>
 .bind (.ext x1 0) fun x2=>
 .bind (.ext x1 1) fun x3=>
 .leaf [x3] []:=by kernel_rfl
theorem Be4(x0 x1:D):Hd C1 64 f64 (bd f64) [] [.dyn x0,.dyn x1] []=
 .bind (.ln 23 x0) fun x2=>
 .loop 0 0 [i0,i0] (Ca [fun x3=>
  .bind (.bin .lss 3 (hv x3 1) x2) fun x4=>
  .ite x4 (
  .bind (.ia 23 x0 (hv x3 1)) fun x5=>
  .bind (.ld 9 x5) fun x6=>
  .bind (.bin .eql 9 x1 x6) fun x7=>
  .ite x7 (
   .leaf [(hv x3 1)] []) (
   .bind (.bin .add 3 (hv x3 1) i1) fun x8=>
   .again 0 0 [(hv x3 0),x8])) (
  .leaf [.int .i64 (-1)] [])]):=by kernel_rfl
theorem Bdf(x0:D):Hd C1 163 f163 (bd f163) [] [.dyn x0] []=
 .bind (.bin .eql 9 x0 (.str [114,117,108,101])) fun x1=>
 .ite x1 (
  .leaf [bf] []) (
  .bind (.bin .eql 9 x0 (.str [105,110])) fun x2=>
  .ite x2 (
  .leaf [bf] []) (
  .bind (.bin .eql 9 x0 (.str [111,117,116])) fun x3=>
  .ite x3 (
   .leaf [bf] []) (
   .bind (.bin .eql 9 x0 (.str [97,102,116,101,114])) fun x4=>
   .ite x4 (
   .leaf [bf] []) (
   .bind (.ln 9 x0) fun x5=>
   .bind (.bin .leq 3 x5 (.int .i64 40)) fun x6=>
   .ite x6 (
    .call 203 [] [x0] [] fun x7=>
    .call 111 [] [x7,(.func 204 [] [])] [] fun x8=>
    .bind (.un .not x8) fun x9=>
    .leaf [x9] []) (
    .leaf [bf] []))))):=by kernel_rfl
theorem Bdo(x0:D):Hd C1 204 f204 (bd f204) [] [.dyn x0] []=
 .bind (.bin .eql 9 x0 s0) fun x1=>
 .ite x1 (
  .leaf [bt] []) (
  .bind (.bin .eql 9 x0 (.str [46])) fun x2=>
  .ite x2 (
  .leaf [bt] []) (
  .bind (.bin .eql 9 x0 (.str [46,46])) fun x3=>
  .ite x3 (
   .leaf [bt] []) (
   .call 236 [] [x0,(.func 237 [] [])] [] fun x4=>
   .leaf [x4] []))):=by kernel_rfl
section
variable{P:Program}{t el:TypeId}{sz by_:Nat}
theorem Amt{r:List D}(h1:Cx P t=some el)(h2:Bw P el=some sz)(h3:Jm P el=some by_)(h4:Kt P el sz=true)(hr:r.length=sz)(hc:r.all Al=true)(hb:by_≤1000):(Av.app t .nilsl (.sl [r] .exact)).sem P=some (.sl [r] .none):=by
 have:C8 P false t .nilsl (.sl [r] .exact) []=some (.sl [r] (.tok 0 0),[.tok 0],[]):=by
  unfold C8;rw[h1];dsimp only;rw[h2,h3];simp only[rowsOf,List.all_cons,List.all_nil,Bool.and_true,hr,beq_self_eq_true,h4,hc,if_true,List.isEmpty_cons,BF,List.length_cons,List.length_nil];rw[if_pos (by simp[Dh];omega)]
  rfl
 simp only[Av.sem,this]
theorem Anb{rows:List (List D)}{r:List D}{g:Gr}(h1:Cx P t=some el)(h2:Bw P el=some sz)(h3:Jm P el=some by_)(h4:Kt P el sz=true)(hr:r.length=sz)(hc:r.all Al=true)(hb:by_≤1000)(hrows:∀x∈rows,x.length=sz)(hne:rows≠ [])(hl:rows.length≤100000):
  (Av.app1 t (.sl rows g) (.sl [r] .exact)).sem P=some (.sl (rows++ [r]) .none):=by
 have:C8 P false t (.sl rows (.tok 0 0)) (.sl [r] .exact) [.tok 0]=some (.sl (rows++ [r]) (.tok 0 1),[.tok 1],[0]):=by
  unfold C8;rw[h1];dsimp only;rw[h2,h3];simp only[rowsOf,List.all_cons,List.all_nil,Bool.and_true,hr,beq_self_eq_true,h4,hc,if_true,List.isEmpty_cons,BF,List.length_cons,List.length_nil,List.getElem?_cons_zero];rw[if_neg,if_pos]
  ·rfl
  ·simp[hne]
  ·have h5:rows.all (fun r=>r.length == sz)=true:=by
    rw[List.all_eq_true];intro x hx;simp[hrows x hx]
   have h6:(rows.length+(0+1))*by_≤Dh:=by
    refine Nat.le_trans (Nat.mul_le_mul (show rows.length+(0+1)≤100001 from by omega) hb) ?_
    simp[Dh]
   have h7:rows.length+(0+1)≤Dh:=by simp[Dh];omega
   simp[h5,h6,h7]
 simp only[Av.sem,A6k,this]
end
theorem Be(b c:UInt8):((b.toNat:Int) == (c.toNat:Int))=(b == c):=by
 rw[Bool.eq_iff_iff];simp only[beq_iff_eq];constructor
 ·intro h;exact UInt8.toNat_inj.1 (by omega)
 ·rintro rfl;rfl
theorem wrapN{n:Nat}(h:n<1000000):IntKind.i64.wrap ((n:Int)+1)=((n+1:Nat):Int):=by
 rw[Go.IntWalk.i64_in _ (by omega)]
 omega
theorem wrapM{n m:Nat}(h:n<1000000)(h':m<1000000):IntKind.i64.wrap ((n:Int)+(m:Int))=((n+m:Nat):Int):=by
 rw[Go.IntWalk.i64_in _ (by omega)]
 omega
theorem Vz(i n:Nat):decide ((i:Int)<(n:Int))=decide (i<n):=by simp
theorem Fa(s:List UInt8):(Av.ln 9 (.str s)).sem prog=some (.int .i64 (s.length:Int)):=by simp only[Av.sem,Ny,Z8,Et]
theorem D5{s:List UInt8}{i:Nat}{b:UInt8}(h:s[i]?=some b):(Av.idx 9 (.str s) (.int .i64 (i:Int))).sem prog=some (.int .u8 (b.toNat:Int)):=by
 have hn:E5 (.int .i64 (i:Int))=some i:=by simp[E5]
 simp only[Av.sem,Qa,hn,Z8,h,Et]
theorem O0{s:List UInt8}{i j:Nat}(h:i≤j)(h':j≤s.length):(Av.slc 9 (.str s) (some (.int .i64 (i:Int))) (some (.int .i64 (j:Int))) none).sem prog=some (.str ((s.take j).drop i)):=by
 have hn:∀i:Nat,E5 (.int .i64 (i:Int))=some i:=fun i=>by simp[E5]
 simp[Av.sem,Aes,hn,Lu,h,h',Et]
theorem Ao1{s:List UInt8}{i:Nat}(h:i≤s.length):(Av.slc 9 (.str s) (some (.int .i64 (i:Int))) none none).sem prog=some (.str (s.drop i)):=by
 have hn:∀i:Nat,E5 (.int .i64 (i:Int))=some i:=fun i=>by simp[E5]
 simp[Av.sem,Aes,hn,Lu,h,Et]
theorem Kb{s:List UInt8}{i:Nat}(h:i<s.length):s.drop i=s[i]::s.drop (i+1):=List.drop_eq_getElem_cons h
theorem Qk{b:Bool}{v:D}(h:v= .bool b):Ck (.bool b) [v]:=by rw[h];exact Bf rfl
def Iw(b:UInt8):Bool:=b == 32 || b == 10 || b == 9 || b == 13
def Db:Bool→List UInt8→Nat
 |_,[]=>0
 |false,b::r=>if Iw b then 1+Db false r else if b == 35 then 1+Db true r else 0
 |true,b::r=>if b == 10 then 1+Db false r else 1+Db true r
theorem O7:∀(c:Bool) (r:List UInt8),Db c r≤r.length
 |_,[]=>Nat.le_refl 0
 |false,b::r=>by
  unfold Db;have h1:=O7 false r;have h2:=O7 true r;simp only[List.length_cons];split
  ·omega
  ·split<;>omega
 |true,b::r=>by unfold Db;have h1:=O7 false r;have h2:=O7 true r;simp only[List.length_cons];split<;>omega
section
variable{cf:Ah}{N:Nat}(hK:∀f,Ba (cf f))
def Gv(t:List UInt8)(b:UInt8):Int:=match t.findIdx? (· == b)with
 |some i=>(i:Int)
 |none=> -1
theorem O8(t:List UInt8)(b:UInt8):decide (0≤Gv t b)=t.contains b:=by
 unfold Gv;cases h:t.findIdx? (· == b)with
 |none=>
  rw[List.findIdx?_eq_none_iff]at h;have:t.contains b=false:=by rw[Bool.eq_false_iff];intro hc;have:=h b (List.contains_iff_mem.1 hc);simp at this
  rw[this];rfl
 |some i=>
  have h1:=List.findIdx?_eq_some_iff_findIdx_eq.1 h;have:t.contains b=true:=by
   rw[List.contains_iff_mem];have h2:=List.findIdx_lt_length.1 (by rw[h1.2];exact h1.1)
   obtain⟨x,hx,hb⟩:=h2;rw[← beq_iff_eq.1 hb];exact hx
  rw[this];simp
variable(h121:∀(t:List UInt8) (b:UInt8),Ao cf 102 [.str t,.int .u8 (b.toNat:Int)] (.int .i64 (Gv t b)))
include hK h121 in
theorem Bb4(s:List UInt8)(at_:Nat)(ha:at_≤s.length)(hs:s.length<1000)(hN:1000<N):Ao (run C1 cf N) 53 [.str s,.int .i64 (at_:Int)] (.int .i64 ((at_+Db false (s.drop at_):Nat):Int)):=by
 refine Cg hK func53 bdy rfl rfl rfl (Bhr _ _) ?_;refine wp_loop (fun m a ds=>a=0∧∃(i:Nat) (j:D),ds= [.int .i64 (i:Int),j]∧i≤s.length∧i+Db false (s.drop i)=at_+Db false (s.drop at_)∧m=s.length - i) (s.length - at_) (by omega) ⟨rfl,at_,_,rfl,ha,rfl,rfl⟩ ?_
 rintro m a ds ⟨rfl,i,j,rfl,hi,ht,rfl⟩;simp only[Ca,hv,tails,List.tail_cons,List.headD_cons,Aa,Fa,Da,Vz,Ac];by_cases hlt:i<s.length
 ·have hb:s[i]?=some s[i]:=List.getElem?_eq_getElem hlt;generalize hbb:s[i]=b at hb;have hd:s.drop i=b::s.drop (i+1):=by rw[Kb hlt,hbb]
  simp only[hlt,decide_true,if_true,D5 hb];refine Aw rfl (h121 _ b) ?_;simp only[Aa,Lx,Ac];rw[show decide ((0:Int)≤Gv [32,10,9,13] b)=Iw b from by rw[O8];simp only[List.contains_cons,List.contains_nil,Bool.or_false,Iw,Bool.or_assoc]]
  cases hbl:Iw b with
  |true=>
   simp only[if_true,Bt,wrapN (show i<1000000 by omega),Az]
   refine⟨_,?_,rfl,i+1,j,rfl,hlt,?_,rfl⟩
   ·omega
   ·rw[← ht,hd];simp only[Db,hbl,if_true];omega
  |false=>
   simp only[BF,D5 hb,En,Ac];rw[show((b.toNat:Int) == 35)=(b == 35)from Be b 35];cases h35:b == 35 with
   |false=>simp only[BF,Ab];rw[← ht,hd];simp only[Db,hbl,h35,BF,Nat.add_zero];exact Bf rfl
   |true=>
    simp only[if_true];refine wp_loop (fun m a ds=>a=0∧∃k:Nat,ds= [.int .i64 (k:Int)]∧i≤k∧k≤s.length∧k+Db true (s.drop k)=at_+Db false (s.drop at_)∧m=s.length - k) (s.length - i) (by omega) ⟨rfl,i,rfl,Nat.le_refl _,hi,?_,rfl⟩ ?_
    ·rw[← ht,hd];have h10:(b == 10)=false:=by
      rw[beq_iff_eq]at h35;rw[h35];rfl
     simp only[Db,hbl,h35,h10,BF,if_true]
    ·rintro m a ds ⟨rfl,k,rfl,hik,hk,htk,rfl⟩;simp only[Ca,List.headD_cons,Aa,Fa,Da,Vz,Ac];have hne:k=i→False∨k=i:=fun h=> .inr h;by_cases hlk:k<s.length
     ·have hbk:s[k]?=some s[k]:=List.getElem?_eq_getElem hlk;generalize hbbk:s[k]=c at hbk;have hdk:s.drop k=c::s.drop (k+1):=by rw[Kb hlk,hbbk]
      simp only[hlk,decide_true,if_true,D5 hbk,Nn,Aa,Ac];rw[show((c.toNat:Int) !=10)=!(c == 10)from by rw[bne,show((c.toNat:Int) == 10)=(c == 10)from Be c 10]]
      cases h10:c == 10 with
      |false=>
       simp only[Bool.not_false,if_true,Bt,wrapN (show k<1000000 by omega),Az]
       refine⟨_,?_,rfl,k+1,rfl,by omega,hlk,?_,rfl⟩
       ·omega
       ·rw[← htk,hdk];simp only[Db,h10,BF];omega
      |true=>
       simp only[Bool.not_true,BF,Az];have hki:i<k:=by
        rcases Nat.lt_or_ge i k with h|h
        ·exact h
        ·have:k=i:=by omega
         subst this;rw[hb]at hbk;cases hbk;rw[beq_iff_eq]at h35 h10;rw[h35]at h10;cases h10
       refine⟨_,?_,rfl,k,j,rfl,hk,?_,rfl⟩
       ·omega
       ·rw[← htk,hdk];have:Iw c=true:=by
         unfold Iw;rw[h10];simp
        simp only[Db,h10,this,if_true]
     ·simp only[hlk,decide_false,BF,Az];have hke:k=s.length:=by omega
      subst hke;refine⟨_,?_,rfl,s.length,j,rfl,hk,?_,rfl⟩
      ·omega
      ·rw[← htk];simp[Db]
 ·simp only[hlt,decide_false,BF,Ab];have hie:i=s.length:=by omega
  subst hie;rw[← ht];simp only[List.drop_length,Db,Nat.add_zero];exact Bf rfl
end
theorem Ag9(b:UInt8):De b=true↔((97:Int)≤(b.toNat:Int)∧(b.toNat:Int)≤122)∨((65:Int)≤(b.toNat:Int)∧(b.toNat:Int)≤90)∨((48:Int)≤(b.toNat:Int)∧(b.toNat:Int)≤57)∨(b.toNat:Int)=46∨(b.toNat:Int)=95∨(b.toNat:Int)=45∨(b.toNat:Int)=47:=by unfold De;simp only[Bool.or_eq_true,Bool.and_eq_true,decide_eq_true_eq,beq_iff_eq,UInt8.le_iff_toNat_le,← UInt8.toNat_inj];simp only[UInt8.toNat_ofNat];omega
section
variable{cf:Ah}{N:Nat}(hK:∀f,Ba (cf f))
include hK in
theorem A5b(b:UInt8):Ao (run C1 cf N) 103 [.int .u8 (b.toNat:Int)] (.bool (De b)):=by
 refine Cg hK func103 bdy rfl rfl rfl (Be1 _) ?_;simp only[Aa,Ac,Lx,Afx,En,Ab,decide_eq_true_eq,beq_iff_eq];have key:∀{x:Bool},(x=true↔De b=true)→Ck (.bool (De b)) [.bool x]:=fun {x} h=>Qk (by rw[Bool.eq_iff_iff.2 h])
 have hn:=Ag9 b
 repeat' split
 all_goals (refine key ?_;rw[hn];simp only[beq_iff_eq,true_iff];try omega)
theorem Ns{a b:D}(ha:R3 a=true)(hb:R3 b=true):Ck (.tup [a,b]) [a,b]:=by
 refine⟨?_,[a,b],?_,rfl⟩
 ·cases a<;>first|(cases ha;done)|(cases b<;>first|rfl|cases hb)
 ·cases a<;>first|(cases ha;done)|(cases b<;>first|rfl|cases hb)
def Ic:List UInt8:= [48,49,50,51,52,53,54,55,56,57,97,98,99,100,101,102]
def Ih(b:UInt8):Nat:=(Ic.findIdx? (· == b)).getD 0
theorem Aa1(b:UInt8):Ih b<16:=by
 unfold Ih;cases h:Ic.findIdx? (· == b)with
 |none=>simp
 |some i=>exact(List.findIdx?_eq_some_iff_findIdx_eq.1 h).1
theorem Uj{b:UInt8}(h:Ic.contains b=true):Gv Ic b=(Ih b:Int):=by
 have h2:=O8 Ic b;rw[h]at h2;unfold Gv Ih at*;cases hf:Ic.findIdx? (· == b)with
 |none=>rw[hf]at h2;simp at h2
 |some i=>rfl
def Ht:List UInt8→Option (UInt8 × Nat)
 | []=>none
 |c::r=>if c == 110 then some (10,1)else if c == 116 then some (9,1)else if c == 92 then some (c,1)else if c == 34 then some (c,1)
  else if c == 120 then match r with
   |a::b::_=>if Ic.contains a && Ic.contains b then some (UInt8.ofNat (16*Ih a+Ih b),3)else none
   |_=>none
  else none
def Ai6(o:Option (UInt8 × Nat)):D:=match o with
 |some (d,n)=> .tup [.int .u8 (d.toNat:Int),.int .i64 (n:Int)]
 |none=> .tup [.int .u8 0,.int .i64 0]
variable(h121:∀(t:List UInt8) (b:UInt8),Ao cf 102 [.str t,.int .u8 (b.toNat:Int)] (.int .i64 (Gv t b)))
include hK h121 in
theorem Azl(s:List UInt8)(hs:s.length<1000):Ao (run C1 cf N) 160 [.str s] (Ai6 (Ht s)):=by
 refine Cg hK func160 bdy rfl rfl rfl (Be9 _) ?_;cases s with
 |nil=>simp only[Aa,Ac,Di,Ab,beq_self_eq_true,if_true];exact Ns rfl rfl
 |cons c r=>
  have h0:((c::r:List UInt8))[0]?=some c:=rfl;have hne:((c::r:List UInt8) == [])=false:=rfl;have hx:∀d:UInt8,((c.toNat:Int) == (d.toNat:Int))=(c == d):=Be c;have e110:((c.toNat:Int) == 110)=(c == 110):=Be c 110;have e116:((c.toNat:Int) == 116)=(c == 116):=Be c 116;have e92:((c.toNat:Int) == 92)=(c == 92):=Be c 92;have e34:((c.toNat:Int) == 34)=(c == 34):=Be c 34;have e120:((c.toNat:Int) == 120)=(c == 120):=Be c 120;have hi0:(Av.idx 9 (.str (c::r)) (.int .i64 0)).sem prog=some (.int .u8 (c.toNat:Int)):=D5 h0;generalize hv:Ai6 (Ht (c::r))=v;simp only[Aa,Ac,Di,hne,BF,hi0,En,e110,e116,e92,e34,e120];cases h110:c == 110 with
  |true=>simp only[if_true,Ab];rw[← hv];simp only[Ht,h110,if_true];exact Ns rfl rfl
  |false=>
  simp only[BF];cases h116:c == 116 with
  |true=>simp only[if_true,Ab];rw[← hv];simp only[Ht,h110,h116,Bool.false_eq_true,if_true,if_false];exact Ns rfl rfl
  |false=>
  simp only[BF];cases h92:c == 92 with
  |true=>simp only[if_true,Ab];rw[← hv];simp only[Ht,h110,h116,h92,Bool.false_eq_true,if_true,if_false];exact Ns rfl rfl
  |false=>
  simp only[BF];cases h34:c == 34 with
  |true=>simp only[if_true,Ab];rw[← hv];simp only[Ht,h110,h116,h92,h34,Bool.false_eq_true,if_true,if_false];exact Ns rfl rfl
  |false=>
  simp only[BF];have hbad:Ht (c::r)=none→Ck v [.int .u8 0,.int .i64 0]:=fun h=>by rw[← hv,h];exact Ns rfl rfl
  cases h120:c == 120 with
  |false=>simp only[BF,Ab];refine hbad ?_;simp only[Ht,h110,h116,h92,h34,h120,BF]
  |true=>
   simp only[if_true,Fa,Da,Aa,Ac]
   match r with
   | []=>refine hbad ?_;simp only[Ht,h110,h116,h92,h34,h120,Bool.false_eq_true,if_true,if_false]
   | [a]=>refine hbad ?_;simp only[Ht,h110,h116,h92,h34,h120,Bool.false_eq_true,if_true,if_false]
   |a::b::r2=>
    have hl:¬ (((c::a::b::r2).length:Int)<3):=by simp only[List.length_cons];omega
    have h1:(Av.idx 9 (.str (c::a::b::r2)) (.int .i64 1)).sem prog=some (.int .u8 (a.toNat:Int)):=D5 (i:=1) rfl;have h2:(Av.idx 9 (.str (c::a::b::r2)) (.int .i64 2)).sem prog=some (.int .u8 (b.toNat:Int)):=D5 (i:=2) rfl;simp only[hl,decide_false,BF,h1,h2];refine Aw rfl (h121 Ic a) ?_;refine Aw rfl (h121 Ic b) ?_;simp only[Aa,Ac,Lx,O8];have hesc:Ht (c::a::b::r2)=if Ic.contains a && Ic.contains b then some (UInt8.ofNat (16*Ih a+Ih b),3)else none:=by simp only[Ht,h110,h116,h92,h34,h120,Bool.false_eq_true,if_true,if_false]
    cases ha:Ic.contains a with
    |false=>refine hbad ?_;rw[hesc,ha];rfl
    |true=>
     cases hb:Ic.contains b with
     |false=>refine hbad ?_;rw[hesc,hb,Bool.and_false];rfl
     |true=>
      have la:=Aa1 a;have lb:=Aa1 b;simp only[if_true,Av1,Bt,Uj ha,Uj hb];rw[Go.IntWalk.i64_in (16*(Ih a:Int)) (by omega),Go.IntWalk.i64_in _ (by omega)]
      have hcv:(Av.conv 3 5 (.int .i64 (16*(Ih a:Int)+(Ih b:Int)))).sem prog=some (.int .u8 ((UInt8.ofNat (16*Ih a+Ih b)).toNat:Int)):=by
       simp only[Av.sem,Dr,Afl,show prog.underlying 5=some (.int .u8)from underlying5,Et];rw[Go.IntWalk.u8_in _ (by omega)]
       have:(UInt8.ofNat (16*Ih a+Ih b)).toNat=16*Ih a+Ih b:=by rw[UInt8.toNat_ofNat'];omega
       rw[this];rfl
      rw[hcv];rw[← hv,hesc,ha,hb];exact Ns rfl rfl
end
def Dv:Nat→List UInt8→Option (List UInt8 × Nat)
 |0,_=>none
 |_+1,[]=>none
 |n+1,c::r=>if c == 34 then some ([],1)
  else if c == 92 then match Ht r with
   |none=>none
   |some (d,k)=>(Dv n (r.drop k)).map fun p=>(d::p.1,1+k+p.2)
  else if decide ((c.toNat:Int)<32) || decide (126<(c.toNat:Int))then none
  else(Dv n r).map fun p=>(c::p.1,1+p.2)
theorem Adr{r:List UInt8}{d:UInt8}{k:Nat}(h:Ht r=some (d,k)):1≤k∧k≤r.length:=by
 unfold Ht at h;split at h
 ·cases h
 rename_i c r;split at h
 ·cases h;simp
 split at h
 ·cases h;simp
 split at h
 ·cases h;simp
 split at h
 ·cases h;simp
 split at h
 ·split at h
  ·split at h
   ·cases h;simp
   ·cases h
  ·cases h
 ·cases h
def bR(acc:List UInt8):List (List D):=acc.map fun b=> [.int .u8 (b.toNat:Int)]
theorem Adm:∀(acc:List UInt8),Ip (bR acc).flatten=some acc
 | []=>rfl
 |b::l=>by have:(bR (b::l)).flatten= .int .u8 (b.toNat:Int)::(bR l).flatten:=rfl;rw[this];simp only[Ip,toByte,Adm l,Int.toNat_natCast,UInt8.ofNat_toNat]
theorem Avi(acc:List UInt8):∀x∈bR acc,x.length=1:=fun x hx=>by obtain⟨b,_,rfl⟩:=List.mem_map.1 hx;rfl
theorem Akb(acc:List UInt8)(g:Gr):(Av.conv 144 9 (.sl (bR acc) g)).sem prog=some (.str acc):=by
 have h1:prog.underlying 144=some (.slice 5):=underlying144;have h2:prog.underlying 5=some (.int .u8):=underlying5;have h3:(bR acc).all (fun r=>r.length == 1)=true:=by rw[List.all_eq_true];intro x hx;simp[Avi acc x hx]
 simp only[Av.sem,Dr,h1,h2,Z8,h3,if_true,Adm,Option.map_some,Et]
theorem Aqo:(Av.conv 144 9 .nilsl).sem prog=some (.str []):=by kernel_rfl
theorem Bd7:Cx prog 144=some 5:=by kernel_rfl
theorem sz5:Bw prog 5=some 1:=by kernel_rfl
theorem by5:Jm prog 5=some 1:=by kernel_rfl
theorem hz5:Kt prog 5 1=true:=by kernel_rfl
theorem Alz(b:UInt8):(Av.app 144 .nilsl (.sl [[.int .u8 (b.toNat:Int)]] .exact)).sem prog=some (.sl (bR [b]) .none):=Amt Bd7 sz5 by5 hz5 rfl rfl (by decide)
theorem Ape(acc:List UInt8)(b:UInt8)(g:Gr)(hne:acc≠ [])(hl:acc.length<1000):(Av.app1 144 (.sl (bR acc) g) (.sl [[.int .u8 (b.toNat:Int)]] .exact)).sem prog=some (.sl (bR (acc++ [b])) .none):=by
 rw[Anb Bd7 sz5 by5 hz5 rfl rfl (by decide) (Avi acc) (by simpa[bR]using hne) (by simp[bR];omega)]
 simp[bR]
def TxI(s:List UInt8)(R:Option (List UInt8 × Nat))(m a:Nat)(ds:List D):Prop:=∃(i:Nat) (acc:List UInt8) (x y:D),i≤s.length∧s.length - i<m∧acc.length≤i∧(Dv m (s.drop i)).map (fun p=>(acc++p.1,i+p.2))=R∧((a=0∧acc= []∧ds= [.int .i64 (i:Int),x,y])∨(a=1∧acc≠ []∧∃g gr,ds= [.int .i64 (i:Int),x,y,.sl (bR acc) gr,g]))
def txD(R:Option (List UInt8 × Nat)):D:=match R with
 |some (t,e)=> .tup [.str t,.int .i64 (e:Int)]
 |none=> .tup [.str [],.int .i64 (-1)]
section
variable{cf:Ah}{N:Nat}(hK:∀f,Ba (cf f))
variable(h182:∀(t:List UInt8),t.length<1000→Ao cf 160 [.str t] (Ai6 (Ht t)))
include hK h182 in
theorem Ayd(s:List UInt8)(at_:Nat)(ha:at_≤s.length)(hs:s.length<900)(hN:1000<N):
  Ao (run C1 cf N) 104 [.str s,.int .i64 (at_:Int)] (txD ((Dv (s.length - at_+1) (s.drop at_)).map fun p=>(p.1,at_+p.2))):=by
 refine Cg hK func104 bdy rfl rfl rfl (Bff _ _) ?_;generalize hR:(Dv (s.length - at_+1) (s.drop at_)).map (fun p=>(p.1,at_+p.2))=R;refine wp_loop (fun m a ds=>TxI s R m a ds) (s.length - at_+1) (by omega) ⟨at_,[],.str [],.int .i64 0,ha,by omega,Nat.zero_le _,by simpa using hR,.inl ⟨rfl,rfl,rfl⟩⟩ ?_
 rintro m a ds ⟨i,acc,x,y,hi,hm,hacc,ht,hds⟩;cases m with
 |zero=>omega
 |succ m=>
 have hend:¬ i<s.length→txD R= .tup [.str [],.int .i64 (-1)]:=fun h=>by
  have:i=s.length:=by omega
  subst this;rw[← ht];simp[Dv,txD]
 have hend2:¬ i<s.length→Ck (txD R) [.str [],.int .i64 (-1)]:=fun h=>by rw[hend h];exact Ns rfl rfl
 have hbad:R=none→Ck (txD R) [.str [],.int .i64 (-1)]:=fun h=>by rw[h];exact Ns rfl rfl
 by_cases hlt:i<s.length
 ·have hb:s[i]?=some s[i]:=List.getElem?_eq_getElem hlt;generalize hbb:s[i]=c at hb;have hd:s.drop i=c::s.drop (i+1):=by rw[Kb hlt,hbb]
  rw[hd]at ht;have e34:((c.toNat:Int) == 34)=(c == 34):=Be c 34;have e92:((c.toNat:Int) == 92)=(c == 92):=Be c 92;have hdr:s.drop i=c::s.drop (i+1):=hd;have hw1:IntKind.i64.wrap ((i:Int)+1)=((i+1:Nat):Int):=wrapN (by omega)
  have hesc0:∀{d:UInt8} {k:Nat},Ht (s.drop (i+1))=some (d,k)→IntKind.i64.wrap ((i:Int)+IntKind.i64.wrap ((k:Int)+1))=((i+1+k:Nat):Int)∧i+1+k≤s.length∧((k:Int) == 0)=false:=fun {d k} h=>by
   have hkk:=Adr h;rw[List.length_drop]at hkk;refine⟨?_,by omega,?_⟩
   ·rw[wrapN (show k<1000000 by omega),wrapM (by omega) (by omega)]
    omega
   ·have:(k:Int)≠0:=by omega
    simpa using this
  have hnext:∀{d:UInt8} {k:Nat},Ht (s.drop (i+1))=some (d,k)→(c == 34)=false→(c == 92)=true→(Dv m (s.drop (i+1+k))).map (fun p=>((acc++ [d])++p.1,(i+1+k)+p.2))=R:=fun {d k} he h34 h92=>by
   rw[← ht];simp only[Dv,h34,h92,he,BF,if_true,List.drop_drop,Option.map_map];congr 1
   ·funext p;simp;omega
  have hnext2:(c == 34)=false→(c == 92)=false→(decide ((c.toNat:Int)<32) || decide (126<(c.toNat:Int)))=false→(Dv m (s.drop (i+1))).map (fun p=>((acc++ [c])++p.1,(i+1)+p.2))=R:=fun h34 h92 hc=>by
   rw[← ht];simp only[Dv,h34,h92,hc,BF,Option.map_map];congr 1
   ·funext p;simp;omega
  rcases hds with⟨rfl,rfl,rfl⟩|⟨rfl,hne,g,gr,rfl⟩
  ·simp only[Ca,hv,tails,List.tail_cons,List.headD_cons,Aa,Fa,Da,Vz,Ac,hlt,decide_true,if_true,D5 hb,En,e34,e92];cases h34:c == 34 with
   |true=>simp only[if_true,Aqo,Bt,hw1,Ab];rw[← ht];simp only[Dv,h34,if_true,Option.map_some,txD,List.append_nil];exact Ns rfl rfl
   |false=>
   simp only[BF];cases h92:c == 92 with
   |true=>
    simp only[if_true,Bt,hw1,Ao1 (show i+1≤s.length by omega)]
    refine Aw rfl (h182 _ (by rw[List.length_drop];omega)) ?_
    cases he:Ht (s.drop (i+1))with
    |none=>simp only[Ai6,Aa,Ac,Hg,GC,En,beq_self_eq_true,if_true,Ab];refine hbad ?_;rw[← ht];simp only[Dv,h34,h92,he,BF,if_true,Option.map_none]
    |some p=>
     obtain⟨d,k⟩:=p;obtain⟨w1,w2,w3⟩:=hesc0 he;simp only[Ai6,Aa,Ac,Hg,GC,En,w3,BF,show(Av.slim (.int .u8 (d.toNat:Int))).sem prog=some (.int .u8 (d.toNat:Int))from rfl,A9,Al,if_true,Alz,Bt,w1,Bc,Az];refine⟨by simp,m,Nat.lt_succ_self m,i+1+k,[d],x,y,w2,by omega,by simp;omega,?_,.inr ⟨rfl,by simp,_,_,rfl⟩⟩
     have:=hnext he h34 h92;simpa using this
   |false=>
    simp only[BF,Aa,Ac,Jt];cases hc:(decide ((c.toNat:Int)<32) || decide (126<(c.toNat:Int)))with
    |true=>
     have hnn:R=none:=by rw[← ht];simp only[Dv,h34,h92,hc,BF,if_true,Option.map_none]
     cases h32:decide ((c.toNat:Int)<32)with
     |true=>simp only[if_true,Ab];exact hbad hnn
     |false=>rw[h32,Bool.false_or]at hc;simp only[BF,hc,if_true,Ab];exact hbad hnn
    |false=>
     have hnx:=hnext2 h34 h92 hc;rw[Bool.or_eq_false_iff]at hc;simp only[hc.1,hc.2,BF,show(Av.slim (.int .u8 (c.toNat:Int))).sem prog=some (.int .u8 (c.toNat:Int))from rfl,A9,Al,if_true,Alz,Bt,hw1,Bc,Az];refine⟨by simp,m,Nat.lt_succ_self m,i+1,[c],x,y,by omega,by omega,by simp,?_,.inr ⟨rfl,by simp,_,_,rfl⟩⟩
     simpa using hnx
  ·have hacl:acc.length<1000:=by omega
   simp only[Ca,hv,tails,List.tail_cons,List.headD_cons,Aa,Fa,Da,Vz,Ac,hlt,decide_true,if_true,D5 hb,En,e34,e92];cases h34:c == 34 with
   |true=>simp only[if_true,Akb,Bt,hw1,Ab];rw[← ht];simp only[Dv,h34,if_true,Option.map_some,txD,List.append_nil];exact Ns rfl rfl
   |false=>
   simp only[BF];cases h92:c == 92 with
   |true=>
    simp only[if_true,Bt,hw1,Ao1 (show i+1≤s.length by omega)]
    refine Aw rfl (h182 _ (by rw[List.length_drop];omega)) ?_
    cases he:Ht (s.drop (i+1))with
    |none=>simp only[Ai6,Aa,Ac,Hg,GC,En,beq_self_eq_true,if_true,Ab];refine hbad ?_;rw[← ht];simp only[Dv,h34,h92,he,BF,if_true,Option.map_none]
    |some p=>obtain⟨d,k⟩:=p;obtain⟨w1,w2,w3⟩:=hesc0 he;simp only[Ai6,Aa,Ac,Hg,GC,En,w3,BF,show(Av.slim (.int .u8 (d.toNat:Int))).sem prog=some (.int .u8 (d.toNat:Int))from rfl,A9,Al,if_true,Ape acc d gr hne hacl,Bt,w1,Bc,Az];refine⟨by simp,by simp,m,Nat.lt_succ_self m,i+1+k,acc++ [d],x,y,w2,by omega,by simp;omega,hnext he h34 h92,.inr ⟨rfl,by simp,_,_,rfl⟩⟩
   |false=>
    simp only[BF,Aa,Ac,Jt];cases hc:(decide ((c.toNat:Int)<32) || decide (126<(c.toNat:Int)))with
    |true=>
     have hnn:R=none:=by rw[← ht];simp only[Dv,h34,h92,hc,BF,if_true,Option.map_none]
     cases h32:decide ((c.toNat:Int)<32)with
     |true=>simp only[if_true,Ab];exact hbad hnn
     |false=>rw[h32,Bool.false_or]at hc;simp only[BF,hc,if_true,Ab];exact hbad hnn
    |false=>have hnx:=hnext2 h34 h92 hc;rw[Bool.or_eq_false_iff]at hc;simp only[hc.1,hc.2,BF,show(Av.slim (.int .u8 (c.toNat:Int))).sem prog=some (.int .u8 (c.toNat:Int))from rfl,A9,Al,if_true,Aa,Ape acc c gr hne hacl,Bt,hw1,Bc,Az];refine⟨by simp,by simp,m,Nat.lt_succ_self m,i+1,acc++ [c],x,y,by omega,by omega,by simp;omega,hnx,.inr ⟨rfl,by simp,_,_,rfl⟩⟩
 ·rcases hds with⟨rfl,rfl,rfl⟩|⟨rfl,hne,g,gr,rfl⟩
  ·simp only[Ca,hv,tails,List.tail_cons,List.headD_cons,Aa,Fa,Da,Vz,Ac,hlt,decide_false,BF,Ab];exact hend2 hlt
  ·simp only[Ca,hv,tails,List.tail_cons,List.headD_cons,Aa,Fa,Da,Vz,Ac,hlt,decide_false,BF,Ab];exact hend2 hlt
end
def O5:List UInt8:= [123,125,44,59,61,40,41,43,94,58,36]
def D7:List UInt8→Nat
 | []=>0
 |b::r=>if De b then 1+D7 r else 0
theorem Aaz:∀r:List UInt8,D7 r≤r.length
 | []=>Nat.le_refl 0
 |b::r=>by have:=Aaz r;unfold D7;simp only[List.length_cons];split<;>omega
def Fq(s:List UInt8)(i:Nat):Option (Wd × Nat):=
 if D7 (s.drop i)≠0 then some (⟨1,i,(s.drop i).take (D7 (s.drop i))⟩,i+D7 (s.drop i))
 else match s[i]? with
  |none=>none
  |some c=>if c == 34 then(Dv (s.length - (i+1)+1) (s.drop (i+1))).map fun p=>(⟨2,i,p.1⟩,(i+1)+p.2)
   else if O5.contains c then some (⟨3,i,[c]⟩,i+1)else none
theorem Ue{cs:List D}{e:Int}(h:F6 0 cs=false)(h':Eb Sk cs=some cs):Ck (.tup [.agg cs,.int .i64 e]) [.agg cs,.int .i64 e]:=by
 refine⟨by simp[D8,F6,h],[.agg cs,.int .i64 e],?_,rfl⟩
 simp only[Eb,Jf,h',Option.map_some,Sk]
section
variable{cf:Ah}{N:Nat}(hK:∀f,Ba (cf f))
 (h121:∀(t:List UInt8) (b:UInt8),Ao cf 102 [.str t,.int .u8 (b.toNat:Int)] (.int .i64 (Gv t b)))
 (h122:∀b:UInt8,Ao cf 103 [.int .u8 (b.toNat:Int)] (.bool (De b)))
 (h123:∀(s:List UInt8) (i:Nat),i≤s.length→s.length<900→Ao cf 104 [.str s,.int .i64 (i:Int)] (txD ((Dv (s.length - i+1) (s.drop i)).map fun p=>(p.1,i+p.2))))
theorem Uf{s:List UInt8}{i k:Nat}(h:k≤(s.drop i).length):(s.take (i+k)).drop i=(s.drop i).take k:=by rw[List.drop_take];congr 1;omega
def WdV(s:List UInt8)(i:Nat)(v:D):Prop:=match Fq s i with
 |some (w,e)=>v= .tup [.agg (Ci w),.int .i64 (e:Int)]
 |none=>∃w:Wd,v= .tup [.agg (Ci w),.int .i64 (-1)]
include hK h121 h122 h123 in
theorem A62(s:List UInt8)(at_:Nat)(ha:at_<s.length)(hs:s.length<900)(hN:1000<N):∃v,WdV s at_ v∧Ao (run C1 cf N) 54 [.str s,.int .i64 (at_:Int)] v:=by
 obtain⟨c,hc⟩:∃c,s[at_]?=some c:=⟨_,List.getElem?_eq_getElem ha⟩;have hd:s.drop at_=c::s.drop (at_+1):=by rw[Kb ha];congr 1;have:=List.getElem?_eq_getElem ha;rw[hc]at this;simpa using this.symm
 let v:D:=if D7 (s.drop at_)≠0 then .tup [.agg (Ci ⟨1,at_,(s.drop at_).take (D7 (s.drop at_))⟩),.int .i64 ((at_+D7 (s.drop at_):Nat):Int)]
  else if c == 34 then(match(Dv (s.length - (at_+1)+1) (s.drop (at_+1))).map fun p=>(p.1,(at_+1)+p.2)with
   |some (t,e)=> .tup [.agg (Ci ⟨2,at_,t⟩),.int .i64 (e:Int)]
   |none=> .tup [.agg (Ci ⟨2,at_,[]⟩),.int .i64 (-1)])
  else if O5.contains c then .tup [.agg (Ci ⟨3,at_,[c]⟩),.int .i64 ((at_+1:Nat):Int)]
  else .tup [.agg (Ci ⟨0,0,[]⟩),.int .i64 (-1)]
 refine⟨v,?_,?_⟩
 ·unfold WdV Fq;by_cases hl:D7 (s.drop at_)=0
  ·simp only[v,hl,ne_eq,not_true_eq_false,if_false,hc];cases h34:c == 34 with
   |true=>
    simp only[if_true];cases Dv (s.length - (at_+1)+1) (s.drop (at_+1))with
    |none=>exact⟨_,rfl⟩
    |some p=>rfl
   |false=>
    simp only[BF];cases O5.contains c with
    |true=>rfl
    |false=>exact⟨_,rfl⟩
  ·simp only[v,hl,ne_eq,not_false_eq_true,if_true]
 ·refine Cg hK func54 bdy rfl rfl rfl (Bh2 _ _) ?_;simp only[Bc];refine⟨by simp,?_⟩
  refine wp_loop (fun m a ds=>a=0∧∃i:Nat,ds= [.int .i64 (i:Int)]∧at_≤i∧i≤s.length∧i+D7 (s.drop i)=at_+D7 (s.drop at_)∧m=s.length - i) (s.length - at_) (by omega) ⟨rfl,at_,rfl,Nat.le_refl _,by omega,rfl,rfl⟩ ?_
  rintro m a ds ⟨rfl,i,rfl,hai,hi,ht,rfl⟩;have e34:((c.toNat:Int) == 34)=(c == 34):=Be c 34;have hw1:IntKind.i64.wrap ((at_:Int)+1)=((at_+1:Nat):Int):=wrapN (by omega)
  have hsl1:(s.take (at_+1)).drop at_= [c]:=by
   rw[Uf (by rw[List.length_drop];omega),hd]
   rfl
  have hlet:i+D7 (s.drop i)=at_+D7 (s.drop at_)→D7 (s.drop i)=0→decide ((at_:Int)<(i:Int))=true→v= .tup [.agg [.int .i64 1,.int .i64 (at_:Int),.str ((s.take i).drop at_)],.int .i64 (i:Int)]:=fun h1 h2 h3=>by
   have hlt:at_<i:=by simpa using h3
   have hne:D7 (s.drop at_)≠0:=by omega
   have hie:i=at_+D7 (s.drop at_):=by omega
   have hle:=Aaz (s.drop at_);simp only[v,if_pos hne];rw[← Uf hle,← hie];rfl
  have hrest:D7 (s.drop at_)=0→∀T1:D→Tree,(∀x,T1 x= .bind (.ext x 0) fun x12=> .bind (.ext x 1) fun x13=> .bind (.cell (.int .i64 (at_:Int))) fun x14=> .bind (.cell x12) fun x15=> .chk [x14,x15] (.leaf [(.agg [(.int .i64 2),x14,x15]),x13] []))→∀T2:D→Tree,(∀x,T2 x= .bind (.bin .geq 3 x (.int .i64 0)) fun x12=> .ite x12 (.bind (.bin .add 3 (.int .i64 (at_:Int)) (.int .i64 1)) fun x13=> .bind (.slc 9 (.str s) (some (.int .i64 (at_:Int))) (some x13) none) fun x14=> .bind (.cell (.int .i64 (at_:Int))) fun x15=> .bind (.cell x14) fun x16=>
     .bind (.bin .add 3 (.int .i64 (at_:Int)) (.int .i64 1)) fun x17=> .chk [x15,x16] (.leaf [(.agg [(.int .i64 3),x15,x16]),x17] [])) (.leaf [(.agg [(.int .i64 0),(.int .i64 0),(.str [])]),(.int .i64 (-1))] []))→
    ∀J,(if(c == 34)=true then wp prog cf N (fun rs os=>Ck v rs) (.call 104 [] [.str s,.int .i64 ((at_+1:Nat):Int)] [] T1) J else wp prog cf N (fun rs os=>Ck v rs) (.bind (.idx 9 (.str s) (.int .i64 (at_:Int))) fun x10=> .call 102 [] [.str O5,x10] [] T2) J):=fun h0 T1 hT1 T2 hT2 J=>by
   cases h34:c == 34 with
   |true=>
    simp only[if_true];refine Aw rfl (h123 s (at_+1) (by omega) hs) ?_
    rw[hT1];have hv:v=(match(Dv (s.length - (at_+1)+1) (s.drop (at_+1))).map fun p=>(p.1,(at_+1)+p.2)with
     |some (t,e)=> .tup [.agg (Ci ⟨2,at_,t⟩),.int .i64 (e:Int)]
     |none=> .tup [.agg (Ci ⟨2,at_,[]⟩),.int .i64 (-1)]):=by
     simp only[v,h0,ne_eq,not_true_eq_false,if_false,h34,if_true]
    rw[hv];cases(Dv (s.length - (at_+1)+1) (s.drop (at_+1))).map fun p=>(p.1,(at_+1)+p.2)with
    |none=>simp only[txD,Aa,Hg,GC,A9,Al,if_true,Ae,Ab];exact⟨rfl,Ue rfl rfl⟩
    |some p=>simp only[txD,Aa,Hg,GC,A9,Al,if_true,Ae,Ab];exact⟨rfl,Ue rfl rfl⟩
   |false=>
    simp only[BF,Aa,D5 hc];refine Aw rfl (h121 O5 c) ?_;rw[hT2];have hv:v=if O5.contains c then .tup [.agg (Ci ⟨3,at_,[c]⟩),.int .i64 ((at_+1:Nat):Int)]else .tup [.agg (Ci ⟨0,0,[]⟩),.int .i64 (-1)]:=by simp only[v,h0,ne_eq,not_true_eq_false,if_false,h34,Bool.false_eq_true]
    rw[hv];simp only[Aa,Lx,O8,Ac];cases O5.contains c with
    |true=>
     simp only[if_true,Bt,hw1,O0 (show at_≤at_+1 by omega) (show at_+1≤s.length by omega),hsl1,A9,Al,Ae,Ab]
     exact⟨rfl,Ue rfl rfl⟩
    |false=>simp only[BF,Ab];exact Ue rfl rfl
  simp only[Ca,hv,tails,List.headD_cons,Aa,Fa,Da,Vz,Ac];by_cases hlt:i<s.length
  ·obtain⟨b,hb⟩:∃b,s[i]?=some b:=⟨_,List.getElem?_eq_getElem hlt⟩;have hdi:s.drop i=b::s.drop (i+1):=by
    rw[Kb hlt];congr 1;have:=List.getElem?_eq_getElem hlt;rw[hb]at this;simpa using this.symm
   simp only[hlt,decide_true,if_true,D5 hb];refine Aw rfl (h122 b) ?_;simp only[Ac];cases hlb:De b with
   |true=>
    simp only[if_true,Aa,Bt,wrapN (show i<1000000 by omega),Bc,Az]
    refine⟨by simp,_,?_,rfl,i+1,rfl,by omega,hlt,?_,rfl⟩
    ·omega
    ·rw[← ht,hdi];simp only[D7,hlb,if_true];omega
   |false=>
    have hz:D7 (s.drop i)=0:=by rw[hdi];simp only[D7,hlb,BF]
    simp only[BF,Aa,Ac,Jt];cases hgt:decide ((at_:Int)<(i:Int))with
    |true=>simp only[if_true,O0 hai hi,A9,Al,Ae,Ab];rw[hlet ht hz hgt];exact⟨rfl,Ue rfl rfl⟩
    |false=>
     have h0:D7 (s.drop at_)=0:=by
      have:¬ at_<i:=by simpa using hgt
      have:i=at_:=by omega
      subst this;exact hz
     simp only[BF,Aa,Ac,D5 hc,En,e34,Bt,hw1];have:=hrest h0 _ (fun _=>rfl) _ (fun _=>rfl) (List.take 0 ([]:List (Nat→List D→Prop))++ [fun a' ds'=>∃n',n'<s.length - i∧a'=0∧∃i,ds'= [.int .i64 (i:Int)]∧at_≤i∧i≤s.length∧i+D7 (s.drop i)=at_+D7 (s.drop at_)∧n'=s.length - i]);simp only[Aa,D5 hc]at this;exact this
  ·have hie:i=s.length:=by omega
   have hz:D7 (s.drop i)=0:=by rw[hie];simp[D7]
   have hgt:decide ((at_:Int)<(i:Int))=true:=by simp;omega
   simp only[hlt,decide_false,BF,Aa,Ac,Jt,hgt,if_true,O0 hai hi,A9,Al,Ae,Ab];rw[hlet ht hz hgt];exact⟨rfl,Ue rfl rfl⟩
end
theorem Ui:∀{n:Nat} {r t:List UInt8} {k:Nat},Dv n r=some (t,k)→1≤k∧k≤r.length∧t.length≤k
 |0,_,_,_,h=>by simp[Dv]at h
 |_+1,[],_,_,h=>by simp[Dv]at h
 |n+1,c::r,t,k,h=>by
  unfold Dv at h;split at h
  ·cases h;simp
  split at h
  ·split at h
   ·cases h
   ·rename_i d j he;simp only[Option.map_eq_some_iff,Prod.mk.injEq]at h;obtain⟨⟨t',k'⟩,h1,rfl,rfl⟩:=h;have h2:=Ui h1;have h3:=Adr he;rw[List.length_drop]at h2;simp only[List.length_cons];omega
  ·split at h
   ·cases h
   ·simp only[Option.map_eq_some_iff,Prod.mk.injEq]at h;obtain⟨⟨t',k'⟩,h1,rfl,rfl⟩:=h;have h2:=Ui h1;simp only[List.length_cons];omega
theorem Mq{s:List UInt8}{i e:Nat}{w:Wd}(hi:i<s.length)(h:Fq s i=some (w,e)):i<e∧e≤s.length:=by
 unfold Fq at h;split at h
 ·rename_i hl;have:=Aaz (s.drop i);rw[List.length_drop]at this;cases h;omega
 ·split at h
  ·cases h
  ·split at h
   ·simp only[Option.map_eq_some_iff,Prod.mk.injEq]at h;obtain⟨⟨t,k⟩,h1,_,rfl⟩:=h;have:=Ui h1;rw[List.length_drop]at this;dsimp only;omega
   ·split at h
    ·cases h;omega
    ·cases h
def M6:Nat→List UInt8→Nat→Except Nat (List Wd)
 |0,_,i=> .error i
 |n+1,s,i=>if i<s.length then match Fq s i with
   |none=> .error i
   |some (w,e)=>match M6 n s (e+Db false (s.drop e))with
    | .ok l=> .ok (w::l)
    | .error j=> .error j
  else .ok []
def Y8(s:List UInt8):Except Nat (List Wd):=M6 (s.length+1) s (Db false s)
def Uy(L:Nat)(o:Except Nat (List Wd)):D:=match o with
 | .ok ws=> .tup [.sl (Dt L ws) .none,.agg [.int .i64 0,.int .i64 0]]
 | .error i=> .tup [.sl [] .none,.agg [.int .i64 1,.int .i64 (i:Int)]]
def Nk(acc:List Wd)(o:Except Nat (List Wd)):Except Nat (List Wd):=match o with
 | .ok l=> .ok (acc++l)
 | .error j=> .error j
theorem Bfk:Cx prog 59=some 67:=by kernel_rfl
theorem Bdn:Jm prog 67=some 32:=by kernel_rfl
theorem Bfs:Kt prog 67 3=true:=by kernel_rfl
theorem X7(w:Wd):(Av.app 59 .nilsl (.sl [Ci w] .exact)).sem prog=some (.sl ([w].map Ci) .none):=Amt Bfk Tz Bdn Bfs rfl rfl (by decide)
theorem Aa3(acc:List Wd)(w:Wd)(g:Gr)(hne:acc≠ [])(hl:acc.length<10000):(Av.app1 59 (.sl (acc.map Ci) g) (.sl [Ci w] .exact)).sem prog=some (.sl ((acc++ [w]).map Ci) .none):=by
 rw[Anb Bfk Tz Bdn Bfs rfl rfl (by decide) (fun x hx=>by obtain⟨w,_,rfl⟩:=List.mem_map.1 hx;rfl) (by simpa using hne) (by simp;omega)]
 simp
theorem Atm(L:Nat)(o:Except Nat (List Wd)):D8 0 (Uy L o)=false:=by
 cases o with
 |error i=>rfl
 |ok ws=>simp[Uy,D8,F6,Yu]
theorem Aa0{L:Nat}{ws:List Wd}{g:Gr}{d:D}(h:Sk d=some (.sl (Dt L ws) .none)):Ck (Uy L (.ok ws)) [d,.agg [.int .i64 0,.int .i64 0]]:=by
 refine⟨Atm L _,[.sl (Dt L ws) .none,.agg [.int .i64 0,.int .i64 0]],?_,rfl⟩;have h2:Jf d=some (.sl (Dt L ws) .none):=by cases d<;>first|exact h|(simp[Sk]at h)
 simp only[Eb,h2];rfl
theorem Pm{L i:Nat}:Ck (Uy L (.error i)) [.nilsl,.agg [.int .i64 1,.int .i64 (i:Int)]]:=⟨rfl,_,rfl,rfl⟩
section
variable{cf:Ah}{N:Nat}(hK:∀f,Ba (cf f))
 (h66:∀(s:List UInt8) (i:Nat),i≤s.length→s.length<900→Ao cf 53 [.str s,.int .i64 (i:Int)] (.int .i64 ((i+Db false (s.drop i):Nat):Int)))
 (h67:∀(s:List UInt8) (i:Nat),i<s.length→s.length<900→∃v,WdV s i v∧Ao cf 54 [.str s,.int .i64 (i:Int)] v)
def Bg7(s:List UInt8)(R:Except Nat (List Wd))(m a:Nat)(ds:List D):Prop:=∃(i:Nat) (acc:List Wd) (x:D),i≤s.length∧s.length - i<m∧acc.length≤i∧Nk acc (M6 m s i)=R∧((a=0∧acc= []∧ds= [x,.int .i64 (i:Int)])∨(a=1∧acc≠ []∧∃g gr,ds= [x,.sl (acc.map Ci) gr,g,.int .i64 (i:Int)]))
include hK h66 h67 in
theorem Bbd(s:List UInt8)(hs:s.length<900)(hN:1000<N):Ao (run C1 cf N) 23 [.str s] (Uy s.length (Y8 s)):=by
 refine Cg hK func23 bdy rfl rfl rfl (Bhm _) ?_;refine Aw rfl (h66 s 0 (Nat.zero_le _) hs) ?_;simp only[Bc,List.drop_zero,Nat.zero_add];refine⟨by simp,?_⟩
 unfold Y8;generalize hR:M6 (s.length+1) s (Db false s)=R;have hsk:=O7 false s;refine wp_loop (Bg7 s R) (s.length+1) (by omega) ⟨Db false s,[],.nilsl,hsk,by omega,Nat.zero_le _,by unfold Nk;rw[hR];cases R<;>rfl,.inl ⟨rfl,rfl,rfl⟩⟩ ?_
 rintro m a ds ⟨i,acc,x,hi,hm,hacc,ht,hds⟩;cases m with
 |zero=>omega
 |succ m=>
 have hrow:(Av.slm (.int .i64 4)).sem prog=some (.int .i64 4):=rfl;by_cases hlt:i<s.length
 ·obtain⟨v,hv1,hv2⟩:=h67 s i hlt hs;have hstep:∀{w:Wd} {e:Nat},Fq s i=some (w,e)→Nk (acc++ [w]) (M6 m s (e+Db false (s.drop e)))=R:=fun {w e} h=>by
   rw[← ht];simp only[M6,hlt,if_true,h];cases M6 m s (e+Db false (s.drop e))with
   |error j=>rfl
   |ok l=>simp[Nk]
  have hnone:Fq s i=none→R= .error i:=fun h=>by rw[← ht];simp only[M6,hlt,if_true,h];rfl
  have hidx:∀{w:Wd} {e:Nat},Fq s i=some (w,e)→e≤s.length∧i<e∧e+Db false (s.drop e)≤s.length:=fun {w e} h=>by obtain⟨h1,h2⟩:=Mq hlt h;have:=O7 false (s.drop e);rw[List.length_drop]at this;omega
  rcases hds with⟨rfl,rfl,rfl⟩|⟨rfl,hne,g,gr,rfl⟩
  ·simp only[Ca,hv,tails,List.tail_cons,List.headD_cons,Aa,Fa,Da,Vz,Ac,hlt,decide_true,if_true];refine Aw rfl hv2 ?_;unfold WdV at hv1;split at hv1
   ·rename_i w e hw;obtain⟨q1,q2,q3⟩:=hidx hw;rw[hv1];simp only[Aa,Ac,Hg,GC,Ci,M5,List.length_cons,List.length_nil,if_true,gc,cl,D.cells,List.getD_cons_zero,List.getD_cons_succ,Ae,Da,show decide ((e:Int)<0)=false from by simp,BF,Jj,Ot]
    have happ:=X7 w;simp only[Ci]at happ;rw[happ];refine⟨rfl,Aw rfl (h66 s e q1 hs) ?_⟩;simp only[Bc,Az];refine⟨by simp,m,Nat.lt_succ_self m,e+Db false (s.drop e),[w],x,q3,by omega,by simp;omega,by simpa using hstep hw,.inr ⟨rfl,by simp,_,_,rfl⟩⟩
   ·rename_i hw;obtain⟨w,hv1⟩:=hv1;rw[hv1];simp only[Aa,Ac,Hg,GC,Ci,M5,List.length_cons,List.length_nil,if_true,gc,cl,D.cells,List.getD_cons_zero,List.getD_cons_succ,Ae,Da,show decide ((-1:Int)<0)=true from rfl,A9,Al,Ab];rw[hnone hw];exact⟨rfl,rfl,Pm⟩
  ·simp only[Ca,hv,tails,List.tail_cons,List.headD_cons,Aa,Fa,Da,Vz,Ac,hlt,decide_true,if_true];refine Aw rfl hv2 ?_;unfold WdV at hv1;split at hv1
   ·rename_i w e hw;obtain⟨q1,q2,q3⟩:=hidx hw;rw[hv1];simp only[Aa,Ac,Hg,GC,Ci,M5,List.length_cons,List.length_nil,if_true,gc,cl,D.cells,List.getD_cons_zero,List.getD_cons_succ,Ae,Da,show decide ((e:Int)<0)=false from by simp,BF,Jj,Ot,Bc]
    have happ:=Aa3 acc w gr hne (by omega)
    simp only[Ci]at happ;rw[happ];refine⟨rfl,by simp,Aw rfl (h66 s e q1 hs) ?_⟩
    simp only[Bc,Az];refine⟨by simp,m,Nat.lt_succ_self m,e+Db false (s.drop e),acc++ [w],x,q3,by omega,by simp;omega,hstep hw,.inr ⟨rfl,by simp,_,_,rfl⟩⟩
   ·rename_i hw;obtain⟨w,hv1⟩:=hv1;rw[hv1];simp only[Aa,Ac,Hg,GC,Ci,M5,List.length_cons,List.length_nil,if_true,gc,cl,D.cells,List.getD_cons_zero,List.getD_cons_succ,Ae,Da,show decide ((-1:Int)<0)=true from rfl,A9,Al,Ab];rw[hnone hw];exact⟨rfl,rfl,Pm⟩
 ·have hR2:R= .ok acc:=by
   rw[← ht];simp only[M6,hlt,if_false,Nk,List.append_nil]
  have hend:Dt s.length acc=(acc++ [Nq s.length]).map Ci:=by simp[Dt]
  rcases hds with⟨rfl,rfl,rfl⟩|⟨rfl,hne,g,gr,rfl⟩
  ·simp only[Ca,hv,tails,List.tail_cons,List.headD_cons,Aa,Fa,Da,Vz,Ac,hlt,decide_false,BF,A9,Al,if_true,Jj];have happ:=X7 (Nq s.length);simp only[Ci,Nq]at happ;rw[show(Av.app 59 .nilsl (.sl [[.int .i64 4,.int .i64 (s.length:Int),.str []]] .exact)).sem prog=some (.sl ([Nq s.length].map Ci) .none)from happ];simp only[Ab];rw[hR2];exact Aa0 (g:= .none) rfl
  ·simp only[Ca,hv,tails,List.tail_cons,List.headD_cons,Aa,Fa,Da,Vz,Ac,hlt,decide_false,BF,A9,Al,if_true,Jj,Bc];have happ:=Aa3 acc (Nq s.length) gr hne (by omega)
   simp only[Ci,Nq]at happ;rw[show(Av.app1 59 (.sl (acc.map Ci) gr) (.sl [[.int .i64 4,.int .i64 (s.length:Int),.str []]] .exact)).sem prog=some (.sl ((acc++ [Nq s.length]).map Ci) .none)from happ];simp only[Ab];rw[hR2];refine⟨by simp,Aa0 (g:= .none) ?_⟩
   rw[hend];rfl
def Lf(l:List (List UInt8)):List (List D):=l.map fun t=> [.str t]
def Ja(l:List (List UInt8))(t:List UInt8):Int:=match l.findIdx? (· == t)with
 |some i=>(i:Int)
 |none=> -1
theorem Ahm(l:List (List UInt8))(g:Gr):(Av.ln 23 (.sl (Lf l) g)).sem prog=some (.int .i64 (l.length:Int)):=by have h:prog.underlying 23=some (.slice 9):=underlying23;simp only[Av.sem,Ny,h,Et,Lf,List.length_map]
theorem Yc{l:List (List UInt8)}{g:Gr}{i:Nat}{t:List UInt8}(h:l[i]?=some t):(Av.ia 23 (.sl (Lf l) g) (.int .i64 (i:Int))).sem prog=some (.eptr [.str t]):=by
 have hu:prog.underlying 23=some (.slice 9):=underlying23;have hn:E5 (.int .i64 (i:Int))=some i:=by simp[E5]
 have hr:(Lf l)[i]?=some [.str t]:=by simp[Lf,h]
 simp only[Av.sem,Cf,hn,hu,hr,Ami,List.length_cons,List.length_nil,if_true,Et]
include hK in
theorem Azg(l:List (List UInt8))(g:Gr)(t:List UInt8)(hl:l.length<1000)(hN:1000<N):Ao (run C1 cf N) 64 [.sl (Lf l) g,.str t] (.int .i64 (Ja l t)):=by
 refine Cg hK func64 bdy rfl rfl rfl (Be4 _ _) ?_;simp only[Aa,Ahm];refine wp_loop (fun m a ds=>a=0∧∃(i:Nat) (x:D),ds= [x,.int .i64 (i:Int)]∧i≤l.length∧m=l.length - i∧∀j,j<i→l[j]?≠some t) l.length (by omega) ⟨rfl,0,_,rfl,Nat.zero_le _,rfl,fun j hj=>absurd hj (Nat.not_lt_zero j)⟩ ?_
 rintro m a ds ⟨rfl,i,x,rfl,hi,rfl,hno⟩;simp only[Ca,hv,tails,List.tail_cons,List.headD_cons,Aa,Da,Vz,Ac];by_cases hlt:i<l.length
 ·obtain⟨u,hu⟩:∃u,l[i]?=some u:=⟨_,List.getElem?_eq_getElem hlt⟩;simp only[hlt,decide_true,if_true,Yc hu,Tc,Di,Aa,Ac];cases he:t == u with
  |true=>
   simp only[if_true,Ab];have:Ja l t=(i:Int):=by
    unfold Ja;have h1:l.findIdx? (· == t)=some i:=by
     rw[List.findIdx?_eq_some_iff_getElem];refine⟨hlt,?_,fun j hj=>?_⟩
     ·have:=List.getElem?_eq_getElem hlt;rw[hu]at this;cases this;rw[beq_iff_eq]at he ⊢;exact he.symm
     ·have hjl:j<l.length:=by omega
      have:=hno j hj;rw[List.getElem?_eq_getElem hjl]at this;simpa using this
    rw[h1]
   rw[this];exact Bf rfl
  |false=>
   simp only[BF,Bt,wrapN (show i<1000000 by omega),Az]
   refine⟨_,?_,rfl,i+1,x,rfl,hlt,rfl,fun j hj=>?_⟩
   ·omega
   ·rcases Nat.lt_or_ge j i with h|h
    ·exact hno j h
    ·have:j=i:=by omega
     subst this;rw[hu];intro hc;cases hc;simp at he
 ·simp only[hlt,decide_false,BF,Ab];have:Ja l t= -1:=by
   unfold Ja;have h1:l.findIdx? (· == t)=none:=by
    rw[List.findIdx?_eq_none_iff];intro u hu;obtain⟨j,hj⟩:=List.mem_iff_getElem?.1 hu;have hjl:=(List.getElem?_eq_some_iff.1 hj).1;have:=hno j (by omega)
    rw[hj]at this;simpa using this
   rw[h1]
  rw[this];exact Bf rfl
theorem Yy(l:List (List UInt8))(t:List UInt8):decide (0≤Ja l t)=l.contains t:=by
 unfold Ja;cases h:l.findIdx? (· == t)with
 |none=>
  rw[List.findIdx?_eq_none_iff]at h;have:l.contains t=false:=by rw[Bool.eq_false_iff];intro hc;have:=h t (List.contains_iff_mem.1 hc);simp at this
  rw[this];rfl
 |some i=>
  obtain⟨h1,h2,_⟩:=List.findIdx?_eq_some_iff_getElem.1 h;have:l.contains t=true:=by rw[List.contains_iff_mem,← beq_iff_eq.1 h2];exact List.getElem_mem h1
  rw[this];simp
include hK in
theorem Bbj(l:List (List UInt8))(g:Gr)(t:List UInt8)(h112:Ao cf 64 [.sl (Lf l) .none,.str t] (.int .i64 (Ja l t))):Ao (run C1 cf N) 36 [.sl (Lf l) g,.str t] (.bool (l.contains t)):=by refine Cg hK func36 bdy rfl rfl rfl (Bhq _ _) ?_;refine Aw rfl h112 ?_;simp only[Aa,Lx,Yy,Ab];exact Bf rfl
include hK in
theorem A3w:Ao (run C1 cf N) 161 [] (.sl (Lf Bl) .none):=by refine Cg hK func161 bdy rfl rfl rfl Bdl ?_;rw[Ab];exact⟨rfl,_,rfl,rfl⟩
include hK in
theorem A2n(t:List UInt8)(may:List UInt8→Bool)(h185:Ao cf 163 [.str t] (.bool (may t)))(h183:Ao cf 161 [] (.sl (Lf Bl) .none))(h56:Ao cf 36 [.sl (Lf Bl) .none,.str t] (.bool (Bl.contains t))):
  Ao (run C1 cf N) 108 [.str t] (.bool (may t && (!(t == [45]) && !Bl.contains t))):=by
 refine Cg hK func108 bdy rfl rfl rfl (Bfl _) ?_;refine Aw rfl h185 ?_;simp only[Ac];cases may t with
 |false=>simp only[BF,Ab,Bool.false_and];exact Bf rfl
 |true=>
  simp only[if_true,Aa,Ag7,Ac,Bool.true_and];cases t == [45]with
  |true=>simp only[Bool.not_true,BF,Ab,Bool.false_and];exact Bf rfl
  |false=>simp only[Bool.not_false,if_true,Bool.true_and];refine Aw rfl h183 ?_;refine Aw rfl h56 ?_;simp only[Aa,K5,Ab];exact Bf rfl
include hK in
theorem A03(t:List UInt8)(gn:List UInt8→Int × Bool)(h263:Ao cf 234 [.str t,.int .i64 1000] (.tup [.int .i64 (gn t).1,.bool (gn t).2])):Ao (run C1 cf N) 233 [.str t] (.bool (gn t).2):=by refine Cg hK func233 bdy rfl rfl rfl (Be5 _) ?_;refine Aw rfl h263 ?_;simp only[Aa,Hg,GC,Ab];exact Bf rfl
end
end Go.Vam
