/-
  The parser of queries, walked.
-/
import Derived.Test.YtcdogmjbnlmgeaaGreatDoorVcb
set_option linter.unusedSimpArgs false
set_option linter.unusedVariables false
set_option linter.unusedSectionVars false
set_option maxRecDepth 1000000
namespace Go.Vam
open Go.Proofs Go.Proofs.Tryz
theorem Bim(x0 x1 x2 x3:D):Hd C1 68 f68 (bd f68) [] [.ptr 0 0,.dyn x0,.dyn x1] [.cells [.dyn x2,.dyn x3]]=
 .bind (.bin .lss 3 x3 i0) fun x4=>
 .ite x4 (
  .bind (.ia 59 x2 i0) fun x5=>
  .bind (.fa 67 x5 0) fun x6=>
  .bind (.ld 3 x6) fun x7=>
  .bind (.bin .eql 3 x7 x0) fun x8=>
  .ite x8 (
  .bind (.ia 59 x2 i0) fun x9=>
  .bind (.fa 67 x9 2) fun x10=>
  .bind (.ld 9 x10) fun x11=>
  .bind (.bin .eql 9 x11 x1) fun x12=>
  .leaf [x12] [[x2,x3]]) (
  .leaf [bf] [[x2,x3]])) (
  .leaf [bf] [[x2,x3]]):=by kernel_rfl
theorem Bh6(x0 x1:D):Hd C1 31 f31 (bd f31) [] [.ptr 0 0] [.cells [.dyn x0,.dyn x1]]=
 .bind (.bin .lss 3 x1 i0) fun x2=>
 .ite x2 (
  .bind (.ia 59 x0 i0) fun x3=>
  .bind (.fa 67 x3 1) fun x4=>
  .bind (.ld 3 x4) fun x5=>
  .bind (.cell x5) fun x6=>
  .chk [x6] (
  .leaf [] [[x0,x6]])) (
  .leaf [] [[x0,x1]]):=by kernel_rfl
theorem Bic(x0 x1 x2 x3:D):Hd C1 70 f70 (bd f70) [] [.ptr 0 0,.dyn x0,.dyn x1] [.cells [.dyn x2,.dyn x3]]=
 .meth 68 [] [none,(some x0),(some x1)] [] [x2,x3] fun x4 x5=>
 .bind (.un .not x4) fun x6=>
 .ite x6 (
  .meth 31 [] [none] [] (gl x5 2) fun x7 x8=>
  .leaf [] [(gl x8 2)]) (
  .bind (.slc 59 (gd x5 0) (some i1) none none) fun x7=>
  .bind (.cell x7) fun x8=>
  .chk [x8] (
  .leaf [] [[x8,(gd x5 1)]])):=by kernel_rfl
theorem Bh0(x0 x1 x2:D):Hd C1 72 f72 (bd f72) [] [.ptr 0 0,.dyn x0] [.cells [.dyn x1,.dyn x2]]=
 .meth 70 [] [none,(some (.int .i64 3)),(some x0)] [] [x1,x2] fun x3 x4=>
 .leaf [] [(gl x4 2)]:=by kernel_rfl
theorem Bij(x0 x1:D):Hd C1 71 f71 (bd f71) [] [.ptr 0 0] [.cells [.dyn x0,.dyn x1]]=
 .meth 126 [] [none,(some i1),(some (.func 127 [] []))] [] [x0,x1] fun x2 x3=>
 .leaf [x2] [(gl x3 2)]:=by kernel_rfl
noncomputable def Tu(g:FuncId)(x0 x1 x2:D):Tree:=
 .bind (.bin .geq 3 x2 i0) fun x3=>
 .ite x3 (
  .meth 31 [] [none] [] [x1,x2] fun x4 x5=>
  .leaf [s0] [(gl x5 2)]) (
  .bind (.ia 59 x1 i0) fun x4=>
  .bind (.fa 67 x4 0) fun x5=>
  .bind (.ld 3 x5) fun x6=>
  .bind (.bin .neq 3 x6 x0) fun x7=>
  .ite x7 (
  .meth 31 [] [none] [] [x1,x2] fun x8 x9=>
  .leaf [s0] [(gl x9 2)]) (
  .bind (.ia 59 x1 i0) fun x8=>
  .bind (.fa 67 x8 2) fun x9=>
  .bind (.ld 9 x9) fun x10=>
  .call g [] [x10] [] fun x11=>
  .bind (.un .not x11) fun x12=>
  .ite x12 (
   .meth 31 [] [none] [] [x1,x2] fun x13 x14=>
   .leaf [s0] [(gl x14 2)]) (
   .bind (.ia 59 x1 i0) fun x13=>
   .bind (.ld 67 x13) fun x14=>
   .bind (.agg 3 x14) fun x15=>
   .chk (cl x15 3) (
   .bind (.slc 59 x1 (some i1) none none) fun x16=>
   .bind (.cell x16) fun x17=>
   .chk [x17] (
   .leaf [(gc x15 2)] [[x17,x2]])))))
theorem Bcu(x0 x1 x2:D):Hd C1 126 f126 (bd f126) [] [.ptr 0 0,.dyn x0,.lit (.func 127 [] [])] [.cells [.dyn x1,.dyn x2]]=Tu 127 x0 x1 x2:=by kernel_rfl
theorem A8p(x0 x1 x2:D):Hd C1 126 f126 (bd f126) [] [.ptr 0 0,.dyn x0,.lit (.func 264 [] [])] [.cells [.dyn x1,.dyn x2]]=Tu 264 x0 x1 x2:=by kernel_rfl
theorem A8u(x0 x1 x2:D):Hd C1 126 f126 (bd f126) [] [.ptr 0 0,.dyn x0,.lit (.func 262 [] [])] [.cells [.dyn x1,.dyn x2]]=Tu 262 x0 x1 x2:=by kernel_rfl
theorem A7c(x0 x1 x2:D):Hd C1 126 f126 (bd f126) [] [.ptr 0 0,.dyn x0,.lit (.func 228 [] [])] [.cells [.dyn x1,.dyn x2]]=Tu 228 x0 x1 x2:=by kernel_rfl
theorem Bdv(x0 x1:D):Hd C1 227 f227 (bd f227) [] [.ptr 0 0] [.cells [.dyn x0,.dyn x1]]=
 .meth 126 [] [none,(some i1),(some (.func 264 [] []))] [] [x0,x1] fun x2 x3=>
 .leaf [x2] [(gl x3 2)]:=by kernel_rfl
theorem Beb(x0:D):Hd C1 264 f264 (bd f264) [] [.dyn x0] []=
 .bind (.bin .eql 9 x0 (.str [114,117,108,101])) fun x1=>
 .ite x1 (
  .leaf [bt] []) (
  .bind (.bin .eql 9 x0 (.str [109,97,100,101])) fun x2=>
  .ite x2 (
  .leaf [bt] []) (
  .bind (.bin .eql 9 x0 (.str [115,111,117,114,99,101])) fun x3=>
  .leaf [x3] [])):=by kernel_rfl
theorem Bfj(x0 x1:D):Hd C1 226 f226 (bd f226) [] [.ptr 0 0] [.cells [.dyn x0,.dyn x1]]=
 .meth 126 [] [none,(some i1),(some (.func 262 [] []))] [] [x0,x1] fun x2 x3=>
 .call 263 [] [x2,.int .i64 1000] [] fun x4=>
 .bind (.ext x4 0) fun x5=>
 .bind (.ext x4 1) fun x6=>
 .leaf [x5] [(gl x3 2)]:=by kernel_rfl
theorem Bfz(x0:D):Hd C1 228 f228 (bd f228) [] [.dyn x0] []=
 .leaf [bt] []:=by kernel_rfl
theorem Beu(x0 x1:D):Hd C1 125 Tryz.f125 (bd Tryz.f125) [] [.ptr 0 0] [.cells [.dyn x0,.dyn x1]]=
 .meth 68 [] [none,(some (.int .i64 3)),(some (.str [43]))] [] [x0,x1] fun x2 x3=>
 .ite x2 (
  .leaf [.int .i64 3] [(gl x3 2)]) (
  .meth 68 [] [none,(some (.int .i64 3)),(some (.str [94]))] [] (gl x3 2) fun x4 x5=>
  .ite x4 (
  .leaf [.int .i64 4] [(gl x5 2)]) (
  .meth 68 [] [none,(some i1),(some (.str [45]))] [] (gl x5 2) fun x6 x7=>
  .ite x6 (
   .leaf [.int .i64 5] [(gl x7 2)]) (
   .leaf [i0] [(gl x7 2)]))):=by kernel_rfl
theorem Bha(x0 x1:D):Hd C1 69 f69 (bd f69) [{alts:= [[]],objs:= [0,1,2]}] [.ptr 0 0] [.cells [.dyn x0,.dyn x1]]=
 .meth 124 [] [none] [] [x0,x1] fun x2 x3=>
 .bind (.agg 7 x2) fun x4=>
 .chk (cl x4 7) (
 .meth 125 [] [none] [] (gl x3 2) fun x5 x6=>
 .loop 0 0 [x5,(gd x6 0),(gd x6 1),i0,i0,bf,s0,s0,i0,.nilsl,(gc x4 0),(gc x4 1),(gc x4 2),(gc x4 3),(gc x4 4),(gc x4 5),(gc x4 6)] (Ca [fun x7=>
  .bind (.bin .neq 3 (hv x7 0) i0) fun x8=>
  .ite x8 (
  .bind (.ia 59 (hv x7 1) i0) fun x9=>
  .bind (.fa 67 x9 1) fun x10=>
  .bind (.ld 3 x10) fun x11=>
  .bind (.slc 59 (hv x7 1) (some i1) none none) fun x12=>
  .bind (.cell x12) fun x13=>
  .chk [x13] (
  .meth 124 [] [none] [] [x13,(hv x7 2)] fun x14 x15=>
  .bind (.slm (hv x7 10)) fun x16=>
  .bind (.slm (hv x7 11)) fun x17=>
  .bind (.slm (hv x7 12)) fun x18=>
  .bind (.slm (hv x7 13)) fun x19=>
  .bind (.slm (hv x7 14)) fun x20=>
  .bind (.slm (hv x7 15)) fun x21=>
  .bind (.slm (hv x7 16)) fun x22=>
  .bind (.slim x14) fun x23=>
  .bind (.agg 7 x23) fun x24=>
  .bind (.cell (hv x7 0)) fun x25=>
  .bind (.cell x11) fun x26=>
  .chk [x25,x26] (
  .meth 125 [] [none] [] (gl x15 2) fun x27 x28=>
  .again 0 0 [x27,(gd x28 0),(gd x28 1),(hv x7 3),(hv x7 4),(hv x7 5),(hv x7 6),(hv x7 7),(hv x7 8),(hv x7 9),x25,x26,bf,s0,s0,i0,(.sl [[x16,x17,x18,x19,x20,x21,x22],(cl x24 7)] .exact)]))) (
  .chk [(hv x7 10),(hv x7 11),(hv x7 12),(hv x7 13),(hv x7 14),(hv x7 15),(hv x7 16)] (
  .leaf [.agg [(hv x7 10),(hv x7 11),(hv x7 12),(hv x7 13),(hv x7 14),(hv x7 15),(hv x7 16)]] [[(hv x7 1),(hv x7 2)]]))])):=by kernel_rfl
theorem Bgo(x0 x1:D):Hd C1 30 f30 (bd f30) [] [.ptr 0 0] [.cells [.dyn x0,.dyn x1]]=
 .meth 68 [] [none,(some i1),(some (.str [108,101,116]))] [] [x0,x1] fun x2 x3=>
 .bind (.un .not x2) fun x4=>
 .ite x4 (
  .meth 69 [] [none] [] (gl x3 2) fun x5 x6=>
  .bind (.agg 7 x5) fun x7=>
  .chk (cl x7 7) (
  .leaf [.agg (cl x7 7)] [(gl x6 2)])) (
  .bind (.ia 59 (gd x3 0) i0) fun x5=>
  .bind (.fa 67 x5 1) fun x6=>
  .bind (.ld 3 x6) fun x7=>
  .bind (.cell x7) fun x8=>
  .chk [x8] (
  .meth 70 [] [none,(some i1),(some (.str [108,101,116]))] [] (gl x3 2) fun x9 x10=>
  .meth 71 [] [none] [] (gl x10 2) fun x11 x12=>
  .bind (.cell x11) fun x13=>
  .chk [x13] (
  .meth 72 [] [none,(some (.str [61]))] [] (gl x12 2) fun x14 x15=>
  .meth 30 [] [none] [] (gl x15 2) fun x16 x17=>
  .bind (.slim x16) fun x18=>
  .bind (.agg 7 x18) fun x19=>
  .meth 70 [] [none,(some i1),(some (.str [105,110]))] [] (gl x17 2) fun x20 x21=>
  .meth 30 [] [none] [] (gl x21 2) fun x22 x23=>
  .bind (.slim x22) fun x24=>
  .bind (.agg 7 x24) fun x25=>
  .bind (.app 27 (.sl [(cl x19 7)] .exact) (.sl [(cl x25 7)] .exact)) fun x26=>
  .chk [x8,x13] (
  .leaf [.agg [(.int .i64 12),x8,bf,s0,x13,i0,x26]] [(gl x23 2)])))):=by kernel_rfl
theorem Beh(x0 x1:D):Hd C1 124 f124 (bd f124) [] [.ptr 0 0] [.cells [.dyn x0,.dyn x1]]=
 .bind (.ia 59 x0 i0) fun x2=>
 .bind (.fa 67 x2 1) fun x3=>
 .bind (.ld 3 x3) fun x4=>
 .meth 68 [] [none,(some (.int .i64 3)),(some (.str [58]))] [] [x0,x1] fun x5 x6=>
 .ite x5 (
  .meth 72 [] [none,(some (.str [58]))] [] (gl x6 2) fun x7 x8=>
  .meth 71 [] [none] [] (gl x8 2) fun x9 x10=>
  .bind (.cell x9) fun x11=>
  .bind (.cell x4) fun x12=>
  .chk [x12,x11] (
  .leaf [.agg [i1,x12,bt,x11,s0,i0,.nilsl]] [(gl x10 2)])) (
  .meth 68 [] [none,(some (.int .i64 3)),(some (.str [36]))] [] (gl x6 2) fun x7 x8=>
  .ite x7 (
  .meth 72 [] [none,(some (.str [36]))] [] (gl x8 2) fun x9 x10=>
  .meth 71 [] [none] [] (gl x10 2) fun x11 x12=>
  .bind (.cell x4) fun x13=>
  .bind (.cell x11) fun x14=>
  .chk [x13,x14] (
  .leaf [.agg [(.int .i64 2),x13,bf,s0,x14,i0,.nilsl]] [(gl x12 2)])) (
  .meth 68 [] [none,(some (.int .i64 3)),(some (.str [40]))] [] (gl x8 2) fun x9 x10=>
  .ite x9 (
   .meth 72 [] [none,(some (.str [40]))] [] (gl x10 2) fun x11 x12=>
   .meth 30 [] [none] [] (gl x12 2) fun x13 x14=>
   .bind (.agg 7 x13) fun x15=>
   .chk (cl x15 7) (
   .meth 72 [] [none,(some (.str [41]))] [] (gl x14 2) fun x16 x17=>
   .chk (cl x15 7) (
   .leaf [.agg (cl x15 7)] [(gl x17 2)]))) (
   .bind (.bin .lss 3 (gd x10 1) i0) fun x11=>
   .ite x11 (
   .bind (.ia 59 (gd x10 0) i0) fun x12=>
   .bind (.fa 67 x12 0) fun x13=>
   .bind (.ld 3 x13) fun x14=>
   .bind (.bin .eql 3 x14 i1) fun x15=>
   .ite x15 (
    .bind (.ia 59 (gd x10 0) i0) fun x16=>
    .bind (.fa 67 x16 2) fun x17=>
    .bind (.ld 9 x17) fun x18=>
    .call 183 [] [] [] fun x19=>
    .bind (.slc 41 x19 (some i1) none none) fun x20=>
    .call 56 [] [x20,x18] [] fun x21=>
    .ite x21 (
    .meth 184 [] [none,(some x4)] [] (gl x10 2) fun x22 x23=>
    .bind (.agg 7 x22) fun x24=>
    .chk (cl x24 7) (
    .leaf [.agg (cl x24 7)] [(gl x23 2)])) (
    .meth 71 [] [none] [] (gl x10 2) fun x22 x23=>
    .bind (.cell x22) fun x24=>
    .bind (.cell x4) fun x25=>
    .chk [x25,x24] (
    .leaf [.agg [i1,x25,bf,x24,s0,i0,.nilsl]] [(gl x23 2)]))) (
    .meth 71 [] [none] [] (gl x10 2) fun x16 x17=>
    .bind (.cell x16) fun x18=>
    .bind (.cell x4) fun x19=>
    .chk [x19,x18] (
    .leaf [.agg [i1,x19,bf,x18,s0,i0,.nilsl]] [(gl x17 2)]))) (
   .meth 71 [] [none] [] (gl x10 2) fun x12 x13=>
   .bind (.cell x12) fun x14=>
   .bind (.cell x4) fun x15=>
   .chk [x15,x14] (
   .leaf [.agg [i1,x15,bf,x14,s0,i0,.nilsl]] [(gl x13 2)]))))):=by kernel_rfl
theorem Bfb(x0 x1 x2:D):Hd C1 184 f184 (bd f184) [] [.ptr 0 0,.dyn x0] [.cells [.dyn x1,.dyn x2]]=
 .bind (.cell x0) fun x3=>
 .chk [x3] (
 .bind (.ia 59 x1 i0) fun x4=>
 .bind (.fa 67 x4 2) fun x5=>
 .bind (.ld 9 x5) fun x6=>
 .bind (.slc 59 x1 (some i1) none none) fun x7=>
 .bind (.cell x7) fun x8=>
 .chk [x8] (
 .meth 72 [] [none,(some (.str [40]))] [] [x8,x2] fun x9 x10=>
 .bind (.bin .eql 9 x6 (.str [100,101,112,115])) fun x11=>
 .ite x11 (
  .meth 30 [] [none] [] (gl x10 2) fun x12 x13=>
  .bind (.slim x12) fun x14=>
  .bind (.agg 7 x14) fun x15=>
  .meth 68 [] [none,(some (.int .i64 3)),(some (.str [44]))] [] (gl x13 2) fun x16 x17=>
  .ite x16 (
  .meth 72 [] [none,(some (.str [44]))] [] (gl x17 2) fun x18 x19=>
  .meth 226 [] [none] [] (gl x19 2) fun x20 x21=>
  .bind (.cell x20) fun x22=>
  .chk [x22] (
  .meth 72 [] [none,(some (.str [41]))] [] (gl x21 2) fun x23 x24=>
  .chk [x3,x22] (
  .leaf [.agg [(.int .i64 6),x3,bf,s0,s0,x22,(.sl [(cl x15 7)] .exact)]] [(gl x24 2)]))) (
  .meth 72 [] [none,(some (.str [41]))] [] (gl x17 2) fun x18 x19=>
  .chk [x3] (
  .leaf [.agg [(.int .i64 6),x3,bf,s0,s0,.int .i64 (-1),(.sl [(cl x15 7)] .exact)]] [(gl x19 2)]))) (
  .bind (.bin .eql 9 x6 (.str [114,100,101,112,115])) fun x12=>
  .ite x12 (
  .meth 30 [] [none] [] (gl x10 2) fun x13 x14=>
  .bind (.slim x13) fun x15=>
  .bind (.agg 7 x15) fun x16=>
  .meth 72 [] [none,(some (.str [41]))] [] (gl x14 2) fun x17 x18=>
  .chk [x3] (
  .leaf [.agg [(.int .i64 7),x3,bf,s0,s0,i0,(.sl [(cl x16 7)] .exact)]] [(gl x18 2)])) (
  .bind (.bin .eql 9 x6 (.str [115,111,109,101,112,97,116,104])) fun x13=>
  .ite x13 (
   .bind (.bin .eql 9 x6 (.str [97,108,108,112,97,116,104,115])) fun x14=>
   .ite x14 (
   .meth 30 [] [none] [] (gl x10 2) fun x15 x16=>
   .bind (.slim x15) fun x17=>
   .bind (.agg 7 x17) fun x18=>
   .meth 72 [] [none,(some (.str [44]))] [] (gl x16 2) fun x19 x20=>
   .meth 30 [] [none] [] (gl x20 2) fun x21 x22=>
   .bind (.slim x21) fun x23=>
   .bind (.agg 7 x23) fun x24=>
   .bind (.app 27 (.sl [(cl x18 7)] .exact) (.sl [(cl x24 7)] .exact)) fun x25=>
   .meth 72 [] [none,(some (.str [41]))] [] (gl x22 2) fun x26 x27=>
   .chk [x3] (
   .leaf [.agg [(.int .i64 9),x3,bf,s0,s0,i0,x25]] [(gl x27 2)])) (
   .meth 30 [] [none] [] (gl x10 2) fun x15 x16=>
   .bind (.slim x15) fun x17=>
   .bind (.agg 7 x17) fun x18=>
   .meth 72 [] [none,(some (.str [44]))] [] (gl x16 2) fun x19 x20=>
   .meth 30 [] [none] [] (gl x20 2) fun x21 x22=>
   .bind (.slim x21) fun x23=>
   .bind (.agg 7 x23) fun x24=>
   .bind (.app 27 (.sl [(cl x18 7)] .exact) (.sl [(cl x24 7)] .exact)) fun x25=>
   .meth 72 [] [none,(some (.str [41]))] [] (gl x22 2) fun x26 x27=>
   .chk [x3] (
   .leaf [.agg [(.int .i64 8),x3,bf,s0,s0,i0,x25]] [(gl x27 2)]))) (
   .bind (.bin .eql 9 x6 (.str [97,108,108,112,97,116,104,115])) fun x14=>
   .ite x14 (
   .bind (.bin .eql 9 x6 (.str [97,108,108,112,97,116,104,115])) fun x15=>
   .ite x15 (
    .meth 30 [] [none] [] (gl x10 2) fun x16 x17=>
    .bind (.slim x16) fun x18=>
    .bind (.agg 7 x18) fun x19=>
    .meth 72 [] [none,(some (.str [44]))] [] (gl x17 2) fun x20 x21=>
    .meth 30 [] [none] [] (gl x21 2) fun x22 x23=>
    .bind (.slim x22) fun x24=>
    .bind (.agg 7 x24) fun x25=>
    .bind (.app 27 (.sl [(cl x19 7)] .exact) (.sl [(cl x25 7)] .exact)) fun x26=>
    .meth 72 [] [none,(some (.str [41]))] [] (gl x23 2) fun x27 x28=>
    .chk [x3] (
    .leaf [.agg [(.int .i64 9),x3,bf,s0,s0,i0,x26]] [(gl x28 2)])) (
    .meth 30 [] [none] [] (gl x10 2) fun x16 x17=>
    .bind (.slim x16) fun x18=>
    .bind (.agg 7 x18) fun x19=>
    .meth 72 [] [none,(some (.str [44]))] [] (gl x17 2) fun x20 x21=>
    .meth 30 [] [none] [] (gl x21 2) fun x22 x23=>
    .bind (.slim x22) fun x24=>
    .bind (.agg 7 x24) fun x25=>
    .bind (.app 27 (.sl [(cl x19 7)] .exact) (.sl [(cl x25 7)] .exact)) fun x26=>
    .meth 72 [] [none,(some (.str [41]))] [] (gl x23 2) fun x27 x28=>
    .chk [x3] (
    .leaf [.agg [(.int .i64 8),x3,bf,s0,s0,i0,x26]] [(gl x28 2)]))) (
   .bind (.bin .eql 9 x6 (.str [107,105,110,100])) fun x15=>
   .ite x15 (
    .meth 227 [] [none] [] (gl x10 2) fun x16 x17=>
    .bind (.cell x16) fun x18=>
    .chk [x18] (
    .meth 72 [] [none,(some (.str [44]))] [] (gl x17 2) fun x19 x20=>
    .meth 30 [] [none] [] (gl x20 2) fun x21 x22=>
    .bind (.slim x21) fun x23=>
    .bind (.agg 7 x23) fun x24=>
    .meth 72 [] [none,(some (.str [41]))] [] (gl x22 2) fun x25 x26=>
    .chk [x3,x18] (
    .leaf [.agg [(.int .i64 10),x3,bf,s0,x18,i0,(.sl [(cl x24 7)] .exact)]] [(gl x26 2)]))) (
    .bind (.bin .eql 9 x6 (.str [102,105,108,116,101,114])) fun x16=>
    .ite x16 (
    .meth 126 [] [none,(some (.int .i64 2)),(some (.func 228 [] []))] [] (gl x10 2) fun x17 x18=>
    .bind (.cell x17) fun x19=>
    .chk [x19] (
    .meth 72 [] [none,(some (.str [44]))] [] (gl x18 2) fun x20 x21=>
    .meth 30 [] [none] [] (gl x21 2) fun x22 x23=>
    .bind (.slim x22) fun x24=>
    .bind (.agg 7 x24) fun x25=>
    .meth 72 [] [none,(some (.str [41]))] [] (gl x23 2) fun x26 x27=>
    .chk [x3,x19] (
    .leaf [.agg [(.int .i64 11),x3,bf,s0,x19,i0,(.sl [(cl x25 7)] .exact)]] [(gl x27 2)]))) (
    .bind (.bin .eql 9 x6 (.str [97,108,108])) fun x17=>
    .ite x17 (
     .meth 72 [] [none,(some (.str [41]))] [] (gl x10 2) fun x18 x19=>
     .chk [x3] (
     .leaf [.agg [(.int .i64 13),x3,bf,s0,s0,i0,.nilsl]] [(gl x19 2)])) (
     .meth 72 [] [none,(some (.str [41]))] [] (gl x10 2) fun x18 x19=>
     .chk [x3] (
     .leaf [.agg [i0,x3,bf,s0,s0,i0,.nilsl]] [(gl x19 2)])))))))))):=by kernel_rfl
theorem Bge(x0:D):Hd C1 12 f12 (bd f12) [] [.dyn x0] []=
 .bind (.ln 9 x0) fun x1=>
 .bind (.bin .gtr 3 x1 (.int .i64 400)) fun x2=>
 .ite x2 (
  .leaf [.agg [i0,i0,bf,s0,s0,i0,.nilsl],.agg [.int .i64 4,im]] []) (
  .call 29 [] [x0] [] fun x3=>
  .bind (.ext x3 0) fun x4=>
  .bind (.ext x3 1) fun x5=>
  .bind (.agg 2 x5) fun x6=>
  .chk (cl x6 2) (
  .bind (.bin .neq 30 (gc x6 0) i0) fun x7=>
  .ite x7 (
  .chk (cl x6 2) (
  .leaf [.agg [i0,i0,bf,s0,s0,i0,.nilsl],.agg (cl x6 2)] [])) (
  .bind (.cell x4) fun x8=>
  .meth 30 [] [none] [] [x8,.int .i64 (-1)] fun x9 x10=>
  .bind (.agg 7 x9) fun x11=>
  .chk (cl x11 7) (
  .bind (.bin .lss 3 (gd x10 1) i0) fun x12=>
  .ite x12 (
   .bind (.ia 59 (gd x10 0) i0) fun x13=>
   .bind (.fa 67 x13 0) fun x14=>
   .bind (.ld 3 x14) fun x15=>
   .bind (.bin .neq 3 x15 (.int .i64 4)) fun x16=>
   .ite x16 (
   .meth 31 [] [none] [] (gl x10 2) fun x17 x18=>
   .bind (.bin .geq 3 (gd x18 1) i0) fun x19=>
   .ite x19 (
    .bind (.cell (gd x18 1)) fun x20=>
    .chk [x20] (
    .leaf [.agg [i0,i0,bf,s0,s0,i0,.nilsl],.agg [i1,x20]] [])) (
    .call 15 [] [.agg (cl x11 7)] [] fun x20=>
    .bind (.bin .gtr 3 x20 (.int .i64 30)) fun x21=>
    .ite x21 (
    .leaf [.agg [i0,i0,bf,s0,s0,i0,.nilsl],.agg [.int .i64 4,im]] []) (
    .chk (cl x11 7) (
    .leaf [.agg (cl x11 7),.agg [i0,i0]] [])))) (
   .bind (.bin .geq 3 (gd x10 1) i0) fun x17=>
   .ite x17 (
    .bind (.cell (gd x10 1)) fun x18=>
    .chk [x18] (
    .leaf [.agg [i0,i0,bf,s0,s0,i0,.nilsl],.agg [i1,x18]] [])) (
    .call 15 [] [.agg (cl x11 7)] [] fun x18=>
    .bind (.bin .gtr 3 x18 (.int .i64 30)) fun x19=>
    .ite x19 (
    .leaf [.agg [i0,i0,bf,s0,s0,i0,.nilsl],.agg [.int .i64 4,im]] []) (
    .chk (cl x11 7) (
    .leaf [.agg (cl x11 7),.agg [i0,i0]] []))))) (
   .bind (.bin .geq 3 (gd x10 1) i0) fun x13=>
   .ite x13 (
   .bind (.cell (gd x10 1)) fun x14=>
   .chk [x14] (
   .leaf [.agg [i0,i0,bf,s0,s0,i0,.nilsl],.agg [i1,x14]] [])) (
   .call 15 [] [.agg (cl x11 7)] [] fun x14=>
   .bind (.bin .gtr 3 x14 (.int .i64 30)) fun x15=>
   .ite x15 (
    .leaf [.agg [i0,i0,bf,s0,s0,i0,.nilsl],.agg [.int .i64 4,im]] []) (
    .chk (cl x11 7) (
    .leaf [.agg (cl x11 7),.agg [i0,i0]] [])))))))):=by kernel_rfl
theorem Bgu(x0:D):Hd C1 15 Tryz.f15 (bd Tryz.f15) [] [.dyn x0] []=
 .bind (.agg 7 x0) fun x1=>
 .bind (.ln 27 (gc x1 6)) fun x2=>
 .req [((gc x1 0),(gc x1 0)),((gc x1 1),(gc x1 1)),((gc x1 2),(gc x1 2)),((gc x1 3),(gc x1 3)),((gc x1 4),(gc x1 4)),((gc x1 5),(gc x1 5)),((gc x1 6),(gc x1 6))] (
 .loop 0 0 [i0,i0] (Ca [fun x3=>
  .bind (.bin .lss 3 (hv x3 1) x2) fun x4=>
  .ite x4 (
  .bind (.ia 27 (gc x1 6) (hv x3 1)) fun x5=>
  .bind (.ld 29 x5) fun x6=>
  .bind (.agg 7 x6) fun x7=>
  .chk (cl x7 7) (
  .call 15 [] [.agg (cl x7 7)] [] fun x8=>
  .bind (.mx (hv x3 0) [x8]) fun x9=>
  .bind (.bin .add 3 (hv x3 1) i1) fun x10=>
  .req [((gc x1 0),(gc x1 0)),((gc x1 1),(gc x1 1)),((gc x1 2),(gc x1 2)),((gc x1 3),(gc x1 3)),((gc x1 4),(gc x1 4)),((gc x1 5),(gc x1 5)),((gc x1 6),(gc x1 6))] (
  .again 0 0 [x9,x10]))) (
  .bind (.bin .add 3 (hv x3 0) i1) fun x5=>
  .leaf [x5] [])])):=by kernel_rfl
def Vk(L:Nat)(s:PS):List D:= [.sl (Dt L s.ws) .none,Nv s.bad]
def E9(cf:Ah)(f:Nat)(xs:List D)(L:Nat)(s:PS)(v:D)(s':PS):Prop:=Acn cf f (none::xs.map some) (Vk L s) v (Vk L s')
theorem Ae7(L:Nat)(ws:List Wd)(gr:Gr):(Av.ia 59 (.sl (Dt L ws) gr) (.int .i64 0)).sem prog=some (.eptr [.int .i64 ((Cn L ws).k:Int),.int .i64 ((Cn L ws).at_:Int),.str (Cn L ws).tx]):=by simp only[Av.sem,Bg2,Et];rfl
theorem Aok(a b c:D):(Av.fa 67 (.eptr [a,b,c]) 0).sem prog=some (.eptr [a,b,c]):=by simp only[Av.sem,Bbx,Et]
theorem Aox(a b c:D):(Av.fa 67 (.eptr [a,b,c]) 1).sem prog=some (.eptr [b,c]):=by simp only[Av.sem,A81,Et]
theorem Akx(a b c:D):(Av.fa 67 (.eptr [a,b,c]) 2).sem prog=some (.eptr [c]):=by simp only[Av.sem,A7o,Et]
theorem Z4(x:D)(l:List D):(Av.ld 3 (.eptr (x::l))).sem prog=some x:=take3 x l
theorem Tc(x:D)(l:List D):(Av.ld 9 (.eptr (x::l))).sem prog=some x:=Bd2 x l
theorem At6(a b c:D):(Av.ld 67 (.eptr [a,b,c])).sem prog=some (.agg [a,b,c]):=by show Dk prog 67 [a,b,c] 0=_;unfold Dk;simp[Tz,A9t]
theorem An9(L:Nat)(w:Wd)(ws:List Wd):(Av.slc 59 (.sl (Dt L (w::ws)) .none) (some (.int .i64 1)) none none).sem prog=some (.sl (Dt L ws) .none):=by have h:E5 (.int .i64 1)=some 1:=rfl;simp[Av.sem,Aes,h,Bid,Et]
theorem Yu(L:Nat)(ws:List Wd):Gt 0 (Dt L ws)=false:=by
 rw[Pj];intro i r j d hi hj;unfold Dt at hi;have hr:r∈ws.map Ci++ [Ci (Nq L)]:=List.mem_of_getElem? hi;have hw:∃w,r=Ci w:=by
  rcases List.mem_append.1 hr with h|h
  ·obtain⟨w,_,rfl⟩:=List.mem_map.1 h;exact⟨w,rfl⟩
  ·rw[List.mem_singleton]at h;exact⟨_,h⟩
 obtain⟨w,rfl⟩:=hw;have hd:d∈Ci w:=List.mem_of_getElem? hj;unfold Ci at hd;simp only[List.mem_cons,List.not_mem_nil,or_false]at hd;rcases hd with rfl|rfl|rfl<;>rfl
theorem A4n(L:Nat)(s:PS):F6 0 (Vk L s)=false:=by
 unfold Vk;have:D8 0 (Nv s.bad)=false:=by cases s.bad<;>rfl
 simp[F6,D8,Yu,this]
theorem Xk(b:Option Nat)(t:TypeId):(Av.bin .lss t (Nv b) (.int .i64 0)).sem prog=some (.bool b.isNone):=by
 cases b with
 |none=>rfl
 |some b=>unfold Nv;rw[Da];simp
theorem A2v(b:Option Nat)(t:TypeId):(Av.bin .geq t (Nv b) (.int .i64 0)).sem prog=some (.bool (!b.isNone)):=by
 cases b with
 |none=>rfl
 |some b=>unfold Nv;rw[Lx];simp
section
variable{cf:Ah}{N:Nat}{L:Nat}
theorem Kk(hK:∀f,Ba (cf f)){f:FuncId}{fn:Func}{c:Code}{hs:List Hint}{args:List S}{xs:List D}{s s':PS}{v:D}{T:Tree}(hfn:prog.funcs[f]?=some fn)(hb:fn.body=some c)(hh:C1.hnd.contains f=false)(hk:C1.keepArr.contains f=false)(hk2:C1.keepNil.contains f=false)
  (ha:Ux 0 Ef args=some (none::xs.map some))(hpe:Hd C1 f fn c hs args [.cells [.dyn (.sl (Dt L s.ws) .none),.dyn (Nv s.bad)]]=T)
  (hw:wp prog cf N (fun rs os=>Ck v rs∧os= [Vk L s']) T []):E9 (run C1 cf N) f xs L s v s':=by
 refine Alw hK hfn hb hh hk hk2 (hs:=hs) ha (l:= [.dyn (.sl (Dt L s.ws) .none),.dyn (Nv s.bad)]) rfl ?_;rw[hpe];have:(fun rs os=>Ck v rs∧os= [Vk L s']∧F6 0 (Vk L s')=false)=(fun rs os=>Ck v rs∧os= [Vk L s']):=by funext rs os;simp[A4n]
 rw[this];exact hw
theorem Ajz:∀(xs:List D),Ml (xs.map .dyn)=some xs
 | []=>rfl
 |x::xs=>by simp[Ml,Ajz xs,Ef]
theorem Cg(hK:∀f,Ba (cf f)){f:FuncId}{fn:Func}{c:Code}{hs:List Hint}{xs:List D}{v:D}{T:Tree}(hfn:prog.funcs[f]?=some fn)(hb:fn.body=some c)(hh:C1.hnd.contains f=false)(hk:C1.keepArr.contains f=false)(hk2:C1.keepNil.contains f=false)
  (hpe:Hd C1 f fn c hs (xs.map .dyn) []=T)(hw:wp prog cf N (fun rs os=>Ck v rs) T []):Ao (run C1 cf N) f xs v:=by
 refine run_pure hK hfn hb hh hk hk2 (hs:=hs) (Ajz xs) ?_;rw[hpe];exact hw
theorem A8q(hK:∀f,Ba (cf f))(s:PS)(K:Int)(tx:List UInt8):E9 (run C1 cf N) 68 [.int .i64 K,.str tx] L s (.bool (Ry L s K tx)) s:=by
 refine Kk hK func68 (bdy (by kernel_rfl)) rfl rfl rfl rfl (Bim _ _ _ _) ?_
 simp only[Aa,Ac,Ab,Xk,Ae7,Aok,Akx,Z4,Tc,En,Di];unfold Ry;cases s.bad.isNone<;>cases(((Cn L s.ws).k:Int) == K)<;>exact⟨Bf rfl,rfl⟩
theorem Bbn(hK:∀f,Ba (cf f))(s:PS):E9 (run C1 cf N) 31 [] L s (.tup []) (Hf L s):=by
 refine Kk hK func31 (bdy (by kernel_rfl)) rfl rfl rfl rfl (Bh6 _ _) ?_
 simp only[Aa,Ac,Ae,Ab,Xk,Ae7,Aox,Z4,A9,Al,if_true];obtain⟨ws,bad⟩:=s;cases bad with
 |none=>exact⟨rfl,Oz,rfl⟩
 |some b=>exact⟨Oz,rfl⟩
variable(hK:∀f,Ba (cf f))(h68:∀(s:PS) (K:Int) (tx:List UInt8),E9 cf 68 [.int .i64 K,.str tx] L s (.bool (Ry L s K tx)) s)(h31:∀s:PS,E9 cf 31 [] L s (.tup []) (Hf L s))
 (h70:∀(s:PS) (K:Int) (tx:List UInt8),K≠4→E9 cf 70 [.int .i64 K,.str tx] L s (.tup []) (A8 L s K tx))
include hK h68 h31 in
theorem Bca(s:PS)(K:Int)(tx:List UInt8)(hK4:K≠4):E9 (run C1 cf N) 70 [.int .i64 K,.str tx] L s (.tup []) (A8 L s K tx):=by
 refine Kk hK func70 (bdy (by kernel_rfl)) rfl rfl rfl rfl (Bic _ _ _ _) ?_
 refine Ad rfl (h68 s K tx) rfl ?_;simp only[Aa,Ac,K5];cases hb:Ry L s K tx with
 |false=>
  refine Ad rfl (h31 s) rfl ?_;rw[Ab,show A8 L s K tx=Hf L s from by unfold A8;rw[hb];rfl]
  exact⟨Oz,rfl⟩
 |true=>
  obtain⟨w,ws,hs,hbad,_,_⟩:=X0 hK4 hb;simp only[Vk,gd,hs,List.getD_cons_zero,List.getD_cons_succ,An9,A9,Ae,Ab,Al,if_true];rw[show A8 L s K tx=⟨ws,s.bad⟩from by unfold A8;rw[hb,hs];rfl]
  exact⟨rfl,Oz,rfl⟩
include hK h70 in
theorem Bb2(s:PS)(tx:List UInt8):E9 (run C1 cf N) 72 [.str tx] L s (.tup []) (A8 L s 3 tx):=by
 refine Kk hK func72 (bdy (by kernel_rfl)) rfl rfl rfl rfl (Bh0 _ _ _) ?_
 refine Ad rfl (h70 s 3 tx (by decide)) rfl ?_
 rw[Ab];exact⟨Oz,rfl⟩
include hK h31 in
theorem Abb(s:PS)(hS:Sm s)(K:Int)(hK4:K≠4)(g:FuncId)(m:List UInt8→Bool)(hg:∀x0 x1 x2:D,Hd C1 126 f126 (bd f126) [] [.ptr 0 0,.dyn x0,.lit (.func g [] [])] [.cells [.dyn x1,.dyn x2]]=Tu g x0 x1 x2)
  (hm:∀t:List UInt8,(K=1→Lt t)→Ao cf g [.str t] (.bool (m t))):E9 (run C1 cf N) 126 [.int .i64 K,.func g [] []] L s (.str (Bb L s K m).1) (Bb L s K m).2:=by
 refine Kk hK func126 (bdy (by kernel_rfl)) rfl rfl rfl (args:= [.ptr 0 0,.dyn (.int .i64 K),.lit (.func g [] [])]) rfl (hg _ _ _) ?_
 unfold Tu;simp only[Aa,Ac,A2v,Ae7,Aok,Z4,Nn];have hfail:M9 L s K m=false→∀T,(∀x14 x15,T x14 x15=Tree.leaf [.str []] [gl x15 2])→wp prog cf N (fun rs os=>Ck (.str (Bb L s K m).1) rs∧os= [Vk L (Bb L s K m).2]) (.meth 31 [] [none] [] [.sl (Dt L s.ws) .none,Nv s.bad] T) []:=fun hn T hT=>by
  refine Ad rfl (h31 s) rfl ?_;rw[hT,Ab,show Bb L s K m=([],Hf L s)from by unfold Bb;rw[hn];rfl]
  exact⟨Bf rfl,rfl⟩
 cases hb:s.bad with
 |some b=>simp only[Option.isNone_some,Bool.not_false,if_true];rw[← hb];refine hfail ?_ _ fun _ _=>rfl;unfold M9;rw[hb];rfl
 |none=>
  simp only[Option.isNone_none,Bool.not_true,BF];cases hk:(((Cn L s.ws).k:Int) !=K)with
  |true=>simp only[if_true];rw[← hb];refine hfail ?_ _ fun _ _=>rfl;unfold M9;rw[bne_iff_ne,ne_eq]at hk;simp[hk]
  |false=>
   simp only[BF,Akx,Tc];rw[bne_eq_false_iff_eq]at hk;refine Aw rfl (hm _ fun h1=>hS.hd (by omega)) ?_
   simp only[Aa,Ac,K5];cases hmt:m (Cn L s.ws).tx with
   |false=>simp only[Bool.not_false,if_true];rw[← hb];refine hfail ?_ _ fun _ _=>rfl;unfold M9;simp[hmt]
   |true=>
    have hnb:M9 L s K m=true:=by unfold M9;rw[hb];simp[hk,hmt]
    obtain⟨w,ws,hs,_,_,_⟩:=Am0 hK4 hnb;simp only[Bool.not_true,BF,Aa,Ae,Ab,Ae7,At6,M5,List.length_cons,List.length_nil,if_true,gc,cl,D.cells,A9,hs,An9,Al];rw[show Bb L s K m=(w.tx,⟨ws,s.bad⟩)from by unfold Bb;rw[hnb,hs];rfl]
    refine⟨rfl,rfl,Bf rfl,?_⟩;rw[hb];rfl
variable{may:List UInt8→Bool}{gn:List UInt8→Int × Bool}
 (h126n:∀s:PS,Sm s→E9 cf 126 [.int .i64 1,.func 127 [] []] L s (.str (Bb L s 1 may).1) (Bb L s 1 may).2)
 (h126k:∀s:PS,Sm s→E9 cf 126 [.int .i64 1,.func 264 [] []] L s (.str (Bb L s 1 Jd).1) (Bb L s 1 Jd).2)
 (h126u:∀s:PS,Sm s→E9 cf 126 [.int .i64 1,.func 262 [] []] L s (.str (Bb L s 1 (fun t=>(gn t).2)).1) (Bb L s 1 (fun t=>(gn t).2)).2)
include hK h126n in
theorem Bay(s:PS)(hS:Sm s):E9 (run C1 cf N) 71 [] L s (.str (Bb L s 1 may).1) (Bb L s 1 may).2:=by
 refine Kk hK func71 (bdy (by kernel_rfl)) rfl rfl rfl rfl (Bij _ _) ?_
 refine Ad rfl (h126n s hS) rfl ?_;rw[Ab];exact⟨Bf rfl,rfl⟩
include hK h126k in
theorem A5i(s:PS)(hS:Sm s):E9 (run C1 cf N) 227 [] L s (.str (Bb L s 1 Jd).1) (Bb L s 1 Jd).2:=by
 refine Kk hK func227 (bdy (by kernel_rfl)) rfl rfl rfl rfl (Bdv _ _) ?_
 refine Ad rfl (h126k s hS) rfl ?_;rw[Ab];exact⟨Bf rfl,rfl⟩
include hK h126u in
theorem Azo(s:PS)(hS:Sm s)(h263:∀t,Lt t→Ao cf 263 [.str t,.int .i64 1000] (.tup [.int .i64 (gn t).1,.bool (gn t).2])):E9 (run C1 cf N) 226 [] L s (.int .i64 (Zk L gn s).1) (Zk L gn s).2:=by
 refine Kk hK func226 (bdy (by kernel_rfl)) rfl rfl rfl rfl (Bfj _ _) ?_
 refine Ad rfl (h126u s hS) rfl ?_;have hl:Lt (Bb L s 1 (fun t=>(gn t).2)).1:=by
  unfold Bb;split
  ·rename_i hn;unfold M9 at hn;simp only[Bool.and_eq_true,beq_iff_eq]at hn;exact hS.hd (by have:=hn.2.1;omega)
  ·exact⟨by simp,by simp⟩
 refine Aw rfl (h263 _ hl) ?_;simp only[Aa,Hg,GC,Ab];exact⟨Bf rfl,rfl⟩
include hK in
theorem A5n(t:List UInt8):Ao (run C1 cf N) 264 [.str t] (.bool (Jd t)):=by
 refine Cg hK func264 (bdy (by kernel_rfl)) rfl rfl rfl (Beb _) ?_
 simp only[Aa,Ac,Di,Ab];unfold Jd;split
 ·rename_i h;rw[h];exact Bf rfl
 ·rename_i h;rw[Bool.not_eq_true]at h;rw[h];simp only[Bool.false_or]
  first
   |exact Bf rfl
   |(split
     ·rename_i h2;rw[h2];exact Bf rfl
     ·rename_i h2;rw[Bool.not_eq_true]at h2;rw[h2];exact Bf rfl)
include hK in
theorem A1x(t:List UInt8):Ao (run C1 cf N) 228 [.str t] (.bool true):=by
 refine Cg hK func228 (bdy (by kernel_rfl)) rfl rfl rfl (Bfz _) ?_
 simp only[Ab];exact Bf rfl
include hK h68 in
theorem A3t(s:PS):E9 (run C1 cf N) 125 [] L s (.int .i64 (Hz L s)) s:=by
 refine Kk hK func125 (bdy (by kernel_rfl)) rfl rfl rfl rfl (Beu _ _) ?_
 refine Ad rfl (h68 s 3 [43]) rfl ?_;simp only[Ac];unfold Hz;split
 ·rw[Ab];exact⟨Bf rfl,rfl⟩
 ·refine Ad rfl (h68 s 3 [94]) rfl ?_;simp only[Ac];split
  ·rw[Ab];exact⟨Bf rfl,rfl⟩
  ·refine Ad rfl (h68 s 1 [45]) rfl ?_;simp only[Ac];split
   ·rw[Ab];exact⟨Bf rfl,rfl⟩
   ·rw[Ab];exact⟨Bf rfl,rfl⟩
end
theorem J9(x:Qy):∃k a r ln nm n rows,Br x= [.int .i64 k,.int .i64 a,.bool r,.str ln,.str nm,.int .i64 n,.sl rows .none]:=by cases x<;>exact⟨_,_,_,_,_,_,_,rfl⟩
theorem K3:∀(x:Qy),F6 0 (Br x)=false
 | .label .. =>rfl
 | .var .. =>rfl
 | .whole _=>rfl
 | .bin k a x y=>by simp[Br,qc,F6,D8,Gt,K3 x,K3 y]
 | .un k a nm n x=>by simp[Br,qc,F6,D8,Gt,K3 x]
 | .lt a nm x y=>by simp[Br,qc,F6,D8,Gt,K3 x,K3 y]
theorem Su(x:Qy):(Br x).length=7:=by obtain⟨k,a,r,ln,nm,n,rows,h⟩:=J9 x;rw[h];rfl
theorem Kq(x:Qy):(Br x).all Al=true:=by obtain⟨k,a,r,ln,nm,n,rows,h⟩:=J9 x;rw[h];rfl
theorem Axv{l:List D}{n:Nat}(h:l.length=n):cl (.agg l) n=l:=by
 unfold cl;apply List.ext_getElem?;intro i;rw[List.getElem?_map];by_cases hi:i<n
 ·rw[List.getElem?_range hi,List.getElem?_eq_getElem (by omega)]
  simp[D.cells,List.getElem?_eq_getElem (show i<l.length by omega)]
 ·rw[List.getElem?_eq_none (by simp;omega),List.getElem?_eq_none (by omega)]
  rfl
theorem Hm(x:Qy):cl (.agg (Br x)) 7=Br x:=Axv (Su x)
theorem Hl(x:Qy):(Av.agg 7 (.agg (Br x))).sem prog=some (.agg (Br x)):=by rw[M5,if_pos (Su x)]
theorem Md(x:Qy):Jf (.agg (Br x))=some (.agg (Br x)):=by obtain⟨k,a,r,ln,nm,n,rows,h⟩:=J9 x;rw[h];rfl
theorem Q3(x:Qy):(Av.slim (.agg (Br x))).sem prog=some (.agg (Br x)):=by obtain⟨k,a,r,ln,nm,n,rows,h⟩:=J9 x;rw[h];rfl
theorem Iu{x:Qy}{d:D}(h:Jf d=some (.agg (Br x))):Ck (.agg (Br x)) [d]:=by refine⟨K3 x,[.agg (Br x)],?_,rfl⟩;simp[Eb,h]
theorem A60:Cx prog 27=some 29:=by kernel_rfl
theorem Bhp:∃n,Jm prog 29=some n∧n≤1000:=⟨88,by kernel_rfl,by decide⟩
theorem A7y:Kt prog 29 7=true:=by kernel_rfl
theorem A6t:prog.underlying 27=some (.slice 29):=underlying27
theorem Ate(x y:Qy):(Av.app 27 (.sl [Br x] .exact) (.sl [Br y] .exact)).sem prog=some (.sl [Br x,Br y] .none):=by
 obtain⟨n,hb,hn⟩:=Bhp;have h1:C8 prog false 27 (.sl [Br x] .exact) (.sl [Br y] .exact) []=some (.sl [Br x,Br y] (.tok 0 0),[.tok 0],[]):=by
  unfold C8;rw[A60];dsimp only;rw[Wp,hb];simp only[rowsOf,List.all_cons,List.all_nil,Bool.and_true,Su,beq_self_eq_true,A7y,Kq,if_true,List.isEmpty_cons,BF,List.length_cons,List.length_nil];have:(decide ((0+1+(0+1))*n≤Dh) && decide (0+1+(0+1)≤Dh))=true:=by simp[Dh];omega
  rw[this];rfl
 simp only[Av.sem,h1]
section
variable{cf:Ah}{N:Nat}{L:Nat}{may:List UInt8→Bool}{gn:List UInt8→Int × Bool}
 (hK:∀f,Ba (cf f))(h68:∀(s:PS) (K:Int) (tx:List UInt8),E9 cf 68 [.int .i64 K,.str tx] L s (.bool (Ry L s K tx)) s)
 (h70:∀(s:PS) (K:Int) (tx:List UInt8),K≠4→E9 cf 70 [.int .i64 K,.str tx] L s (.tup []) (A8 L s K tx))
 (h72:∀(s:PS) (tx:List UInt8),E9 cf 72 [.str tx] L s (.tup []) (A8 L s 3 tx))
 (h71:∀s:PS,Sm s→E9 cf 71 [] L s (.str (Bb L s 1 may).1) (Bb L s 1 may).2)
 (h125:∀s:PS,E9 cf 125 [] L s (.int .i64 (Hz L s)) s)
def Wv(cf:Ah)(f:FuncId)(xs:List D)(L:Nat)(g:PS→Option (Qy × PS)):Prop:=∀(s:PS) (x:Qy) (s':PS),Sm s→g s=some (x,s')→E9 cf f xs L s (.agg (Br x)) s'
def SmG(g:PS→Option (Qy × PS)):Prop:=∀(s:PS) (x:Qy) (s':PS),Sm s→g s=some (x,s')→Sm s'
include hK h68 h70 h71 h72 in
theorem A65{q sm:PS→Option (Qy × PS)}(h30:Wv cf 30 [] L q)(h69:Wv cf 69 [] L sm)(hq:SmG q)(s:PS)(hS:Sm s)(x:Qy)(s':PS)
  (h:(if Ry L s 1 Ib then
   match q (A8 L (Bb L (A8 L s 1 Ib) 1 may).2 3 [61])with
   |none=>none
   |some (x,s4)=>match q (A8 L s4 1 Vx)with
    |none=>none
    |some (y,s6)=>some (.lt (Cn L s.ws).at_ (Bb L (A8 L s 1 Ib) 1 may).1 x y,s6)
   else sm s)=some (x,s')):E9 (run C1 cf N) 30 [] L s (.agg (Br x)) s':=by
 refine Kk hK func30 (bdy (by kernel_rfl)) rfl rfl rfl rfl (Bgo _ _) ?_
 refine Ad rfl (h68 s 1 Ib) rfl ?_;simp only[Aa,Ac,K5];cases hb:Ry L s 1 Ib with
 |false=>rw[hb]at h;simp only[BF]at h;simp only[Bool.not_false,if_true];refine Ad rfl (h69 s x s' hS h) rfl ?_;simp only[Aa,Hl,Ae,Ab,Hm];exact⟨Kq x,Iu (Md x),rfl⟩
 |true=>
  rw[hb]at h;simp only[if_true]at h;simp only[Bool.not_true,BF];split at h
  ·cases h
  rename_i x1 s4 hx;split at h
  ·cases h
  rename_i y s6 hy;cases h;have hS1:Sm (A8 L s 1 Ib):=hS.must;have hS2:Sm (A8 L (Bb L (A8 L s 1 Ib) 1 may).2 3 [61]):=(hS1.next).must;have hS4:Sm s4:=hq _ _ _ hS2 hx;simp only[Vk,gd,List.getD_cons_zero,Ae7,Aox,Z4,A9,Al,if_true,Ae];refine⟨rfl,?_⟩;refine Ad rfl (h70 s 1 Ib (by decide)) rfl ?_
  refine Ad rfl (h71 _ hS1) rfl ?_;simp only[Aa,A9,Al,if_true,Ae];refine⟨rfl,?_⟩;refine Ad rfl (h72 _ [61]) rfl ?_;refine Ad rfl (h30 _ _ _ hS2 hx) rfl ?_;simp only[Aa,Q3,Hl];refine Ad rfl (h70 s4 1 Vx (by decide)) rfl ?_
  refine Ad rfl (h30 _ _ _ hS4.must hy) rfl ?_;simp only[Aa,Q3,Hl,Hm,Ate,Ae,Ab];exact⟨rfl,Iu rfl,rfl⟩
include hK h68 h71 h72 in
theorem Ayo{q c:PS→Option (Qy × PS)}(h30:Wv cf 30 [] L q)(h184:∀(s:PS) (x:Qy) (s':PS),Sm s→Ij L s=true→c s=some (x,s')→E9 cf 184 [.int .i64 ((Cn L s.ws).at_:Int)] L s (.agg (Br x)) s')(hcalls:Ao cf 183 [] (.sl (Bl.map fun t=> [.str t]) .none))
  (h56:∀t:List UInt8,Lt t→Ao cf 56 [.sl (Bl.tail.map fun t=> [.str t]) .none,.str t] (.bool (Bl.tail.contains t)))(hq:SmG q)(s:PS)(hS:Sm s)(x:Qy)(s':PS)
  (h:(if Ry L s 3 [58]then some (Qy.label (Cn L s.ws).at_ true (Bb L (A8 L s 3 [58]) 1 may).1,(Bb L (A8 L s 3 [58]) 1 may).2)
  else if Ry L s 3 [36]then some (Qy.var (Cn L s.ws).at_ (Bb L (A8 L s 3 [36]) 1 may).1,(Bb L (A8 L s 3 [36]) 1 may).2)
  else if Ry L s 3 [40]then match q (A8 L s 3 [40])with
   |none=>none
   |some (x,s2)=>some (x,A8 L s2 3 [41])
  else if Ij L s then c s
  else some (Qy.label (Cn L s.ws).at_ false (Bb L s 1 may).1,(Bb L s 1 may).2))=some (x,s')):E9 (run C1 cf N) 124 [] L s (.agg (Br x)) s':=by
 refine Kk hK func124 (bdy (by kernel_rfl)) rfl rfl rfl rfl (Beh _ _) ?_
 simp only[Aa,Ae7,Aox,Z4];refine Ad rfl (h68 s 3 [58]) rfl ?_;simp only[Ac];split at h
 ·rename_i hb;rw[if_pos hb];cases h;refine Ad rfl (h72 s [58]) rfl ?_;refine Ad rfl (h71 _ hS.must) rfl ?_;simp only[Aa,A9,Al,if_true,Ae,Ab];exact⟨rfl,Iu rfl,rfl⟩
 rename_i hb;rw[if_neg hb];refine Ad rfl (h68 s 3 [36]) rfl ?_;simp only[Ac];split at h
 ·rename_i hb;rw[if_pos hb];cases h;refine Ad rfl (h72 s [36]) rfl ?_;refine Ad rfl (h71 _ hS.must) rfl ?_;simp only[Aa,A9,Al,if_true,Ae,Ab];exact⟨rfl,Iu rfl,rfl⟩
 rename_i hb;rw[if_neg hb];refine Ad rfl (h68 s 3 [40]) rfl ?_;simp only[Ac];split at h
 ·rename_i hb;rw[if_pos hb];split at h
  ·cases h
  rename_i x1 s2 hx;cases h;refine Ad rfl (h72 s [40]) rfl ?_;refine Ad rfl (h30 _ _ _ hS.must hx) rfl ?_;simp only[Aa,Hl,Ae,Hm];refine⟨Kq _,Ad rfl (h72 _ [41]) rfl ?_⟩;simp only[Ae,Ab];exact⟨Kq _,Iu (Md _),rfl⟩
 rename_i hb;rw[if_neg hb];have hlab:Ij L s=false→∀{T:D→List D→Tree},(∀(t:List UInt8) x13,wp prog cf N (fun rs os=>Ck (.agg (Br x)) rs∧os= [Vk L s']) (T (.str t) x13) []=(Ck (.agg (Br x)) [.agg [.int .i64 1,.int .i64 ((Cn L s.ws).at_:Int),.bool false,.str t,.str [],.int .i64 0,.nilsl]]∧ [gl x13 2]= [Vk L s']))→wp prog cf N (fun rs os=>Ck (.agg (Br x)) rs∧os= [Vk L s']) (.meth 71 [] [none] [] (Vk L s) T) []:=fun hc {T} hT=>by rw[hc]at h;simp only[BF]at h;cases h;refine Ad rfl (h71 s hS) rfl ?_;rw[hT];exact⟨Iu rfl,rfl⟩
 have hT:∀(t:List UInt8) (x13:List D),wp prog cf N (fun rs os=>Ck (.agg (Br x)) rs∧os= [Vk L s']) (.bind (.cell (.str t)) fun x14=> .bind (.cell (.int .i64 ((Cn L s.ws).at_:Int))) fun x15=> .chk [x15,x14] (.leaf [(.agg [(.int .i64 1),x15,(.bool false),x14,(.str []),(.int .i64 0),.nilsl])] [(gl x13 2)])) []=(Ck (.agg (Br x)) [.agg [.int .i64 1,.int .i64 ((Cn L s.ws).at_:Int),.bool false,.str t,.str [],.int .i64 0,.nilsl]]∧ [gl x13 2]= [Vk L s']):=fun t x13=>by simp only[Aa,A9,Al,if_true,Ae,Ab,List.all_cons,List.all_nil,Bool.and_self,true_and]
 simp only[Vk,gd,List.getD_cons_zero,List.getD_cons_succ,Aa,Ac,Xk,Ae7,Aok,Akx,Z4,Tc,En];cases hbad:s.bad with
 |some b=>simp only[Option.isNone_some,BF];rw[← hbad];exact hlab (by unfold Ij;rw[hbad];rfl) hT
 |none=>
  simp only[Option.isNone_none,if_true];cases hk:(((Cn L s.ws).k:Int) == 1)with
  |false=>simp only[BF];rw[← hbad];exact hlab (by unfold Ij;rw[hk];simp) hT
  |true=>
   simp only[if_true];have hl:Lt (Cn L s.ws).tx:=hS.hd (by rw[beq_iff_eq]at hk;omega)
   refine Aw rfl hcalls ?_;rw[Aa,show(Av.slc 41 (.sl (Bl.map fun t=> [.str t]) .none) (some (.int .i64 1)) none none).sem prog=some (.sl (Bl.tail.map fun t=> [.str t]) .none)from by kernel_rfl]
   refine Aw rfl (h56 _ hl) ?_;simp only[Ac];cases hc:Bl.tail.contains (Cn L s.ws).tx with
   |false=>simp only[BF];rw[← hbad];exact hlab (by unfold Ij;rw[hc];simp) hT
   |true=>
    have hcb:Ij L s=true:=by unfold Ij;rw[hbad,hk,hc];rfl
    rw[hcb]at h;simp only[if_true]at h ⊢;rw[← hbad];refine Ad rfl (h184 s x s' hS hcb h) rfl ?_;simp only[Aa,Hl,Ae,Hm,Ab];exact⟨Kq _,Iu (Md _),rfl⟩
end
theorem eqB{a b:List UInt8}(h:a=b):(a == b)=true:=by rw[h];exact beq_self_eq_true b
theorem neB{a b:List UInt8}(h:¬ a=b):(a == b)=false:=by simpa using h
section
variable{cf:Ah}{N:Nat}{L:Nat}{may:List UInt8→Bool}{gn:List UInt8→Int × Bool}
 (hK:∀f,Ba (cf f))(h68:∀(s:PS) (K:Int) (tx:List UInt8),E9 cf 68 [.int .i64 K,.str tx] L s (.bool (Ry L s K tx)) s)
 (h72:∀(s:PS) (tx:List UInt8),E9 cf 72 [.str tx] L s (.tup []) (A8 L s 3 tx))
 (h125:∀s:PS,E9 cf 125 [] L s (.int .i64 (Hz L s)) s)
 (h227:∀s:PS,Sm s→E9 cf 227 [] L s (.str (Bb L s 1 Jd).1) (Bb L s 1 Jd).2)
 (h226:∀s:PS,Sm s→E9 cf 226 [] L s (.int .i64 (Zk L gn s).1) (Zk L gn s).2)
 (h126s:∀s:PS,Sm s→E9 cf 126 [.int .i64 2,.func 228 [] []] L s (.str (Bb L s 2 (fun _=>true)).1) (Bb L s 2 (fun _=>true)).2)
include hK h68 h72 h226 h227 h126s in
theorem A4t{q:PS→Option (Qy × PS)}(h30:Wv cf 30 [] L q)(hq:SmG q)(s:PS)(hS:Sm s)(hc:Ij L s=true)(a:Nat)(x:Qy)(s1:PS)
  (h:Q7 L gn q a (Cn L s.ws).tx (A8 L ⟨s.ws.tail,s.bad⟩ 3 [40])=some (x,s1)):E9 (run C1 cf N) 184 [.int .i64 (a:Int)] L s (.agg (Br x)) (A8 L s1 3 [41]):=by
 refine Kk hK func184 (bdy (by kernel_rfl)) rfl rfl rfl rfl (Bfb _ _ _) ?_
 obtain⟨w,ws,hs⟩:∃w ws,s.ws=w::ws:=by
  cases hw:s.ws with
  |nil=>unfold Ij at hc;rw[hw]at hc;simp[Cn,Nq]at hc
  |cons w ws=>exact⟨w,ws,rfl⟩
 have hmem:Bl.tail.contains w.tx=true:=by unfold Ij at hc;rw[hs]at hc;simp only[Bool.and_eq_true]at hc;exact hc.2.2
 rw[hs]at h;simp only[hs,Aa,Ae,A9,Al,if_true,Ae7,Akx,Tc,An9,List.all_cons,List.all_nil,Bool.and_self,true_and];simp only[show Cn L (w::ws)=w from rfl,List.tail_cons]at h ⊢;have hS1:Sm ⟨ws,s.bad⟩:=fun v hv=>hS v (by rw[hs];simp[hv])
 refine Ad rfl (h72 ⟨ws,s.bad⟩ [40]) rfl ?_;generalize hp:A8 L ⟨ws,s.bad⟩ 3 [40]=s2 at h ⊢;have hS2:Sm s2:=by rw[← hp];exact hS1.must
 simp only[Aa,Di,Ac];unfold Q7 at h;split at h
 ·rename_i hw;rw[show(w.tx == [100,101,112,115])=true from eqB hw];simp only[if_true];split at h
  ·cases h
  rename_i y s3 hy;refine Ad rfl (h30 _ _ _ hS2 hy) rfl ?_;simp only[Aa,Q3,Hl];refine Ad rfl (h68 s3 3 [44]) rfl ?_;simp only[Ac];split at h
  ·rename_i hb;rw[if_pos hb];cases h;have hS3:=hq _ _ _ hS2 hy;refine Ad rfl (h72 s3 [44]) rfl ?_;refine Ad rfl (h226 _ hS3.must) rfl ?_;simp only[Aa,A9,Al,if_true,Ae];refine⟨rfl,Ad rfl (h72 _ [41]) rfl ?_⟩;simp only[Ae,Ab,Hm];exact⟨rfl,Iu rfl,rfl⟩
  ·rename_i hb;rw[if_neg hb];cases h;refine Ad rfl (h72 _ [41]) rfl ?_;simp only[Ae,Ab,Hm];exact⟨rfl,Iu rfl,rfl⟩
 rename_i hw;rw[show(w.tx == [100,101,112,115])=false from neB hw];simp only[BF];split at h
 ·rename_i hw;rw[show(w.tx == [114,100,101,112,115])=true from eqB hw];simp only[if_true];split at h
  ·cases h
  rename_i y s3 hy;cases h;refine Ad rfl (h30 _ _ _ hS2 hy) rfl ?_;simp only[Aa,Q3,Hl];refine Ad rfl (h72 _ [41]) rfl ?_;simp only[Ae,Ab,Hm];exact⟨rfl,Iu rfl,rfl⟩
 rename_i hw;rw[show(w.tx == [114,100,101,112,115])=false from neB hw];simp only[BF];have htwo:∀(k:Int) (T:D→List D→Tree),(∀v c,T v c= .bind (.slim v) fun x17=> .bind (.agg 7 x17) fun x18=> .meth 72 [] [none,(some (.str [44]))] [] (gl c 2) fun x19 x20=> .meth 30 [] [none] [] (gl x20 2) fun x21 x22=> .bind (.slim x21) fun x23=> .bind (.agg 7 x23) fun x24=>
    .bind (.app 27 (.sl [(cl x18 7)] .exact) (.sl [(cl x24 7)] .exact)) fun x25=> .meth 72 [] [none,(some (.str [41]))] [] (gl x22 2) fun x26 x27=> .chk [.int .i64 (a:Int)] (.leaf [(.agg [(.int .i64 k),.int .i64 (a:Int),(.bool false),(.str []),(.str []),(.int .i64 0),x25])] [(gl x27 2)]))→
   (match q s2 with
   |none=>none
   |some (x,s1)=>match q (A8 L s1 3 [44])with
    |none=>none
    |some (y,s2)=>some (Qy.bin k a x y,s2))=some (x,s1)→wp prog cf N (fun rs os=>Ck (.agg (Br x)) rs∧os= [Vk L (A8 L s1 3 [41])]) (.meth 30 [] [none] [] (gl (Vk L s2) 2) T) []:=fun k T hT h=>by
  split at h
  ·cases h
  rename_i y s3 hy;split at h
  ·cases h
  rename_i z s4 hz;cases h;have hS3:=hq _ _ _ hS2 hy;refine Ad rfl (h30 _ _ _ hS2 hy) rfl ?_;rw[hT];simp only[Aa,Q3,Hl];refine Ad rfl (h72 _ [44]) rfl ?_;refine Ad rfl (h30 _ _ _ hS3.must hz) rfl ?_;simp only[Aa,Q3,Hl,Hm,Ate];refine Ad rfl (h72 _ [41]) rfl ?_;simp only[Ae,Ab];exact⟨rfl,Iu rfl,rfl⟩
 split at h
 ·rename_i hw;by_cases hall:w.tx=Zq
  ·rw[if_pos hall]at h;rw[show(w.tx == [115,111,109,101,112,97,116,104])=false from by rw[hall];rfl,show(w.tx == [97,108,108,112,97,116,104,115])=true from eqB hall]
   simp only[BF,if_true];exact htwo 9 _ (fun _ _=>rfl) h
  ·rw[if_neg hall]at h;rw[show(w.tx == [115,111,109,101,112,97,116,104])=true from eqB (hw.resolve_right hall),show(w.tx == [97,108,108,112,97,116,104,115])=false from neB hall];simp only[BF,if_true];exact htwo 8 _ (fun _ _=>rfl) h
 rename_i hw;have hw1:¬ w.tx=Afo:=fun h=>hw (.inl h);have hw2:¬ w.tx=Zq:=fun h=>hw (.inr h);rw[show(w.tx == [115,111,109,101,112,97,116,104])=false from neB hw1,show(w.tx == [97,108,108,112,97,116,104,115])=false from neB hw2];simp only[BF];split at h
 ·rename_i hw;rw[show(w.tx == [107,105,110,100])=true from eqB hw];simp only[if_true];split at h
  ·cases h
  rename_i y s3 hy;cases h;refine Ad rfl (h227 _ hS2) rfl ?_;simp only[Aa,A9,Al,if_true,Ae];refine⟨rfl,Ad rfl (h72 _ [44]) rfl ?_⟩;refine Ad rfl (h30 _ _ _ hS2.next.must hy) rfl ?_;simp only[Aa,Q3,Hl];refine Ad rfl (h72 _ [41]) rfl ?_;simp only[Ae,Ab,Hm];exact⟨rfl,Iu rfl,rfl⟩
 rename_i hw;rw[show(w.tx == [107,105,110,100])=false from neB hw];simp only[BF];split at h
 ·rename_i hw;rw[show(w.tx == [102,105,108,116,101,114])=true from eqB hw];simp only[if_true];split at h
  ·cases h
  rename_i y s3 hy;cases h;refine Ad rfl (h126s _ hS2) rfl ?_;simp only[Aa,A9,Al,if_true,Ae];refine⟨rfl,Ad rfl (h72 _ [44]) rfl ?_⟩;refine Ad rfl (h30 _ _ _ hS2.next.must hy) rfl ?_;simp only[Aa,Q3,Hl];refine Ad rfl (h72 _ [41]) rfl ?_;simp only[Ae,Ab,Hm];exact⟨rfl,Iu rfl,rfl⟩
 rename_i hw;rw[show(w.tx == [102,105,108,116,101,114])=false from neB hw];simp only[BF];cases h;have hall:w.tx=A76:=by simp only[Bl,List.tail_cons,List.contains_cons,List.contains_nil,Bool.or_false,Bool.or_eq_true,beq_iff_eq]at hmem;rcases hmem with h|h|h|h|h|h|h<;>first|exact h|exact absurd h (by assumption)
 rw[show(w.tx == [97,108,108])=true from eqB hall];simp only[if_true];refine Ad rfl (h72 _ [41]) rfl ?_;simp only[Ae,Ab];exact⟨rfl,Iu rfl,rfl⟩
theorem Aqw{s:PS}(h:¬ Hz L s=0):∃w ws,s.ws=w::ws:=by
 unfold Hz at h;split at h
 ·rename_i h1;obtain⟨w,ws,h2,_⟩:=X0 (by decide) h1
  exact⟨w,ws,h2⟩
 ·split at h
  ·rename_i h1;obtain⟨w,ws,h2,_⟩:=X0 (by decide) h1
   exact⟨w,ws,h2⟩
  ·split at h
   ·rename_i h1;obtain⟨w,ws,h2,_⟩:=X0 (by decide) h1
    exact⟨w,ws,h2⟩
   ·exact absurd rfl h
include hK h125 in
theorem A8h{it:PS→Option (Qy × PS)}(h124:Wv cf 124 [] L it)(hit:SmG it)(m:Nat)(hm:m<N)(s:PS)(hS:Sm s)(x:Qy)(s':PS)
  (h:(match it s with
   |none=>none
   |some (x,s1)=>Kw L it m x s1)=some (x,s')):E9 (run C1 cf N) 69 [] L s (.agg (Br x)) s':=by
 refine Kk hK func69 (bdy (by kernel_rfl)) rfl rfl rfl rfl (Bha _ _) ?_
 split at h
 ·cases h
 rename_i x1 s1 hx;have hS1:=hit _ _ _ hS hx;refine Ad rfl (h124 _ _ _ hS hx) rfl ?_;simp only[Aa,Hl,Ae,Hm];refine⟨Kq _,Ad rfl (h125 s1) rfl ?_⟩;obtain⟨k,a,r,ln,nm,n,rows,hf⟩:=J9 x1;refine wp_loop (fun m a ds=>a=0∧∃y t j0 j1 j2 j3 j4 j5 j6 c0 c1 c2 c3 c4 c5 rows gr,Sm t∧Kw L it m y t=some (x,s')∧Br y= [c0,c1,c2,c3,c4,c5,.sl rows .none]∧ds= [.int .i64 (Hz L t),.sl (Dt L t.ws) .none,Nv t.bad,j0,j1,j2,j3,j4,j5,j6,c0,c1,c2,c3,c4,c5,.sl rows gr]) m hm ⟨rfl,x1,s1,_,_,_,_,_,_,_,_,_,_,_,_,_,rows,.none,hS1,h,hf,by rw[hf];rfl⟩ ?_
 rintro m a ds ⟨rfl,y,t,j0,j1,j2,j3,j4,j5,j6,c0,c1,c2,c3,c4,c5,rows,gr,hSt,hgo,hy,rfl⟩;have hyok:c0=c0:=rfl;obtain⟨yk,ya,yr,yln,ynm,yn,yrows,hyf⟩:=J9 y;rw[hyf]at hy;simp only[List.cons.injEq,D.sl.injEq,and_true]at hy;obtain⟨rfl,rfl,rfl,rfl,rfl,rfl,rfl⟩:=hy;simp only[Ca,hv,tails,List.tail_cons,List.headD_cons,Aa,Nn,Ac];cases m with
 |zero=>simp[Kw]at hgo
 |succ m=>
  unfold Kw at hgo;by_cases hz:Hz L t=0
  ·rw[if_pos hz]at hgo;cases hgo;have:(Hz L s' !=0)=false:=by rw[bne_eq_false_iff_eq];exact hz
   rw[this];simp only[BF,Ae,Ab];refine⟨rfl,Iu ?_,rfl⟩;rw[hyf];rfl
  ·rw[if_neg hz]at hgo;have:(Hz L t !=0)=true:=by rw[bne_iff_ne];exact hz
   rw[this];obtain⟨w,ws,hw⟩:=Aqw hz;split at hgo
   ·cases hgo
   rename_i y2 t2 hy2;rw[hw]at hy2;simp only[if_true,hw,Ae7,Aox,Z4,An9,A9,Al,Ae];have hS2:Sm ⟨ws,t.bad⟩:=fun v hv=>hSt v (by rw[hw];simp[hv])
   have hS3:=hit _ _ _ hS2 hy2;refine⟨rfl,Ad rfl (h124 _ _ _ hS2 hy2) rfl ?_⟩;simp only[Aa,Jj,Ax3,Ot,Auw,Q3,Hl,A9,Al,if_true,Ae];refine⟨rfl,Ad rfl (h125 t2) rfl ?_⟩;rw[Az];refine⟨m,Nat.lt_succ_self m,rfl,_,t2,j0,j1,j2,j3,j4,j5,j6,_,_,_,_,_,_,[Br y,Br y2],.exact,hS3,hgo,rfl,?_⟩;simp only[Hm,hw];rw[hyf];rfl
end
end Go.Vam
